/-
  Walks: the statement ParserBrackets: it returns true.
-/
import Derived.Test.YtomnjamldbficaaGreatDoorParHd8
import Derived.Test.YtomnjamldbficaaGreatDoorParShow
import Derived.Test.YtomnjamldbficaaGreatDoorParBr0
namespace Go.Proofs.YtomnjamldbficaaGreatDoor
open Go.RowKit Lx Px
theorem xprO_ne' {s : Bytes} {er : Int} (h : xprO s = .err er) : er ≠ 0 := by
  unfold xprO tokX at h
  split at h
  · split at h
    · injection h with h; rw [← h]; decide
    · split at h
      · injection h with h; rw [← h]; decide
      · split at h
        · cases h
        · injection h with h; rw [← h]; decide
  · injection h with h1
    rw [← h1]; assumption
set_option maxRecDepth 100000 in
set_option maxHeartbeats 8000000 in
theorem law13_any (op n : Int) (l : Fo) (A : Option Addr) (c : Nat) (s : ByteArray) (w : World) (hv : FoV w w.heap.size (.slice A (flen l) c) l) (hM : Mx w w.heap.size) :
    Calls Tryz.prog 6 #[.agg #[.int .i64 op, .int .i64 n, .slice A (flen l) c], .string s] w fun e w' => e = .returned (.bool true) ∧ Below w.heap.size w w' := by
  have HM := Lib.hid hM
  have hb1 := (Below.refl w.heap.size w).alloc (Nat.le_refl _) (.cells #[.int .i64 op, .int .i64 n, .slice A (flen l) c] 24)
  have hx1 := World.alloc_heap_new w (.cells #[.int .i64 op, .int .i64 n, .slice A (flen l) c] 24)
  have F1 := Lib.hid ((hv.on hb1).up hb1.size)
  have B1 := Lib.hid hb1
  have X1 := Lib.hid hx1
  clear hM hv hb1 hx1
  go_enter Tryz.func6, Tryz.ntmps6
  go_upto_region 1 with fail
  generalize w.alloc (.cells #[.int .i64 op, .int .i64 n, .slice A (flen l) c] 24) = w1 at *
  go_wp2_with fail
  refine (head8_any _ (mx_up HM.out B1.out)).mono ?_
  rintro e w2 ⟨rfl, hb2⟩
  have X2 := Lib.hid ((hb2.block _ (Array.getElem?_eq_some_iff.1 X1.out).1).trans X1.out)
  have B2 := Lib.hid (bthen' B1.out hb2)
  have F2 := Lib.hid ((F1.out.on hb2).up hb2.size)
  clear hb2 X1 B1 F1
  by_cases hs : 1500 < s.size
  · have d : decide ((1500 : Int) < (s.size : Int)) = true := by simp; omega
    go_wp2_with fail
    go_ret
    exact ⟨rfl, B2.out⟩
  have d : decide ((1500 : Int) < (s.size : Int)) = false := by simp; omega
  have hz1 : ¬ 9223372036854775807 < 2 + s.size := by omega
  have hz2 : ¬ 9223372036854775807 < 2 + s.size + 2 := by omega
  have a0 : w2.cell? ⟨w.heap.size, 0, none⟩ = some (.int .i64 op) := by rw [Lib.cell_of_heap X2.out]; rfl
  have a1 : w2.cell? ⟨w.heap.size, 1, none⟩ = some (.int .i64 n) := by rw [Lib.cell_of_heap X2.out]; rfl
  have a2 : w2.cell? ⟨w.heap.size, 2, none⟩ = some (.slice A (flen l) c) := by rw [Lib.cell_of_heap X2.out]; rfl
  go_wp2_with fail
  refine (rvalid_any op n l (.slice A (flen l) c) _ F2.out).mono ?_
  rintro e w3 ⟨rfl, hb3⟩
  have X3 := Lib.hid ((hb3.block _ (Array.getElem?_eq_some_iff.1 X2.out).1).trans X2.out)
  have B3 := Lib.hid (bthen' B2.out hb3)
  have F3 := Lib.hid ((F2.out.on hb3).up hb3.size)
  clear hb3 X2 B2 F2 a0 a1 a2
  cases hval : validB op n l with
  | false =>
    clear hval
    go_wp2_with fail
    have BW := Lib.hid B3.out
    clear X3 B3 F3
    as_aux_lemma =>
      refine (parserExpr_any s _ (mx_up HM.out BW.out)).mono ?_
      rintro e w5 ⟨hb5, h5⟩
      have B5 := Lib.hid (bthen' BW.out hb5)
      clear hb5 BW
      cases hO : xprO (bl s) with
      | err er =>
        rw [hO] at h5
        subst h5
        have hne : (er != 0) = true := by simpa using xprO_ne' hO
        have B6 := Lib.hid (B5.out.alloc B5.out.size (.cells #[.int .i64 0, .int .i64 0, .slice none 0 0] 24))
        clear hO B5
        go_wp2_with fail
        generalize w5.alloc (.cells #[.int .i64 0, .int .i64 0, .slice none 0 0] 24) = w6 at *
        refine (parserExpr_any _ _ (mx_up HM.out B6.out)).mono ?_
        rintro e w7 ⟨hb7, h7⟩
        have B7 := Lib.hid (bthen' B6.out hb7)
        clear hb7 B6
        cases hO2 : xprO (bl (⟨#[40, 32]⟩ ++ s ++ ⟨#[10, 41]⟩)) with
        | err er2 =>
          rw [hO2] at h7
          subst h7
          have B8 := Lib.hid (B7.out.alloc B7.out.size (.cells #[.int .i64 0, .int .i64 0, .slice none 0 0] 24))
          clear hO2
          go_wp2_with fail
          go_ret
          exact ⟨rfl, B8.out⟩
        | ok y =>
          rw [hO2] at h7
          obtain ⟨A7, c7, rfl, _⟩ := h7
          have B8 := Lib.hid (B7.out.alloc B7.out.size (.cells #[.int .i64 y.1.1, .int .i64 y.1.2, .slice A7 (flen y.2) c7] 24))
          clear hO2
          go_wp2_with fail
          go_ret
          exact ⟨rfl, B8.out⟩
      | ok x =>
        rw [hO] at h5
        obtain ⟨⟨xo, xn⟩, xf⟩ := x
        obtain ⟨A5, c5, rfl, hF5⟩ := h5
        dsimp only at hF5
        have hbr := xprO_brackets (by rw [length_bl]; omega) hO
        have hvx : validB xo xn xf = true := xprO_valid hO
        have hsm := valid_small hvx
        have hcall : ∀ W : World, Mx W W.heap.size → Calls Tryz.prog 15 #[.string (⟨#[40, 32]⟩ ++ s ++ ⟨#[10, 41]⟩)] W fun e w' => Below W.heap.size W w' ∧ ∃ A c, e = .returned (.tuple #[.agg #[.int .i64 xo, .int .i64 xn, .slice A (flen xf) c], .int .i64 0]) ∧ FoV w' w'.heap.size (.slice A (flen xf) c) xf := fun W hW => by
          have := parserExpr_any (⟨#[40, 32]⟩ ++ s ++ ⟨#[10, 41]⟩) W hW
          rw [bl_append, bl_append, show bl ⟨#[40, 32]⟩ = [40, 32] from rfl, show bl ⟨#[10, 41]⟩ = [10, 41] from rfl, hbr] at this
          exact this
        have HC := Lib.hid hcall
        have hb := (Below.refl w5.heap.size w5).alloc (Nat.le_refl _) (.cells #[.int .i64 xo, .int .i64 xn, .slice A5 (flen xf) c5] 24)
        have X6 := Lib.hid (World.alloc_heap_new w5 (.cells #[.int .i64 xo, .int .i64 xn, .slice A5 (flen xf) c5] 24))
        have B6 := Lib.hid (bthen' B5.out hb)
        have F6 := Lib.hid ((hF5.on hb).up hb.size)
        clear hb hF5 hO hbr hvx hcall B5
        dsimp only
        go_upto_region 8 with fail
        generalize w5.alloc (.cells #[.int .i64 xo, .int .i64 xn, .slice A5 (flen xf) c5] 24) = w6 at *
        generalize w5.heap.size = b6 at *
        go_wp2_with fail
        refine (HC.out _ (mx_up HM.out B6.out)).mono ?_
        rintro e w7 ⟨hb7, A7, c7, rfl, hF7⟩
        have hb := (Below.refl w7.heap.size w7).alloc (Nat.le_refl _) (.cells #[.int .i64 xo, .int .i64 xn, .slice A7 (flen xf) c7] 24)
        have hbb := bthen' hb7 hb
        have X8 := Lib.hid ((hbb.block _ (Array.getElem?_eq_some_iff.1 X6.out).1).trans X6.out)
        have Y8 := Lib.hid (World.alloc_heap_new w7 (.cells #[.int .i64 xo, .int .i64 xn, .slice A7 (flen xf) c7] 24))
        have B8 := Lib.hid (bthen' B6.out hbb)
        have F8 := Lib.hid ((F6.out.on hbb).up hbb.size)
        have G8 := Lib.hid ((hF7.on hb).up hb.size)
        clear hb hbb hb7 hF7 X6 B6 F6 HC
        go_upto_region 9 with fail
        generalize w7.alloc (.cells #[.int .i64 xo, .int .i64 xn, .slice A7 (flen xf) c7] 24) = w8 at *
        generalize w7.heap.size = b8 at *
        have a0 : w8.cell? ⟨b6, 0, none⟩ = some (.int .i64 xo) := by rw [Lib.cell_of_heap X8.out]; rfl
        have a1 : w8.cell? ⟨b6, 1, none⟩ = some (.int .i64 xn) := by rw [Lib.cell_of_heap X8.out]; rfl
        have a2 : w8.cell? ⟨b6, 2, none⟩ = some (.slice A5 (flen xf) c5) := by rw [Lib.cell_of_heap X8.out]; rfl
        have c0 : w8.cell? ⟨b8, 0, none⟩ = some (.int .i64 xo) := by rw [Lib.cell_of_heap Y8.out]; rfl
        have c1 : w8.cell? ⟨b8, 1, none⟩ = some (.int .i64 xn) := by rw [Lib.cell_of_heap Y8.out]; rfl
        have c2 : w8.cell? ⟨b8, 2, none⟩ = some (.slice A7 (flen xf) c7) := by rw [Lib.cell_of_heap Y8.out]; rfl
        have hsame := same_any (xo, xn) xf (xo, xn) xf w8 (.slice A5 (flen xf) c5) (.slice A7 (flen xf) c7) w8.heap.size F8.out G8.out (Nat.le_refl _) hsm
        rw [sameE_self] at hsame
        have HS := Lib.hid hsame
        clear hsame X8 Y8 F8 G8
        go_wp2_with fail
        refine HS.out.mono ?_
        rintro e w9 ⟨rfl, hb9⟩
        have B9 := Lib.hid (bthen' B8.out hb9)
        clear hb9 HS
        go_wp2_with fail
        go_ret
        exact ⟨rfl, B9.out⟩
  | true =>
    obtain ⟨hform, hok, hnd⟩ := valid_parts hval
    have hsh := fun W h => show_any (op, n) l W (.slice A (flen l) c) W.heap.size hform hok h (Nat.le_refl _) (by omega)
    have hxs := xprO_show hval
    have hnd1 : nodesF (nrm l) ≤ 1000 := valid_small (o := op) (n := n) (by rw [valid_nrm]; exact hval)
    obtain ⟨t, htt⟩ : ∃ t, t = mk (showE op n l) := ⟨_, rfl⟩
    have p1 : ∀ W : World, FoV W W.heap.size (.slice A (flen l) c) l → Calls Tryz.prog 25 #[.agg #[.int .i64 op, .int .i64 n, .slice A (flen l) c]] W fun e w' => e = .returned (.string t) ∧ Below W.heap.size W w' := fun W h => by rw [htt]; exact hsh W h
    have p2 : ∀ W : World, Mx W W.heap.size → Calls Tryz.prog 15 #[.string t] W fun e w' => Below W.heap.size W w' ∧ ∃ A c, e = .returned (.tuple #[.agg #[.int .i64 op, .int .i64 n, .slice A (flen (nrm l)) c], .int .i64 0]) ∧ FoV w' w'.heap.size (.slice A (flen (nrm l)) c) (nrm l) := fun W hW => by
      have := parserExpr_any t W hW
      rw [htt, bl_mk, hxs] at this
      rw [htt]
      exact this
    have P1 := Lib.hid p1
    have P2 := Lib.hid p2
    have a0 : w3.cell? ⟨w.heap.size, 0, none⟩ = some (.int .i64 op) := by rw [Lib.cell_of_heap X3.out]; rfl
    have a1 : w3.cell? ⟨w.heap.size, 1, none⟩ = some (.int .i64 n) := by rw [Lib.cell_of_heap X3.out]; rfl
    have a2 : w3.cell? ⟨w.heap.size, 2, none⟩ = some (.slice A (flen l) c) := by rw [Lib.cell_of_heap X3.out]; rfl
    clear hval hform hok hnd hsh hxs htt p1 p2
    go_wp2_with fail
    refine (P1.out _ F3.out).mono ?_
    rintro e w4 ⟨rfl, hb4⟩
    have X4 := Lib.hid ((hb4.block _ (Array.getElem?_eq_some_iff.1 X3.out).1).trans X3.out)
    have B4 := Lib.hid (bthen' B3.out hb4)
    have F4 := Lib.hid ((F3.out.on hb4).up hb4.size)
    clear hb4 X3 B3 F3 a0 a1 a2
    go_wp2_with fail
    refine (P2.out _ (mx_up HM.out B4.out)).mono ?_
    rintro e w5 ⟨hb5, A5, c5, rfl, hF5⟩
    have hb := (Below.refl w5.heap.size w5).alloc (Nat.le_refl _) (.cells #[.int .i64 op, .int .i64 n, .slice A5 (flen (nrm l)) c5] 24)
    have hbb := bthen' hb5 hb
    have X6 := Lib.hid ((hbb.block _ (Array.getElem?_eq_some_iff.1 X4.out).1).trans X4.out)
    have Y6 := Lib.hid (World.alloc_heap_new w5 (.cells #[.int .i64 op, .int .i64 n, .slice A5 (flen (nrm l)) c5] 24))
    have B6 := Lib.hid (bthen' B4.out hbb)
    have F6 := Lib.hid ((F4.out.on hbb).up hbb.size)
    have G6 := Lib.hid ((hF5.on hb).up hb.size)
    clear hb hbb hb5 hF5 X4 B4 F4 P1 P2
    go_upto_region 6 with fail
    generalize w5.alloc (.cells #[.int .i64 op, .int .i64 n, .slice A5 (flen (nrm l)) c5] 24) = w6 at *
    generalize w5.heap.size = b6 at *
    have a0 : w6.cell? ⟨w.heap.size, 0, none⟩ = some (.int .i64 op) := by rw [Lib.cell_of_heap X6.out]; rfl
    have a1 : w6.cell? ⟨w.heap.size, 1, none⟩ = some (.int .i64 n) := by rw [Lib.cell_of_heap X6.out]; rfl
    have a2 : w6.cell? ⟨w.heap.size, 2, none⟩ = some (.slice A (flen l) c) := by rw [Lib.cell_of_heap X6.out]; rfl
    have c0 : w6.cell? ⟨b6, 0, none⟩ = some (.int .i64 op) := by rw [Lib.cell_of_heap Y6.out]; rfl
    have c1 : w6.cell? ⟨b6, 1, none⟩ = some (.int .i64 n) := by rw [Lib.cell_of_heap Y6.out]; rfl
    have c2 : w6.cell? ⟨b6, 2, none⟩ = some (.slice A5 (flen (nrm l)) c5) := by rw [Lib.cell_of_heap Y6.out]; rfl
    have hsame := same_any (op, n) (nrm l) (op, n) l w6 (.slice A5 (flen (nrm l)) c5) (.slice A (flen l) c) w6.heap.size G6.out F6.out (Nat.le_refl _) hnd1
    rw [sameE_nrm] at hsame
    have HS := Lib.hid hsame
    clear hsame X6 Y6 F6 G6
    go_wp2_with fail
    refine HS.out.mono ?_
    rintro e w7 ⟨rfl, hb7⟩
    have BW := Lib.hid (bthen' B6.out hb7)
    clear hb7 HS B6 a0 a1 a2 c0 c1 c2
    go_wp2_with fail
    as_aux_lemma =>
      refine (parserExpr_any s _ (mx_up HM.out BW.out)).mono ?_
      rintro e w5 ⟨hb5, h5⟩
      have B5 := Lib.hid (bthen' BW.out hb5)
      clear hb5 BW
      cases hO : xprO (bl s) with
      | err er =>
        rw [hO] at h5
        subst h5
        have hne : (er != 0) = true := by simpa using xprO_ne' hO
        have B6 := Lib.hid (B5.out.alloc B5.out.size (.cells #[.int .i64 0, .int .i64 0, .slice none 0 0] 24))
        clear hO B5
        go_wp2_with fail
        generalize w5.alloc (.cells #[.int .i64 0, .int .i64 0, .slice none 0 0] 24) = w6 at *
        refine (parserExpr_any _ _ (mx_up HM.out B6.out)).mono ?_
        rintro e w7 ⟨hb7, h7⟩
        have B7 := Lib.hid (bthen' B6.out hb7)
        clear hb7 B6
        cases hO2 : xprO (bl (⟨#[40, 32]⟩ ++ s ++ ⟨#[10, 41]⟩)) with
        | err er2 =>
          rw [hO2] at h7
          subst h7
          have B8 := Lib.hid (B7.out.alloc B7.out.size (.cells #[.int .i64 0, .int .i64 0, .slice none 0 0] 24))
          clear hO2
          go_wp2_with fail
          go_ret
          exact ⟨rfl, B8.out⟩
        | ok y =>
          rw [hO2] at h7
          obtain ⟨A7, c7, rfl, _⟩ := h7
          have B8 := Lib.hid (B7.out.alloc B7.out.size (.cells #[.int .i64 y.1.1, .int .i64 y.1.2, .slice A7 (flen y.2) c7] 24))
          clear hO2
          go_wp2_with fail
          go_ret
          exact ⟨rfl, B8.out⟩
      | ok x =>
        rw [hO] at h5
        obtain ⟨⟨xo, xn⟩, xf⟩ := x
        obtain ⟨A5, c5, rfl, hF5⟩ := h5
        dsimp only at hF5
        have hbr := xprO_brackets (by rw [length_bl]; omega) hO
        have hvx : validB xo xn xf = true := xprO_valid hO
        have hsm := valid_small hvx
        have hcall : ∀ W : World, Mx W W.heap.size → Calls Tryz.prog 15 #[.string (⟨#[40, 32]⟩ ++ s ++ ⟨#[10, 41]⟩)] W fun e w' => Below W.heap.size W w' ∧ ∃ A c, e = .returned (.tuple #[.agg #[.int .i64 xo, .int .i64 xn, .slice A (flen xf) c], .int .i64 0]) ∧ FoV w' w'.heap.size (.slice A (flen xf) c) xf := fun W hW => by
          have := parserExpr_any (⟨#[40, 32]⟩ ++ s ++ ⟨#[10, 41]⟩) W hW
          rw [bl_append, bl_append, show bl ⟨#[40, 32]⟩ = [40, 32] from rfl, show bl ⟨#[10, 41]⟩ = [10, 41] from rfl, hbr] at this
          exact this
        have HC := Lib.hid hcall
        have hb := (Below.refl w5.heap.size w5).alloc (Nat.le_refl _) (.cells #[.int .i64 xo, .int .i64 xn, .slice A5 (flen xf) c5] 24)
        have X6 := Lib.hid (World.alloc_heap_new w5 (.cells #[.int .i64 xo, .int .i64 xn, .slice A5 (flen xf) c5] 24))
        have B6 := Lib.hid (bthen' B5.out hb)
        have F6 := Lib.hid ((hF5.on hb).up hb.size)
        clear hb hF5 hO hbr hvx hcall B5
        dsimp only
        go_upto_region 8 with fail
        generalize w5.alloc (.cells #[.int .i64 xo, .int .i64 xn, .slice A5 (flen xf) c5] 24) = w6 at *
        generalize w5.heap.size = b6 at *
        go_wp2_with fail
        refine (HC.out _ (mx_up HM.out B6.out)).mono ?_
        rintro e w7 ⟨hb7, A7, c7, rfl, hF7⟩
        have hb := (Below.refl w7.heap.size w7).alloc (Nat.le_refl _) (.cells #[.int .i64 xo, .int .i64 xn, .slice A7 (flen xf) c7] 24)
        have hbb := bthen' hb7 hb
        have X8 := Lib.hid ((hbb.block _ (Array.getElem?_eq_some_iff.1 X6.out).1).trans X6.out)
        have Y8 := Lib.hid (World.alloc_heap_new w7 (.cells #[.int .i64 xo, .int .i64 xn, .slice A7 (flen xf) c7] 24))
        have B8 := Lib.hid (bthen' B6.out hbb)
        have F8 := Lib.hid ((F6.out.on hbb).up hbb.size)
        have G8 := Lib.hid ((hF7.on hb).up hb.size)
        clear hb hbb hb7 hF7 X6 B6 F6 HC
        go_upto_region 9 with fail
        generalize w7.alloc (.cells #[.int .i64 xo, .int .i64 xn, .slice A7 (flen xf) c7] 24) = w8 at *
        generalize w7.heap.size = b8 at *
        have a0 : w8.cell? ⟨b6, 0, none⟩ = some (.int .i64 xo) := by rw [Lib.cell_of_heap X8.out]; rfl
        have a1 : w8.cell? ⟨b6, 1, none⟩ = some (.int .i64 xn) := by rw [Lib.cell_of_heap X8.out]; rfl
        have a2 : w8.cell? ⟨b6, 2, none⟩ = some (.slice A5 (flen xf) c5) := by rw [Lib.cell_of_heap X8.out]; rfl
        have c0 : w8.cell? ⟨b8, 0, none⟩ = some (.int .i64 xo) := by rw [Lib.cell_of_heap Y8.out]; rfl
        have c1 : w8.cell? ⟨b8, 1, none⟩ = some (.int .i64 xn) := by rw [Lib.cell_of_heap Y8.out]; rfl
        have c2 : w8.cell? ⟨b8, 2, none⟩ = some (.slice A7 (flen xf) c7) := by rw [Lib.cell_of_heap Y8.out]; rfl
        have hsame := same_any (xo, xn) xf (xo, xn) xf w8 (.slice A5 (flen xf) c5) (.slice A7 (flen xf) c7) w8.heap.size F8.out G8.out (Nat.le_refl _) hsm
        rw [sameE_self] at hsame
        have HS := Lib.hid hsame
        clear hsame X8 Y8 F8 G8
        go_wp2_with fail
        refine HS.out.mono ?_
        rintro e w9 ⟨rfl, hb9⟩
        have B9 := Lib.hid (bthen' B8.out hb9)
        clear hb9 HS
        go_wp2_with fail
        go_ret
        exact ⟨rfl, B9.out⟩
end Go.Proofs.YtomnjamldbficaaGreatDoor
