/-
  Walks: the statement ParserMatchesReference: it returns true.
-/
import Derived.Test.YtomnjamldbficaaGreatDoorParHd8
import Derived.Test.YtomnjamldbficaaGreatDoorParFq
import Derived.Test.YtomnjamldbficaaGreatDoorParLeft
import Derived.Test.YtomnjamldbficaaGreatDoorParApp
namespace Go.Proofs.YtomnjamldbficaaGreatDoor
open Go.RowKit Lx Px
set_option maxRecDepth 100000 in
theorem few_any (op n : Int) (l : Fo) (v : Value) (w : World) (hv : FoV w w.heap.size v l) :
    Calls Tryz.prog 14 #[.agg #[.int .i64 op, .int .i64 n, v]] w fun e w' => e = .returned (.bool (decide (0 ≤ leftE l 60 400))) ∧ Below w.heap.size w w' := by
  obtain ⟨A, c, rfl, hA⟩ := id hv
  have hb1 := (Below.refl w.heap.size w).alloc (Nat.le_refl _) (.cells #[.int .i64 op, .int .i64 n, .slice A (flen l) c] 24)
  have hx1 := World.alloc_heap_new w (.cells #[.int .i64 op, .int .i64 n, .slice A (flen l) c] 24)
  have F1 := (hv.on hb1).up hb1.size
  have HC := Lib.hid (left_expr (op, n) l 60 400 _ _ _ F1 (Nat.le_refl _) (by omega) (by omega) (by omega) (by omega))
  have B1 := Lib.hid hb1
  have X1 := Lib.hid hx1
  obtain ⟨z, hz⟩ : ∃ z, z = leftE l 60 400 := ⟨_, rfl⟩
  rw [← hz] at HC
  rw [← hz]
  clear hv hA hb1 hx1 F1 hz
  go_enter Tryz.func14, Tryz.ntmps14
  go_upto_region 1 with fail
  generalize w.alloc (.cells #[.int .i64 op, .int .i64 n, .slice A (flen l) c] 24) = w1 at *
  have a0 : w1.cell? ⟨w.heap.size, 0, none⟩ = some (.int .i64 op) := by rw [Lib.cell_of_heap X1.out]; rfl
  have a1 : w1.cell? ⟨w.heap.size, 1, none⟩ = some (.int .i64 n) := by rw [Lib.cell_of_heap X1.out]; rfl
  have a2 : w1.cell? ⟨w.heap.size, 2, none⟩ = some (.slice A (flen l) c) := by rw [Lib.cell_of_heap X1.out]; rfl
  go_wp2_with fail
  refine HC.out.mono ?_
  rintro e w2 ⟨rfl, hb⟩
  have B2 := Lib.hid (bthen' B1.out hb)
  clear hb HC B1 X1 a0 a1 a2
  go_wp2_with fail
  go_ret
  exact ⟨rfl, B2.out⟩
/-- the expression and the error of an outcome -/
def yX : XR → Ex
  | .ok x => x
  | .err _ => ((0, 0), .nil)
def zX : XR → Int
  | .ok _ => 0
  | .err e => e
theorem XprP.one {w w' : World} {o : XR} {e : Ending} (h : XprP w o e w') : Below w.heap.size w w' ∧ ∃ A c, e = .returned (.tuple #[.agg #[.int .i64 (yX o).1.1, .int .i64 (yX o).1.2, .slice A (flen (yX o).2) c], .int .i64 (zX o)]) ∧ FoV w' w'.heap.size (.slice A (flen (yX o).2) c) (yX o).2 := by
  obtain ⟨hb, h⟩ := h
  cases o with
  | ok x => exact ⟨hb, h⟩
  | err er => exact ⟨hb, none, 0, h, none, 0, rfl, trivial⟩
theorem yX_small (s : Bytes) : nodesF (yX (xprO s)).2 ≤ 1000 := by
  cases h : xprO s with
  | ok x => exact valid_small (xprO_valid h)
  | err er => exact Nat.zero_le _
def lR : AllR → List Rr
  | .ok l => l
  | .err _ _ => []
def eR : AllR → Int
  | .ok _ => 0
  | .err e _ => e
def nR : AllR → Int
  | .ok _ => 0
  | .err _ n => n
theorem SrcP.one {w w' : World} {o : AllR} {e : Ending} (h : SrcP w o e w') : Below w.heap.size w w' ∧ ∃ A c, e = .returned (.tuple #[.slice A (lR o).length c, .int .i64 (eR o), .int .i64 (nR o)]) ∧ RtsV w' w'.heap.size (.slice A (lR o).length c) ((lR o).map Rr.rt) := by
  obtain ⟨hb, h⟩ := h
  cases o with
  | ok l => exact ⟨hb, h⟩
  | err er ln => exact ⟨hb, none, 0, h, RtsV.nil _ _⟩
theorem lR_small (s : Bytes) : (∀ r ∈ (lR (srcO s)).map Rr.rt, smallRt r) ∧ (lR (srcO s)).length ≤ 100 := by
  cases h : srcO s with
  | err er ln => exact ⟨fun r hr => by simp [lR] at hr, by simp [lR]⟩
  | ok l =>
    refine ⟨fun r hr => ?_, src_few h⟩
    obtain ⟨q, hq, rfl⟩ := List.mem_map.1 hr
    obtain ⟨h1, h2⟩ := src_valid h q hq
    exact ⟨valid_small h1, valid_small h2⟩
set_option maxRecDepth 100000 in
set_option maxHeartbeats 8000000 in
theorem law9_any (op n : Int) (l : Fo) (A : Option Addr) (c : Nat) (s : ByteArray) (w : World) (hv : FoV w w.heap.size (.slice A (flen l) c) l) (hM : Mx w w.heap.size) :
    Calls Tryz.prog 3 #[.string s, .agg #[.int .i64 op, .int .i64 n, .slice A (flen l) c]] w fun e w' => e = .returned (.bool true) ∧ Below w.heap.size w w' := by
  have HM := Lib.hid hM
  have hb1 := (Below.refl w.heap.size w).alloc (Nat.le_refl _) (.cells #[.int .i64 op, .int .i64 n, .slice A (flen l) c] 24)
  have hx1 := World.alloc_heap_new w (.cells #[.int .i64 op, .int .i64 n, .slice A (flen l) c] 24)
  have F1 := Lib.hid ((hv.on hb1).up hb1.size)
  have B1 := Lib.hid hb1
  have X1 := Lib.hid hx1
  clear hM hv hb1 hx1
  go_enter Tryz.func3, Tryz.ntmps3
  go_upto_region 1 with fail
  generalize w.alloc (.cells #[.int .i64 op, .int .i64 n, .slice A (flen l) c] 24) = w1 at *
  go_wp2_with fail
  refine (head8_any _ (mx_up HM.out B1.out)).mono ?_
  rintro e w2 ⟨rfl, hb2⟩
  have X2 := Lib.hid ((hb2.block _ (Array.getElem?_eq_some_iff.1 X1.out).1).trans X1.out)
  have B2 := Lib.hid (bthen' B1.out hb2)
  have F2 := Lib.hid ((F1.out.on hb2).up hb2.size)
  clear hb2 X1 B1 F1
  have a0 : w2.cell? ⟨w.heap.size, 0, none⟩ = some (.int .i64 op) := by rw [Lib.cell_of_heap X2.out]; rfl
  have a1 : w2.cell? ⟨w.heap.size, 1, none⟩ = some (.int .i64 n) := by rw [Lib.cell_of_heap X2.out]; rfl
  have a2 : w2.cell? ⟨w.heap.size, 2, none⟩ = some (.slice A (flen l) c) := by rw [Lib.cell_of_heap X2.out]; rfl
  have hy := yX_small (bl s)
  have hl := lR_small (bl s)
  have hx : ∀ W : World, Mx W W.heap.size → Calls Tryz.prog 15 #[.string s] W (XprP W (xprO (bl s))) := fun W h => parserExpr_any s W h
  have hr : ∀ W : World, Mx W W.heap.size → Calls Tryz.prog 20 #[.string s] W (SrcP W (srcO (bl s))) := fun W h => parserRates_any s W h
  have hx8 := fun W => rexprs_any s W
  have hr8 := fun W => rrates_any s W
  generalize xprO (bl s) = xo at *
  generalize srcO (bl s) = so at *
  have HY := Lib.hid hy
  have HL := Lib.hid hl
  have HX := Lib.hid hx
  have HR := Lib.hid hr
  have HX8 := Lib.hid hx8
  have HR8 := Lib.hid hr8
  clear hy hl hx hr hx8 hr8
  by_cases h1 : 1500 < s.size
  rotate_left
  case' neg => have d : decide ((1500 : Int) < (s.size : Int)) = false := by simp; omega
  case' pos =>
    have d : decide ((1500 : Int) < (s.size : Int)) = true := by simp; omega
    by_cases h2 : s.size ≤ 20000
    · have d2 : ((s.size : Int) ≤ (20000 : Int)) := by omega
      go_wp2_with fail
      go_ret
      exact ⟨rfl, B2.out⟩
    have d2 : ¬ ((s.size : Int) ≤ (20000 : Int)) := by omega
  all_goals
    go_wp2_with fail
    refine (few_any op n l _ w2 F2.out).mono ?_
    rintro e w3 ⟨rfl, hb⟩
    have X3 := Lib.hid ((hb.block _ (Array.getElem?_eq_some_iff.1 X2.out).1).trans X2.out)
    have B3 := Lib.hid (bthen' B2.out hb)
    have F3 := Lib.hid ((F2.out.on hb).up hb.size)
    clear hb X2 B2 F2 a0 a1 a2
    obtain ⟨bz, hbz⟩ : ∃ b, b = decide (0 ≤ leftE l 60 400) := ⟨_, rfl⟩
    rw [← hbz]
    clear hbz
    cases bz with
    | false =>
      go_wp2_with fail
      go_ret
      exact ⟨rfl, B3.out⟩
    | true =>
      go_wp2_with fail
      refine (HX.out w3 (mx_up HM.out B3.out)).mono ?_
      intro e w4 h4
      obtain ⟨hb4, A4, c4, rfl, hF4⟩ := h4.one
      have X4 := Lib.hid ((hb4.block _ (Array.getElem?_eq_some_iff.1 X3.out).1).trans X3.out)
      have B4 := Lib.hid (bthen' B3.out hb4)
      have F4 := Lib.hid ((F3.out.on hb4).up hb4.size)
      have Y4 := Lib.hid hF4
      clear h4 hb4 hF4 X3 B3 F3 HX
      have hb := (Below.refl w4.heap.size w4).alloc (Nat.le_refl _) (.cells #[.int .i64 (yX xo).1.1, .int .i64 (yX xo).1.2, .slice A4 (flen (yX xo).2) c4] 24)
      have X5 := Lib.hid ((hb.block _ (Array.getElem?_eq_some_iff.1 X4.out).1).trans X4.out)
      have B5 := Lib.hid (bthen' B4.out hb)
      have F5 := Lib.hid ((F4.out.on hb).up hb.size)
      have Y5 := Lib.hid ((Y4.out.on hb).up hb.size)
      have P5 := Lib.hid (World.alloc_heap_new w4 (.cells #[.int .i64 (yX xo).1.1, .int .i64 (yX xo).1.2, .slice A4 (flen (yX xo).2) c4] 24))
      clear hb X4 B4 F4 Y4
      go_upto_region 5 with fail
      generalize w4.alloc (.cells #[.int .i64 (yX xo).1.1, .int .i64 (yX xo).1.2, .slice A4 (flen (yX xo).2) c4] 24) = w5 at *
      generalize w4.heap.size = b5 at *
      go_wp2_with fail
      refine (HX8.out w5).mono ?_
      intro e w6 h6
      obtain ⟨hb6, A6, c6, rfl, hF6⟩ := h6.one
      have hb := (Below.refl w6.heap.size w6).alloc (Nat.le_refl _) (.cells #[.int .i64 (yX xo).1.1, .int .i64 (yX xo).1.2, .slice A6 (flen (yX xo).2) c6] 24)
      have hbb := bthen' hb6 hb
      have X7 := Lib.hid ((hbb.block _ (Array.getElem?_eq_some_iff.1 X5.out).1).trans X5.out)
      have B7 := Lib.hid (bthen' B5.out hbb)
      have F7 := Lib.hid ((F5.out.on hbb).up hbb.size)
      have Y7 := Lib.hid ((Y5.out.on hbb).up hbb.size)
      have P7 := Lib.hid ((hbb.block _ (Array.getElem?_eq_some_iff.1 P5.out).1).trans P5.out)
      have Q7 := Lib.hid (World.alloc_heap_new w6 (.cells #[.int .i64 (yX xo).1.1, .int .i64 (yX xo).1.2, .slice A6 (flen (yX xo).2) c6] 24))
      have Z7 := Lib.hid ((hF6.on hb).up hb.size)
      clear h6 hb6 hF6 hb hbb X5 B5 F5 Y5 P5 HX8
      go_upto_region 6 with fail
      generalize w6.alloc (.cells #[.int .i64 (yX xo).1.1, .int .i64 (yX xo).1.2, .slice A6 (flen (yX xo).2) c6] 24) = w7 at *
      generalize w6.heap.size = b7 at *
      have hsame : ∀ W : World, Below w7.heap.size w7 W → Calls Tryz.prog 17 #[.agg #[.int .i64 (yX xo).1.1, .int .i64 (yX xo).1.2, .slice A4 (flen (yX xo).2) c4], .agg #[.int .i64 (yX xo).1.1, .int .i64 (yX xo).1.2, .slice A6 (flen (yX xo).2) c6]] W fun e w' => e = .returned (.bool true) ∧ Below W.heap.size W w' := fun W hW => by
        have := same_any (yX xo).1 (yX xo).2 (yX xo).1 (yX xo).2 W _ _ W.heap.size ((Y7.out.on hW).up hW.size) ((Z7.out.on hW).up hW.size) (Nat.le_refl _) HY.out
        rwa [sameE_self] at this
      have HS := Lib.hid hsame
      have HV1 := Lib.hid (fun W (hW : Below w7.heap.size w7 W) => valid_any op n l _ W ((F7.out.on hW).up hW.size))
      have HV2 := Lib.hid (fun W (hW : Below w7.heap.size w7 W) => rvalid_any op n l _ W ((F7.out.on hW).up hW.size))
      have k0 := (Array.getElem?_eq_some_iff.1 X7.out).1
      have k1 := (Array.getElem?_eq_some_iff.1 P7.out).1
      have k2 := (Array.getElem?_eq_some_iff.1 Q7.out).1
      have S7 : w7.cell? ⟨w.heap.size, 0, none⟩ = some (.int .i64 op) ∧ w7.cell? ⟨w.heap.size, 1, none⟩ = some (.int .i64 n) ∧ w7.cell? ⟨w.heap.size, 2, none⟩ = some (.slice A (flen l) c) ∧ w7.cell? ⟨b5, 0, none⟩ = some (.int .i64 (yX xo).1.1) ∧ w7.cell? ⟨b5, 1, none⟩ = some (.int .i64 (yX xo).1.2) ∧ w7.cell? ⟨b5, 2, none⟩ = some (.slice A4 (flen (yX xo).2) c4) ∧ w7.cell? ⟨b7, 0, none⟩ = some (.int .i64 (yX xo).1.1) ∧ w7.cell? ⟨b7, 1, none⟩ = some (.int .i64 (yX xo).1.2) ∧ w7.cell? ⟨b7, 2, none⟩ = some (.slice A6 (flen (yX xo).2) c6) := ⟨(three_cells X7.out).1, (three_cells X7.out).2.1, (three_cells X7.out).2.2.1, (three_cells P7.out).1, (three_cells P7.out).2.1, (three_cells P7.out).2.2.1, (three_cells Q7.out).1, (three_cells Q7.out).2.1, (three_cells Q7.out).2.2.1⟩
      have SK : ∀ W : World, Below w7.heap.size w7 W → W.cell? ⟨w.heap.size, 0, none⟩ = some (.int .i64 op) ∧ W.cell? ⟨w.heap.size, 1, none⟩ = some (.int .i64 n) ∧ W.cell? ⟨w.heap.size, 2, none⟩ = some (.slice A (flen l) c) ∧ W.cell? ⟨b5, 0, none⟩ = some (.int .i64 (yX xo).1.1) ∧ W.cell? ⟨b5, 1, none⟩ = some (.int .i64 (yX xo).1.2) ∧ W.cell? ⟨b5, 2, none⟩ = some (.slice A4 (flen (yX xo).2) c4) ∧ W.cell? ⟨b7, 0, none⟩ = some (.int .i64 (yX xo).1.1) ∧ W.cell? ⟨b7, 1, none⟩ = some (.int .i64 (yX xo).1.2) ∧ W.cell? ⟨b7, 2, none⟩ = some (.slice A6 (flen (yX xo).2) c6) := fun W hW => by
        obtain ⟨s0, s1, s2, s3, s4, s5, s6, s7, s8⟩ := S7
        exact ⟨(hW.cell (p := ⟨w.heap.size, 0, none⟩) k0).trans s0, (hW.cell (p := ⟨w.heap.size, 1, none⟩) k0).trans s1, (hW.cell (p := ⟨w.heap.size, 2, none⟩) k0).trans s2, (hW.cell (p := ⟨b5, 0, none⟩) k1).trans s3, (hW.cell (p := ⟨b5, 1, none⟩) k1).trans s4, (hW.cell (p := ⟨b5, 2, none⟩) k1).trans s5, (hW.cell (p := ⟨b7, 0, none⟩) k2).trans s6, (hW.cell (p := ⟨b7, 1, none⟩) k2).trans s7, (hW.cell (p := ⟨b7, 2, none⟩) k2).trans s8⟩
      clear hsame X7 F7 Y7 P7 Q7 Z7 HY
      go_region_held3 (fun w' => w'.cell? ⟨w.heap.size, 0, none⟩ = some (.int .i64 op) ∧ w'.cell? ⟨w.heap.size, 1, none⟩ = some (.int .i64 n) ∧ w'.cell? ⟨w.heap.size, 2, none⟩ = some (.slice A (flen l) c) ∧ w'.cell? ⟨b5, 0, none⟩ = some (.int .i64 (yX xo).1.1) ∧ w'.cell? ⟨b5, 1, none⟩ = some (.int .i64 (yX xo).1.2) ∧ w'.cell? ⟨b5, 2, none⟩ = some (.slice A4 (flen (yX xo).2) c4) ∧ w'.cell? ⟨b7, 0, none⟩ = some (.int .i64 (yX xo).1.1) ∧ w'.cell? ⟨b7, 1, none⟩ = some (.int .i64 (yX xo).1.2) ∧ w'.cell? ⟨b7, 2, none⟩ = some (.slice A6 (flen (yX xo).2) c6))
        (first | with_reducible exact S7 | with_reducible exact SC | with_reducible exact SB | with_reducible exact SA | go_keep)
        (first
          | (go_at_call 17; (with_reducible refine (HS.out _ (Below.refl _ _).drew).mono ?_); rintro e u0 ⟨rfl, hb⟩; have C0 : Below w7.heap.size w7 u0 := ((Below.refl _ _).drew).trans hb; have SA := SK u0 C0; clear hb)
          | (go_at_call 18; (with_reducible refine (HV1.out _ C0).mono ?_); rintro e u1 ⟨rfl, hb⟩; have C1 := bthen' C0 hb; have SB := SK u1 C1; clear hb)
          | (go_at_call 19; (with_reducible refine (HV2.out _ C1).mono ?_); rintro e u2 ⟨rfl, hb⟩; have C2 := bthen' C1 hb; have SC := SK u2 C2; clear hb))
      have B8 := Lib.hid (bthen' B7.out C2)
      clear SA SB SC SK S7 C0 C1 C2 HV1 HV2 HS B7
      go_wp2_with fail
      refine (HR.out u2 (mx_up HM.out B8.out)).mono ?_
      intro e w9 h9
      obtain ⟨hb9, A9, c9, rfl, hR9⟩ := h9.one
      have B9 := Lib.hid (bthen' B8.out hb9)
      have R9 := Lib.hid hR9
      clear h9 hb9 hR9 B8 HR
      go_wp2_with fail
      refine (HR8.out w9).mono ?_
      intro e w10 h10
      obtain ⟨hb10, A10, c10, rfl, hR10⟩ := h10.one
      have B10 := Lib.hid (bthen' B9.out hb10)
      have R10 := Lib.hid ((R9.out.on hb10).up hb10.size)
      have HSR := Lib.hid (sameRates_true _ _ _ _ w10 w10.heap.size R10.out hR10 (Nat.le_refl _) HL.out.1 (by rw [List.length_map]; have := HL.out.2; omega) (sameRts_self _))
      clear h10 hb10 hR10 B9 R9 R10 HR8
      go_wp2_with fail
      refine HSR.out.mono ?_
      rintro e w11 ⟨rfl, hb⟩
      have B11 := Lib.hid (bthen' B10.out hb)
      clear hb B10 HSR
      go_wp2_with fail
      go_ret
      exact ⟨rfl, B11.out⟩
end Go.Proofs.YtomnjamldbficaaGreatDoor
