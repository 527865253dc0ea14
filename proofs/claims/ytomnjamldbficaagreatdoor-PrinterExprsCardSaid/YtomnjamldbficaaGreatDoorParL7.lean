/-
  Walks: the statement PrinterExprs: it returns true.
-/
import Derived.Test.YtomnjamldbficaaGreatDoorPrtHead
import Derived.Test.YtomnjamldbficaaGreatDoorPrtSame
import Derived.Test.YtomnjamldbficaaGreatDoorParW9
import Derived.Test.YtomnjamldbficaaGreatDoorParText
namespace Go.Proofs.YtomnjamldbficaaGreatDoor
open Go.RowKit Lx Px
theorem txt_map (l : List Bytes) : txt (l.map (fun t => (kindOf t, (1 : Int), t))) 0 = l := by simp [txt, List.map_map, Function.comp_def]
/-- the text of a well-formed expression is read as this expression -/
theorem read_text (op n : Int) (l : Fo) (h : validB op n l = true) (W : World) (hM : Mx W W.heap.size) : Calls Tryz.prog 15 #[.string (mk (textE op n l))] W fun e w' =>
    Below W.heap.size W w' ∧ ∃ A c, e = .returned (.tuple #[.agg #[.int .i64 op, .int .i64 n, .slice A (flen (nrm l)) c], .int .i64 0]) ∧ FoV w' w'.heap.size (.slice A (flen (nrm l)) c) (nrm l) := by
  obtain ⟨hform, hok, hnd⟩ := valid_parts h
  have hlen := textE_len op n l hform hok
  have ht := toks_textE op n l hform hok hnd
  refine (pexprs_any (mk (textE op n l)) W (by rw [size_mk]; omega) hM).mono ?_
  rw [bl_mk, ht]
  rintro e w' ⟨hb, hE⟩
  dsimp only at hE
  rcases hE with ⟨h0, _⟩ | ⟨_, o, hr, ho, hm⟩
  · exact absurd rfl h0
  · rw [txt_map] at hr
    have hrd := read_tkE op n l hform hok
    have hdet := Rd_det hr hrd
    have hend : ([] : List Bytes) = txt ((tkE op n l).map (fun t => (kindOf t, (1 : Int), t))) ((tkE op n l).map (fun t => (kindOf t, (1 : Int), t))).length := (txt_end _ _ (Nat.le_refl _)).symm
    rw [hend] at hdet
    have := res_ok hdet (Nat.le_refl _) ho
    subst this
    simp only [Nat.lt_irrefl, if_false, valid_nrm, h, if_true] at hm
    exact ⟨hb, hm⟩
set_option maxRecDepth 100000 in
set_option maxHeartbeats 4000000 in
theorem law7_any (op n : Int) (l : Fo) (A : Option Addr) (c : Nat) (w : World) (hv : FoV w w.heap.size (.slice A (flen l) c) l) (ht : Tabs w.heap.size w) (hM : Mx w w.heap.size) :
    Calls Tryz.prog 9 #[.agg #[.int .i64 op, .int .i64 n, .slice A (flen l) c]] w fun e w' => e = .returned (.bool true) ∧ Below w.heap.size w w' := by
  have HV := Lib.hid hv
  have HT := Lib.hid ht
  have HM := Lib.hid hM
  clear hv ht hM
  have b1 : Below w.heap.size w (w.alloc (.cells #[.int .i64 op, .int .i64 n, .slice A (flen l) c] 24)) := (Below.refl _ _).alloc (Nat.le_refl _) _
  have r1 : RBox w #[.int .i64 op, .int .i64 n, .slice A (flen l) c] 24 (w.alloc (.cells #[.int .i64 op, .int .i64 n, .slice A (flen l) c] 24)) := World.alloc_heap_new w _
  go_enter Tryz.func9, Tryz.ntmps9
  go_wp2_with fail
  generalize w.alloc (.cells #[.int .i64 op, .int .i64 n, .slice A (flen l) c] 24) = W1 at *
  have B1 := Lib.hid b1
  have R1 := Lib.hid r1
  clear b1 r1
  refine (head_any _ w.heap.size (HT.out.on B1.out)).mono ?_
  rintro e w2 ⟨rfl, hb⟩
  have B2 := Lib.hid (bthen' B1.out hb)
  have R2 := Lib.hid (R1.out.on hb)
  clear hb B1 R1
  have e0 := R2.out.cell 0 _ rfl
  have e1 := R2.out.cell 1 _ rfl
  have e2 := R2.out.cell 2 _ rfl
  go_wp2_with fail
  refine (rvalid_any op n l (.slice A (flen l) c) _ ((HV.out.on B2.out).up B2.out.size)).mono ?_
  rintro e w3 ⟨rfl, hb⟩
  have B3 := Lib.hid (bthen' B2.out hb)
  have R3 := Lib.hid (R2.out.on hb)
  clear hb B2 R2 e0 e1 e2
  cases hval : validB op n l with
  | false =>
    clear hval
    go_wp2_with fail
    go_ret
    exact ⟨rfl, B3.out⟩
  | true =>
    obtain ⟨hform, hok, hnd⟩ := valid_parts hval
    have hres : exprR op n l = (textE op n l, 0) := by simp [exprR, hval]
    have hrd := read_text op n l hval
    obtain ⟨t, htt⟩ : ∃ t, t = textE op n l := ⟨_, rfl⟩
    rw [← htt] at hres hrd
    have hsm : ∀ (W : World) (A2 : Option Addr) (c2 : Nat), FoV W W.heap.size (.slice A (flen l) c) l → FoV W W.heap.size (.slice A2 (flen (nrm l)) c2) (nrm l) → Calls Tryz.prog 17 #[.agg #[.int .i64 op, .int .i64 n, .slice A (flen l) c], .agg #[.int .i64 op, .int .i64 n, .slice A2 (flen (nrm l)) c2]] W fun e w' => e = .returned (.bool true) ∧ Below W.heap.size W w' := by
      intro W A2 c2 h1 h2
      have := same_any (op, n) l (op, n) (nrm l) W _ _ W.heap.size h1 h2 (Nat.le_refl _) (by omega)
      rwa [same_nrm] at this
    have HS := Lib.hid hsm
    have HRD := Lib.hid hrd
    have HRS := Lib.hid hres
    clear hval hform hok hnd hres hrd hsm htt
    have e0 := R3.out.cell 0 _ rfl
    have e1 := R3.out.cell 1 _ rfl
    have e2 := R3.out.cell 2 _ rfl
    go_wp2_with fail
    refine (pexpr_any op n l (.slice A (flen l) c) _ w.heap.size (HV.out.on B3.out) (HT.out.on B3.out)).mono ?_
    rintro e w4 ⟨rfl, hb⟩
    rw [HRS.out]
    have B4 := Lib.hid (bthen' B3.out hb)
    have R4 := Lib.hid (R3.out.on hb)
    clear hb B3 R3 e0 e1 e2
    go_wp2_with fail
    refine (HRD.out w4 (by obtain ⟨m, h1, h2⟩ := HM.out.on B4.out; exact ⟨m, h1, by have := B4.out.size; omega⟩)).mono ?_
    rintro e w5 ⟨hb, A2, c2, rfl, hF⟩
    have ha : Below w5.heap.size w5 (w5.alloc (.cells #[.int .i64 op, .int .i64 n, .slice A2 (flen (nrm l)) c2] 24)) := (Below.refl _ _).alloc (Nat.le_refl _) _
    have hx := World.alloc_heap_new w5 (.cells #[.int .i64 op, .int .i64 n, .slice A2 (flen (nrm l)) c2] 24)
    have hl5 := (R4.out.on hb).lt
    have B6 := Lib.hid (bthen' (bthen' B4.out hb) ha)
    have R6 := Lib.hid ((R4.out.on hb).on ha)
    have F6 := Lib.hid ((hF.on ha).up ha.size)
    have X6 := Lib.hid hx
    clear hb hF ha hx B4 R4
    go_upto_region 6 with fail
    generalize w5.alloc (.cells #[.int .i64 op, .int .i64 n, .slice A2 (flen (nrm l)) c2] 24) = w6 at *
    generalize w5.heap.size = b6 at *
    have e0 := R6.out.cell 0 _ rfl
    have e1 := R6.out.cell 1 _ rfl
    have e2 := R6.out.cell 2 _ rfl
    have q0 : w6.cell? ⟨b6, 0, none⟩ = some (.int .i64 op) := by rw [Lib.cell_of_heap X6.out]; rfl
    have q1 : w6.cell? ⟨b6, 1, none⟩ = some (.int .i64 n) := by rw [Lib.cell_of_heap X6.out]; rfl
    have q2 : w6.cell? ⟨b6, 2, none⟩ = some (.slice A2 (flen (nrm l)) c2) := by rw [Lib.cell_of_heap X6.out]; rfl
    go_wp2_with fail
    refine (HS.out w6 A2 c2 ((HV.out.on B6.out).up B6.out.size) F6.out).mono ?_
    rintro e w7 ⟨rfl, hb⟩
    have B7 := Lib.hid (bthen' B6.out hb)
    clear hb B6 R6 F6 X6 e0 e1 e2 q0 q1 q2
    go_wp2_with fail
    go_ret
    exact ⟨rfl, B7.out⟩
end Go.Proofs.YtomnjamldbficaaGreatDoor
