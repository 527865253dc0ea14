/-
  Walks: the statement PrinterDifferent: it returns true.
-/
import Derived.Test.YtfihoalpmlfkpaaDoorPrtHead
import Derived.Test.YtfihoalpmlfkpaaDoorPrtSame
namespace Go.Proofs.YtfihoalpmlfkpaaDoor
open Go.RowKit Lx Px
theorem tl_mk (l : Bytes) : (mk l).toList = l := by rw [ByteArray.toList_eq]; rfl
set_option maxRecDepth 100000 in
set_option maxHeartbeats 4000000 in
theorem law2_any (op n : Int) (l : Fo) (A : Option Addr) (c : Nat) (op2 n2 : Int) (l2 : Fo) (A2 : Option Addr) (c2 : Nat) (w : World) (hv : FoV w w.heap.size (.slice A (flen l) c) l) (hv2 : FoV w w.heap.size (.slice A2 (flen l2) c2) l2) (ht : Tabs w.heap.size w) :
    Calls Tryd.prog 4 #[.agg #[.int .i64 op, .int .i64 n, .slice A (flen l) c], .agg #[.int .i64 op2, .int .i64 n2, .slice A2 (flen l2) c2]] w fun e w' => e = .returned (.bool true) ∧ Below w.heap.size w w' := by
  have HV := Lib.hid hv
  have HV2 := Lib.hid hv2
  have HT := Lib.hid ht
  clear hv hv2 ht
  have hx1 := heap_new2 w (.cells #[.int .i64 op, .int .i64 n, .slice A (flen l) c] 24) (.cells #[.int .i64 op2, .int .i64 n2, .slice A2 (flen l2) c2] 24)
  have hb1 : Below w.heap.size w ((w.alloc (.cells #[.int .i64 op, .int .i64 n, .slice A (flen l) c] 24)).alloc (.cells #[.int .i64 op2, .int .i64 n2, .slice A2 (flen l2) c2] 24)) := ((Below.refl _ _).alloc (Nat.le_refl _) _).alloc (by simp) _
  go_enter Tryd.func4, Tryd.ntmps4
  go_wp2_with fail
  generalize (w.alloc (.cells #[.int .i64 op, .int .i64 n, .slice A (flen l) c] 24)).alloc (.cells #[.int .i64 op2, .int .i64 n2, .slice A2 (flen l2) c2] 24) = W1 at *
  have S1 : Hid (Two w (.cells #[.int .i64 op, .int .i64 n, .slice A (flen l) c] 24 (0, 0)) (.cells #[.int .i64 op2, .int .i64 n2, .slice A2 (flen l2) c2] 24 (0, 0)) W1) := ⟨hx1.1, hx1.2, hb1⟩
  clear hx1 hb1
  refine (head_any _ w.heap.size (HT.out.on S1.out.2.2)).mono ?_
  rintro e w2 ⟨rfl, hb⟩
  have S2 := Lib.hid (S1.out.on hb)
  clear hb S1
  have e0 := S2.out.cell1 0 _ rfl
  have e1 := S2.out.cell1 1 _ rfl
  have e2 := S2.out.cell1 2 _ rfl
  go_wp2_with fail
  refine (rvalid_any op n l (.slice A (flen l) c) _ ((HV.out.on S2.out.2.2).up S2.out.2.2.size)).mono ?_
  rintro e w3 ⟨rfl, hb⟩
  have S3 := Lib.hid (S2.out.on hb)
  clear hb S2 e0 e1 e2
  cases hval : validB op n l with
  | false =>
    clear hval
    go_wp2_with fail
    go_ret
    exact ⟨rfl, S3.out.2.2⟩
  | true =>
    have f0 := S3.out.cell2 0 _ rfl
    have f1 := S3.out.cell2 1 _ rfl
    have f2 := S3.out.cell2 2 _ rfl
    go_wp2_with fail
    refine (rvalid_any op2 n2 l2 (.slice A2 (flen l2) c2) _ ((HV2.out.on S3.out.2.2).up S3.out.2.2.size)).mono ?_
    rintro e w4 ⟨rfl, hb⟩
    have S4 := Lib.hid (S3.out.on hb)
    clear hb S3 f0 f1 f2
    cases hval2 : validB op2 n2 l2 with
    | false =>
      clear hval hval2
      go_wp2_with fail
      go_ret
      exact ⟨rfl, S4.out.2.2⟩
    | true =>
      obtain ⟨hform, hok, hnd⟩ := valid_parts hval
      obtain ⟨hform2, hok2, hnd2⟩ := valid_parts hval2
      have hres : exprR op n l = (textE op n l, 0) := by simp [exprR, hval]
      have hres2 : exprR op2 n2 l2 = (textE op2 n2 l2, 0) := by simp [exprR, hval2]
      have hsame := text_same (op, n) (op2, n2) l l2 hform hok hform2 hok2
      dsimp only at hsame
      obtain ⟨t, ht⟩ : ∃ t, t = textE op n l := ⟨_, rfl⟩
      obtain ⟨t2, ht2⟩ : ∃ t, t = textE op2 n2 l2 := ⟨_, rfl⟩
      rw [← ht] at hres
      rw [← ht2] at hres2
      rw [← ht, ← ht2] at hsame
      obtain ⟨z, hz⟩ : ∃ z, z = sameE (op, n) (op2, n2) l l2 := ⟨_, rfl⟩
      rw [← hz] at hsame
      have hsm : ∀ W : World, FoV W w.heap.size (.slice A (flen l) c) l → FoV W w.heap.size (.slice A2 (flen l2) c2) l2 → w.heap.size ≤ W.heap.size → Calls Tryd.prog 13 #[.agg #[.int .i64 op, .int .i64 n, .slice A (flen l) c], .agg #[.int .i64 op2, .int .i64 n2, .slice A2 (flen l2) c2]] W fun e w' => e = .returned (.bool z) ∧ Below W.heap.size W w' := by
        intro W h1 h2 h3
        rw [hz]
        exact same_any (op, n) l (op2, n2) l2 W _ _ w.heap.size h1 h2 h3 (by omega)
      have hzz : ((mk t).toList == (mk t2).toList) = z := by
        rw [tl_mk, tl_mk]
        cases z with
        | true => rw [hsame.2 rfl]; exact beq_self_eq_true _
        | false =>
          have : ¬ t = t2 := fun e => absurd (hsame.1 e) (by decide)
          exact beq_eq_false_iff_ne.2 this
      have HZ := Lib.hid hzz
      have HS := Lib.hid hsm
      have HR := Lib.hid hres
      have HR2 := Lib.hid hres2
      clear hval hval2 hform hok hnd hform2 hok2 hnd2 hres hres2 hsame ht ht2 hz hsm hzz
      have e0 := S4.out.cell1 0 _ rfl
      have e1 := S4.out.cell1 1 _ rfl
      have e2 := S4.out.cell1 2 _ rfl
      go_wp2_with fail
      refine (pexpr_any op n l (.slice A (flen l) c) _ w.heap.size (HV.out.on S4.out.2.2) (HT.out.on S4.out.2.2)).mono ?_
      rintro e w5 ⟨rfl, hb⟩
      rw [HR.out]
      have S5 := Lib.hid (S4.out.on hb)
      clear hb S4 e0 e1 e2
      have f0 := S5.out.cell2 0 _ rfl
      have f1 := S5.out.cell2 1 _ rfl
      have f2 := S5.out.cell2 2 _ rfl
      go_wp2_with fail
      refine (pexpr_any op2 n2 l2 (.slice A2 (flen l2) c2) _ w.heap.size (HV2.out.on S5.out.2.2) (HT.out.on S5.out.2.2)).mono ?_
      rintro e w6 ⟨rfl, hb⟩
      rw [HR2.out]
      have S6 := Lib.hid (S5.out.on hb)
      clear hb S5 f0 f1 f2
      have e0 := S6.out.cell1 0 _ rfl
      have e1 := S6.out.cell1 1 _ rfl
      have e2 := S6.out.cell1 2 _ rfl
      have f0 := S6.out.cell2 0 _ rfl
      have f1 := S6.out.cell2 1 _ rfl
      have f2 := S6.out.cell2 2 _ rfl
      go_wp2_with fail
      refine (HS.out _ (HV.out.on S6.out.2.2) (HV2.out.on S6.out.2.2) S6.out.2.2.size).mono ?_
      rintro e w7 ⟨rfl, hb⟩
      have S7 := Lib.hid (S6.out.on hb)
      clear hb S6 e0 e1 e2 f0 f1 f2
      go_wp2_with fail
      go_ret
      have hz := HZ.out
      generalize ((mk t).toList == (mk t2).toList) = z' at *
      subst hz
      exact ⟨by cases z' <;> rfl, S7.out.2.2⟩
end Go.Proofs.YtfihoalpmlfkpaaDoor
