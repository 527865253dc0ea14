/-
  Walks: the statement PrinterBrackets: it returns true.
-/
import Derived.Test.YtfihoalpmlfkpaaDoorPrtHead
import Derived.Test.YtfihoalpmlfkpaaDoorPrtBra
import Derived.Test.YtfihoalpmlfkpaaDoorPrtL1
namespace Go.Proofs.YtfihoalpmlfkpaaDoor
open Go.RowKit Lx Px
/-- the box of an expression in the block that a call makes first -/
def EBox (w : World) (cs : Array Value) (wx : World) : Prop := wx.heap[w.heap.size]? = some (.cells cs 24 (0, 0)) ∧ Below w.heap.size w wx
theorem EBox.on {w wx wy : World} {cs : Array Value} (h : EBox w cs wx) (hb : Below wx.heap.size wx wy) : EBox w cs wy := ⟨(hb.block _ (Array.getElem?_eq_some_iff.1 h.1).1).trans h.1, bthen' h.2 hb⟩
theorem EBox.drew {w wx : World} {cs : Array Value} (h : EBox w cs wx) : EBox w cs wx.drew := ⟨h.1, h.2.drew⟩
theorem EBox.cell {w wx : World} {cs : Array Value} (h : EBox w cs wx) (i : Nat) (v : Value) (hv : cs[i]? = some v) : wx.cell? ⟨w.heap.size, i, none⟩ = some v := by
  rw [Lib.cell_of_heap h.1, hv]
theorem ekeep {w W w' : World} {a b c : Value} (h : W.cell? ⟨w.heap.size, 0, none⟩ = some a ∧ W.cell? ⟨w.heap.size, 1, none⟩ = some b ∧ W.cell? ⟨w.heap.size, 2, none⟩ = some c ∧ EBox w #[a, b, c] W) (hb : Below W.heap.size W w') :
    w'.cell? ⟨w.heap.size, 0, none⟩ = some a ∧ w'.cell? ⟨w.heap.size, 1, none⟩ = some b ∧ w'.cell? ⟨w.heap.size, 2, none⟩ = some c ∧ EBox w #[a, b, c] w' :=
  ⟨(h.2.2.2.on hb).cell 0 a rfl, (h.2.2.2.on hb).cell 1 b rfl, (h.2.2.2.on hb).cell 2 c rfl, h.2.2.2.on hb⟩
set_option maxRecDepth 100000 in
set_option maxHeartbeats 4000000 in
theorem law4_any (op n : Int) (l : Fo) (A : Option Addr) (c : Nat) (w : World) (hv : FoV w w.heap.size (.slice A (flen l) c) l) (ht : Tabs w.heap.size w) :
    Calls Tryd.prog 6 #[.agg #[.int .i64 op, .int .i64 n, .slice A (flen l) c]] w fun e w' => e = .returned (.bool true) ∧ Below w.heap.size w w' := by
  have HV := Lib.hid hv
  have HT := Lib.hid ht
  clear hv ht
  have hb0 := (Below.refl w.heap.size w).alloc (Nat.le_refl _) (.cells #[.int .i64 op, .int .i64 n, .slice A (flen l) c] 24)
  have hx0 := World.alloc_heap_new w (.cells #[.int .i64 op, .int .i64 n, .slice A (flen l) c] 24)
  go_enter Tryd.func6, Tryd.ntmps6
  go_wp2_with fail
  generalize w.alloc (.cells #[.int .i64 op, .int .i64 n, .slice A (flen l) c] 24) = W1 at *
  have S1 : Hid (EBox w #[.int .i64 op, .int .i64 n, .slice A (flen l) c] W1) := ⟨hx0, hb0⟩
  clear hx0 hb0
  refine (head_any _ w.heap.size (HT.out.on S1.out.2)).mono ?_
  rintro e w2 ⟨rfl, hb⟩
  have S2 := Lib.hid (S1.out.on hb)
  clear hb S1
  have e0 := S2.out.cell 0 _ rfl
  have e1 := S2.out.cell 1 _ rfl
  have e2 := S2.out.cell 2 _ rfl
  go_wp2_with fail
  refine (rvalid_any op n l (.slice A (flen l) c) _ ((HV.out.on S2.out.2).up S2.out.2.size)).mono ?_
  rintro e w3 ⟨rfl, hb⟩
  have S3 := Lib.hid (S2.out.on hb)
  clear hb S2 e0 e1 e2
  cases hval : validB op n l with
  | false =>
    clear hval
    go_wp2_with fail
    go_ret
    exact ⟨rfl, S3.out.2⟩
  | true =>
    obtain ⟨hform, hok, hnd⟩ := valid_parts hval
    have hres : exprR op n l = (textE op n l, 0) := by simp [exprR, hval]
    have hcnt := expr_count hval
    have hcl := cho_le l
    have hbl := bra_le l op 0
    have hc1 : chB op ≤ 1 := by unfold chB; split <;> omega
    obtain ⟨t, ht⟩ : ∃ t, t = textE op n l := ⟨_, rfl⟩
    obtain ⟨br, hbr⟩ : ∃ z, z = braF l op 0 := ⟨_, rfl⟩
    obtain ⟨ch, hch⟩ : ∃ z, z = chB op + choF l := ⟨_, rfl⟩
    rw [← ht] at hres hcnt
    rw [← hbr, ← hch] at hcnt
    have hBr : ∀ W : World, FoV W w.heap.size (.slice A (flen l) c) l → w.heap.size ≤ W.heap.size → Calls Tryd.prog 17 #[.agg #[.int .i64 op, .int .i64 n, .slice A (flen l) c]] W fun e w' => e = .returned (.int .i64 (br : Int)) ∧ Below W.heap.size W w' := by
      intro W h1 h2
      rw [hbr]
      exact bra_any (op, n) l W _ w.heap.size hform hok h1 h2 (by omega)
    have hCh : ∀ W : World, FoV W w.heap.size (.slice A (flen l) c) l → w.heap.size ≤ W.heap.size → Calls Tryd.prog 18 #[.agg #[.int .i64 op, .int .i64 n, .slice A (flen l) c]] W fun e w' => e = .returned (.int .i64 (ch : Int)) ∧ Below W.heap.size W w' := by
      intro W h1 h2
      rw [hch]
      exact cho_any (op, n) l W _ w.heap.size h1 h2 (by omega)
    obtain ⟨m, hm⟩ : ∃ m, m = br + ch := ⟨_, rfl⟩
    rw [← hm] at hcnt
    have hbb : br ≤ 1000 := by omega
    have hcb : ch ≤ 1000 := by omega
    have hc40 : ∀ W : World, Calls Tryd.prog 19 #[.string (mk t), .string ⟨#[40]⟩] W fun e w' => e = .returned (.int .i64 (m : Int)) ∧ w' = W := by
      intro W; have := Tryd.strings_Count_one (mk t) 40 W; rwa [show Lib.countByte (mk t).data.toList 40 = m from hcnt.1] at this
    have hc41 : ∀ W : World, Calls Tryd.prog 19 #[.string (mk t), .string ⟨#[41]⟩] W fun e w' => e = .returned (.int .i64 (m : Int)) ∧ w' = W := by
      intro W; have := Tryd.strings_Count_one (mk t) 41 W; rwa [show Lib.countByte (mk t).data.toList 41 = m from hcnt.2.1] at this
    have hc44 : ∀ W : World, Calls Tryd.prog 19 #[.string (mk t), .string ⟨#[44]⟩] W fun e w' => e = .returned (.int .i64 (ch : Int)) ∧ w' = W := by
      intro W; have := Tryd.strings_Count_one (mk t) 44 W; rwa [show Lib.countByte (mk t).data.toList 44 = ch from hcnt.2.2] at this
    have H40 := Lib.hid hc40
    have H41 := Lib.hid hc41
    have H44 := Lib.hid hc44
    clear hc40 hc41 hc44
    have HBR := Lib.hid hBr
    have HCH := Lib.hid hCh
    have HRS := Lib.hid hres
    clear hval hform hok hnd hres hcnt hcl hbl hc1 ht hbr hch hBr hCh
    have e0 := S3.out.cell 0 _ rfl
    have e1 := S3.out.cell 1 _ rfl
    have e2 := S3.out.cell 2 _ rfl
    go_wp2_with fail
    refine (pexpr_any op n l (.slice A (flen l) c) _ w.heap.size (HV.out.on S3.out.2) (HT.out.on S3.out.2)).mono ?_
    rintro e w4 ⟨rfl, hb⟩
    rw [HRS.out]
    have S4 := Lib.hid (S3.out.on hb)
    clear hb S3 e0 e1 e2
    go_upto_region 5 with fail
    go_cut [6] from 7 (fun s6 wx => s6 = .int .i64 (m : Int) ∧ EBox w #[.int .i64 op, .int .i64 n, .slice A (flen l) c] wx)
    case first =>
      have e0 := S4.out.cell 0 _ rfl
      have e1 := S4.out.cell 1 _ rfl
      have e2 := S4.out.cell 2 _ rfl
      have hsum : IntKind.i64.wrap ((br : Int) + (ch : Int)) = (m : Int) := by rw [hm, IntWalk.i64_in _ (by omega)]; omega
      go_region_held3 (fun w' => w'.cell? ⟨w.heap.size, 0, none⟩ = some (.int .i64 op) ∧ w'.cell? ⟨w.heap.size, 1, none⟩ = some (.int .i64 n) ∧ w'.cell? ⟨w.heap.size, 2, none⟩ = some (.slice A (flen l) c) ∧ EBox w #[.int .i64 op, .int .i64 n, .slice A (flen l) c] w') (first | (exact ⟨e0, e1, e2, S4.out.drew⟩) | (exact ekeep (by assumption) (by assumption)))
        (first | (go_at_call 17; refine (HBR.out _ (HV.out.on (‹_ ∧ _ ∧ _ ∧ EBox w _ _›).2.2.2.2) (‹_ ∧ _ ∧ _ ∧ EBox w _ _›).2.2.2.2.size).mono ?_; rintro e w' ⟨rfl, hb⟩) | (go_at_call 18; refine (HCH.out _ (HV.out.on (‹_ ∧ _ ∧ _ ∧ EBox w _ _›).2.2.2.2) (‹_ ∧ _ ∧ _ ∧ EBox w _ _›).2.2.2.2.size).mono ?_; rintro e w' ⟨rfl, hb⟩))
      all_goals go_wp2_with fail
      all_goals go_meet
      all_goals (have hS := ‹_ ∧ _ ∧ _ ∧ EBox w _ w'›; exact ⟨by rw [hm]; simp, hS.2.2.2⟩)
    case rest =>
      obtain ⟨rfl, S5⟩ := hcut
      have e0 := S5.cell 0 _ rfl
      have e1 := S5.cell 1 _ rfl
      have e2 := S5.cell 2 _ rfl
      go_wp2_with fail
      refine wp_region_still_tail 21 (by kernel_rfl) (by kernel_rfl) ?_
      simp only [List.take_succ_cons, List.take_zero, List.drop_succ_cons, List.drop_zero]
      repeat still_step
      still_call (H40.out _)
      repeat still_step
      still_call (H41.out _)
      repeat still_step
      still_call (H44.out _)
      repeat still_step
      refine wpStill_nil ?_
      change wpList _ _ _ _ _ wc.drew
      have S6 := Lib.hid S5.drew
      clear S5 e0 e1 e2
      generalize wc.drew = w6 at *
      go_wp2_with fail
      refine (HCH.out _ (HV.out.on S6.out.2) S6.out.2.size).mono ?_
      rintro e w7 ⟨rfl, hb⟩
      have S7 := Lib.hid (S6.out.on hb)
      clear hb S6
      go_wp2_with fail
      go_ret
      exact ⟨rfl, S7.out.2⟩
end Go.Proofs.YtfihoalpmlfkpaaDoor
