/-
  Walks: the statement PrinterMatchesReference: it returns true.
-/
import Derived.Test.YtfihoalpmlfkpaaDoorPrtHead
import Derived.Test.YtfihoalpmlfkpaaDoorPrtRRate
namespace Go.Proofs.YtfihoalpmlfkpaaDoor
open Go.RowKit Lx Px
/-- two boxes that a call makes first -/
def Two (w : World) (o1 o2 : Obj) (wx : World) : Prop := wx.heap[w.heap.size]? = some o1 ∧ wx.heap[w.heap.size + 1]? = some o2 ∧ Below w.heap.size w wx
theorem Two.on {w wx wy : World} {o1 o2 : Obj} (h : Two w o1 o2 wx) (hb : Below wx.heap.size wx wy) : Two w o1 o2 wy :=
  ⟨(hb.block _ (Array.getElem?_eq_some_iff.1 h.1).1).trans h.1, (hb.block _ (Array.getElem?_eq_some_iff.1 h.2.1).1).trans h.2.1, bthen' h.2.2 hb⟩
set_option maxRecDepth 100000 in
set_option maxHeartbeats 4000000 in
theorem law1_any (op n : Int) (l : Fo) (A : Option Addr) (c : Nat) (r : Rt) (WA PA : Option Addr) (wc pc : Nat) (w : World) (hv : FoV w w.heap.size (.slice A (flen l) c) l) (hwv : FoV w w.heap.size (.slice WA (flen r.wl) wc) r.wl) (hpv : FoV w w.heap.size (.slice PA (flen r.pl) pc) r.pl) (ht : Tabs w.heap.size w) :
    Calls Tryd.prog 3 #[.agg #[.int .i64 op, .int .i64 n, .slice A (flen l) c], rtV r (.slice WA (flen r.wl) wc) (.slice PA (flen r.pl) pc)] w fun e w' => e = .returned (.bool true) ∧ Below w.heap.size w w' := by
  have HV := Lib.hid hv
  have HWV := Lib.hid hwv
  have HPV := Lib.hid hpv
  have HT := Lib.hid ht
  clear hv hwv hpv ht
  obtain ⟨id, lv, kd, fr, un, ls, mo, ar, kn, kq, wo, wn, wl, po, pn, pl⟩ := r
  suffices hall : ∀ R : Rt, R = ⟨id, lv, kd, fr, un, ls, mo, ar, kn, kq, wo, wn, wl, po, pn, pl⟩ → Calls Tryd.prog 3 #[.agg #[.int .i64 op, .int .i64 n, .slice A (flen l) c], .agg #[.int .i64 id, .int .i64 lv, .int .i64 kd, .int .i64 fr, .int .i64 un, .int .i64 ls, .int .i64 mo, .int .i64 ar, .int .i64 kn, .int .i64 kq, .int .i64 wo, .int .i64 wn, .slice WA (flen wl) wc, .int .i64 po, .int .i64 pn, .slice PA (flen pl) pc]] w (fun e w' => e = .returned (.bool true) ∧ Below w.heap.size w w') from hall _ rfl
  intro R hR
  have hwv : FoV w w.heap.size (.slice WA (flen wl) wc) wl := HWV.out
  have hpv : FoV w w.heap.size (.slice PA (flen pl) pc) pl := HPV.out
  have hP : ∀ W : World, FoV W w.heap.size (.slice WA (flen wl) wc) wl → FoV W w.heap.size (.slice PA (flen pl) pc) pl → Tabs w.heap.size W → Calls Tryd.prog 10 #[.agg #[.int .i64 id, .int .i64 lv, .int .i64 kd, .int .i64 fr, .int .i64 un, .int .i64 ls, .int .i64 mo, .int .i64 ar, .int .i64 kn, .int .i64 kq, .int .i64 wo, .int .i64 wn, .slice WA (flen wl) wc, .int .i64 po, .int .i64 pn, .slice PA (flen pl) pc]] W (RatePost R W) := by
    intro W h1 h2 h3
    rw [hR]
    exact prate_any ⟨id, lv, kd, fr, un, ls, mo, ar, kn, kq, wo, wn, wl, po, pn, pl⟩ (.slice WA (flen wl) wc) (.slice PA (flen pl) pc) W w.heap.size h1 h2 h3
  have hQ : ∀ W : World, FoV W w.heap.size (.slice WA (flen wl) wc) wl → FoV W w.heap.size (.slice PA (flen pl) pc) pl → w.heap.size ≤ W.heap.size → Calls Tryd.prog 11 #[.agg #[.int .i64 id, .int .i64 lv, .int .i64 kd, .int .i64 fr, .int .i64 un, .int .i64 ls, .int .i64 mo, .int .i64 ar, .int .i64 kn, .int .i64 kq, .int .i64 wo, .int .i64 wn, .slice WA (flen wl) wc, .int .i64 po, .int .i64 pn, .slice PA (flen pl) pc]] W (RatePost R W) := by
    intro W h1 h2 h3
    rw [hR]
    exact rrate_any ⟨id, lv, kd, fr, un, ls, mo, ar, kn, kq, wo, wn, wl, po, pn, pl⟩ (.slice WA (flen wl) wc) (.slice PA (flen pl) pc) W w.heap.size h1 h2 h3
  have HP := Lib.hid hP
  have HQ := Lib.hid hQ
  clear HWV HPV hP hQ hR
  have HWV := Lib.hid hwv
  have HPV := Lib.hid hpv
  clear hwv hpv
  obtain ⟨t1, c1, he1⟩ : ∃ t c, exprR op n l = (t, c) := ⟨_, _, rfl⟩
  obtain ⟨t2, c2, he2⟩ : ∃ t c, R.res = (t, c) := ⟨_, _, rfl⟩
  have HE1 := Lib.hid he1
  have HE2 := Lib.hid he2
  clear he1 he2
  have hx1 := heap_new2 w (.cells #[.int .i64 op, .int .i64 n, .slice A (flen l) c] 24) (.cells #[.int .i64 id, .int .i64 lv, .int .i64 kd, .int .i64 fr, .int .i64 un, .int .i64 ls, .int .i64 mo, .int .i64 ar, .int .i64 kn, .int .i64 kq, .int .i64 wo, .int .i64 wn, .slice WA (flen wl) wc, .int .i64 po, .int .i64 pn, .slice PA (flen pl) pc] 30)
  have hb1 : Below w.heap.size w ((w.alloc (.cells #[.int .i64 op, .int .i64 n, .slice A (flen l) c] 24)).alloc (.cells #[.int .i64 id, .int .i64 lv, .int .i64 kd, .int .i64 fr, .int .i64 un, .int .i64 ls, .int .i64 mo, .int .i64 ar, .int .i64 kn, .int .i64 kq, .int .i64 wo, .int .i64 wn, .slice WA (flen wl) wc, .int .i64 po, .int .i64 pn, .slice PA (flen pl) pc] 30)) := ((Below.refl _ _).alloc (Nat.le_refl _) _).alloc (by simp) _
  go_enter Tryd.func3, Tryd.ntmps3
  go_wp2_with fail
  generalize (w.alloc (.cells #[.int .i64 op, .int .i64 n, .slice A (flen l) c] 24)).alloc (.cells #[.int .i64 id, .int .i64 lv, .int .i64 kd, .int .i64 fr, .int .i64 un, .int .i64 ls, .int .i64 mo, .int .i64 ar, .int .i64 kn, .int .i64 kq, .int .i64 wo, .int .i64 wn, .slice WA (flen wl) wc, .int .i64 po, .int .i64 pn, .slice PA (flen pl) pc] 30) = W1 at *
  have S1 : Hid (Two w (.cells #[.int .i64 op, .int .i64 n, .slice A (flen l) c] 24 (0, 0)) (.cells #[.int .i64 id, .int .i64 lv, .int .i64 kd, .int .i64 fr, .int .i64 un, .int .i64 ls, .int .i64 mo, .int .i64 ar, .int .i64 kn, .int .i64 kq, .int .i64 wo, .int .i64 wn, .slice WA (flen wl) wc, .int .i64 po, .int .i64 pn, .slice PA (flen pl) pc] 30 (0, 0)) W1) := ⟨hx1.1, hx1.2, hb1⟩
  clear hx1 hb1
  refine (head_any _ w.heap.size (HT.out.on S1.out.2.2)).mono ?_
  rintro e w2 ⟨rfl, hb⟩
  have S2 := Lib.hid (S1.out.on hb)
  clear hb S1
  have e0 : w2.cell? ⟨w.heap.size, 0, none⟩ = some (.int .i64 op) := by rw [Lib.cell_of_heap S2.out.1]; rfl
  have e1 : w2.cell? ⟨w.heap.size, 1, none⟩ = some (.int .i64 n) := by rw [Lib.cell_of_heap S2.out.1]; rfl
  have e2 : w2.cell? ⟨w.heap.size, 2, none⟩ = some (.slice A (flen l) c) := by rw [Lib.cell_of_heap S2.out.1]; rfl
  go_wp2_with fail
  refine (pexpr_any op n l (.slice A (flen l) c) _ w.heap.size (HV.out.on S2.out.2.2) (HT.out.on S2.out.2.2)).mono ?_
  rintro e w3 ⟨rfl, hb⟩
  rw [HE1.out]
  have S3 := Lib.hid (S2.out.on hb)
  clear hb S2 e0 e1 e2
  have e0 : w3.cell? ⟨w.heap.size, 0, none⟩ = some (.int .i64 op) := by rw [Lib.cell_of_heap S3.out.1]; rfl
  have e1 : w3.cell? ⟨w.heap.size, 1, none⟩ = some (.int .i64 n) := by rw [Lib.cell_of_heap S3.out.1]; rfl
  have e2 : w3.cell? ⟨w.heap.size, 2, none⟩ = some (.slice A (flen l) c) := by rw [Lib.cell_of_heap S3.out.1]; rfl
  go_wp2_with fail
  refine (rexpr_any op n l (.slice A (flen l) c) _ w.heap.size (HV.out.on S3.out.2.2) S3.out.2.2.size).mono ?_
  rintro e w4 ⟨rfl, hb⟩
  rw [HE1.out]
  have S4 := Lib.hid (S3.out.on hb)
  clear hb S3 e0 e1 e2
  have f0 : w4.cell? ⟨w.heap.size + 1, 0, none⟩ = some (.int .i64 id) := by rw [Lib.cell_of_heap S4.out.2.1]; rfl
  have f1 : w4.cell? ⟨w.heap.size + 1, 1, none⟩ = some (.int .i64 lv) := by rw [Lib.cell_of_heap S4.out.2.1]; rfl
  have f2 : w4.cell? ⟨w.heap.size + 1, 2, none⟩ = some (.int .i64 kd) := by rw [Lib.cell_of_heap S4.out.2.1]; rfl
  have f3 : w4.cell? ⟨w.heap.size + 1, 3, none⟩ = some (.int .i64 fr) := by rw [Lib.cell_of_heap S4.out.2.1]; rfl
  have f4 : w4.cell? ⟨w.heap.size + 1, 4, none⟩ = some (.int .i64 un) := by rw [Lib.cell_of_heap S4.out.2.1]; rfl
  have f5 : w4.cell? ⟨w.heap.size + 1, 5, none⟩ = some (.int .i64 ls) := by rw [Lib.cell_of_heap S4.out.2.1]; rfl
  have f6 : w4.cell? ⟨w.heap.size + 1, 6, none⟩ = some (.int .i64 mo) := by rw [Lib.cell_of_heap S4.out.2.1]; rfl
  have f7 : w4.cell? ⟨w.heap.size + 1, 7, none⟩ = some (.int .i64 ar) := by rw [Lib.cell_of_heap S4.out.2.1]; rfl
  have f8 : w4.cell? ⟨w.heap.size + 1, 8, none⟩ = some (.int .i64 kn) := by rw [Lib.cell_of_heap S4.out.2.1]; rfl
  have f9 : w4.cell? ⟨w.heap.size + 1, 9, none⟩ = some (.int .i64 kq) := by rw [Lib.cell_of_heap S4.out.2.1]; rfl
  have f10 : w4.cell? ⟨w.heap.size + 1, 10, none⟩ = some (.int .i64 wo) := by rw [Lib.cell_of_heap S4.out.2.1]; rfl
  have f11 : w4.cell? ⟨w.heap.size + 1, 11, none⟩ = some (.int .i64 wn) := by rw [Lib.cell_of_heap S4.out.2.1]; rfl
  have f12 : w4.cell? ⟨w.heap.size + 1, 12, none⟩ = some (.slice WA (flen wl) wc) := by rw [Lib.cell_of_heap S4.out.2.1]; rfl
  have f13 : w4.cell? ⟨w.heap.size + 1, 13, none⟩ = some (.int .i64 po) := by rw [Lib.cell_of_heap S4.out.2.1]; rfl
  have f14 : w4.cell? ⟨w.heap.size + 1, 14, none⟩ = some (.int .i64 pn) := by rw [Lib.cell_of_heap S4.out.2.1]; rfl
  have f15 : w4.cell? ⟨w.heap.size + 1, 15, none⟩ = some (.slice PA (flen pl) pc) := by rw [Lib.cell_of_heap S4.out.2.1]; rfl
  go_wp2_with fail
  refine (HP.out _ (HWV.out.on S4.out.2.2) (HPV.out.on S4.out.2.2) (HT.out.on S4.out.2.2)).mono ?_
  rintro e w5 ⟨rfl, hb⟩
  rw [HE2.out]
  have S5 := Lib.hid (S4.out.on hb)
  clear hb S4 f0 f1 f2 f3 f4 f5 f6 f7 f8 f9 f10 f11 f12 f13 f14 f15
  have f0 : w5.cell? ⟨w.heap.size + 1, 0, none⟩ = some (.int .i64 id) := by rw [Lib.cell_of_heap S5.out.2.1]; rfl
  have f1 : w5.cell? ⟨w.heap.size + 1, 1, none⟩ = some (.int .i64 lv) := by rw [Lib.cell_of_heap S5.out.2.1]; rfl
  have f2 : w5.cell? ⟨w.heap.size + 1, 2, none⟩ = some (.int .i64 kd) := by rw [Lib.cell_of_heap S5.out.2.1]; rfl
  have f3 : w5.cell? ⟨w.heap.size + 1, 3, none⟩ = some (.int .i64 fr) := by rw [Lib.cell_of_heap S5.out.2.1]; rfl
  have f4 : w5.cell? ⟨w.heap.size + 1, 4, none⟩ = some (.int .i64 un) := by rw [Lib.cell_of_heap S5.out.2.1]; rfl
  have f5 : w5.cell? ⟨w.heap.size + 1, 5, none⟩ = some (.int .i64 ls) := by rw [Lib.cell_of_heap S5.out.2.1]; rfl
  have f6 : w5.cell? ⟨w.heap.size + 1, 6, none⟩ = some (.int .i64 mo) := by rw [Lib.cell_of_heap S5.out.2.1]; rfl
  have f7 : w5.cell? ⟨w.heap.size + 1, 7, none⟩ = some (.int .i64 ar) := by rw [Lib.cell_of_heap S5.out.2.1]; rfl
  have f8 : w5.cell? ⟨w.heap.size + 1, 8, none⟩ = some (.int .i64 kn) := by rw [Lib.cell_of_heap S5.out.2.1]; rfl
  have f9 : w5.cell? ⟨w.heap.size + 1, 9, none⟩ = some (.int .i64 kq) := by rw [Lib.cell_of_heap S5.out.2.1]; rfl
  have f10 : w5.cell? ⟨w.heap.size + 1, 10, none⟩ = some (.int .i64 wo) := by rw [Lib.cell_of_heap S5.out.2.1]; rfl
  have f11 : w5.cell? ⟨w.heap.size + 1, 11, none⟩ = some (.int .i64 wn) := by rw [Lib.cell_of_heap S5.out.2.1]; rfl
  have f12 : w5.cell? ⟨w.heap.size + 1, 12, none⟩ = some (.slice WA (flen wl) wc) := by rw [Lib.cell_of_heap S5.out.2.1]; rfl
  have f13 : w5.cell? ⟨w.heap.size + 1, 13, none⟩ = some (.int .i64 po) := by rw [Lib.cell_of_heap S5.out.2.1]; rfl
  have f14 : w5.cell? ⟨w.heap.size + 1, 14, none⟩ = some (.int .i64 pn) := by rw [Lib.cell_of_heap S5.out.2.1]; rfl
  have f15 : w5.cell? ⟨w.heap.size + 1, 15, none⟩ = some (.slice PA (flen pl) pc) := by rw [Lib.cell_of_heap S5.out.2.1]; rfl
  go_wp2_with fail
  refine (HQ.out _ (HWV.out.on S5.out.2.2) (HPV.out.on S5.out.2.2) S5.out.2.2.size).mono ?_
  rintro e w6 ⟨rfl, hb⟩
  rw [HE2.out]
  have S6 := Lib.hid (S5.out.on hb)
  clear hb S5 f0 f1 f2 f3 f4 f5 f6 f7 f8 f9 f10 f11 f12 f13 f14 f15
  go_wp2_with fail
  go_ret
  exact ⟨rfl, S6.out.2.2⟩
end Go.Proofs.YtfihoalpmlfkpaaDoor
