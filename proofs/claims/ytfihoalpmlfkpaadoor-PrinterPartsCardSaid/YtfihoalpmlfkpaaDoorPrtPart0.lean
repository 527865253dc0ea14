/-
  Plain: the text of a rate is a beginning that its two expressions do not enter, and an end that they alone make.
-/
import Derived.Test.YtfihoalpmlfkpaaDoorPrtHead
import Derived.Test.YtfihoalpmlfkpaaDoorPrtRRate
import Derived.Test.YtfihoalpmlfkpaaDoorPrtL1
namespace Go.Proofs.YtfihoalpmlfkpaaDoor
open Go.RowKit Lx Px
namespace Px
/-- the text of a rate before its two expressions -/
def Rt.pre (r : Rt) : Bytes := itemsT (r.items.take 17) ++ (dec r.pct ++ [37])
/-- its end -/
def tailR (a b : Bytes) : Bytes := [32, 119, 104, 101, 110, 32] ++ a ++ [32, 112, 114, 105, 99, 101, 32] ++ b ++ [59]
theorem Rt.items_parts (r : Rt) : itemsT r.items = r.pre ++ [32, 119, 104, 101, 110, 32] := by
  simp only [Rt.pre, Rt.items, List.take, itemsT, itemT, List.append_assoc, List.nil_append, List.cons_append]
theorem Rt.text_parts (r : Rt) : r.text = r.pre ++ tailR (textE r.wo r.wn r.wl) (textE r.po r.pn r.pl) := by
  simp only [Rt.text, Rt.items_parts, tailR, List.append_assoc]
theorem has_end (a b : Bytes) : Lib.hasSuffix (a ++ b) b = true := by
  unfold Lib.hasSuffix
  rw [List.isSuffixOf_iff_suffix]
  exact ⟨a, rfl⟩
theorem trim_end (a b : Bytes) : Lib.trimSuffix (a ++ b) b = a := by
  unfold Lib.trimSuffix
  rw [has_end]
  simp
theorem expr_res {op n : Int} {l : Fo} (h : validB op n l = true) : ∃ a, exprR op n l = (a, 0) ∧ a = textE op n l ∧ a.length ≤ 5000 := by
  obtain ⟨h1, h2, h3⟩ := valid_parts h
  have := textE_len op n l h1 h2
  exact ⟨_, by simp [exprR, h], rfl, by omega⟩
theorem parts_res (r : Rt) (xo xn : Int) (xl : Fo) (yo yn : Int) (yl : Fo) (h1 : r.can = true) (h2 : validB xo xn xl = true) (h3 : validB yo yn yl = true) :
    ∃ P a b c d T U : Bytes, r.res = (T, 0) ∧ Rt.res { r with wo := xo, wn := xn, wl := xl, po := yo, pn := yn, pl := yl } = (U, 0) ∧ exprR r.wo r.wn r.wl = (a, 0) ∧ exprR r.po r.pn r.pl = (b, 0) ∧ exprR xo xn xl = (c, 0) ∧ exprR yo yn yl = (d, 0) ∧
      T = P ++ tailR a b ∧ U = P ++ tailR c d ∧ a.length ≤ 5000 ∧ b.length ≤ 5000 ∧ c.length ≤ 5000 ∧ d.length ≤ 5000 ∧ P.length ≤ 100000 := by
  have h1' := h1
  simp only [Rt.can, Bool.and_eq_true] at h1
  obtain ⟨⟨⟨hN, hR⟩, hP⟩, hW, hQ⟩ := h1
  have h4 : Rt.can { r with wo := xo, wn := xn, wl := xl, po := yo, pn := yn, pl := yl } = true := by
    simp only [Rt.can, Bool.and_eq_true]
    exact ⟨⟨⟨hN, hR⟩, hP⟩, h2, h3⟩
  obtain ⟨a, a1, a2, a3⟩ := expr_res hW
  obtain ⟨b, b1, b2, b3⟩ := expr_res hQ
  obtain ⟨c, c1, c2, c3⟩ := expr_res h2
  obtain ⟨d, d1, d2, d3⟩ := expr_res h3
  simp only [Rt.nums, List.all_cons, List.all_nil, Bool.and_true, Bool.and_eq_true, numB, decide_eq_true_eq] at hN hP
  have hl := flds_len r hN hP
  rw [Rt.items_parts, List.nil_append, List.length_append] at hl
  refine ⟨r.pre, a, b, c, d, r.text, Rt.text { r with wo := xo, wn := xn, wl := xl, po := yo, pn := yn, pl := yl }, by simp only [Rt.res, h1', if_true], by simp only [Rt.res, h4, if_true], a1, b1, c1, d1, ?_, ?_, a3, b3, c3, d3, by omega⟩
  · rw [Rt.text_parts, a2, b2]
  · rw [Rt.text_parts, c2, d2]; rfl
end Px
/-- three boxes that a call makes first -/
def Thr (w : World) (o1 o2 o3 : Obj) (wx : World) : Prop := wx.heap[w.heap.size]? = some o1 ∧ wx.heap[w.heap.size + 1]? = some o2 ∧ wx.heap[w.heap.size + 1 + 1]? = some o3 ∧ Below w.heap.size w wx
theorem Thr.on {w wx wy : World} {o1 o2 o3 : Obj} (h : Thr w o1 o2 o3 wx) (hb : Below wx.heap.size wx wy) : Thr w o1 o2 o3 wy :=
  ⟨(hb.block _ (Array.getElem?_eq_some_iff.1 h.1).1).trans h.1, (hb.block _ (Array.getElem?_eq_some_iff.1 h.2.1).1).trans h.2.1, (hb.block _ (Array.getElem?_eq_some_iff.1 h.2.2.1).1).trans h.2.2.1, bthen' h.2.2.2 hb⟩
theorem Thr.write {w wx wy : World} {o1 o2 o3 : Obj} {b : Nat} (h : Thr w o1 o2 o3 wx) (hb : Below b wx wy) (hlt : w.heap.size + 1 + 1 < b) : Thr w o1 o2 o3 wy :=
  ⟨(hb.block _ (by omega)).trans h.1, (hb.block _ (by omega)).trans h.2.1, (hb.block _ hlt).trans h.2.2.1, h.2.2.2.trans (hb.mono (by omega))⟩
theorem heap_new3 (w : World) (o o2 o3 : Obj) : (((w.alloc o).alloc o2).alloc o3).heap[w.heap.size]? = some o ∧ (((w.alloc o).alloc o2).alloc o3).heap[w.heap.size + 1]? = some o2 ∧ (((w.alloc o).alloc o2).alloc o3).heap[w.heap.size + 1 + 1]? = some o3 := by
  obtain ⟨h1, h2⟩ := heap_new2 w o o2
  have h3 := World.alloc_heap_new ((w.alloc o).alloc o2) o3
  rw [Go.Deep.nblk_alloc, Go.Deep.nblk_alloc] at h3
  exact ⟨heap_on h1 _, heap_on h2 _, h3⟩
theorem mk_tail (a b : Bytes) : (⟨#[32, 119, 104, 101, 110, 32]⟩ ++ mk a ++ ⟨#[32, 112, 114, 105, 99, 101, 32]⟩ ++ mk b ++ ⟨#[59]⟩ : ByteArray) = mk (tailR a b) := by
  rw [← mk_bl (_ ++ ⟨#[59]⟩)]
  refine congrArg mk ?_
  simp only [bl_append, bl_mk]
  rfl
theorem has_tail (P t : Bytes) : Lib.hasSuffix (mk (P ++ t)).data.toList (mk t).data.toList = true := has_end P t
theorem trim_tail (P t : Bytes) : (⟨(Lib.trimSuffix (mk (P ++ t)).data.toList (mk t).data.toList).toArray⟩ : ByteArray) = mk P := by
  rw [show Lib.trimSuffix (mk (P ++ t)).data.toList (mk t).data.toList = P from trim_end P t]; rfl
theorem tail_len (a b : Bytes) : (tailR a b).length = a.length + b.length + 14 := by
  simp only [tailR, List.length_append, List.length_cons, List.length_nil]; omega
end Go.Proofs.YtfihoalpmlfkpaaDoor
