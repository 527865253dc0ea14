/-
  Words: two boxes that a call makes first.
-/
import Derived.Test.YtomnjamldbficaaGreatDoorPrtW8
namespace Go.Proofs.YtomnjamldbficaaGreatDoor
open Go.RowKit Lx Px
theorem ret_int' {k : IntKind} {a b : Int} (h : a = b) : Ending.returned (.int k a) = .returned (.int k b) := by rw [h]
theorem below_drewN {B : Nat} {w w' : World} (h : Below B w w') (n : Nat) : Below B w (w'.drewN n) := ⟨h.os, h.tape, h.output, h.size, h.block⟩
theorem flen_nodes : ∀ f : Fo, flen f ≤ nodesF f := by
  intro f
  induction f with
  | nil => simp [flen, nodesF]
  | node b o a l r _ ihr => simp only [flen, nodesF]; omega
/-- two boxes that a call makes first -/
def Two (w : World) (o1 o2 : Obj) (wx : World) : Prop := wx.heap[w.heap.size]? = some o1 ∧ wx.heap[w.heap.size + 1]? = some o2 ∧ Below w.heap.size w wx
theorem Two.on {w wx wy : World} {o1 o2 : Obj} (h : Two w o1 o2 wx) (hb : Below wx.heap.size wx wy) : Two w o1 o2 wy :=
  ⟨(hb.block _ (Array.getElem?_eq_some_iff.1 h.1).1).trans h.1, (hb.block _ (Array.getElem?_eq_some_iff.1 h.2.1).1).trans h.2.1, bthen' h.2.2 hb⟩
theorem Two.drew {w wx : World} {o1 o2 : Obj} (h : Two w o1 o2 wx) : Two w o1 o2 wx.drew := ⟨h.1, h.2.1, h.2.2.drew⟩
theorem Two.cell1 {w wx : World} {o2 : Obj} {cs : Array Value} {ty : TypeId} {z : Nat × Nat} (h : Two w (.cells cs ty z) o2 wx) (i : Nat) (v : Value) (hv : cs[i]? = some v) : wx.cell? ⟨w.heap.size, i, none⟩ = some v := by
  rw [Lib.cell_of_heap h.1, hv]
theorem Two.cell2 {w wx : World} {o1 : Obj} {cs : Array Value} {ty : TypeId} {z : Nat × Nat} (h : Two w o1 (.cells cs ty z) wx) (i : Nat) (v : Value) (hv : cs[i]? = some v) : wx.cell? ⟨w.heap.size + 1, i, none⟩ = some v := by
  rw [Lib.cell_of_heap h.2.1, hv]
end Go.Proofs.YtomnjamldbficaaGreatDoor
