/-
  Walks: Rate of package printer.
-/
import Derived.Test.YtomnjamldbficaaGreatDoorPrtRat
import Derived.Test.YtomnjamldbficaaGreatDoorPrtNum
namespace Go.Proofs.YtomnjamldbficaaGreatDoor
open Go.RowKit Lx Px
namespace Px
/-- a rate -/
structure Rt where
  id : Int
  lv : Int
  kd : Int
  fr : Int
  un : Int
  ls : Int
  mo : Int
  ar : Int
  kn : Int
  kq : Int
  wo : Int
  wn : Int
  wl : Fo
  po : Int
  pn : Int
  pl : Fo
def Rt.nums (r : Rt) : List Int := [r.id, r.lv, r.kd, r.fr, r.un, r.ls, r.mo, r.ar]
def Rt.pct (r : Rt) : Int := 100 / r.kq * r.kn
def Rt.can (r : Rt) : Bool := r.nums.all numB && (ratB r.kn r.kq && (100 % r.kq == 0)) && numB r.pct && (validB r.wo r.wn r.wl && validB r.po r.pn r.pl)
def Rt.items (r : Rt) : List Wn := [.inl [114, 97, 116, 101], .inr r.id, .inl [108, 101, 118, 101, 108], .inr r.lv, .inl [107, 105, 110, 100], .inr r.kd, .inl [110, 105, 103, 104, 116, 115], .inr r.fr, .inl [116, 111], .inr r.un,
  .inl [115, 116, 97, 121], .inr r.ls, .inl [116, 111], .inr r.mo, .inl [97, 114, 114, 105, 118, 101], .inr r.ar, .inl [107, 101, 101, 112], .inl (dec r.pct ++ [37]), .inl [119, 104, 101, 110]]
def Rt.text (r : Rt) : Bytes := itemsT r.items ++ textE r.wo r.wn r.wl ++ [32, 112, 114, 105, 99, 101, 32] ++ textE r.po r.pn r.pl ++ [59]
def Rt.res (r : Rt) : Bytes × Int := if r.can then (r.text, 0) else ([], 1)
end Px
/-- a rate as a value -/
def rtV (r : Rt) (wv pv : Value) : Value := .agg #[.int .i64 r.id, .int .i64 r.lv, .int .i64 r.kd, .int .i64 r.fr, .int .i64 r.un, .int .i64 r.ls, .int .i64 r.mo, .int .i64 r.ar, .int .i64 r.kn, .int .i64 r.kq, .int .i64 r.wo, .int .i64 r.wn, wv, .int .i64 r.po, .int .i64 r.pn, pv]
/-- the box of a struct in the block that a call makes first -/
def p_RBox (w : World) (cs : Array Value) (wx : World) : Prop := wx.heap[w.heap.size]? = some (.cells cs 47 (0, 0)) ∧ Below w.heap.size w wx
theorem p_RBox.on {w wx wy : World} {cs : Array Value} (h : p_RBox w cs wx) (hb : Below wx.heap.size wx wy) : p_RBox w cs wy := ⟨(hb.block _ (Array.getElem?_eq_some_iff.1 h.1).1).trans h.1, bthen' h.2 hb⟩
theorem p_RBox.write {w wx wy : World} {cs : Array Value} {b : Nat} (h : p_RBox w cs wx) (hb : Below b wx wy) (hlt : w.heap.size < b) : p_RBox w cs wy := ⟨(hb.block _ hlt).trans h.1, h.2.trans (hb.mono (by omega))⟩
theorem p_RBox.cell {w wx : World} {cs : Array Value} (h : p_RBox w cs wx) (i : Nat) (v : Value) (hv : cs[i]? = some v) : wx.cell? ⟨w.heap.size, i, none⟩ = some v := by
  rw [Lib.cell_of_heap h.1, hv]
end Go.Proofs.YtomnjamldbficaaGreatDoor
