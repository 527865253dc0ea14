/-
  Walks: Expr of package printer.
-/
import Derived.Test.YtomnjamldbficaaGreatDoorPrtW7
import Derived.Test.YtomnjamldbficaaGreatDoorPrtPlain3
namespace Go.Proofs.YtomnjamldbficaaGreatDoor
open Go.RowKit Lx Px
namespace Px
/-- what Expr of the printer returns: a text and an error's number -/
def exprR (op n : Int) (l : Fo) : Bytes × Int := if validB op n l then (textE op n l, 0) else ([], 1)
end Px
theorem FoAt.up {w : World} {B B' : Nat} (h : B ≤ B') : ∀ (f : Fo) (A : Option Addr) (k : Nat), FoAt w B f A k → FoAt w B' f A k := by
  intro f
  induction f with
  | nil => intro A k _; trivial
  | node b o a l r ihl ihr =>
    intro A k hh
    obtain ⟨⟨ad, A', c, e, hlt, h0, h1, h2, h3⟩, h4⟩ := hh
    exact ⟨⟨ad, A', c, e, by omega, h0, h1, h2, ihl A' 0 h3⟩, ihr A (k + 1) h4⟩
theorem FoV.on {w w' : World} {B : Nat} {v : Value} {l : Fo} (h : FoV w B v l) (hb : Below B w w') : FoV w' B v l := by
  obtain ⟨A, c, e, hA⟩ := h
  exact ⟨A, c, e, FoAt.keep (fun p hp => hb.cell hp) l A 0 hA⟩
theorem FoV.up {w : World} {B B' : Nat} {v : Value} {l : Fo} (h : FoV w B v l) (hB : B ≤ B') : FoV w B' v l := by
  obtain ⟨A, c, e, hA⟩ := h
  exact ⟨A, c, e, FoAt.up hB l A 0 hA⟩
def ExprPost (op n : Int) (l : Fo) (w : World) (e : Ending) (w' : World) : Prop := e = .returned (.tuple #[.string (mk (exprR op n l).1), .int .i64 (exprR op n l).2]) ∧ Below w.heap.size w w'
theorem pexpr_any (op n : Int) (l : Fo) (v : Value) (w : World) (B : Nat) (hv : FoV w B v l) (ht : Tabs B w) :
    Calls Tryz.prog 31 #[.agg #[.int .i64 op, .int .i64 n, v]] w (ExprPost op n l w) := by
  have hv' := hv
  obtain ⟨A, c, rfl, hA⟩ := hv'
  have hBw := ht.2.2.1
  have HA := Lib.hid hv
  have HT := Lib.hid ht
  clear hA ht hv
  have hb0 := (Below.refl w.heap.size w).alloc (Nat.le_refl _) (.cells #[.int .i64 op, .int .i64 n, .slice A (flen l) c] 24)
  have hx0 := World.alloc_heap_new w (.cells #[.int .i64 op, .int .i64 n, .slice A (flen l) c] 24)
  have HB0 := Lib.hid hb0
  have HX0 := Lib.hid hx0
  clear hb0 hx0
  cases hval : validB op n l with
  | false =>
    have hr : exprR op n l = ([], 1) := by simp [exprR, hval]
    have HR := Lib.hid hr
    have HV := Lib.hid hval
    clear hr hval
    go_enter Tryz.func31, Tryz.ntmps31
    go_wp2_with fail
    refine (valid_any op n l (.slice A (flen l) c) _ ((HA.out.on (HB0.out.mono hBw)).up (by simp; omega))).mono ?_
    rintro e w1 ⟨rfl, hb1⟩
    rw [HV.out]
    have HB1 := Lib.hid hb1
    clear hb1
    go_wp2_with fail
    go_ret2
    refine ⟨?_, bthen' HB0.out HB1.out⟩
    rw [HR.out]
    rfl
  | true =>
    have hr : exprR op n l = (textE op n l, 0) := by simp [exprR, hval]
    obtain ⟨hf, hok, hnd⟩ := valid_parts hval
    have hln := textE_len op n l hf hok
    have HR := Lib.hid hr
    have HV := Lib.hid hval
    have HF := Lib.hid hf
    have HO := Lib.hid hok
    clear hr hval hf hok
    go_enter Tryz.func31, Tryz.ntmps31
    go_wp2_with fail
    refine (valid_any op n l (.slice A (flen l) c) _ ((HA.out.on (HB0.out.mono hBw)).up (by simp; omega))).mono ?_
    rintro e w1 ⟨rfl, hb1⟩
    rw [HV.out]
    have hx1 := (hb1.block _ (Array.getElem?_eq_some_iff.1 HX0.out).1).trans HX0.out
    have hbb := bthen' HB0.out hb1
    have e0 : w1.cell? ⟨w.heap.size, 0, none⟩ = some (.int .i64 op) := by rw [Lib.cell_of_heap hx1]; rfl
    have e1 : w1.cell? ⟨w.heap.size, 1, none⟩ = some (.int .i64 n) := by rw [Lib.cell_of_heap hx1]; rfl
    have e2 : w1.cell? ⟨w.heap.size, 2, none⟩ = some (.slice A (flen l) c) := by rw [Lib.cell_of_heap hx1]; rfl
    have hlt := (Array.getElem?_eq_some_iff.1 hx1).1
    have HB1 := Lib.hid hbb
    clear hb1 hx1 hbb
    go_wp2_with fail
    have hW1 := wd_new w1
    have hb2 : Below w.heap.size w (w1.alloc (.cells #[.pointer none, .slice none 0 0] 97)) := HB1.out.alloc HB1.out.size _
    have hsz1 := HB1.out.size
    refine (put_any (op, n) l 0 _ (.slice A (flen l) c) B w1.heap.size [] HF.out HO.out (HA.out.on (hb2.mono hBw)) (by omega) (HT.out.on (hb2.mono hBw)) hW1 (by omega) (by omega) (by have := brk_len (decide (rankOf op < 0)) (textE op n l); simp only [List.nil_append]; omega)).mono ?_
    rintro e w3 ⟨rfl, y1, y2, _⟩
    have hd : decide (rankOf op < 0) = false := by have := rank_le op; simp; omega
    have hb3 : Below w.heap.size w w3 := hb2.trans (y2.mono (by omega))
    dsimp only at y1
    rw [hd, show brk false (textE op n l) = textE op n l from rfl, List.nil_append] at y1
    have HB3 := Lib.hid hb3
    have HW3 := Lib.hid y1
    clear hW1 hb2 y1 y2 hb3 hd e0 e1 e2
    go_wp2_with fail
    refine (wstr_any _ _ _ HW3.out).mono ?_
    rintro e w4 ⟨rfl, hb4⟩
    have HB4 := Lib.hid hb4
    clear hb4
    go_wp2_with fail
    go_ret2
    refine ⟨?_, HB3.out.trans (HB4.out.mono (by omega))⟩
    rw [HR.out]
    rfl
end Go.Proofs.YtomnjamldbficaaGreatDoor
