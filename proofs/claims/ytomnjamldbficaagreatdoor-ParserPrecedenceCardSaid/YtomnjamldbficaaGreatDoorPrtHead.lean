/-
  Several texts in one: PrtHead0, PrtHead.
-/
import Derived.Test.YtomnjamldbficaaGreatDoorPrtRate
namespace Go.Proofs.YtomnjamldbficaaGreatDoor
open Go.RowKit Lx Px
theorem leaf_any (op n : Int) (w : World) : Calls Tryz.prog 57 #[.int .i64 op, .int .i64 n] w fun e w' => e = .returned (.agg #[.int .i64 op, .int .i64 n, .slice none 0 0]) ∧ Below w.heap.size w w' := by
  go_enter Tryz.func57, Tryz.ntmps57
  go_wp2_with fail
  exact bodyPost_ret (v := .agg #[.int .i64 op, .int .i64 n, .slice none 0 0]) (by simp [results, Tryz.results57, go_sem]) rfl ⟨rfl, (Below.refl _ _).alloc (Nat.le_refl _) _⟩
theorem with_any (op : Int) (A : Option Addr) (n c : Nat) (w : World) : Calls Tryz.prog 56 #[.int .i64 op, .slice A n c] w fun e w' => e = .returned (.agg #[.int .i64 op, .int .i64 0, .slice A n c]) ∧ Below w.heap.size w w' := by
  go_enter Tryz.func56, Tryz.ntmps56
  go_wp2_with fail
  exact bodyPost_ret (v := .agg #[.int .i64 op, .int .i64 0, .slice A n c]) (by simp [results, Tryz.results56, go_sem]) rfl ⟨rfl, (Below.refl _ _).alloc (Nat.le_refl _) _⟩
theorem fo_nil (w : World) (B : Nat) : FoV w B (.slice none 0 0) .nil := ⟨none, 0, rfl, trivial⟩
/-- a slice of two expressions in a block -/
theorem fo_two' {w : World} {B g : Nat} {a0 a1 b0 b1 : Int} {sa sb : Value} {la lb : Fo} {t : TypeId} {fz : Nat × Nat} (hx : w.heap[g]? = some (.cells #[.int .i64 a0, .int .i64 a1, sa, .int .i64 b0, .int .i64 b1, sb] t fz)) (ha : FoV w B sa la) (hb : FoV w B sb lb) (hg : g < B) :
    FoV w B (.slice (some ⟨g, 0, none⟩) 2 2) (.node 0 0 (a0, a1) la (.node 0 0 (b0, b1) lb .nil)) := by
  obtain ⟨Aa, ca, rfl, hAa⟩ := ha
  obtain ⟨Ab, cb, rfl, hAb⟩ := hb
  refine ⟨some ⟨g, 0, none⟩, 2, rfl, ⟨⟨_, Aa, ca, rfl, hg, ?_, ?_, ?_, hAa⟩, ⟨_, Ab, cb, rfl, hg, ?_, ?_, ?_, hAb⟩, trivial⟩⟩
  all_goals (first | (rw [show ((⟨g, 0, none⟩ : Addr).add (0 * 3)) = ⟨g, 0, none⟩ from rfl]) | (rw [show ((⟨g, 0, none⟩ : Addr).add ((0 + 1) * 3)) = ⟨g, 3, none⟩ from rfl]))
  all_goals (rw [Lib.cell_of_heap hx]; rfl)
theorem fo_one' {w : World} {B g : Nat} {a0 a1 : Int} {sa : Value} {la : Fo} {t : TypeId} {fz : Nat × Nat} (hx : w.heap[g]? = some (.cells #[.int .i64 a0, .int .i64 a1, sa] t fz)) (ha : FoV w B sa la) (hg : g < B) :
    FoV w B (.slice (some ⟨g, 0, none⟩) 1 1) (.node 0 0 (a0, a1) la .nil) := by
  obtain ⟨Aa, ca, rfl, hAa⟩ := ha
  refine ⟨some ⟨g, 0, none⟩, 1, rfl, ⟨⟨_, Aa, ca, rfl, hg, ?_, ?_, ?_, hAa⟩, trivial⟩⟩
  all_goals (rw [show ((⟨g, 0, none⟩ : Addr).add (0 * 3)) = ⟨g, 0, none⟩ from rfl])
  all_goals (rw [Lib.cell_of_heap hx]; rfl)
/-- a new slice of two expressions -/
theorem fo_two {w : World} {a0 a1 b0 b1 : Int} {sa sb : Value} {la lb : Fo} (ha : FoV w w.heap.size sa la) (hb : FoV w w.heap.size sb lb) :
    FoV (w.alloc (.cells #[.int .i64 a0, .int .i64 a1, sa, .int .i64 b0, .int .i64 b1, sb] 24)) (w.alloc (.cells #[.int .i64 a0, .int .i64 a1, sa, .int .i64 b0, .int .i64 b1, sb] 24)).heap.size (.slice (some ⟨w.heap.size, 0, none⟩) 2 2) (.node 0 0 (a0, a1) la (.node 0 0 (b0, b1) lb .nil)) := by
  have hbel := (Below.refl w.heap.size w).alloc (Nat.le_refl _) (.cells #[.int .i64 a0, .int .i64 a1, sa, .int .i64 b0, .int .i64 b1, sb] 24)
  exact fo_two' (World.alloc_heap_new w _) ((ha.on hbel).up (by simp)) ((hb.on hbel).up (by simp)) (by simp)
theorem fo_one {w : World} {a0 a1 : Int} {sa : Value} {la : Fo} (ha : FoV w w.heap.size sa la) :
    FoV (w.alloc (.cells #[.int .i64 a0, .int .i64 a1, sa] 24)) (w.alloc (.cells #[.int .i64 a0, .int .i64 a1, sa] 24)).heap.size (.slice (some ⟨w.heap.size, 0, none⟩) 1 1) (.node 0 0 (a0, a1) la .nil) := by
  have hbel := (Below.refl w.heap.size w).alloc (Nat.le_refl _) (.cells #[.int .i64 a0, .int .i64 a1, sa] 24)
  exact fo_one' (World.alloc_heap_new w _) ((ha.on hbel).up (by simp)) (by simp)
namespace Px
def lf (op n : Int) (r : Fo) : Fo := .node 0 0 (op, n) .nil r
def dayF (n : Int) : Fo := lf 3 4 (lf 1 n .nil)
end Px
def DayPost (n : Int) (w : World) (e : Ending) (w' : World) : Prop := ∃ g : Nat, e = .returned (.agg #[.int .i64 12, .int .i64 0, .slice (some ⟨g, 0, none⟩) 2 2]) ∧ w.heap.size ≤ g ∧ w'.heap[g]? = some (.cells #[.int .i64 3, .int .i64 4, .slice none 0 0, .int .i64 1, .int .i64 n, .slice none 0 0] 24 (0, 0)) ∧ Below w.heap.size w w'
theorem day_fo {w : World} {g : Nat} {n : Int} {t : TypeId} {fz : Nat × Nat} (h : w.heap[g]? = some (.cells #[.int .i64 3, .int .i64 4, .slice none 0 0, .int .i64 1, .int .i64 n, .slice none 0 0] t fz)) : FoV w w.heap.size (.slice (some ⟨g, 0, none⟩) 2 2) (dayF n) := fo_two' h (fo_nil _ _) (fo_nil _ _) (Array.getElem?_eq_some_iff.1 h).1
theorem day_any (n : Int) (w : World) : Calls Tryz.prog 55 #[.int .i64 n] w (DayPost n w) := by
  go_enter Tryz.func55, Tryz.ntmps55
  go_wp2_with fail
  have hx0 := World.alloc_heap_new w (.cells #[.int .i64 0, .int .i64 0, .slice none 0 0] 24)
  have hb0 := (Below.refl w.heap.size w).alloc (Nat.le_refl _) (.cells #[.int .i64 0, .int .i64 0, .slice none 0 0] 24)
  generalize w.alloc (.cells #[.int .i64 0, .int .i64 0, .slice none 0 0] 24) = W0 at *
  refine (leaf_any 3 4 _).mono ?_
  rintro e w1 ⟨rfl, hb1⟩
  have hx1 := (hb1.block _ (Array.getElem?_eq_some_iff.1 hx0).1).trans hx0
  have hb1' := bthen' hb0 hb1
  have X1 := Lib.hid hx1
  have B1 := Lib.hid hb1'
  clear hx0 hb0 hb1 hx1 hb1'
  go_wp2_with fail
  refine (leaf_any 1 n _).mono ?_
  rintro e w2 ⟨rfl, hb2⟩
  have hx2 := (hb2.block _ (Array.getElem?_eq_some_iff.1 X1.out).1).trans X1.out
  have hb2' := bthen' B1.out hb2
  have X2 := Lib.hid hx2
  have B2 := Lib.hid hb2'
  clear hb2 hx2 hb2' X1 B1
  go_wp2_with fail
  have hg3 := World.alloc_heap_new w2 (.cells #[.int .i64 3, .int .i64 4, .slice none 0 0, .int .i64 1, .int .i64 n, .slice none 0 0] 24)
  have hlt2 : w.heap.size < w2.heap.size := (Array.getElem?_eq_some_iff.1 X2.out).1
  have hx3 := heap_on X2.out (.cells #[.int .i64 3, .int .i64 4, .slice none 0 0, .int .i64 1, .int .i64 n, .slice none 0 0] 24)
  have hb3 := B2.out.alloc B2.out.size (.cells #[.int .i64 3, .int .i64 4, .slice none 0 0, .int .i64 1, .int .i64 n, .slice none 0 0] 24)
  generalize w2.alloc (.cells #[.int .i64 3, .int .i64 4, .slice none 0 0, .int .i64 1, .int .i64 n, .slice none 0 0] 24) = W3 at *
  have X3 := Lib.hid hx3
  have B3 := Lib.hid hb3
  have F3 := Lib.hid hg3
  clear hx3 hb3 hg3 X2 B2
  refine (with_any 12 (some ⟨w2.heap.size, 0, none⟩) 2 2 _).mono ?_
  rintro e w4 ⟨rfl, hb4⟩
  have hx4 := (hb4.block _ (Array.getElem?_eq_some_iff.1 X3.out).1).trans X3.out
  have hb4' := bthen' B3.out hb4
  have hf4 := (hb4.block _ (Array.getElem?_eq_some_iff.1 F3.out).1).trans F3.out
  have r0 : w4.cell? ⟨w.heap.size, 0, none⟩ = some (.int .i64 0) := by rw [Lib.cell_of_heap hx4]; rfl
  have r1 : w4.cell? ⟨w.heap.size, 1, none⟩ = some (.int .i64 0) := by rw [Lib.cell_of_heap hx4]; rfl
  have r2 : w4.cell? ⟨w.heap.size, 2, none⟩ = some (.slice none 0 0) := by rw [Lib.cell_of_heap hx4]; rfl
  have s0 := Lib.frozen_of_heap hx4 0
  have s1 := Lib.frozen_of_heap hx4 1
  have s2 := Lib.frozen_of_heap hx4 2
  have X4 := Lib.hid hx4
  have B4 := Lib.hid hb4'
  have F4 := Lib.hid hf4
  clear hb4 hx4 hb4' hf4 X3 B3 F3
  go_wp2_with fail
  have e0 : (((w4.setCell ⟨w.heap.size, 0, none⟩ (.int .i64 12)).setCell ⟨w.heap.size, 1, none⟩ (.int .i64 0)).setCell ⟨w.heap.size, 2, none⟩ (.slice (some ⟨w2.heap.size, 0, none⟩) 2 2)).heap[w.heap.size]? = some (.cells #[.int .i64 12, .int .i64 0, .slice (some ⟨w2.heap.size, 0, none⟩) 2 2] 24 (0, 0)) := by
    rw [heap_set (heap_set (heap_set X4.out _) _) _]; rfl
  have e1 : (((w4.setCell ⟨w.heap.size, 0, none⟩ (.int .i64 12)).setCell ⟨w.heap.size, 1, none⟩ (.int .i64 0)).setCell ⟨w.heap.size, 2, none⟩ (.slice (some ⟨w2.heap.size, 0, none⟩) 2 2)).heap[w2.heap.size]? = some (.cells #[.int .i64 3, .int .i64 4, .slice none 0 0, .int .i64 1, .int .i64 n, .slice none 0 0] 24 (0, 0)) := by
    have hne : w2.heap.size ≠ w.heap.size := by omega
    rw [heap_set_other hne, heap_set_other hne, heap_set_other hne]; exact F4.out
  have hB5 : Below w.heap.size w (((w4.setCell ⟨w.heap.size, 0, none⟩ (.int .i64 12)).setCell ⟨w.heap.size, 1, none⟩ (.int .i64 0)).setCell ⟨w.heap.size, 2, none⟩ (.slice (some ⟨w2.heap.size, 0, none⟩) 2 2)) :=
    ((B4.out.setCell (p := ⟨w.heap.size, 0, none⟩) (Nat.le_refl _) _).setCell (p := ⟨w.heap.size, 1, none⟩) (Nat.le_refl _) _).setCell (p := ⟨w.heap.size, 2, none⟩) (Nat.le_refl _) _
  have B5 := Lib.hid hB5
  clear hB5 r0 r1 r2 s0 s1 s2
  generalize ((w4.setCell ⟨w.heap.size, 0, none⟩ (.int .i64 12)).setCell ⟨w.heap.size, 1, none⟩ (.int .i64 0)).setCell ⟨w.heap.size, 2, none⟩ (.slice (some ⟨w2.heap.size, 0, none⟩) 2 2) = W5 at *
  have k0 : W5.cell? ⟨w.heap.size, 0, none⟩ = some (.int .i64 12) := by rw [Lib.cell_of_heap e0]; rfl
  have k1 : W5.cell? ⟨w.heap.size, 1, none⟩ = some (.int .i64 0) := by rw [Lib.cell_of_heap e0]; rfl
  have k2 : W5.cell? ⟨w.heap.size, 2, none⟩ = some (.slice (some ⟨w2.heap.size, 0, none⟩) 2 2) := by rw [Lib.cell_of_heap e0]; rfl
  exact bodyPost_ret (v := .agg #[.int .i64 12, .int .i64 0, .slice (some ⟨w2.heap.size, 0, none⟩) 2 2]) (by simp [results, Tryz.results55, go_sem, k0, k1, k2]) rfl ⟨_, rfl, by omega, e1, B5.out⟩
end Go.Proofs.YtomnjamldbficaaGreatDoor
namespace Go.Proofs.YtomnjamldbficaaGreatDoor
open Go.RowKit Lx Px
namespace Px
def sumF : Fo := .node 0 0 (4, 0) (lf 3 1 (lf 1 2 .nil)) (lf 2 1050 .nil)
def subF : Fo := lf 1 1 (.node 0 0 (5, 0) (lf 1 2 (lf 1 3 .nil)) .nil)
def notF : Fo := .node 0 0 (11, 0) (lf 3 2 (lf 1 2 .nil)) .nil
def andF : Fo := .node 0 0 (14, 0) (.node 0 0 (12, 0) (dayF 1) (.node 0 0 (12, 0) (dayF 2) .nil)) (.node 0 0 (12, 0) (dayF 3) .nil)
def rateX (q : Int) : Rt := ⟨1, 2, 3, 4, 5, 6, 7, 8, 3, q, 12, 0, dayF 1, 6, 0, sumF⟩
end Px
theorem tabs_up {B B' : Nat} {w : World} (h : Tabs B w) (h1 : B ≤ B') (h2 : B' ≤ w.heap.size) : Tabs B' w := ⟨tab_up h h1, by have := h.2.1; omega, h2, h.2.2.2⟩
/-- cells stored one behind the other -/
def setAll (w : World) (g : Nat) : Nat → List Value → World
  | _, [] => w
  | i, v :: r => setAll (w.setCell ⟨g, i, none⟩ v) g (i + 1) r
def setCs (cs : Array Value) : Nat → List Value → Array Value
  | _, [] => cs
  | i, v :: r => setCs (cs.setIfInBounds i v) (i + 1) r
theorem setAll_heap {t : TypeId} {fz : Nat × Nat} {g : Nat} : ∀ (l : List Value) (i : Nat) (w : World) (cs : Array Value), w.heap[g]? = some (.cells cs t fz) → (setAll w g i l).heap[g]? = some (.cells (setCs cs i l) t fz) := by
  intro l
  induction l with
  | nil => intro i w cs h; exact h
  | cons v r ih => intro i w cs h; exact ih (i + 1) _ _ (heap_set h v)
theorem setAll_other {g k : Nat} (hk : k ≠ g) : ∀ (l : List Value) (i : Nat) (w : World), (setAll w g i l).heap[k]? = w.heap[k]? := by
  intro l
  induction l with
  | nil => intro i w; rfl
  | cons v r ih => intro i w; exact (ih (i + 1) _).trans (heap_set_other hk v)
theorem setAll_below {B g : Nat} {w0 : World} (hg : B ≤ g) : ∀ (l : List Value) (i : Nat) (w : World), Below B w0 w → Below B w0 (setAll w g i l) := by
  intro l
  induction l with
  | nil => intro i w h; exact h
  | cons v r ih => intro i w h; exact ih (i + 1) _ (h.setCell (p := ⟨g, i, none⟩) hg v)
theorem keep3 {W w' : World} {g : Nat} {a b c : Value} (h : W.cell? ⟨g, 0, none⟩ = some a ∧ W.cell? ⟨g, 1, none⟩ = some b ∧ W.cell? ⟨g, 2, none⟩ = some c) (hb : Below W.heap.size W w') (hg : g < W.heap.size) : w'.cell? ⟨g, 0, none⟩ = some a ∧ w'.cell? ⟨g, 1, none⟩ = some b ∧ w'.cell? ⟨g, 2, none⟩ = some c :=
  ⟨(hb.cell (p := ⟨g, 0, none⟩) hg).trans h.1, (hb.cell (p := ⟨g, 1, none⟩) hg).trans h.2.1, (hb.cell (p := ⟨g, 2, none⟩) hg).trans h.2.2⟩
/-- a rate of the examples in a block, and what its expressions need -/
def HeadR (w : World) (sv : Value) (s13 : Value) (wx : World) : Prop :=
  ∃ g gd : Nat, s13 = .pointer (some ⟨g, 0, none⟩) ∧ wx.heap[g]? = some (.cells #[.int .i64 1, .int .i64 2, .int .i64 3, .int .i64 4, .int .i64 5, .int .i64 6, .int .i64 7, .int .i64 8, .int .i64 3, .int .i64 10, .int .i64 12, .int .i64 0, .slice (some ⟨gd, 0, none⟩) 2 2, .int .i64 6, .int .i64 0, sv] 47 (0, 0)) ∧
    wx.heap[gd]? = some (.cells #[.int .i64 3, .int .i64 4, .slice none 0 0, .int .i64 1, .int .i64 1, .slice none 0 0] 24 (0, 0)) ∧ gd ≠ g ∧ FoV wx g sv sumF ∧ Below w.heap.size w wx ∧ w.heap.size ≤ g
theorem headR_new {w W w' : World} {sv : Value} {gd : Nat} (hb : Below w.heap.size w W) (hs : FoV W W.heap.size sv sumF) (hd : w'.heap[gd]? = some (.cells #[.int .i64 3, .int .i64 4, .slice none 0 0, .int .i64 1, .int .i64 1, .slice none 0 0] 24 (0, 0))) (_hg : W.heap.size ≤ gd) (hb2 : Below W.heap.size W w') :
    HeadR w sv (.pointer (some ⟨w'.heap.size, 0, none⟩)) (w'.alloc (.cells #[.int .i64 1, .int .i64 2, .int .i64 3, .int .i64 4, .int .i64 5, .int .i64 6, .int .i64 7, .int .i64 8, .int .i64 3, .int .i64 10, .int .i64 12, .int .i64 0, .slice (some ⟨gd, 0, none⟩) 2 2, .int .i64 6, .int .i64 0, sv] 47)) := by
  have hlt := (Array.getElem?_eq_some_iff.1 hd).1
  have hz := hb.size
  have hz2 := hb2.size
  have hal := (Below.refl w'.heap.size w').alloc (Nat.le_refl _) (.cells #[.int .i64 1, .int .i64 2, .int .i64 3, .int .i64 4, .int .i64 5, .int .i64 6, .int .i64 7, .int .i64 8, .int .i64 3, .int .i64 10, .int .i64 12, .int .i64 0, .slice (some ⟨gd, 0, none⟩) 2 2, .int .i64 6, .int .i64 0, sv] 47)
  exact ⟨_, gd, rfl, World.alloc_heap_new _ _, heap_on hd _, by omega, ((hs.on hb2).up hz2).on hal, bthen' (bthen' hb hb2) hal, by omega⟩
theorem headR_set {w W w' : World} {sv : Value} {gd : Nat} (hb : Below w.heap.size w W) (hs : FoV W W.heap.size sv sumF) (hd : w'.heap[gd]? = some (.cells #[.int .i64 3, .int .i64 4, .slice none 0 0, .int .i64 1, .int .i64 1, .slice none 0 0] 24 (0, 0))) (hg : (W.alloc (.cells #[.int .i64 0, .int .i64 0, .int .i64 0, .int .i64 0, .int .i64 0, .int .i64 0, .int .i64 0, .int .i64 0, .int .i64 0, .int .i64 0, .int .i64 0, .int .i64 0, .slice none 0 0, .int .i64 0, .int .i64 0, .slice none 0 0] 47)).heap.size ≤ gd) (hb2 : Below (W.alloc (.cells #[.int .i64 0, .int .i64 0, .int .i64 0, .int .i64 0, .int .i64 0, .int .i64 0, .int .i64 0, .int .i64 0, .int .i64 0, .int .i64 0, .int .i64 0, .int .i64 0, .slice none 0 0, .int .i64 0, .int .i64 0, .slice none 0 0] 47)).heap.size (W.alloc (.cells #[.int .i64 0, .int .i64 0, .int .i64 0, .int .i64 0, .int .i64 0, .int .i64 0, .int .i64 0, .int .i64 0, .int .i64 0, .int .i64 0, .int .i64 0, .int .i64 0, .slice none 0 0, .int .i64 0, .int .i64 0, .slice none 0 0] 47)) w') :
    HeadR w sv (.pointer (some ⟨W.heap.size, 0, none⟩)) (setAll w' W.heap.size 0 [.int .i64 1, .int .i64 2, .int .i64 3, .int .i64 4, .int .i64 5, .int .i64 6, .int .i64 7, .int .i64 8, .int .i64 3, .int .i64 10, .int .i64 12, .int .i64 0, .slice (some ⟨gd, 0, none⟩) 2 2, .int .i64 6, .int .i64 0, sv]) := by
  have hz : w'.heap[W.heap.size]? = some (.cells #[.int .i64 0, .int .i64 0, .int .i64 0, .int .i64 0, .int .i64 0, .int .i64 0, .int .i64 0, .int .i64 0, .int .i64 0, .int .i64 0, .int .i64 0, .int .i64 0, .slice none 0 0, .int .i64 0, .int .i64 0, .slice none 0 0] 47 (0, 0)) := (hb2.block W.heap.size (by simp)).trans (World.alloc_heap_new W _)
  have hzz := hb.size
  have hne : gd ≠ W.heap.size := by simp at hg; omega
  have hbW : Below W.heap.size W w' := ((Below.refl W.heap.size W).alloc (Nat.le_refl _) _).trans (hb2.mono (by simp))
  have hbS := setAll_below (Nat.le_refl W.heap.size) [.int .i64 1, .int .i64 2, .int .i64 3, .int .i64 4, .int .i64 5, .int .i64 6, .int .i64 7, .int .i64 8, .int .i64 3, .int .i64 10, .int .i64 12, .int .i64 0, .slice (some ⟨gd, 0, none⟩) 2 2, .int .i64 6, .int .i64 0, sv] 0 w' hbW
  have hA := setAll_heap [.int .i64 1, .int .i64 2, .int .i64 3, .int .i64 4, .int .i64 5, .int .i64 6, .int .i64 7, .int .i64 8, .int .i64 3, .int .i64 10, .int .i64 12, .int .i64 0, .slice (some ⟨gd, 0, none⟩) 2 2, .int .i64 6, .int .i64 0, sv] 0 w' _ hz
  have hc : setCs #[.int .i64 0, .int .i64 0, .int .i64 0, .int .i64 0, .int .i64 0, .int .i64 0, .int .i64 0, .int .i64 0, .int .i64 0, .int .i64 0, .int .i64 0, .int .i64 0, .slice none 0 0, .int .i64 0, .int .i64 0, .slice none 0 0] 0 [.int .i64 1, .int .i64 2, .int .i64 3, .int .i64 4, .int .i64 5, .int .i64 6, .int .i64 7, .int .i64 8, .int .i64 3, .int .i64 10, .int .i64 12, .int .i64 0, .slice (some ⟨gd, 0, none⟩) 2 2, .int .i64 6, .int .i64 0, sv] = #[.int .i64 1, .int .i64 2, .int .i64 3, .int .i64 4, .int .i64 5, .int .i64 6, .int .i64 7, .int .i64 8, .int .i64 3, .int .i64 10, .int .i64 12, .int .i64 0, .slice (some ⟨gd, 0, none⟩) 2 2, .int .i64 6, .int .i64 0, sv] := by kernel_rfl
  rw [hc] at hA
  refine ⟨W.heap.size, gd, rfl, hA, ?_, hne, ?_, ?_, hzz⟩
  · exact (setAll_other hne _ 0 w').trans hd
  · exact hs.on hbS
  · exact bthen' hb hbS
theorem zrate {W1 w' : World} (hb : Below (W1.alloc (.cells #[.int .i64 0, .int .i64 0, .int .i64 0, .int .i64 0, .int .i64 0, .int .i64 0, .int .i64 0, .int .i64 0, .int .i64 0, .int .i64 0, .int .i64 0, .int .i64 0, .slice none 0 0, .int .i64 0, .int .i64 0, .slice none 0 0] 47)).heap.size (W1.alloc (.cells #[.int .i64 0, .int .i64 0, .int .i64 0, .int .i64 0, .int .i64 0, .int .i64 0, .int .i64 0, .int .i64 0, .int .i64 0, .int .i64 0, .int .i64 0, .int .i64 0, .slice none 0 0, .int .i64 0, .int .i64 0, .slice none 0 0] 47)).drew w') :
    w'.cell? ⟨W1.heap.size, 0, none⟩ = some (.int .i64 0) ∧ w'.cell? ⟨W1.heap.size, 1, none⟩ = some (.int .i64 0) ∧ w'.cell? ⟨W1.heap.size, 2, none⟩ = some (.int .i64 0) ∧ w'.cell? ⟨W1.heap.size, 3, none⟩ = some (.int .i64 0) ∧ w'.cell? ⟨W1.heap.size, 4, none⟩ = some (.int .i64 0) ∧ w'.cell? ⟨W1.heap.size, 5, none⟩ = some (.int .i64 0) ∧ w'.cell? ⟨W1.heap.size, 6, none⟩ = some (.int .i64 0) ∧ w'.cell? ⟨W1.heap.size, 7, none⟩ = some (.int .i64 0) ∧ w'.cell? ⟨W1.heap.size, 8, none⟩ = some (.int .i64 0) ∧ w'.cell? ⟨W1.heap.size, 9, none⟩ = some (.int .i64 0) ∧ w'.cell? ⟨W1.heap.size, 10, none⟩ = some (.int .i64 0) ∧ w'.cell? ⟨W1.heap.size, 11, none⟩ = some (.int .i64 0) ∧ w'.cell? ⟨W1.heap.size, 12, none⟩ = some (.slice none 0 0) ∧ w'.cell? ⟨W1.heap.size, 13, none⟩ = some (.int .i64 0) ∧ w'.cell? ⟨W1.heap.size, 14, none⟩ = some (.int .i64 0) ∧ w'.cell? ⟨W1.heap.size, 15, none⟩ = some (.slice none 0 0) ∧ w'.frozen? ⟨W1.heap.size, 0, none⟩ = false ∧ w'.frozen? ⟨W1.heap.size, 1, none⟩ = false ∧ w'.frozen? ⟨W1.heap.size, 2, none⟩ = false ∧ w'.frozen? ⟨W1.heap.size, 3, none⟩ = false ∧ w'.frozen? ⟨W1.heap.size, 4, none⟩ = false ∧ w'.frozen? ⟨W1.heap.size, 5, none⟩ = false ∧ w'.frozen? ⟨W1.heap.size, 6, none⟩ = false ∧ w'.frozen? ⟨W1.heap.size, 7, none⟩ = false ∧ w'.frozen? ⟨W1.heap.size, 8, none⟩ = false ∧ w'.frozen? ⟨W1.heap.size, 9, none⟩ = false ∧ w'.frozen? ⟨W1.heap.size, 10, none⟩ = false ∧ w'.frozen? ⟨W1.heap.size, 11, none⟩ = false ∧ w'.frozen? ⟨W1.heap.size, 12, none⟩ = false ∧ w'.frozen? ⟨W1.heap.size, 13, none⟩ = false ∧ w'.frozen? ⟨W1.heap.size, 14, none⟩ = false ∧ w'.frozen? ⟨W1.heap.size, 15, none⟩ = false := by
  have h : w'.heap[W1.heap.size]? = some (.cells #[.int .i64 0, .int .i64 0, .int .i64 0, .int .i64 0, .int .i64 0, .int .i64 0, .int .i64 0, .int .i64 0, .int .i64 0, .int .i64 0, .int .i64 0, .int .i64 0, .slice none 0 0, .int .i64 0, .int .i64 0, .slice none 0 0] 47 (0, 0)) := (hb.block W1.heap.size (by simp)).trans (World.alloc_heap_new W1 _)
  have f := Lib.frozen_of_heap h
  exact ⟨by rw [Lib.cell_of_heap h]; rfl, by rw [Lib.cell_of_heap h]; rfl, by rw [Lib.cell_of_heap h]; rfl, by rw [Lib.cell_of_heap h]; rfl, by rw [Lib.cell_of_heap h]; rfl, by rw [Lib.cell_of_heap h]; rfl, by rw [Lib.cell_of_heap h]; rfl, by rw [Lib.cell_of_heap h]; rfl, by rw [Lib.cell_of_heap h]; rfl, by rw [Lib.cell_of_heap h]; rfl, by rw [Lib.cell_of_heap h]; rfl, by rw [Lib.cell_of_heap h]; rfl, by rw [Lib.cell_of_heap h]; rfl, by rw [Lib.cell_of_heap h]; rfl, by rw [Lib.cell_of_heap h]; rfl, by rw [Lib.cell_of_heap h]; rfl, f 0, f 1, f 2, f 3, f 4, f 5, f 6, f 7, f 8, f 9, f 10, f 11, f 12, f 13, f 14, f 15⟩
set_option maxRecDepth 100000 in
set_option maxHeartbeats 4000000 in
theorem head_any (w : World) (B : Nat) (ht : Tabs B w) : Calls Tryz.prog 30 #[] w fun e w' => e = .returned (.bool true) ∧ Below w.heap.size w w' := by
  have hBw := ht.2.2.1
  have HT := Lib.hid ht
  have B0 := Lib.hid (Below.refl w.heap.size w)
  clear ht
  go_enter Tryz.func30, Tryz.ntmps30
  go_wp2_with fail
  refine (leaf_any 3 1 _).mono ?_
  rintro e w1 ⟨rfl, hb⟩
  have B1 := Lib.hid (bthen' B0.out hb)
  clear B0
  clear hb
  go_wp2_with fail
  refine (leaf_any 1 2 _).mono ?_
  rintro e w2 ⟨rfl, hb⟩
  have B2 := Lib.hid (bthen' B1.out hb)
  clear B1
  clear hb
  go_wp2_with fail
  have hf := fo_two (w := w2) (a0 := 3) (a1 := 1) (b0 := 1) (b1 := 2) (sa := .slice none 0 0) (sb := .slice none 0 0) (fo_nil _ _) (fo_nil _ _)
  have hb := (Below.refl w2.heap.size w2).alloc (Nat.le_refl _) (.cells #[.int .i64 3, .int .i64 1, .slice none 0 0, .int .i64 1, .int .i64 2, .slice none 0 0] 24)
  generalize w2.alloc (.cells #[.int .i64 3, .int .i64 1, .slice none 0 0, .int .i64 1, .int .i64 2, .slice none 0 0] 24) = w3 at *
  have B3 := Lib.hid (bthen' B2.out hb)
  clear B2
  have F3_3 := Lib.hid hf
  clear hf hb
  go_wp2_with fail
  refine (with_any 4 (some ⟨w2.heap.size, 0, none⟩) 2 2 _).mono ?_
  rintro e w4 ⟨rfl, hb⟩
  have B4 := Lib.hid (bthen' B3.out hb)
  have F3_4 := Lib.hid ((F3_3.out.on hb).up (Below.size hb))
  clear B3 F3_3
  clear hb
  go_wp2_with fail
  refine (leaf_any 2 1050 _).mono ?_
  rintro e w5 ⟨rfl, hb⟩
  have B5 := Lib.hid (bthen' B4.out hb)
  have F3_5 := Lib.hid ((F3_4.out.on hb).up (Below.size hb))
  clear B4 F3_4
  clear hb
  go_wp2_with fail
  have hf := fo_two (w := w5) (a0 := 4) (a1 := 0) (b0 := 2) (b1 := 1050) (sa := .slice (some ⟨w2.heap.size, 0, none⟩) 2 2) (sb := .slice none 0 0) F3_5.out (fo_nil _ _)
  have hb := (Below.refl w5.heap.size w5).alloc (Nat.le_refl _) (.cells #[.int .i64 4, .int .i64 0, .slice (some ⟨w2.heap.size, 0, none⟩) 2 2, .int .i64 2, .int .i64 1050, .slice none 0 0] 24)
  generalize w5.alloc (.cells #[.int .i64 4, .int .i64 0, .slice (some ⟨w2.heap.size, 0, none⟩) 2 2, .int .i64 2, .int .i64 1050, .slice none 0 0] 24) = w6 at *
  have B6 := Lib.hid (bthen' B5.out hb)
  have F3_6 := Lib.hid ((F3_5.out.on hb).up (Below.size hb))
  clear B5 F3_5
  clear F3_6
  have F6_6 := Lib.hid hf
  clear hf hb
  go_wp2_with fail
  refine (with_any 6 (some ⟨w5.heap.size, 0, none⟩) 2 2 _).mono ?_
  rintro e w7 ⟨rfl, hb⟩
  have B7 := Lib.hid (bthen' B6.out hb)
  have F6_7 := Lib.hid ((F6_6.out.on hb).up (Below.size hb))
  clear B6 F6_6
  clear hb
  go_wp2_with fail
  have hx := World.alloc_heap_new w7 (.cells #[.int .i64 6, .int .i64 0, .slice (some ⟨w5.heap.size, 0, none⟩) 2 2] 24)
  have hb := (Below.refl w7.heap.size w7).alloc (Nat.le_refl _) (.cells #[.int .i64 6, .int .i64 0, .slice (some ⟨w5.heap.size, 0, none⟩) 2 2] 24)
  generalize w7.alloc (.cells #[.int .i64 6, .int .i64 0, .slice (some ⟨w5.heap.size, 0, none⟩) 2 2] 24) = w8 at *
  have B8 := Lib.hid (bthen' B7.out hb)
  have F6_8 := Lib.hid ((F6_7.out.on hb).up (Below.size hb))
  clear B7 F6_7
  have X8_8 := Lib.hid hx
  clear hb hx
  have hx0 : exprR 6 0 (sumF) = ([40, 110, 105, 103, 104, 116, 115, 32, 43, 32, 50, 41, 32, 42, 32, 49, 48, 46, 53, 48], 0) := by decide +kernel
  have hx : mk (exprR 6 0 (sumF)).1 = ⟨#[40, 110, 105, 103, 104, 116, 115, 32, 43, 32, 50, 41, 32, 42, 32, 49, 48, 46, 53, 48]⟩ ∧ (exprR 6 0 (sumF)).2 = 0 := by rw [hx0]; exact ⟨rfl, rfl⟩
  clear hx0
  have HX := Lib.hid hx
  clear hx
  have hsz := Below.size B8.out
  have hvv : FoV w8 w8.heap.size (.slice (some ⟨w5.heap.size, 0, none⟩) 2 2) (sumF) := F6_8.out
  have HV := Lib.hid hvv
  clear hvv
  go_wp2_with fail
  refine (pexpr_any 6 0 (sumF) (.slice (some ⟨w5.heap.size, 0, none⟩) 2 2) _ w8.heap.size HV.out (tabs_up (HT.out.on (B8.out.mono hBw)) (by omega) (Nat.le_refl _))).mono ?_
  rintro e w9 ⟨rfl, hb⟩
  rw [HX.out.1, HX.out.2]
  clear HX HV hsz
  have B9 := Lib.hid (bthen' B8.out hb)
  have F6_9 := Lib.hid ((F6_8.out.on hb).up (Below.size hb))
  have X8_9 := Lib.hid ((hb.block _ (Array.getElem?_eq_some_iff.1 X8_8.out).1).trans X8_8.out)
  clear B8 F6_8 X8_8
  clear hb
  go_wp2_with fail
  refine (leaf_any 1 1 _).mono ?_
  rintro e w10 ⟨rfl, hb⟩
  have B10 := Lib.hid (bthen' B9.out hb)
  have F6_10 := Lib.hid ((F6_9.out.on hb).up (Below.size hb))
  have X8_10 := Lib.hid ((hb.block _ (Array.getElem?_eq_some_iff.1 X8_9.out).1).trans X8_9.out)
  clear B9 F6_9 X8_9
  clear hb
  go_wp2_with fail
  refine (leaf_any 1 2 _).mono ?_
  rintro e w11 ⟨rfl, hb⟩
  have B11 := Lib.hid (bthen' B10.out hb)
  have F6_11 := Lib.hid ((F6_10.out.on hb).up (Below.size hb))
  have X8_11 := Lib.hid ((hb.block _ (Array.getElem?_eq_some_iff.1 X8_10.out).1).trans X8_10.out)
  clear B10 F6_10 X8_10
  clear hb
  go_wp2_with fail
  refine (leaf_any 1 3 _).mono ?_
  rintro e w12 ⟨rfl, hb⟩
  have B12 := Lib.hid (bthen' B11.out hb)
  have F6_12 := Lib.hid ((F6_11.out.on hb).up (Below.size hb))
  have X8_12 := Lib.hid ((hb.block _ (Array.getElem?_eq_some_iff.1 X8_11.out).1).trans X8_11.out)
  clear B11 F6_11 X8_11
  clear hb
  go_wp2_with fail
  have hf := fo_two (w := w12) (a0 := 1) (a1 := 2) (b0 := 1) (b1 := 3) (sa := .slice none 0 0) (sb := .slice none 0 0) (fo_nil _ _) (fo_nil _ _)
  have hb := (Below.refl w12.heap.size w12).alloc (Nat.le_refl _) (.cells #[.int .i64 1, .int .i64 2, .slice none 0 0, .int .i64 1, .int .i64 3, .slice none 0 0] 24)
  generalize w12.alloc (.cells #[.int .i64 1, .int .i64 2, .slice none 0 0, .int .i64 1, .int .i64 3, .slice none 0 0] 24) = w13 at *
  have B13 := Lib.hid (bthen' B12.out hb)
  have F6_13 := Lib.hid ((F6_12.out.on hb).up (Below.size hb))
  have X8_13 := Lib.hid ((hb.block _ (Array.getElem?_eq_some_iff.1 X8_12.out).1).trans X8_12.out)
  clear B12 F6_12 X8_12
  have F13_13 := Lib.hid hf
  clear hf hb
  go_wp2_with fail
  refine (with_any 5 (some ⟨w12.heap.size, 0, none⟩) 2 2 _).mono ?_
  rintro e w14 ⟨rfl, hb⟩
  have B14 := Lib.hid (bthen' B13.out hb)
  have F6_14 := Lib.hid ((F6_13.out.on hb).up (Below.size hb))
  have F13_14 := Lib.hid ((F13_13.out.on hb).up (Below.size hb))
  have X8_14 := Lib.hid ((hb.block _ (Array.getElem?_eq_some_iff.1 X8_13.out).1).trans X8_13.out)
  clear B13 F6_13 F13_13 X8_13
  clear hb
  go_wp2_with fail
  have hf := fo_two (w := w14) (a0 := 1) (a1 := 1) (b0 := 5) (b1 := 0) (sa := .slice none 0 0) (sb := .slice (some ⟨w12.heap.size, 0, none⟩) 2 2) (fo_nil _ _) F13_14.out
  have hb := (Below.refl w14.heap.size w14).alloc (Nat.le_refl _) (.cells #[.int .i64 1, .int .i64 1, .slice none 0 0, .int .i64 5, .int .i64 0, .slice (some ⟨w12.heap.size, 0, none⟩) 2 2] 24)
  generalize w14.alloc (.cells #[.int .i64 1, .int .i64 1, .slice none 0 0, .int .i64 5, .int .i64 0, .slice (some ⟨w12.heap.size, 0, none⟩) 2 2] 24) = w15 at *
  have B15 := Lib.hid (bthen' B14.out hb)
  have F6_15 := Lib.hid ((F6_14.out.on hb).up (Below.size hb))
  have F13_15 := Lib.hid ((F13_14.out.on hb).up (Below.size hb))
  have X8_15 := Lib.hid ((hb.block _ (Array.getElem?_eq_some_iff.1 X8_14.out).1).trans X8_14.out)
  clear B14 F6_14 F13_14 X8_14
  clear F13_15
  have F15_15 := Lib.hid hf
  clear hf hb
  go_wp2_with fail
  refine (with_any 5 (some ⟨w14.heap.size, 0, none⟩) 2 2 _).mono ?_
  rintro e w16 ⟨rfl, hb⟩
  have B16 := Lib.hid (bthen' B15.out hb)
  have F6_16 := Lib.hid ((F6_15.out.on hb).up (Below.size hb))
  have F15_16 := Lib.hid ((F15_15.out.on hb).up (Below.size hb))
  have X8_16 := Lib.hid ((hb.block _ (Array.getElem?_eq_some_iff.1 X8_15.out).1).trans X8_15.out)
  clear B15 F6_15 F15_15 X8_15
  clear hb
  have hx0 : exprR 5 0 (subF) = ([49, 32, 45, 32, 40, 50, 32, 45, 32, 51, 41], 0) := by decide +kernel
  have hx : mk (exprR 5 0 (subF)).1 = ⟨#[49, 32, 45, 32, 40, 50, 32, 45, 32, 51, 41]⟩ ∧ (exprR 5 0 (subF)).2 = 0 := by rw [hx0]; exact ⟨rfl, rfl⟩
  clear hx0
  have HX := Lib.hid hx
  clear hx
  have hsz := Below.size B16.out
  have hvv : FoV w16 w16.heap.size (.slice (some ⟨w14.heap.size, 0, none⟩) 2 2) (subF) := F15_16.out
  have HV := Lib.hid hvv
  clear hvv
  go_wp2_with fail
  refine (pexpr_any 5 0 (subF) (.slice (some ⟨w14.heap.size, 0, none⟩) 2 2) _ w16.heap.size HV.out (tabs_up (HT.out.on (B16.out.mono hBw)) (by omega) (Nat.le_refl _))).mono ?_
  rintro e w17 ⟨rfl, hb⟩
  rw [HX.out.1, HX.out.2]
  clear HX HV hsz
  have B17 := Lib.hid (bthen' B16.out hb)
  have F6_17 := Lib.hid ((F6_16.out.on hb).up (Below.size hb))
  have F15_17 := Lib.hid ((F15_16.out.on hb).up (Below.size hb))
  have X8_17 := Lib.hid ((hb.block _ (Array.getElem?_eq_some_iff.1 X8_16.out).1).trans X8_16.out)
  clear B16 F6_16 F15_16 X8_16
  clear hb
  clear F15_17
  go_wp2_with fail
  refine (leaf_any 3 2 _).mono ?_
  rintro e w18 ⟨rfl, hb⟩
  have B18 := Lib.hid (bthen' B17.out hb)
  have F6_18 := Lib.hid ((F6_17.out.on hb).up (Below.size hb))
  have X8_18 := Lib.hid ((hb.block _ (Array.getElem?_eq_some_iff.1 X8_17.out).1).trans X8_17.out)
  clear B17 F6_17 X8_17
  clear hb
  go_wp2_with fail
  refine (leaf_any 1 2 _).mono ?_
  rintro e w19 ⟨rfl, hb⟩
  have B19 := Lib.hid (bthen' B18.out hb)
  have F6_19 := Lib.hid ((F6_18.out.on hb).up (Below.size hb))
  have X8_19 := Lib.hid ((hb.block _ (Array.getElem?_eq_some_iff.1 X8_18.out).1).trans X8_18.out)
  clear B18 F6_18 X8_18
  clear hb
  go_wp2_with fail
  have hf := fo_two (w := w19) (a0 := 3) (a1 := 2) (b0 := 1) (b1 := 2) (sa := .slice none 0 0) (sb := .slice none 0 0) (fo_nil _ _) (fo_nil _ _)
  have hb := (Below.refl w19.heap.size w19).alloc (Nat.le_refl _) (.cells #[.int .i64 3, .int .i64 2, .slice none 0 0, .int .i64 1, .int .i64 2, .slice none 0 0] 24)
  generalize w19.alloc (.cells #[.int .i64 3, .int .i64 2, .slice none 0 0, .int .i64 1, .int .i64 2, .slice none 0 0] 24) = w20 at *
  have B20 := Lib.hid (bthen' B19.out hb)
  have F6_20 := Lib.hid ((F6_19.out.on hb).up (Below.size hb))
  have X8_20 := Lib.hid ((hb.block _ (Array.getElem?_eq_some_iff.1 X8_19.out).1).trans X8_19.out)
  clear B19 F6_19 X8_19
  have F20_20 := Lib.hid hf
  clear hf hb
  go_wp2_with fail
  refine (with_any 11 (some ⟨w19.heap.size, 0, none⟩) 2 2 _).mono ?_
  rintro e w21 ⟨rfl, hb⟩
  have B21 := Lib.hid (bthen' B20.out hb)
  have F6_21 := Lib.hid ((F6_20.out.on hb).up (Below.size hb))
  have F20_21 := Lib.hid ((F20_20.out.on hb).up (Below.size hb))
  have X8_21 := Lib.hid ((hb.block _ (Array.getElem?_eq_some_iff.1 X8_20.out).1).trans X8_20.out)
  clear B20 F6_20 F20_20 X8_20
  clear hb
  go_wp2_with fail
  have hf := fo_one (w := w21) (a0 := 11) (a1 := 0) (sa := .slice (some ⟨w19.heap.size, 0, none⟩) 2 2) F20_21.out
  have hb := (Below.refl w21.heap.size w21).alloc (Nat.le_refl _) (.cells #[.int .i64 11, .int .i64 0, .slice (some ⟨w19.heap.size, 0, none⟩) 2 2] 24)
  generalize w21.alloc (.cells #[.int .i64 11, .int .i64 0, .slice (some ⟨w19.heap.size, 0, none⟩) 2 2] 24) = w22 at *
  have B22 := Lib.hid (bthen' B21.out hb)
  have F6_22 := Lib.hid ((F6_21.out.on hb).up (Below.size hb))
  have F20_22 := Lib.hid ((F20_21.out.on hb).up (Below.size hb))
  have X8_22 := Lib.hid ((hb.block _ (Array.getElem?_eq_some_iff.1 X8_21.out).1).trans X8_21.out)
  clear B21 F6_21 F20_21 X8_21
  clear F20_22
  have F22_22 := Lib.hid hf
  clear hf hb
  go_wp2_with fail
  refine (with_any 15 (some ⟨w21.heap.size, 0, none⟩) 1 1 _).mono ?_
  rintro e w23 ⟨rfl, hb⟩
  have B23 := Lib.hid (bthen' B22.out hb)
  have F6_23 := Lib.hid ((F6_22.out.on hb).up (Below.size hb))
  have F22_23 := Lib.hid ((F22_22.out.on hb).up (Below.size hb))
  have X8_23 := Lib.hid ((hb.block _ (Array.getElem?_eq_some_iff.1 X8_22.out).1).trans X8_22.out)
  clear B22 F6_22 F22_22 X8_22
  clear hb
  have hx0 : exprR 15 0 (notF) = ([110, 111, 116, 32, 112, 101, 114, 115, 111, 110, 115, 32, 60, 32, 50], 0) := by decide +kernel
  have hx : mk (exprR 15 0 (notF)).1 = ⟨#[110, 111, 116, 32, 112, 101, 114, 115, 111, 110, 115, 32, 60, 32, 50]⟩ ∧ (exprR 15 0 (notF)).2 = 0 := by rw [hx0]; exact ⟨rfl, rfl⟩
  clear hx0
  have HX := Lib.hid hx
  clear hx
  have hsz := Below.size B23.out
  have hvv : FoV w23 w23.heap.size (.slice (some ⟨w21.heap.size, 0, none⟩) 1 1) (notF) := F22_23.out
  have HV := Lib.hid hvv
  clear hvv
  go_wp2_with fail
  refine (pexpr_any 15 0 (notF) (.slice (some ⟨w21.heap.size, 0, none⟩) 1 1) _ w23.heap.size HV.out (tabs_up (HT.out.on (B23.out.mono hBw)) (by omega) (Nat.le_refl _))).mono ?_
  rintro e w24 ⟨rfl, hb⟩
  rw [HX.out.1, HX.out.2]
  clear HX HV hsz
  have B24 := Lib.hid (bthen' B23.out hb)
  have F6_24 := Lib.hid ((F6_23.out.on hb).up (Below.size hb))
  have F22_24 := Lib.hid ((F22_23.out.on hb).up (Below.size hb))
  have X8_24 := Lib.hid ((hb.block _ (Array.getElem?_eq_some_iff.1 X8_23.out).1).trans X8_23.out)
  clear B23 F6_23 F22_23 X8_23
  clear hb
  clear F22_24
  go_wp2_with fail
  refine (day_any 1 _).mono ?_
  rintro e w25 ⟨g25, rfl, hg, hx, hb⟩
  have B25 := Lib.hid (bthen' B24.out hb)
  have F6_25 := Lib.hid ((F6_24.out.on hb).up (Below.size hb))
  have X8_25 := Lib.hid ((hb.block _ (Array.getElem?_eq_some_iff.1 X8_24.out).1).trans X8_24.out)
  clear B24 F6_24 X8_24
  have F25_25 := Lib.hid (day_fo hx)
  clear hx hg hb
  go_wp2_with fail
  refine (day_any 2 _).mono ?_
  rintro e w26 ⟨g26, rfl, hg, hx, hb⟩
  have B26 := Lib.hid (bthen' B25.out hb)
  have F6_26 := Lib.hid ((F6_25.out.on hb).up (Below.size hb))
  have F25_26 := Lib.hid ((F25_25.out.on hb).up (Below.size hb))
  have X8_26 := Lib.hid ((hb.block _ (Array.getElem?_eq_some_iff.1 X8_25.out).1).trans X8_25.out)
  clear B25 F6_25 F25_25 X8_25
  have F26_26 := Lib.hid (day_fo hx)
  clear hx hg hb
  go_wp2_with fail
  have hf := fo_two (w := w26) (a0 := 12) (a1 := 0) (b0 := 12) (b1 := 0) (sa := .slice (some ⟨g25, 0, none⟩) 2 2) (sb := .slice (some ⟨g26, 0, none⟩) 2 2) F25_26.out F26_26.out
  have hb := (Below.refl w26.heap.size w26).alloc (Nat.le_refl _) (.cells #[.int .i64 12, .int .i64 0, .slice (some ⟨g25, 0, none⟩) 2 2, .int .i64 12, .int .i64 0, .slice (some ⟨g26, 0, none⟩) 2 2] 24)
  generalize w26.alloc (.cells #[.int .i64 12, .int .i64 0, .slice (some ⟨g25, 0, none⟩) 2 2, .int .i64 12, .int .i64 0, .slice (some ⟨g26, 0, none⟩) 2 2] 24) = w27 at *
  have B27 := Lib.hid (bthen' B26.out hb)
  have F6_27 := Lib.hid ((F6_26.out.on hb).up (Below.size hb))
  have F25_27 := Lib.hid ((F25_26.out.on hb).up (Below.size hb))
  have F26_27 := Lib.hid ((F26_26.out.on hb).up (Below.size hb))
  have X8_27 := Lib.hid ((hb.block _ (Array.getElem?_eq_some_iff.1 X8_26.out).1).trans X8_26.out)
  clear B26 F6_26 F25_26 F26_26 X8_26
  clear F25_27
  clear F26_27
  have F27_27 := Lib.hid hf
  clear hf hb
  go_wp2_with fail
  refine (with_any 14 (some ⟨w26.heap.size, 0, none⟩) 2 2 _).mono ?_
  rintro e w28 ⟨rfl, hb⟩
  have B28 := Lib.hid (bthen' B27.out hb)
  have F6_28 := Lib.hid ((F6_27.out.on hb).up (Below.size hb))
  have F27_28 := Lib.hid ((F27_27.out.on hb).up (Below.size hb))
  have X8_28 := Lib.hid ((hb.block _ (Array.getElem?_eq_some_iff.1 X8_27.out).1).trans X8_27.out)
  clear B27 F6_27 F27_27 X8_27
  clear hb
  go_wp2_with fail
  refine (day_any 3 _).mono ?_
  rintro e w29 ⟨g29, rfl, hg, hx, hb⟩
  have B29 := Lib.hid (bthen' B28.out hb)
  have F6_29 := Lib.hid ((F6_28.out.on hb).up (Below.size hb))
  have F27_29 := Lib.hid ((F27_28.out.on hb).up (Below.size hb))
  have X8_29 := Lib.hid ((hb.block _ (Array.getElem?_eq_some_iff.1 X8_28.out).1).trans X8_28.out)
  clear B28 F6_28 F27_28 X8_28
  have F29_29 := Lib.hid (day_fo hx)
  clear hx hg hb
  go_wp2_with fail
  have hf := fo_two (w := w29) (a0 := 14) (a1 := 0) (b0 := 12) (b1 := 0) (sa := .slice (some ⟨w26.heap.size, 0, none⟩) 2 2) (sb := .slice (some ⟨g29, 0, none⟩) 2 2) F27_29.out F29_29.out
  have hb := (Below.refl w29.heap.size w29).alloc (Nat.le_refl _) (.cells #[.int .i64 14, .int .i64 0, .slice (some ⟨w26.heap.size, 0, none⟩) 2 2, .int .i64 12, .int .i64 0, .slice (some ⟨g29, 0, none⟩) 2 2] 24)
  generalize w29.alloc (.cells #[.int .i64 14, .int .i64 0, .slice (some ⟨w26.heap.size, 0, none⟩) 2 2, .int .i64 12, .int .i64 0, .slice (some ⟨g29, 0, none⟩) 2 2] 24) = w30 at *
  have B30 := Lib.hid (bthen' B29.out hb)
  have F6_30 := Lib.hid ((F6_29.out.on hb).up (Below.size hb))
  have F27_30 := Lib.hid ((F27_29.out.on hb).up (Below.size hb))
  have F29_30 := Lib.hid ((F29_29.out.on hb).up (Below.size hb))
  have X8_30 := Lib.hid ((hb.block _ (Array.getElem?_eq_some_iff.1 X8_29.out).1).trans X8_29.out)
  clear B29 F6_29 F27_29 F29_29 X8_29
  clear F27_30
  clear F29_30
  have F30_30 := Lib.hid hf
  clear hf hb
  go_wp2_with fail
  refine (with_any 13 (some ⟨w29.heap.size, 0, none⟩) 2 2 _).mono ?_
  rintro e w31 ⟨rfl, hb⟩
  have B31 := Lib.hid (bthen' B30.out hb)
  have F6_31 := Lib.hid ((F6_30.out.on hb).up (Below.size hb))
  have F30_31 := Lib.hid ((F30_30.out.on hb).up (Below.size hb))
  have X8_31 := Lib.hid ((hb.block _ (Array.getElem?_eq_some_iff.1 X8_30.out).1).trans X8_30.out)
  clear B30 F6_30 F30_30 X8_30
  clear hb
  have hx0 : exprR 13 0 (andF) = ([40, 119, 101, 101, 107, 100, 97, 121, 32, 61, 32, 49, 32, 111, 114, 32, 119, 101, 101, 107, 100, 97, 121, 32, 61, 32, 50, 41, 32, 97, 110, 100, 32, 119, 101, 101, 107, 100, 97, 121, 32, 61, 32, 51], 0) := by decide +kernel
  have hx : mk (exprR 13 0 (andF)).1 = ⟨#[40, 119, 101, 101, 107, 100, 97, 121, 32, 61, 32, 49, 32, 111, 114, 32, 119, 101, 101, 107, 100, 97, 121, 32, 61, 32, 50, 41, 32, 97, 110, 100, 32, 119, 101, 101, 107, 100, 97, 121, 32, 61, 32, 51]⟩ ∧ (exprR 13 0 (andF)).2 = 0 := by rw [hx0]; exact ⟨rfl, rfl⟩
  clear hx0
  have HX := Lib.hid hx
  clear hx
  have hsz := Below.size B31.out
  have hvv : FoV w31 w31.heap.size (.slice (some ⟨w29.heap.size, 0, none⟩) 2 2) (andF) := F30_31.out
  have HV := Lib.hid hvv
  clear hvv
  go_wp2_with fail
  refine (pexpr_any 13 0 (andF) (.slice (some ⟨w29.heap.size, 0, none⟩) 2 2) _ w31.heap.size HV.out (tabs_up (HT.out.on (B31.out.mono hBw)) (by omega) (Nat.le_refl _))).mono ?_
  rintro e w32 ⟨rfl, hb⟩
  rw [HX.out.1, HX.out.2]
  clear HX HV hsz
  have B32 := Lib.hid (bthen' B31.out hb)
  have F6_32 := Lib.hid ((F6_31.out.on hb).up (Below.size hb))
  have F30_32 := Lib.hid ((F30_31.out.on hb).up (Below.size hb))
  have X8_32 := Lib.hid ((hb.block _ (Array.getElem?_eq_some_iff.1 X8_31.out).1).trans X8_31.out)
  clear B31 F6_31 F30_31 X8_31
  clear hb
  clear F30_32
  have hx0 : exprR 0 0 (.nil) = ([], 1) := by decide +kernel
  have hx : mk (exprR 0 0 (.nil)).1 = ⟨#[]⟩ ∧ (exprR 0 0 (.nil)).2 = 1 := by rw [hx0]; exact ⟨rfl, rfl⟩
  clear hx0
  have HX := Lib.hid hx
  clear hx
  have hsz := Below.size B32.out
  have hvv : FoV w32 w32.heap.size (.slice none 0 0) (.nil) := (fo_nil _ _)
  have HV := Lib.hid hvv
  clear hvv
  go_wp2_with fail
  refine (pexpr_any 0 0 (.nil) (.slice none 0 0) _ w32.heap.size HV.out (tabs_up (HT.out.on (B32.out.mono hBw)) (by omega) (Nat.le_refl _))).mono ?_
  rintro e w33 ⟨rfl, hb⟩
  rw [HX.out.1, HX.out.2]
  clear HX HV hsz
  have B33 := Lib.hid (bthen' B32.out hb)
  have F6_33 := Lib.hid ((F6_32.out.on hb).up (Below.size hb))
  have X8_33 := Lib.hid ((hb.block _ (Array.getElem?_eq_some_iff.1 X8_32.out).1).trans X8_32.out)
  clear B32 F6_32 X8_32
  clear hb
  go_upto_region 8 with fail
  have hblt : w7.heap.size < w33.heap.size := (Array.getElem?_eq_some_iff.1 X8_33.out).1
  have q0 : w33.cell? ⟨w7.heap.size, 0, none⟩ = some (.int .i64 6) := by rw [Lib.cell_of_heap X8_33.out]; rfl
  have q1 : w33.cell? ⟨w7.heap.size, 1, none⟩ = some (.int .i64 0) := by rw [Lib.cell_of_heap X8_33.out]; rfl
  have q2 : w33.cell? ⟨w7.heap.size, 2, none⟩ = some (.slice (some ⟨w5.heap.size, 0, none⟩) 2 2) := by rw [Lib.cell_of_heap X8_33.out]; rfl
  have nq := World.new_ne w33 ⟨w7.heap.size, 0, none⟩ q0
  go_cut [13] from 19 (fun s13 wx => HeadR w (.slice (some ⟨w5.heap.size, 0, none⟩) 2 2) s13 wx)
  case first =>
    go_region_held3 (fun w' => w'.cell? ⟨w7.heap.size, 0, none⟩ = some (.int .i64 6) ∧ w'.cell? ⟨w7.heap.size, 1, none⟩ = some (.int .i64 0) ∧ w'.cell? ⟨w7.heap.size, 2, none⟩ = some (.slice (some ⟨w5.heap.size, 0, none⟩) 2 2)) (first | with_reducible exact ⟨q0, q1, q2⟩ | with_reducible exact ⟨y0, y1, y2⟩ | go_keep)
      (first | (go_at_call 55; refine (day_any 1 _).mono ?_; rintro e w' ⟨gd, rfl, hgd, hf, hb⟩; obtain ⟨y0, y1, y2⟩ := keep3 (by assumption) hb (by simp; omega); have nr := World.new_ne w' ⟨w7.heap.size, 0, none⟩ y0; (first | (have hq := zrate hb; obtain ⟨k0, k1, k2, k3, k4, k5, k6, k7, k8, k9, k10, k11, k12, k13, k14, k15, j0, j1, j2, j3, j4, j5, j6, j7, j8, j9, j10, j11, j12, j13, j14, j15⟩ := hq) | skip); have HB := Lib.hid hb; have HF := Lib.hid hf; have HGD := Lib.hid hgd; clear hb hf hgd))
    all_goals go_wp2_with fail
    all_goals go_meet
    · exact headR_new (Lib.hid B33.out).out (Lib.hid F6_33.out).out HF.out HGD.out (((Below.refl _ _).drew).trans HB.out)
    · exact headR_set (Lib.hid B33.out).out (Lib.hid F6_33.out).out HF.out HGD.out (((Below.refl _ _).drew).trans HB.out)
  case rest =>
    clear q0 q1 q2 nq hblt B33 F6_33 X8_33
    obtain ⟨g, gd, rfl, hxr, hxd, hne, hfs, hbw, hgw⟩ := hcut
    have HXR := Lib.hid hxr
    have HXD := Lib.hid hxd
    have HFS := Lib.hid hfs
    have HBW := Lib.hid hbw
    have hgl : g < wc.heap.size := (Array.getElem?_eq_some_iff.1 hxr).1
    have hszc := hbw.size
    clear hxr hxd hfs hbw
    have r0 : wc.cell? ⟨g, 0, none⟩ = some (.int .i64 1) := by rw [Lib.cell_of_heap HXR.out]; rfl
    have r1 : wc.cell? ⟨g, 1, none⟩ = some (.int .i64 2) := by rw [Lib.cell_of_heap HXR.out]; rfl
    have r2 : wc.cell? ⟨g, 2, none⟩ = some (.int .i64 3) := by rw [Lib.cell_of_heap HXR.out]; rfl
    have r3 : wc.cell? ⟨g, 3, none⟩ = some (.int .i64 4) := by rw [Lib.cell_of_heap HXR.out]; rfl
    have r4 : wc.cell? ⟨g, 4, none⟩ = some (.int .i64 5) := by rw [Lib.cell_of_heap HXR.out]; rfl
    have r5 : wc.cell? ⟨g, 5, none⟩ = some (.int .i64 6) := by rw [Lib.cell_of_heap HXR.out]; rfl
    have r6 : wc.cell? ⟨g, 6, none⟩ = some (.int .i64 7) := by rw [Lib.cell_of_heap HXR.out]; rfl
    have r7 : wc.cell? ⟨g, 7, none⟩ = some (.int .i64 8) := by rw [Lib.cell_of_heap HXR.out]; rfl
    have r8 : wc.cell? ⟨g, 8, none⟩ = some (.int .i64 3) := by rw [Lib.cell_of_heap HXR.out]; rfl
    have r9 : wc.cell? ⟨g, 9, none⟩ = some (.int .i64 10) := by rw [Lib.cell_of_heap HXR.out]; rfl
    have r10 : wc.cell? ⟨g, 10, none⟩ = some (.int .i64 12) := by rw [Lib.cell_of_heap HXR.out]; rfl
    have r11 : wc.cell? ⟨g, 11, none⟩ = some (.int .i64 0) := by rw [Lib.cell_of_heap HXR.out]; rfl
    have r12 : wc.cell? ⟨g, 12, none⟩ = some (.slice (some ⟨gd, 0, none⟩) 2 2) := by rw [Lib.cell_of_heap HXR.out]; rfl
    have r13 : wc.cell? ⟨g, 13, none⟩ = some (.int .i64 6) := by rw [Lib.cell_of_heap HXR.out]; rfl
    have r14 : wc.cell? ⟨g, 14, none⟩ = some (.int .i64 0) := by rw [Lib.cell_of_heap HXR.out]; rfl
    have r15 : wc.cell? ⟨g, 15, none⟩ = some (.slice (some ⟨w5.heap.size, 0, none⟩) 2 2) := by rw [Lib.cell_of_heap HXR.out]; rfl
    have hx0 : (rateX 10).res = ([114, 97, 116, 101, 32, 49, 32, 108, 101, 118, 101, 108, 32, 50, 32, 107, 105, 110, 100, 32, 51, 32, 110, 105, 103, 104, 116, 115, 32, 52, 32, 116, 111, 32, 53, 32, 115, 116, 97, 121, 32, 54, 32, 116, 111, 32, 55, 32, 97, 114, 114, 105, 118, 101, 32, 56, 32, 107, 101, 101, 112, 32, 51, 48, 37, 32, 119, 104, 101, 110, 32, 119, 101, 101, 107, 100, 97, 121, 32, 61, 32, 49, 32, 112, 114, 105, 99, 101, 32, 40, 110, 105, 103, 104, 116, 115, 32, 43, 32, 50, 41, 32, 42, 32, 49, 48, 46, 53, 48, 59], 0) := by decide +kernel
    have hx1 : mk (rateX 10).res.1 = ⟨#[114, 97, 116, 101, 32, 49, 32, 108, 101, 118, 101, 108, 32, 50, 32, 107, 105, 110, 100, 32, 51, 32, 110, 105, 103, 104, 116, 115, 32, 52, 32, 116, 111, 32, 53, 32, 115, 116, 97, 121, 32, 54, 32, 116, 111, 32, 55, 32, 97, 114, 114, 105, 118, 101, 32, 56, 32, 107, 101, 101, 112, 32, 51, 48, 37, 32, 119, 104, 101, 110, 32, 119, 101, 101, 107, 100, 97, 121, 32, 61, 32, 49, 32, 112, 114, 105, 99, 101, 32, 40, 110, 105, 103, 104, 116, 115, 32, 43, 32, 50, 41, 32, 42, 32, 49, 48, 46, 53, 48, 59]⟩ ∧ (rateX 10).res.2 = 0 := by rw [hx0]; exact ⟨rfl, rfl⟩
    have hy0 : (rateX 7).res = ([], 1) := by decide +kernel
    have hy1 : mk (rateX 7).res.1 = ⟨#[]⟩ ∧ (rateX 7).res.2 = 1 := by rw [hy0]; exact ⟨rfl, rfl⟩
    have HX := Lib.hid hx1
    have HY := Lib.hid hy1
    clear hx0 hx1 hy0 hy1
    go_wp2_with fail
    refine (prate_any (rateX 10) (.slice (some ⟨gd, 0, none⟩) 2 2) (.slice (some ⟨w5.heap.size, 0, none⟩) 2 2) _ wc.heap.size (day_fo HXD.out) (HFS.out.up (by omega)) (tabs_up (HT.out.on (HBW.out.mono hBw)) (by omega) (Nat.le_refl _))).mono ?_
    rintro e wd ⟨rfl, hb⟩
    rw [HX.out.1, HX.out.2]
    have hxr := (hb.block _ hgl).trans HXR.out
    have hxd := (hb.block _ (Array.getElem?_eq_some_iff.1 HXD.out).1).trans HXD.out
    have hfs := HFS.out.on (hb.mono (by omega))
    have hbw := bthen' HBW.out hb
    clear r0 r1 r2 r3 r4 r5 r6 r7 r8 r9 r10 r11 r12 r13 r14 r15 HXR HXD HFS HBW HX
    have HXR := Lib.hid hxr
    have HXD := Lib.hid hxd
    have HFS := Lib.hid hfs
    have HBW := Lib.hid hbw
    have hgl2 : g < wd.heap.size := (Array.getElem?_eq_some_iff.1 hxr).1
    have hszd := hbw.size
    have fz := Lib.frozen_of_heap hxr 9
    clear hxr hxd hfs hbw hb
    have r0 : wd.cell? ⟨g, 0, none⟩ = some (.int .i64 1) := by rw [Lib.cell_of_heap HXR.out]; rfl
    have r1 : wd.cell? ⟨g, 1, none⟩ = some (.int .i64 2) := by rw [Lib.cell_of_heap HXR.out]; rfl
    have r2 : wd.cell? ⟨g, 2, none⟩ = some (.int .i64 3) := by rw [Lib.cell_of_heap HXR.out]; rfl
    have r3 : wd.cell? ⟨g, 3, none⟩ = some (.int .i64 4) := by rw [Lib.cell_of_heap HXR.out]; rfl
    have r4 : wd.cell? ⟨g, 4, none⟩ = some (.int .i64 5) := by rw [Lib.cell_of_heap HXR.out]; rfl
    have r5 : wd.cell? ⟨g, 5, none⟩ = some (.int .i64 6) := by rw [Lib.cell_of_heap HXR.out]; rfl
    have r6 : wd.cell? ⟨g, 6, none⟩ = some (.int .i64 7) := by rw [Lib.cell_of_heap HXR.out]; rfl
    have r7 : wd.cell? ⟨g, 7, none⟩ = some (.int .i64 8) := by rw [Lib.cell_of_heap HXR.out]; rfl
    have r8 : wd.cell? ⟨g, 8, none⟩ = some (.int .i64 3) := by rw [Lib.cell_of_heap HXR.out]; rfl
    have r9 : wd.cell? ⟨g, 9, none⟩ = some (.int .i64 10) := by rw [Lib.cell_of_heap HXR.out]; rfl
    have r10 : wd.cell? ⟨g, 10, none⟩ = some (.int .i64 12) := by rw [Lib.cell_of_heap HXR.out]; rfl
    have r11 : wd.cell? ⟨g, 11, none⟩ = some (.int .i64 0) := by rw [Lib.cell_of_heap HXR.out]; rfl
    have r12 : wd.cell? ⟨g, 12, none⟩ = some (.slice (some ⟨gd, 0, none⟩) 2 2) := by rw [Lib.cell_of_heap HXR.out]; rfl
    have r13 : wd.cell? ⟨g, 13, none⟩ = some (.int .i64 6) := by rw [Lib.cell_of_heap HXR.out]; rfl
    have r14 : wd.cell? ⟨g, 14, none⟩ = some (.int .i64 0) := by rw [Lib.cell_of_heap HXR.out]; rfl
    have r15 : wd.cell? ⟨g, 15, none⟩ = some (.slice (some ⟨w5.heap.size, 0, none⟩) 2 2) := by rw [Lib.cell_of_heap HXR.out]; rfl
    go_wp2_with fail
    have hxr : (wd.setCell ⟨g, 9, none⟩ (.int .i64 7)).heap[g]? = some (.cells #[.int .i64 1, .int .i64 2, .int .i64 3, .int .i64 4, .int .i64 5, .int .i64 6, .int .i64 7, .int .i64 8, .int .i64 3, .int .i64 7, .int .i64 12, .int .i64 0, .slice (some ⟨gd, 0, none⟩) 2 2, .int .i64 6, .int .i64 0, .slice (some ⟨w5.heap.size, 0, none⟩) 2 2] 47 (0, 0)) := by rw [heap_set HXR.out _]; rfl
    have hxd : (wd.setCell ⟨g, 9, none⟩ (.int .i64 7)).heap[gd]? = _ := (heap_set_other hne _).trans HXD.out
    have hfs := HFS.out.on ((Below.refl g wd).setCell (p := ⟨g, 9, none⟩) (Nat.le_refl _) (.int .i64 7))
    have hbw := HBW.out.setCell (p := ⟨g, 9, none⟩) hgw (.int .i64 7)
    have hszs : (wd.setCell ⟨g, 9, none⟩ (.int .i64 7)).heap.size = wd.heap.size := by simp [World.setCell]
    clear r0 r1 r2 r3 r4 r5 r6 r7 r8 r9 r10 r11 r12 r13 r14 r15 fz HXR HXD HFS HBW
    generalize wd.setCell ⟨g, 9, none⟩ (.int .i64 7) = we at *
    have HXD := Lib.hid hxd
    have HFS := Lib.hid hfs
    have HBW := Lib.hid hbw
    clear hxr hxd hfs hbw
    refine (prate_any (rateX 7) (.slice (some ⟨gd, 0, none⟩) 2 2) (.slice (some ⟨w5.heap.size, 0, none⟩) 2 2) _ we.heap.size (day_fo HXD.out) (HFS.out.up (by omega)) (tabs_up (HT.out.on (HBW.out.mono hBw)) (by omega) (Nat.le_refl _))).mono ?_
    rintro e wf ⟨rfl, hb⟩
    rw [HY.out.1, HY.out.2]
    have HBF := Lib.hid (bthen' HBW.out hb)
    clear hb hszs
    go_wp2_with fail
    go_ret
    exact ⟨rfl, HBF.out⟩
end Go.Proofs.YtomnjamldbficaaGreatDoor
