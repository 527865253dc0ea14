/-
  Walks: leaf, with and the inner function of head of the statements about package printer.
-/
import Derived.Test.YtomnjamldbficaaGreatDoorPrtRate
namespace Go.Proofs.YtomnjamldbficaaGreatDoor
open Go.RowKit Lx Px
theorem leaf_any (op n : Int) (w : World) : Calls Tryz.prog 57 #[.int .i64 op, .int .i64 n] w fun e w' => e = .returned (.agg #[.int .i64 op, .int .i64 n, .slice none 0 0]) ∧ Below w.heap.size w w' := by
  go_enter Tryz.func57, Tryz.ntmps57
  go_wp2_with fail
  exact bodyPost_ret (v := .agg #[.int .i64 op, .int .i64 n, .slice none 0 0]) (by simp [results, Tryz.results57, go_sem]) rfl ⟨rfl, (Below.refl _ _).alloc (Nat.le_refl _) _⟩
theorem with_any (op : Int) (A : Option Addr) (n c : Nat) (w : World) : Calls Tryz.prog 56 #[.int .i64 op, .slice A n c] w fun e w' => e = .returned (.agg #[.int .i64 op, .int .i64 0, .slice A n c]) ∧ Below w.heap.size w w' := by
  go_enter Tryz.func56, Tryz.ntmps56
  go_wp2_with fail
  exact bodyPost_ret (v := .agg #[.int .i64 op, .int .i64 0, .slice A n c]) (by simp [results, Tryz.results56, go_sem]) rfl ⟨rfl, (Below.refl _ _).alloc (Nat.le_refl _) _⟩
theorem fo_nil (w : World) (B : Nat) : FoV w B (.slice none 0 0) .nil := ⟨none, 0, rfl, trivial⟩
/-- a slice of two expressions in a block -/
theorem fo_two' {w : World} {B g : Nat} {a0 a1 b0 b1 : Int} {sa sb : Value} {la lb : Fo} {t : TypeId} {fz : Nat × Nat} (hx : w.heap[g]? = some (.cells #[.int .i64 a0, .int .i64 a1, sa, .int .i64 b0, .int .i64 b1, sb] t fz)) (ha : FoV w B sa la) (hb : FoV w B sb lb) (hg : g < B) :
    FoV w B (.slice (some ⟨g, 0, none⟩) 2 2) (.node 0 0 (a0, a1) la (.node 0 0 (b0, b1) lb .nil)) := by
  obtain ⟨Aa, ca, rfl, hAa⟩ := ha
  obtain ⟨Ab, cb, rfl, hAb⟩ := hb
  refine ⟨some ⟨g, 0, none⟩, 2, rfl, ⟨⟨_, Aa, ca, rfl, hg, ?_, ?_, ?_, hAa⟩, ⟨_, Ab, cb, rfl, hg, ?_, ?_, ?_, hAb⟩, trivial⟩⟩
  all_goals (first | (rw [show ((⟨g, 0, none⟩ : Addr).add (0 * 3)) = ⟨g, 0, none⟩ from rfl]) | (rw [show ((⟨g, 0, none⟩ : Addr).add ((0 + 1) * 3)) = ⟨g, 3, none⟩ from rfl]))
  all_goals (rw [Lib.cell_of_heap hx]; rfl)
theorem fo_one' {w : World} {B g : Nat} {a0 a1 : Int} {sa : Value} {la : Fo} {t : TypeId} {fz : Nat × Nat} (hx : w.heap[g]? = some (.cells #[.int .i64 a0, .int .i64 a1, sa] t fz)) (ha : FoV w B sa la) (hg : g < B) :
    FoV w B (.slice (some ⟨g, 0, none⟩) 1 1) (.node 0 0 (a0, a1) la .nil) := by
  obtain ⟨Aa, ca, rfl, hAa⟩ := ha
  refine ⟨some ⟨g, 0, none⟩, 1, rfl, ⟨⟨_, Aa, ca, rfl, hg, ?_, ?_, ?_, hAa⟩, trivial⟩⟩
  all_goals (rw [show ((⟨g, 0, none⟩ : Addr).add (0 * 3)) = ⟨g, 0, none⟩ from rfl])
  all_goals (rw [Lib.cell_of_heap hx]; rfl)
/-- a new slice of two expressions -/
theorem fo_two {w : World} {a0 a1 b0 b1 : Int} {sa sb : Value} {la lb : Fo} (ha : FoV w w.heap.size sa la) (hb : FoV w w.heap.size sb lb) :
    FoV (w.alloc (.cells #[.int .i64 a0, .int .i64 a1, sa, .int .i64 b0, .int .i64 b1, sb] 24)) (w.alloc (.cells #[.int .i64 a0, .int .i64 a1, sa, .int .i64 b0, .int .i64 b1, sb] 24)).heap.size (.slice (some ⟨w.heap.size, 0, none⟩) 2 2) (.node 0 0 (a0, a1) la (.node 0 0 (b0, b1) lb .nil)) := by
  have hbel := (Below.refl w.heap.size w).alloc (Nat.le_refl _) (.cells #[.int .i64 a0, .int .i64 a1, sa, .int .i64 b0, .int .i64 b1, sb] 24)
  exact fo_two' (World.alloc_heap_new w _) ((ha.on hbel).up (by simp)) ((hb.on hbel).up (by simp)) (by simp)
theorem fo_one {w : World} {a0 a1 : Int} {sa : Value} {la : Fo} (ha : FoV w w.heap.size sa la) :
    FoV (w.alloc (.cells #[.int .i64 a0, .int .i64 a1, sa] 24)) (w.alloc (.cells #[.int .i64 a0, .int .i64 a1, sa] 24)).heap.size (.slice (some ⟨w.heap.size, 0, none⟩) 1 1) (.node 0 0 (a0, a1) la .nil) := by
  have hbel := (Below.refl w.heap.size w).alloc (Nat.le_refl _) (.cells #[.int .i64 a0, .int .i64 a1, sa] 24)
  exact fo_one' (World.alloc_heap_new w _) ((ha.on hbel).up (by simp)) (by simp)
namespace Px
def lf (op n : Int) (r : Fo) : Fo := .node 0 0 (op, n) .nil r
def dayF (n : Int) : Fo := lf 3 4 (lf 1 n .nil)
end Px
def DayPost (n : Int) (w : World) (e : Ending) (w' : World) : Prop := ∃ g : Nat, e = .returned (.agg #[.int .i64 12, .int .i64 0, .slice (some ⟨g, 0, none⟩) 2 2]) ∧ w.heap.size ≤ g ∧ w'.heap[g]? = some (.cells #[.int .i64 3, .int .i64 4, .slice none 0 0, .int .i64 1, .int .i64 n, .slice none 0 0] 24 (0, 0)) ∧ Below w.heap.size w w'
theorem day_fo {w : World} {g : Nat} {n : Int} {t : TypeId} {fz : Nat × Nat} (h : w.heap[g]? = some (.cells #[.int .i64 3, .int .i64 4, .slice none 0 0, .int .i64 1, .int .i64 n, .slice none 0 0] t fz)) : FoV w w.heap.size (.slice (some ⟨g, 0, none⟩) 2 2) (dayF n) := fo_two' h (fo_nil _ _) (fo_nil _ _) (Array.getElem?_eq_some_iff.1 h).1
theorem day_any (n : Int) (w : World) : Calls Tryz.prog 55 #[.int .i64 n] w (DayPost n w) := by
  go_enter Tryz.func55, Tryz.ntmps55
  go_wp2_with fail
  have hx0 := World.alloc_heap_new w (.cells #[.int .i64 0, .int .i64 0, .slice none 0 0] 24)
  have hb0 := (Below.refl w.heap.size w).alloc (Nat.le_refl _) (.cells #[.int .i64 0, .int .i64 0, .slice none 0 0] 24)
  generalize w.alloc (.cells #[.int .i64 0, .int .i64 0, .slice none 0 0] 24) = W0 at *
  refine (leaf_any 3 4 _).mono ?_
  rintro e w1 ⟨rfl, hb1⟩
  have hx1 := (hb1.block _ (Array.getElem?_eq_some_iff.1 hx0).1).trans hx0
  have hb1' := bthen' hb0 hb1
  have X1 := Lib.hid hx1
  have B1 := Lib.hid hb1'
  clear hx0 hb0 hb1 hx1 hb1'
  go_wp2_with fail
  refine (leaf_any 1 n _).mono ?_
  rintro e w2 ⟨rfl, hb2⟩
  have hx2 := (hb2.block _ (Array.getElem?_eq_some_iff.1 X1.out).1).trans X1.out
  have hb2' := bthen' B1.out hb2
  have X2 := Lib.hid hx2
  have B2 := Lib.hid hb2'
  clear hb2 hx2 hb2' X1 B1
  go_wp2_with fail
  have hg3 := World.alloc_heap_new w2 (.cells #[.int .i64 3, .int .i64 4, .slice none 0 0, .int .i64 1, .int .i64 n, .slice none 0 0] 24)
  have hlt2 : w.heap.size < w2.heap.size := (Array.getElem?_eq_some_iff.1 X2.out).1
  have hx3 := heap_on X2.out (.cells #[.int .i64 3, .int .i64 4, .slice none 0 0, .int .i64 1, .int .i64 n, .slice none 0 0] 24)
  have hb3 := B2.out.alloc B2.out.size (.cells #[.int .i64 3, .int .i64 4, .slice none 0 0, .int .i64 1, .int .i64 n, .slice none 0 0] 24)
  generalize w2.alloc (.cells #[.int .i64 3, .int .i64 4, .slice none 0 0, .int .i64 1, .int .i64 n, .slice none 0 0] 24) = W3 at *
  have X3 := Lib.hid hx3
  have B3 := Lib.hid hb3
  have F3 := Lib.hid hg3
  clear hx3 hb3 hg3 X2 B2
  refine (with_any 12 (some ⟨w2.heap.size, 0, none⟩) 2 2 _).mono ?_
  rintro e w4 ⟨rfl, hb4⟩
  have hx4 := (hb4.block _ (Array.getElem?_eq_some_iff.1 X3.out).1).trans X3.out
  have hb4' := bthen' B3.out hb4
  have hf4 := (hb4.block _ (Array.getElem?_eq_some_iff.1 F3.out).1).trans F3.out
  have r0 : w4.cell? ⟨w.heap.size, 0, none⟩ = some (.int .i64 0) := by rw [Lib.cell_of_heap hx4]; rfl
  have r1 : w4.cell? ⟨w.heap.size, 1, none⟩ = some (.int .i64 0) := by rw [Lib.cell_of_heap hx4]; rfl
  have r2 : w4.cell? ⟨w.heap.size, 2, none⟩ = some (.slice none 0 0) := by rw [Lib.cell_of_heap hx4]; rfl
  have s0 := Lib.frozen_of_heap hx4 0
  have s1 := Lib.frozen_of_heap hx4 1
  have s2 := Lib.frozen_of_heap hx4 2
  have X4 := Lib.hid hx4
  have B4 := Lib.hid hb4'
  have F4 := Lib.hid hf4
  clear hb4 hx4 hb4' hf4 X3 B3 F3
  go_wp2_with fail
  have e0 : (((w4.setCell ⟨w.heap.size, 0, none⟩ (.int .i64 12)).setCell ⟨w.heap.size, 1, none⟩ (.int .i64 0)).setCell ⟨w.heap.size, 2, none⟩ (.slice (some ⟨w2.heap.size, 0, none⟩) 2 2)).heap[w.heap.size]? = some (.cells #[.int .i64 12, .int .i64 0, .slice (some ⟨w2.heap.size, 0, none⟩) 2 2] 24 (0, 0)) := by
    rw [heap_set (heap_set (heap_set X4.out _) _) _]; rfl
  have e1 : (((w4.setCell ⟨w.heap.size, 0, none⟩ (.int .i64 12)).setCell ⟨w.heap.size, 1, none⟩ (.int .i64 0)).setCell ⟨w.heap.size, 2, none⟩ (.slice (some ⟨w2.heap.size, 0, none⟩) 2 2)).heap[w2.heap.size]? = some (.cells #[.int .i64 3, .int .i64 4, .slice none 0 0, .int .i64 1, .int .i64 n, .slice none 0 0] 24 (0, 0)) := by
    have hne : w2.heap.size ≠ w.heap.size := by omega
    rw [heap_set_other hne, heap_set_other hne, heap_set_other hne]; exact F4.out
  have hB5 : Below w.heap.size w (((w4.setCell ⟨w.heap.size, 0, none⟩ (.int .i64 12)).setCell ⟨w.heap.size, 1, none⟩ (.int .i64 0)).setCell ⟨w.heap.size, 2, none⟩ (.slice (some ⟨w2.heap.size, 0, none⟩) 2 2)) :=
    ((B4.out.setCell (p := ⟨w.heap.size, 0, none⟩) (Nat.le_refl _) _).setCell (p := ⟨w.heap.size, 1, none⟩) (Nat.le_refl _) _).setCell (p := ⟨w.heap.size, 2, none⟩) (Nat.le_refl _) _
  have B5 := Lib.hid hB5
  clear hB5 r0 r1 r2 s0 s1 s2
  generalize ((w4.setCell ⟨w.heap.size, 0, none⟩ (.int .i64 12)).setCell ⟨w.heap.size, 1, none⟩ (.int .i64 0)).setCell ⟨w.heap.size, 2, none⟩ (.slice (some ⟨w2.heap.size, 0, none⟩) 2 2) = W5 at *
  have k0 : W5.cell? ⟨w.heap.size, 0, none⟩ = some (.int .i64 12) := by rw [Lib.cell_of_heap e0]; rfl
  have k1 : W5.cell? ⟨w.heap.size, 1, none⟩ = some (.int .i64 0) := by rw [Lib.cell_of_heap e0]; rfl
  have k2 : W5.cell? ⟨w.heap.size, 2, none⟩ = some (.slice (some ⟨w2.heap.size, 0, none⟩) 2 2) := by rw [Lib.cell_of_heap e0]; rfl
  exact bodyPost_ret (v := .agg #[.int .i64 12, .int .i64 0, .slice (some ⟨w2.heap.size, 0, none⟩) 2 2]) (by simp [results, Tryz.results55, go_sem, k0, k1, k2]) rfl ⟨_, rfl, by omega, e1, B5.out⟩
end Go.Proofs.YtomnjamldbficaaGreatDoor
