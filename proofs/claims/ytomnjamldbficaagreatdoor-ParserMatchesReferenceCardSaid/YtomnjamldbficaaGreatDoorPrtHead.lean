/-
  Several texts in one: PrtHead0, PrtHead.
-/
import Derived.Test.YtomnjamldbficaaGreatDoorPrtRate
namespace Go.Proofs.YtomnjamldbficaaGreatDoor
open Go.RowKit Lx Px
theorem fo_nil (w : World) (B : Nat) : FoV w B (.slice none 0 0) .nil := ⟨none, 0, rfl, trivial⟩
/-- a slice of two expressions in a block -/
theorem fo_two' {w : World} {B g : Nat} {a0 a1 b0 b1 : Int} {sa sb : Value} {la lb : Fo} {t : TypeId} {fz : Nat × Nat} (hx : w.heap[g]? = some (.cells #[.int .i64 a0, .int .i64 a1, sa, .int .i64 b0, .int .i64 b1, sb] t fz)) (ha : FoV w B sa la) (hb : FoV w B sb lb) (hg : g < B) :
    FoV w B (.slice (some ⟨g, 0, none⟩) 2 2) (.node 0 0 (a0, a1) la (.node 0 0 (b0, b1) lb .nil)) := by
  obtain ⟨Aa, ca, rfl, hAa⟩ := ha
  obtain ⟨Ab, cb, rfl, hAb⟩ := hb
  refine ⟨some ⟨g, 0, none⟩, 2, rfl, ⟨⟨_, Aa, ca, rfl, hg, ?_, ?_, ?_, hAa⟩, ⟨_, Ab, cb, rfl, hg, ?_, ?_, ?_, hAb⟩, trivial⟩⟩
  all_goals (first | (rw [show ((⟨g, 0, none⟩ : Addr).add (0 * 3)) = ⟨g, 0, none⟩ from rfl]) | (rw [show ((⟨g, 0, none⟩ : Addr).add ((0 + 1) * 3)) = ⟨g, 3, none⟩ from rfl]))
  all_goals (rw [Lib.cell_of_heap hx]; rfl)
/-- a new slice of two expressions -/
theorem fo_two {w : World} {a0 a1 b0 b1 : Int} {sa sb : Value} {la lb : Fo} (ha : FoV w w.heap.size sa la) (hb : FoV w w.heap.size sb lb) :
    FoV (w.alloc (.cells #[.int .i64 a0, .int .i64 a1, sa, .int .i64 b0, .int .i64 b1, sb] 24)) (w.alloc (.cells #[.int .i64 a0, .int .i64 a1, sa, .int .i64 b0, .int .i64 b1, sb] 24)).heap.size (.slice (some ⟨w.heap.size, 0, none⟩) 2 2) (.node 0 0 (a0, a1) la (.node 0 0 (b0, b1) lb .nil)) := by
  have hbel := (Below.refl w.heap.size w).alloc (Nat.le_refl _) (.cells #[.int .i64 a0, .int .i64 a1, sa, .int .i64 b0, .int .i64 b1, sb] 24)
  exact fo_two' (World.alloc_heap_new w _) ((ha.on hbel).up (by simp)) ((hb.on hbel).up (by simp)) (by simp)
namespace Px
end Px
end Go.Proofs.YtomnjamldbficaaGreatDoor
namespace Go.Proofs.YtomnjamldbficaaGreatDoor
open Go.RowKit Lx Px
namespace Px
end Px
end Go.Proofs.YtomnjamldbficaaGreatDoor
