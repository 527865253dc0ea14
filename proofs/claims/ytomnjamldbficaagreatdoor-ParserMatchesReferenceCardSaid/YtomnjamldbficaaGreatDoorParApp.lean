/-
  Several texts in one: ParLn, ParApp.
-/
import Derived.Test.YtomnjamldbficaaGreatDoorParChain
import Derived.Test.YtomnjamldbficaaGreatDoorParW13
import Derived.Test.YtomnjamldbficaaGreatDoorPrtHead
import Derived.Test.YtomnjamldbficaaGreatDoorParText
import Derived.Test.YtomnjamldbficaaGreatDoorRow
import Derived.Laws.AppendOwnNone
namespace Go.Proofs.YtomnjamldbficaaGreatDoor
open Go.RowKit Lx Px
/-- rates that are read have expressions that are well-formed -/
theorem src_valid {s : Bytes} {l : List Rr} (h : srcO s = .ok l) : ∀ r ∈ l, validB r.wh.1.1 r.wh.1.2 r.wh.2 = true ∧ validB r.pr.1.1 r.pr.1.2 r.pr.2 = true := by
  unfold srcO at h
  split at h
  · exact chn_valid (allO_chn h).1
  · cases h
theorem src_few {s : Bytes} {l : List Rr} (h : srcO s = .ok l) : l.length ≤ 100 := by
  unfold srcO at h
  split at h
  · exact (allO_chn h).2
  · cases h
theorem valid_small {o n : Int} {f : Fo} (h : validB o n f = true) : nodesF f ≤ 1000 := by
  have := (valid_parts h).2.2
  omega
theorem sameE_self (a : Int × Int) (f : Fo) : sameE a a f f = true := by
  have := (sameF_nrm f f).2 rfl
  simp [sameE, this]
theorem sameRt_self (r : Rt) : sameRt r r := ⟨rfl, rfl, rfl, rfl, rfl, rfl, rfl, rfl, rfl, rfl, sameE_self _ _, sameE_self _ _⟩
theorem sameRts_self (l : List Rt) : sameRts l l := ⟨rfl, fun _ _ _ => sameRt_self _⟩
end Go.Proofs.YtomnjamldbficaaGreatDoor
namespace Go.Proofs.YtomnjamldbficaaGreatDoor
open Go.RowKit Lx Px
/-! sources one behind the other -/
end Go.Proofs.YtomnjamldbficaaGreatDoor
