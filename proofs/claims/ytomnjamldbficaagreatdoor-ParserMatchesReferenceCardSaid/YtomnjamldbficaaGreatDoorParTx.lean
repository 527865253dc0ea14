/-
  Plain: the tokens of the text of a rate, and that they are read as it.
-/
import Derived.Test.YtomnjamldbficaaGreatDoorParApp
import Derived.Test.YtomnjamldbficaaGreatDoorParText
namespace Go.Proofs.YtomnjamldbficaaGreatDoor
open Go.RowKit Lx Px
/-! the text of a rate that can be written -/
def Px.Rt.rr (r : Rt) : Rr := ⟨r.id, r.lv, r.kd, r.fr, r.un, r.ls, r.mo, r.ar, r.pct, ((r.wo, r.wn), nrm r.wl), ((r.po, r.pn), nrm r.pl)⟩
/-! how many tokens -/
/-! percents -/
/-! the text of an expression -/
theorem xprO_valid {s : Bytes} {x : Ex} (h : xprO s = .ok x) : validB x.1.1 x.1.2 x.2 = true := by
  unfold xprO tokX at h
  split at h
  · split at h
    · cases h
    · split at h
      · cases h
      · split at h
        · rename_i hv
          injection h with h
          rw [← h]; exact hv
        · cases h
  · cases h
end Go.Proofs.YtomnjamldbficaaGreatDoor
