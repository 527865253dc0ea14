/-
  Small facts for the statements about package printer that read sources.
-/
import Derived.Test.YtomnjamldbficaaGreatDoorParTx
namespace Go.Proofs.YtomnjamldbficaaGreatDoor
open Go.RowKit Lx Px
theorem tabs_at {w w' : World} (h : Tabs w.heap.size w) (hb : Below w.heap.size w w') : Tabs w'.heap.size w' := tabs_up (h.on hb) hb.size (Nat.le_refl _)
/-- printer.Expr of a well-formed expression -/
theorem pexpr_valid {op n : Int} {l : Fo} (h : validB op n l = true) (v : Value) (w : World) (hv : FoV w w.heap.size v l) (ht : Tabs w.heap.size w) :
    Calls Tryz.prog 31 #[.agg #[.int .i64 op, .int .i64 n, v]] w fun e w' => e = .returned (.tuple #[.string (mk (textE op n l)), .int .i64 0]) ∧ Below w.heap.size w w' := by
  refine (pexpr_any op n l v w w.heap.size hv ht).mono ?_
  rintro e w' ⟨rfl, hb⟩
  refine ⟨?_, hb⟩
  simp [exprR, h]
theorem prate_can {r : Rt} (h : CanIs r) (wv pv : Value) (w : World) (hwv : FoV w w.heap.size wv r.wl) (hpv : FoV w w.heap.size pv r.pl) (ht : Tabs w.heap.size w) :
    Calls Tryz.prog 33 #[rtV r wv pv] w fun e w' => e = .returned (.tuple #[.string (mk r.text), .int .i64 0]) ∧ Below w.heap.size w w' := by
  refine (prate_any r wv pv w w.heap.size hwv hpv ht).mono ?_
  rintro e w' ⟨rfl, hb⟩
  refine ⟨?_, hb⟩
  rw [can_res h]
theorem addr_add_zero (p : Addr) : p.add 0 = p := by unfold Addr.add; rfl
theorem src_ne {s : Bytes} {er ln : Int} (h : srcO s = .err er ln) : er ≠ 0 := by
  unfold srcO at h
  split at h
  · rcases ratesO_err _ _ _ h with rfl | rfl | rfl <;> decide
  · injection h with h1 _
    rw [← h1]; assumption
theorem xprO_ne {s : Bytes} {er : Int} (h : xprO s = .err er) : er ≠ 0 := by
  unfold xprO tokX at h
  split at h
  · split at h
    · injection h with h; rw [← h]; decide
    · split at h
      · injection h with h; rw [← h]; decide
      · split at h
        · cases h
        · injection h with h; rw [← h]; decide
  · injection h with h1
    rw [← h1]; assumption
theorem smallRt_of {r : Rt} (h : CanIs r) : smallRt r.rr.rt := ⟨valid_small (o := r.wo) (n := r.wn) (by show validB _ _ (nrm r.wl) = true; rw [valid_nrm]; exact h.vw), valid_small (o := r.po) (n := r.pn) (by show validB _ _ (nrm r.pl) = true; rw [valid_nrm]; exact h.vp)⟩
end Go.Proofs.YtomnjamldbficaaGreatDoor
