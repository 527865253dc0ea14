/-
  Plain: bounds on what Join makes of tokens.
-/
import Derived.Test.YtfihoalpmlfkpaaDoorLexPlain4
namespace Go.Proofs.YtfihoalpmlfkpaaDoor
namespace Lx
theorem okFrom_pre (ts : List Tok) (k : Nat) (h : okFrom 1 ts = true) : okFrom 1 (ts.take k) = true := by
  cases h' : okFrom 1 (ts.take k) with
  | true => rfl
  | false => rw [okFrom_take ts k h'] at h; cases h
theorem lastAt_step (ts : List Tok) (k : Nat) (hk : k < ts.length) (h : okFrom 1 ts = true) : lastAt ts k ≤ lastAt ts (k + 1) := by
  have h1 := okFrom_snoc ts k hk (okFrom_pre ts k h)
  rw [okFrom_pre ts (k + 1) h] at h1
  have h2 := lastAt_pos ts (k + 1) (by omega) (by omega)
  have h1' := h1.symm
  simp only [Bool.and_eq_true, decide_eq_true_eq] at h1'
  have h3 : ts[k + 1 - 1].2.1 = ts[k].2.1 := rfl
  omega
theorem lastAt_mono (ts : List Tok) (i j : Nat) (hij : i ≤ j) (hj : j ≤ ts.length) (h : okFrom 1 ts = true) : lastAt ts i ≤ lastAt ts j := by
  obtain ⟨d, rfl⟩ := Nat.exists_eq_add_of_le hij
  induction d with
  | zero => exact Int.le_refl _
  | succ d ih => exact Int.le_trans (ih (by omega) (by omega)) (lastAt_step ts (i + d) (by omega) h)
theorem lastAt_ge1 (ts : List Tok) (j : Nat) (hj : j ≤ ts.length) (h : okFrom 1 ts = true) : 1 ≤ lastAt ts j := lastAt_ge ts j hj (okFrom_pre ts j h)
theorem sepAt_len (ts : List Tok) (k : Nat) (hk : k < ts.length) (h : okFrom 1 ts = true) : ((sepAt ts k).length : Int) ≤ 1 + (lastAt ts (k + 1) - lastAt ts k) := by
  have h1 := lastAt_step ts k hk h
  have h2 : lastAt ts (k + 1) = ts[k].2.1 := lastAt_pos ts (k + 1) (by omega) (by omega)
  rw [sepAt, dif_pos hk, List.length_append, List.length_replicate]
  split <;> simp <;> omega
theorem jn_len (ts : List Tok) (M : Nat) (hM : ∀ t ∈ ts, t.2.2.length ≤ M) (h : okFrom 1 ts = true) (k : Nat) (hk : k ≤ ts.length) : ((jn 1 true (ts.take k)).length : Int) ≤ k * (M + 1) + (lastAt ts k - 1) := by
  induction k with
  | zero => simp [jn, lastAt_zero]
  | succ k ih =>
    rw [jn_snoc ts k (by omega), List.length_append, List.length_append]
    have h1 := ih (by omega)
    have h2 := sepAt_len ts k (by omega) h
    have h3 := hM ts[k] (List.getElem_mem _)
    have h4 : ((k + 1 : Nat) : Int) * (M + 1) = k * (M + 1) + (M + 1) := by rw [Int.natCast_add, Int.add_mul]; simp
    rw [h4]
    omega
theorem jn_pre_le (ts : List Tok) (k : Nat) : (jn 1 true (ts.take k)).length ≤ (jn 1 true ts).length := by
  have : jn 1 true ts = jn 1 true (ts.take k ++ ts.drop k) := by rw [List.take_append_drop]
  rw [this, jn_append, List.length_append]; omega
end Lx
end Go.Proofs.YtfihoalpmlfkpaaDoor
