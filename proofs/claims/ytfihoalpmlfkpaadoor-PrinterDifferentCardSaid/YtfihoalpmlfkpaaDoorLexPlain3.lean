/-
  Plain: the pieces of a source, step by step.
-/
import Derived.Test.YtfihoalpmlfkpaaDoorLexPlain
namespace Go.Proofs.YtfihoalpmlfkpaaDoor
namespace Lx
/-- the pieces of a rest, from a line on -/
def P (ln : Int) (s : Bytes) : List (Int × Bytes) := pcs s.length ln s
theorem P_fuel (f : Nat) (ln : Int) (s : Bytes) (h : s.length ≤ f) : pcs f ln s = P ln s := pcs_fuel f s.length ln s h (Nat.le_refl _)
theorem P_nil (ln : Int) : P ln [] = [] := rfl
theorem P_blank (ln : Int) (r : Bytes) : P ln (32 :: r) = P ln r := by simp [P, pcs]
theorem P_feed (ln : Int) (r : Bytes) : P ln (10 :: r) = P (ln + 1) r := by simp [P, pcs]
theorem P_hash (ln : Int) (r : Bytes) : P ln (35 :: r) = P ln (r.dropWhile (· != 10)) := by
  show pcs (r.length + 1) ln (35 :: r) = _
  simp only [pcs]
  rw [if_neg (by decide), if_neg (by decide), if_pos (by decide), P_fuel _ _ _ (dropWhile_le _ _)]
theorem P_tok (ln : Int) (c : UInt8) (r : Bytes) (h1 : c ≠ 32) (h2 : c ≠ 10) (h3 : c ≠ 35) :
    P ln (c :: r) = (ln, (c :: r).take (tlen (c :: r))) :: P ln ((c :: r).drop (tlen (c :: r))) := by
  show pcs (r.length + 1) ln (c :: r) = _
  simp only [pcs]
  rw [if_neg h1, if_neg h2, if_neg h3, P_fuel _ _ _ (by have := tlen_pos (c :: r); simp only [List.length_drop, List.length_cons]; omega)]
end Lx
end Go.Proofs.YtfihoalpmlfkpaaDoor
