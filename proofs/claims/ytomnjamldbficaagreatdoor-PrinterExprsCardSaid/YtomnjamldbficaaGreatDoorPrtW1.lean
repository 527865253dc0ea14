/-
  Walks: within, formed, fits, Valid of package parser.
-/
import Derived.Test.YtomnjamldbficaaGreatDoorPrtMem
import Derived.Test.YtomnjamldbficaaGreatDoorProg
import Derived.WalkSpells
import Derived.WalkLawsBesides
namespace Go.Proofs.YtomnjamldbficaaGreatDoor
open Go.RowKit Lx Px
theorem p_ret_bool {a b : Bool} (h : a = b) : Ending.returned (.bool a) = .returned (.bool b) := by rw [h]
theorem p_bself (w : World) : Below w.heap.size w w := Below.refl w.heap.size w
theorem within_any (n lo hi : Int) (w : World) : Calls Tryz.prog 111 #[.int .i64 n, .int .i64 lo, .int .i64 hi] w fun e w' => e = .returned (.bool (decide (lo ≤ n) && decide (n ≤ hi))) ∧ w = w' := by
  by_cases h1 : lo ≤ n
  · have d1 : decide (lo ≤ n) = true := by simpa using h1
    rw [d1]
    go_enter Tryz.func111, Tryz.ntmps111
    go_wp2
    go_ret
    exact ⟨by simp, rfl⟩
  · have d1 : decide (lo ≤ n) = false := by simpa using h1
    rw [d1]
    go_enter Tryz.func111, Tryz.ntmps111
    go_wp2
    go_ret
    exact ⟨by simp, rfl⟩
theorem formed_any (op n : Int) (A : Option Addr) (k c : Nat) (w : World) : Calls Tryz.prog 78 #[.agg #[.int .i64 op, .int .i64 n, .slice A k c]] w fun e w' => e = .returned (.bool (formedB op n k)) ∧ w' = w.alloc (.cells #[.int .i64 op, .int .i64 n, .slice A k c] 24) := by
  go_enter Tryz.func78, Tryz.ntmps78
  go_wp2
  all_goals go_ret
  all_goals refine ⟨p_ret_bool ?_, by first | rfl | (subst_vars; rfl)⟩
  all_goals unfold formedB
  all_goals simp_all
  all_goals first | omega | (by_cases hn0 : n = 0 <;> simp [hn0] <;> omega)
end Go.Proofs.YtomnjamldbficaaGreatDoor
