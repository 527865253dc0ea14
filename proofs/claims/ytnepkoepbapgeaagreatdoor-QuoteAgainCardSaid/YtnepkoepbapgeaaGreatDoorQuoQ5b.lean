/-
  QuoteAgain: the row.
-/
import Derived.Test.YtnepkoepbapgeaaGreatDoorQuoQ5a
namespace Go.Proofs.YtnepkoepbapgeaaGreatDoor
open Go.ChangeShapes Go.WideShapes Go.ChangeAt Go.RowKit Go.Deep Lx Px Qx
theorem Z41 : Tryz.prog.funcNamed "innkeeper/innkeeperlaw12.QuoteAgain" = some 5:=by kernel_rfl
set_option maxHeartbeats 8000000 in
theorem Z7f : joinedFacts Tryz.prog 5 Tryz.f5 Rows.quoteAgainSpec Rows.quoteAgainRow = true:=by
 unfold joinedFacts
 simp only [Bool.and_eq_true]
 and_intros
 all_goals (as_aux_lemma=>kernel_rfl)
theorem Z8B : Rows.QuoteAgainSaid :=
 OpenClaim.holds_of_wide 5 Tryz.f5 rfl rfl rfl rfl rfl rfl rfl ⟨rfl,rfl,rfl,rfl,rfl⟩ rfl rfl rfl rfl rfl Z41 Tryz.func5 Z7f
  (of_decide_eq_true (by kernel_rfl)) (by unfold Func.isWrapper; first | (rw [if_pos (by decide +kernel)]; kernel_rfl) | (rw [if_neg (by decide +kernel)]; exact ⟨rfl,rfl⟩))
  (fun os started H enc _=>Z6A os started H enc)
end Go.Proofs.YtnepkoepbapgeaaGreatDoor
