/-
  QuoteOrder: the row.
-/
import Derived.Test.YtnepkoepbapgeaaGreatDoorQuoQ8a
namespace Go.Proofs.YtnepkoepbapgeaaGreatDoor
open Go.ChangeShapes Go.WideShapes Go.ChangeAt Go.RowKit Go.Deep Lx Px Qx
theorem Z42 : Tryz.prog.funcNamed "innkeeper/innkeeperlaw12.QuoteOrder" = some 7:=by kernel_rfl
set_option maxHeartbeats 8000000 in
theorem Z7h : joinedFacts Tryz.prog 7 Tryz.f7 Rows.quoteOrderSpec Rows.quoteOrderRow = true:=by
 unfold joinedFacts
 simp only [Bool.and_eq_true]
 and_intros
 all_goals (as_aux_lemma=>kernel_rfl)
theorem Z8C : Rows.QuoteOrderSaid :=
 OpenClaim.holds_of_wide 7 Tryz.f7 rfl rfl rfl rfl rfl rfl rfl ⟨rfl,rfl,rfl,rfl,rfl⟩ rfl rfl rfl rfl rfl Z42 Tryz.func7 Z7h
  (of_decide_eq_true (by kernel_rfl)) (by unfold Func.isWrapper; first | (rw [if_pos (by decide +kernel)]; kernel_rfl) | (rw [if_neg (by decide +kernel)]; exact ⟨rfl,rfl⟩))
  (fun os started H enc _=>Z6B os started H enc)
end Go.Proofs.YtnepkoepbapgeaaGreatDoor
