/-
  QuoteChanged: the row.
-/
import Derived.Test.YtnepkoepbapgeaaGreatDoorQuoQ7a
namespace Go.Proofs.YtnepkoepbapgeaaGreatDoor
open Go.ChangeShapes Go.WideShapes Go.ChangeAt Go.RowKit Go.Deep Lx Px Qx
theorem Z37:Tryz.prog.funcNamed "innkeeper/innkeeperlaw12.QuoteChanged" = some 6:=by kernel_rfl
set_option maxHeartbeats 8000000 in
theorem Z5x:joinedFacts Tryz.prog 6 Tryz.f6 Rows.quoteChangedSpec Rows.quoteChangedRow=true:=by
 unfold joinedFacts
 simp only [Bool.and_eq_true]
 and_intros
 all_goals (as_aux_lemma=>kernel_rfl)
theorem Z6z:Rows.QuoteChangedSaid :=
 OpenClaim.holds_of_wide 6 Tryz.f6 rfl rfl rfl rfl rfl rfl rfl ⟨rfl,rfl,rfl,rfl,rfl⟩ rfl rfl rfl rfl rfl Z37 Tryz.func6 Z5x
  (of_decide_eq_true (by kernel_rfl)) (by unfold Func.isWrapper;first | (rw [if_pos (by decide +kernel)];kernel_rfl) | (rw [if_neg (by decide +kernel)];exact ⟨rfl,rfl⟩))
  (fun os started H enc _=>Z57 os started H enc)
end Go.Proofs.YtnepkoepbapgeaaGreatDoor
