/-
  QuoteSums: the row.
-/
import Derived.Test.YtnepkoepbapgeaaGreatDoorQuoQ6a
namespace Go.Proofs.YtnepkoepbapgeaaGreatDoor
open Go.ChangeShapes Go.WideShapes Go.ChangeAt Go.RowKit Go.Deep Lx Px Qx
theorem Z4p : Tryz.prog.funcNamed "innkeeper/innkeeperlaw12.QuoteSums" = some 8:=by kernel_rfl
set_option maxHeartbeats 8000000 in
theorem Z8m : joinedFacts Tryz.prog 8 Tryz.f8 Rows.quoteSumsSpec Rows.quoteSumsRow = true:=by
 unfold joinedFacts
 simp only [Bool.and_eq_true]
 and_intros
 all_goals (as_aux_lemma=>kernel_rfl)
theorem Zas : Rows.QuoteSumsSaid :=
 OpenClaim.holds_of_wide 8 Tryz.f8 rfl rfl rfl rfl rfl rfl rfl ⟨rfl,rfl,rfl,rfl,rfl⟩ rfl rfl rfl rfl rfl Z4p Tryz.func8 Z8m
  (of_decide_eq_true (by kernel_rfl)) (by unfold Func.isWrapper; first | (rw [if_pos (by decide +kernel)]; kernel_rfl) | (rw [if_neg (by decide +kernel)]; exact ⟨rfl,rfl⟩))
  (fun os started H enc _=>Z7g os started H enc)
end Go.Proofs.YtnepkoepbapgeaaGreatDoor
