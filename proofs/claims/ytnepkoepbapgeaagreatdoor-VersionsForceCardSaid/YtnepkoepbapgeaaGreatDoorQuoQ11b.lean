/-
  VersionsForce: the row.
-/
import Derived.Test.YtnepkoepbapgeaaGreatDoorQuoQ11a
namespace Go.Proofs.YtnepkoepbapgeaaGreatDoor
open Go.ChangeShapes Go.WideShapes Go.ChangeAt Go.RowKit Go.Deep Lx Px Qx
theorem Z3e:Tryz.prog.funcNamed "innkeeper/innkeeperlaw15.VersionsForce" = some 10:=by kernel_rfl
set_option maxHeartbeats 8000000 in
theorem Z5H:joinedFacts Tryz.prog 10 Tryz.f10 Rows.versionsForceSpec Rows.versionsForceRow=true:=by
 unfold joinedFacts
 simp only [Bool.and_eq_true]
 and_intros
 all_goals (as_aux_lemma=>kernel_rfl)
theorem Z7g:Rows.VersionsForceSaid :=
 OpenClaim.holds_of_wide 10 Tryz.f10 rfl rfl rfl rfl rfl rfl rfl ⟨rfl,rfl,rfl,rfl,rfl⟩ rfl rfl rfl rfl rfl Z3e Tryz.func10 Z5H
  (of_decide_eq_true (by kernel_rfl)) (by unfold Func.isWrapper;first | (rw [if_pos (by decide +kernel)];kernel_rfl) | (rw [if_neg (by decide +kernel)];exact ⟨rfl,rfl⟩))
  (fun os started H enc _=>Z5n os started H enc)
end Go.Proofs.YtnepkoepbapgeaaGreatDoor
