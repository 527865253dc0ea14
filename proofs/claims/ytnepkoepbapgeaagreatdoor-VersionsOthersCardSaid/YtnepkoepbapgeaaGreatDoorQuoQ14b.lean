/-
  VersionsOthers: the row.
-/
import Derived.Test.YtnepkoepbapgeaaGreatDoorQuoQ14a
namespace Go.Proofs.YtnepkoepbapgeaaGreatDoor
open Go.ChangeShapes Go.WideShapes Go.ChangeAt Go.RowKit Go.Deep Lx Px Qx
theorem Z2E:Tryz.prog.funcNamed "innkeeper/innkeeperlaw15.VersionsOthers" = some 13:=by kernel_rfl
set_option maxHeartbeats 8000000 in
theorem Z5q:joinedFacts Tryz.prog 13 Tryz.f13 Rows.versionsOthersSpec Rows.versionsOthersRow=true:=by
 unfold joinedFacts
 simp only [Bool.and_eq_true]
 and_intros
 all_goals (as_aux_lemma=>kernel_rfl)
theorem Z6y:Rows.VersionsOthersSaid :=
 OpenClaim.holds_of_wide 13 Tryz.f13 rfl rfl rfl rfl rfl rfl rfl ⟨rfl,rfl,rfl,rfl,rfl⟩ rfl rfl rfl rfl rfl Z2E Tryz.func13 Z5q
  (of_decide_eq_true (by kernel_rfl)) (by unfold Func.isWrapper;first | (rw [if_pos (by decide +kernel)];kernel_rfl) | (rw [if_neg (by decide +kernel)];exact ⟨rfl,rfl⟩))
  (fun os started H enc _=>Z4A os started H enc)
end Go.Proofs.YtnepkoepbapgeaaGreatDoor
