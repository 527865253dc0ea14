/-
  VersionsPush: the row.
-/
import Derived.Test.YtnepkoepbapgeaaGreatDoorQuoQ12a
namespace Go.Proofs.YtnepkoepbapgeaaGreatDoor
open Go.ChangeShapes Go.WideShapes Go.ChangeAt Go.RowKit Go.Deep Lx Px Qx
theorem Z3p:Tryz.prog.funcNamed "innkeeper/innkeeperlaw15.VersionsPush" = some 11:=by kernel_rfl
set_option maxHeartbeats 8000000 in
theorem Z6w:joinedFacts Tryz.prog 11 Tryz.f11 Rows.versionsPushSpec Rows.versionsPushRow=true:=by
 unfold joinedFacts
 simp only [Bool.and_eq_true]
 and_intros
 all_goals (as_aux_lemma=>kernel_rfl)
theorem Z81:Rows.VersionsPushSaid :=
 OpenClaim.holds_of_wide 11 Tryz.f11 rfl rfl rfl rfl rfl rfl rfl ⟨rfl,rfl,rfl,rfl,rfl⟩ rfl rfl rfl rfl rfl Z3p Tryz.func11 Z6w
  (of_decide_eq_true (by kernel_rfl)) (by unfold Func.isWrapper;first | (rw [if_pos (by decide +kernel)];kernel_rfl) | (rw [if_neg (by decide +kernel)];exact ⟨rfl,rfl⟩))
  (fun os started H enc _=>Z60 os started H enc)
end Go.Proofs.YtnepkoepbapgeaaGreatDoor
