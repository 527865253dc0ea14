/-
  VersionsHonour: the row.
-/
import Derived.Test.YtnepkoepbapgeaaGreatDoorQuoQ13a
namespace Go.Proofs.YtnepkoepbapgeaaGreatDoor
open Go.ChangeShapes Go.WideShapes Go.ChangeAt Go.RowKit Go.Deep Lx Px Qx
theorem Z2D:Tryz.prog.funcNamed "innkeeper/innkeeperlaw15.VersionsHonour" = some 12:=by kernel_rfl
set_option maxHeartbeats 8000000 in
theorem Z5p:joinedFacts Tryz.prog 12 Tryz.f12 Rows.versionsHonourSpec Rows.versionsHonourRow=true:=by
 unfold joinedFacts
 simp only [Bool.and_eq_true]
 and_intros
 all_goals (as_aux_lemma=>kernel_rfl)
theorem Z6x:Rows.VersionsHonourSaid :=
 OpenClaim.holds_of_wide 12 Tryz.f12 rfl rfl rfl rfl rfl rfl rfl ⟨rfl,rfl,rfl,rfl,rfl⟩ rfl rfl rfl rfl rfl Z2D Tryz.func12 Z5p
  (of_decide_eq_true (by kernel_rfl)) (by unfold Func.isWrapper;first | (rw [if_pos (by decide +kernel)];kernel_rfl) | (rw [if_neg (by decide +kernel)];exact ⟨rfl,rfl⟩))
  (fun os started H enc _=>Z4z os started H enc)
end Go.Proofs.YtnepkoepbapgeaaGreatDoor
