import Derived.Test.YtkgagcbefagpcaaGreatDoorQuoQ10a
namespace Go.Proofs.YtkgagcbefagpcaaGreatDoor
open Go.ChangeShapes Go.WideShapes Go.ChangeAt Go.RowKit Go.Deep Lx Px Qx
theorem Z1b:Tryz.prog.funcNamed "innkeeper/innkeeperlaw15.VersionsMatchesReference" = some 3:=by kernel_rfl
set_option maxHeartbeats 8000000 in
theorem Z2C:joinedFacts Tryz.prog 3 Tryz.f3 Rows.versionsMatchesReferenceSpec Rows.versionsMatchesReferenceRow=true:=by
 unfold joinedFacts;simp only [zd];and_intros
 all_goals (as_aux_lemma=>kernel_rfl)
theorem Z39:Rows.VersionsMatchesReferenceSaid := OpenClaim.holds_of_wide 3 Tryz.f3 rfl rfl rfl rfl rfl rfl rfl ⟨rfl,rfl,rfl,rfl,rfl⟩ rfl rfl rfl rfl rfl Z1b Tryz.func3 Z2C (of_decide_eq_true (by kernel_rfl)) (by unfold Func.isWrapper;first | (rw [zp (by decide +kernel)];kernel_rfl) | (rw [zf (by decide +kernel)];exact ⟨rfl,rfl⟩)) (λos started H enc _=>Z2h os started H enc)
