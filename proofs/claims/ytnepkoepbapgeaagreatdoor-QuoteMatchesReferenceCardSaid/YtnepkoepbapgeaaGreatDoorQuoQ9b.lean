import Derived.Test.YtnepkoepbapgeaaGreatDoorQuoQ9a
namespace Go.Proofs.YtnepkoepbapgeaaGreatDoor
open Go.ChangeShapes Go.WideShapes Go.ChangeAt Go.RowKit Go.Deep Lx Px Qx
theorem Z1j:Tryz.prog.funcNamed "innkeeper/innkeeperlaw12.QuoteMatchesReference" = some 3:=by kernel_rfl
set_option maxHeartbeats 8000000 in
theorem Z3s:joinedFacts Tryz.prog 3 Tryz.f3 Rows.quoteMatchesReferenceSpec Rows.quoteMatchesReferenceRow=true:=by
 unfold joinedFacts;simp only [zd];and_intros
 all_goals (as_aux_lemma=>kernel_rfl)
theorem Z3C:Rows.QuoteMatchesReferenceSaid := OpenClaim.holds_of_wide 3 Tryz.f3 rfl rfl rfl rfl rfl rfl rfl ⟨rfl,rfl,rfl,rfl,rfl⟩ rfl rfl rfl rfl rfl Z1j Tryz.func3 Z3s (of_decide_eq_true (by kernel_rfl)) (by unfold Func.isWrapper;first | (rw [zp (by decide +kernel)];kernel_rfl) | (rw [zf (by decide +kernel)];exact ⟨rfl,rfl⟩)) (λos started H enc _=>Z39 os started H enc)
end Go.Proofs.YtnepkoepbapgeaaGreatDoor
