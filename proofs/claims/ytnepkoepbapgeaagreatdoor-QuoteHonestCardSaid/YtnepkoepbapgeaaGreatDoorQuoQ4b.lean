/-
  QuoteHonest: the row.
-/
import Derived.Test.YtnepkoepbapgeaaGreatDoorQuoQ4a
namespace Go.Proofs.YtnepkoepbapgeaaGreatDoor
open Go.ChangeShapes Go.WideShapes Go.ChangeAt Go.RowKit Go.Deep Lx Px Qx
theorem Z3u : Tryz.prog.funcNamed "innkeeper/innkeeperlaw12.QuoteHonest" = some 4:=by kernel_rfl
set_option maxHeartbeats 8000000 in
theorem Z6z : joinedFacts Tryz.prog 4 Tryz.f4 Rows.quoteHonestSpec Rows.quoteHonestRow = true:=by
 unfold joinedFacts
 simp only [Bool.and_eq_true]
 and_intros
 all_goals (as_aux_lemma=>kernel_rfl)
theorem Z8k : Rows.QuoteHonestSaid :=
 OpenClaim.holds_of_wide 4 Tryz.f4 rfl rfl rfl rfl rfl rfl rfl ⟨rfl,rfl,rfl,rfl,rfl⟩ rfl rfl rfl rfl rfl Z3u Tryz.func4 Z6z
  (of_decide_eq_true (by kernel_rfl)) (by unfold Func.isWrapper; first | (rw [if_pos (by decide +kernel)]; kernel_rfl) | (rw [if_neg (by decide +kernel)]; exact ⟨rfl,rfl⟩))
  (fun os started H enc _=>Z66 os started H enc)
end Go.Proofs.YtnepkoepbapgeaaGreatDoor
