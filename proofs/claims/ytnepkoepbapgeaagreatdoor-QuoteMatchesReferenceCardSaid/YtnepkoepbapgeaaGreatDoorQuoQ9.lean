/-
  QuoteMatchesReference: for every input the law returns true; nothing is asked of the arguments. Proved: 'Rows.QuoteMatchesReferenceCardSaid', with no condition of mine (the row lists 8 package-level variables, which the card ties to the program's text).
-/
import Derived.Test.YtnepkoepbapgeaaGreatDoorQuoQ9b
import Derived.Test.YtnepkoepbapgeaaGreatDoorTie
import Derived.Test.YtnepkoepbapgeaaGreatDoorCards
namespace Go.Proofs.YtnepkoepbapgeaaGreatDoor
open Go.ChangeShapes Go.WideShapes Go.ChangeAt Go.RowKit Go.Deep Lx Px Qx
theorem quoteMatchesReference_holds:Rows.QuoteMatchesReferenceCardSaid := Claim7.holds_tied_plain_at .later [] [.data,.data,.data,.data,.sentinel,.sentinel,.data,.pinned] true (true, "e3f1101b9de3d360ea3cb16cc163f02d3a1e1bde5426cf200f8003422e4d9c2a") true Z3C (λ_ h=>by cases h) (by as_aux_lemma=>kernel_rfl) (λ_ h=>by cases h) quoteMatchesReference_row_tie rfl ⟨rfl,rfl⟩ (by as_aux_lemma=>kernel_rfl) rfl (λf fn hf hfn=>by
   obtain rfl:f=3:=Option.some.inj (Z1j.symm.trans hf) |>.symm;obtain rfl:fn=Tryz.f3:=(Option.some.inj (Tryz.func3.symm.trans hfn)).symm;exact ⟨by as_aux_lemma=>kernel_rfl,λj t ht=>by
    rw [Tryz.params3] at ht;have hm:t∈[24,26,32,3,3,3,3]:=by simpa using Array.mem_of_getElem? ht
    have hall:([24,26,32,3,3,3,3].all λu=>!Tryz.prog.wantsStandIn u)=true:=by as_aux_lemma=>kernel_rfl
    exact (show Tryz.prog.wantsStandIn t=false by simpa using List.all_eq_true.1 hall t hm)⟩)
  (by as_aux_lemma=>kernel_rfl)
#print axioms quoteMatchesReference_holds
end Go.Proofs.YtnepkoepbapgeaaGreatDoor
