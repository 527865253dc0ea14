/-
  QuoteChanged: for every input the law returns true; nothing is asked of the arguments. Proved: 'Rows.QuoteChangedCardSaid', with no condition of mine (the row lists 8 package-level variables, which the card ties to the program's text).
-/
import Derived.Test.YtnepkoepbapgeaaGreatDoorQuoQ7b
import Derived.Test.YtnepkoepbapgeaaGreatDoorTie
import Derived.Test.YtnepkoepbapgeaaGreatDoorCards
namespace Go.Proofs.YtnepkoepbapgeaaGreatDoor
open Go.ChangeShapes Go.WideShapes Go.ChangeAt Go.RowKit Go.Deep Lx Px Qx
theorem quoteChanged_holds:Rows.QuoteChangedCardSaid :=
 Claim7.holds_tied_plain_at .later [] [.data,.data,.data,.data,.sentinel,.sentinel,.data,.pinned] true (true, "e3f1101b9de3d360ea3cb16cc163f02d3a1e1bde5426cf200f8003422e4d9c2a") true
  Z6z (fun _ h=>by cases h) (by as_aux_lemma=>kernel_rfl) (fun _ h=>by cases h) quoteChanged_row_tie rfl ⟨rfl,rfl⟩ (by as_aux_lemma=>kernel_rfl) rfl
  (fun f fn hf hfn=>by
   obtain rfl:f=6:=Option.some.inj (Z37.symm.trans hf) |>.symm
   obtain rfl:fn=Tryz.f6:=(Option.some.inj (Tryz.func6.symm.trans hfn)).symm
   exact ⟨by as_aux_lemma=>kernel_rfl,fun j t ht=>by
    rw [Tryz.params6] at ht
    have hm:t∈[24,26,3,5,5,21]:=by simpa using Array.mem_of_getElem? ht
    have hall:([24,26,3,5,5,21].all fun u=>!Tryz.prog.wantsStandIn u)=true:=by as_aux_lemma=>kernel_rfl
    exact (show Tryz.prog.wantsStandIn t=false by simpa using List.all_eq_true.1 hall t hm)⟩)
  (by as_aux_lemma=>kernel_rfl)
#print axioms quoteChanged_holds
end Go.Proofs.YtnepkoepbapgeaaGreatDoor
