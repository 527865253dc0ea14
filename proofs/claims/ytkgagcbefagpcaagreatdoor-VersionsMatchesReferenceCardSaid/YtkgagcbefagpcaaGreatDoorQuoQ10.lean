/-
  VersionsMatchesReference: for every input the law returns true; nothing is asked of the arguments. Proved: 'Rows.VersionsMatchesReferenceCardSaid', with no condition of mine (the row lists 8 package-level variables, which the card ties to the program's text).
-/
import Derived.Test.YtkgagcbefagpcaaGreatDoorQuoQ10b
import Derived.Test.YtkgagcbefagpcaaGreatDoorTie
import Derived.Test.YtkgagcbefagpcaaGreatDoorCards
namespace Go.Proofs.YtkgagcbefagpcaaGreatDoor
open Go.ChangeShapes Go.WideShapes Go.ChangeAt Go.RowKit Go.Deep Lx Px Qx
theorem versionsMatchesReference_holds:Rows.VersionsMatchesReferenceCardSaid := Claim7.holds_tied_plain_at .later [] [.data,.data,.data,.data,.sentinel,.sentinel,.data,.pinned] true (true, "9fa88fc80f917dd811733c3db03682e868c061b6d7a0586ace3c98c5905e2bf9") true Z39 (λ_ h=>by cases h) (by as_aux_lemma=>kernel_rfl) (λ_ h=>by cases h) versionsMatchesReference_row_tie rfl ⟨rfl,rfl⟩ (by as_aux_lemma=>kernel_rfl) rfl (λf fn hf hfn=>by
   obtain rfl:f=3:=Option.some.inj (Z1b.symm.trans hf) |>.symm;obtain rfl:fn=Tryz.f3:=(Option.some.inj (Tryz.func3.symm.trans hfn)).symm;exact ⟨by as_aux_lemma=>kernel_rfl,λj t ht=>by
    rw [Tryz.params3] at ht;have hm:t∈[22,3,23,31,3]:=by simpa using Array.mem_of_getElem? ht
    have hall:([22,3,23,31,3].all λu=>!Tryz.prog.wantsStandIn u)=true:=by as_aux_lemma=>kernel_rfl
    exact (show Tryz.prog.wantsStandIn t=false by simpa using List.all_eq_true.1 hall t hm)⟩)
  (by as_aux_lemma=>kernel_rfl)
#print axioms versionsMatchesReference_holds
