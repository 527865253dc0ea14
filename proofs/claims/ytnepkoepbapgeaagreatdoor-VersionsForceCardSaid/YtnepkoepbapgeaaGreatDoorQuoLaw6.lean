/-
  Plain laws of versions: what a version that is pushed changes; the first ones of a list.
-/
import Derived.Test.YtnepkoepbapgeaaGreatDoorQuoS15c
import Derived.Test.YtnepkoepbapgeaaGreatDoorQuoVs2
namespace Go.Proofs.YtnepkoepbapgeaaGreatDoor
open Go.RowKit Lx Px Qx
theorem Z6m {l:List Vr}{t:Int}(h1:VsOk l)(h2:Z0D t=true):atV l t=if inF l t<0 then (.zero,false,0) else (l.getD (inF l t).toNat .zero,true,0):=by
 unfold atV
 rw [Z09.2 h1,h2]
 rfl
theorem Zcz {l:List Vr}{t:Int}(h1:VsOk l)(h2:Z0D t=true):∃ x b,atV l t=(x,b,0)∧vrSm x:=by
 rw [Z6m h1 h2]
 split
 · exact ⟨_,_,rfl,Zer⟩
 · refine ⟨_,_,rfl,?_⟩
   rw [List.getD_eq_getElem?_getD]
   cases h:l[(inF l t).toNat]? with
   | none=>exact Zer
   | some x=>exact Zp6 (Z09.2 h1) x (List.mem_of_getElem? h)
theorem Zr0 {l:List Vr}{t th:Int}{rs:List Rt}(hp:Z3y l t rs=0)(hth:Z0D th=true):∃ x1 b1 x2 b2,atV (l++[Z1D l t rs]) th=(x1,b1,0)∧atV l th=(x2,b2,0)∧vrSm x1∧(t≤th→b1=true∧x1=Z1D l t rs)∧(th<t→b1=b2∧x1=x2):=by
 obtain ⟨h1,h2,h3⟩:=Zey hp
 obtain ⟨x1,b1,e1,s1⟩:=Zcz h2 hth
 obtain ⟨x2,b2,e2,s2⟩:=Zcz h1 hth
 refine ⟨x1,b1,x2,b2,e1,e2,s1,?_,?_⟩
 · intro h
   rw [Z6m h2 hth,Zbu,if_pos h,if_neg (by omega)] at e1
   injection e1 with a b
   injection b with b _
   refine ⟨b.symm,?_⟩
   rw [← a]
   simp
 · intro h
   rw [Z6m h2 hth,Zbu,if_neg (show ¬ t≤th by omega)] at e1
   rw [Z6m h1 hth] at e2
   have hr:=Z2k (fun v:Vr=>decide (v.time≤th)) l
   have hr2 : -1≤inF l th∧inF l th<l.length:=hr
   split at e1
   · rename_i hn
     rw [if_pos hn] at e2
     injection e1 with a b
     injection b with b _
     injection e2 with a2 b2
     injection b2 with b2 _
     exact ⟨b.symm.trans b2,a.symm.trans a2⟩
   · rename_i hn
     rw [if_neg hn] at e2
     injection e1 with a b
     injection b with b _
     injection e2 with a2 b2
     injection b2 with b2 _
     refine ⟨b.symm.trans b2,?_⟩
     rw [← a,← a2,List.getD_eq_getElem?_getD,List.getD_eq_getElem?_getD,List.getElem?_append_left (by omega)]
theorem Z6n {w:World}{B:Nat}{A:Option Addr}{n c:Nat}{l:List Vr}(h:VssV w B (.slice A n c) l){k:Nat}(hk:k≤l.length):VssV w B (.slice A k c) (l.take k):=by
 obtain ⟨A',c',e,hcap,hA⟩:=h
 injection e with e1 _ e3
 subst e1 e3;refine ⟨A,c,by rw [List.length_take,Nat.min_eq_left hk],by rw [List.length_take];omega,fun hl=>?_⟩
 obtain ⟨g,o,e1,hg,hr⟩:=hA (by intro e;rw [e] at hl;simp at hl)
 refine ⟨g,o,e1,hg,fun j hj=>?_⟩
 have hj2:j<l.length:=by rw [List.length_take] at hj;omega
 obtain ⟨RA,rc,h1,h2,h3,h4⟩:=hr j hj2
 rw [List.getElem_take]
 exact ⟨RA,rc,h1,h2,h3,h4⟩
end Go.Proofs.YtnepkoepbapgeaaGreatDoor
