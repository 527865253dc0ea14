/-
  Several texts in one: QuoLaw7, QuoL4, QuoLaw8.
-/
import Derived.Test.YtnepkoepbapgeaaGreatDoorQuoLaw6
import Derived.Test.YtnepkoepbapgeaaGreatDoorQuoVs4
import Derived.Test.YtnepkoepbapgeaaGreatDoorQuoVer
import Derived.Test.YtnepkoepbapgeaaGreatDoorQuoPla
namespace Go.Proofs.YtnepkoepbapgeaaGreatDoor
section
open Go.RowKit Lx Px Qx
attribute [local irreducible] Qx.Vr.dig Qx.powP Qx.sigE Qx.sigS
theorem Z91 {v:Vr}{a:Qx.Ask}{t s o:Int}{q:Qt}(h:Z3x v a t s o=(q,0)):q.ver=v.num∧q.time=t∧q.ask=a:=by
 obtain ⟨h1,h2,h3,h4,h5,h6,w,hw,hq⟩:=Z9b h
 have hp:=Z5c hw;subst hq;exact ⟨hp.1,hp.2.1,hp.2.2.1⟩
theorem others {l:List Vr}{k:Nat}{a:Qx.Ask}{t s:Int}{q:Qt}(h:VsOk l)(hk:k<l.length)(ht:Z0D t=true)(hm:Z3x l[k] a t s 7=(q,0)) :
 ∃ x b,atV l t=(x,b,0)∧(((b=false∨x.num≠l[k].num)∧(honV l q (powP 4 s.toNat:Nat))=(0,0,6)) ∨
  (b=true∧x.num=l[k].num∧honV l q (powP 4 s.toNat:Nat)=(q.total,q.keep,0)∧∀ y:Int,y≠0→honV l { q with total:=q.total+y } (powP 4 s.toNat:Nat)=(0,0,9))):=by
 obtain ⟨hv,hti,hask⟩:=Z91 hm
 have hmem:=Z9f s.toNat (Z9g s.toNat)
 have hck:=Z5a hm;have hnum:numI l q.ver=k:=by rw [hv];exact Zex h hk
 have hon:=ZaA (Z09.2 h) hmem hk hnum
 rw [hck,if_pos rfl,hti] at hon
 have hoth:∀ y:Int,y≠0→honV l { q with total:=q.total+y } (powP 4 s.toNat:Nat)=(0,0,9):=fun y hy=>by
  have hc:Z18 l[k] { q with total:=q.total+y } (powP 4 s.toNat:Nat)=(false,0):=by
   refine Z93 hm rfl rfl ?_ hmem
   rw [← Bool.not_eq_true,Qt.same_iff]
   rintro ⟨_,_,h,_⟩
   have h':q.total+y=q.total:=h
   omega
  rw [ZaA (Z09.2 h) hmem hk (q:={ q with total:=q.total+y }) hnum,hc]
  rfl
 rw [Z6m h ht]
 rcases Z8k h t with ⟨e,_⟩ | ⟨i,hi,e,_⟩
 · rw [e,if_pos (by decide)]
   refine ⟨_,_,rfl,.inl ⟨.inl rfl,?_⟩⟩
   rw [hon,e,if_neg (by omega)]
 · rw [e,if_neg (by omega)]
   refine ⟨_,_,rfl,?_⟩
   have hget:l.getD (i:Int).toNat .zero=l[i]:=by simp [List.getD_eq_getElem?_getD,List.getElem?_eq_getElem hi]
   rw [hget]
   by_cases hik:i=k
   · subst hik
     exact .inr ⟨rfl,rfl,by rw [hon,e,if_pos rfl],hoth⟩
   · refine .inl ⟨.inr fun hn=>hik (h.num_inj hi hk hn),?_⟩
     rw [hon,e,if_neg (by omega)]
theorem Znm {l:List Vr}{k:Nat}{a:Qx.Ask}{t s t2:Int}{rs:List Rt}{q:Qt}(hk:k<l.length)(hm:Z3x l[k] a t s 7=(q,0))(hin:inF l t=k)(hp:Z3y l t2 rs=0)(htt:t<t2) :
 honV (l++[Z1D l t2 rs]) q (powP 4 s.toNat:Nat)=(q.total,q.keep,0):=by
 obtain ⟨_,h2,_⟩:=Zey hp
 obtain ⟨hv,hti,_⟩:=Z91 hm
 have hk2:k<(l++[Z1D l t2 rs]).length:=by simp;omega
 have hg:(l++[Z1D l t2 rs])[k]=l[k]:=List.getElem_append_left hk
 have hnum:numI (l++[Z1D l t2 rs]) q.ver=k:=by
  have:=Zex h2 hk2
  rwa [hg,← hv] at this
 rw [ZaA (Z09.2 h2) (Z9f s.toNat (Z9g s.toNat)) hk2 hnum,hg,Z5a hm,if_pos rfl,hti,Zbu,if_neg (show ¬ t2≤t by omega),hin,if_pos rfl]
end
section
open Go.RowKit Lx Px Qx
attribute [local irreducible] Qx.sigE Qx.sigS Qx.Vr.dig Qx.powP
theorem Znn {v:Vr}{a:Qx.Ask}{t s o e:Int}(h1:v.okB=true)(h2:a.okB=true)(h3:Z0D t=true)(h4:secB s=true)(h5:secB o=true)(h6:v.time≤t)(hp:Z0g v.rs a=.error e):Z3x v a t s o=(.zero,e):=by
 rw [Zk5 h1 h2 h3 h4 h5 h6,Zbk hp]
theorem Znp {v:Vr}{a:Qx.Ask}{t s o kp:Int}{ns:List Int}(h1:v.okB=true)(h2:a.okB=true)(h3:Z0D t=true)(h4:secB s=true)(h5:secB o=true)(h6:v.time≤t)(hp:Z0g v.rs a=.ok (ns,kp)) :
 ∃ E S,Z3x v a t s o=(⟨v.num,t,ns.sum,kp,a,ns,v.dig,E,S⟩,0):=by
 rw [Zk5 h1 h2 h3 h4 h5 h6,Z8d hp]
 exact ⟨_,_,rfl⟩
end
section
open Go.RowKit Lx Px Qx
attribute [local irreducible] Qx.Vr.dig Qx.powP Qx.sigE Qx.sigS
theorem Zr1 {l:List Vr}{a:Qx.Ask}{t s:Int}(h:VsOk l)(ht:Z0D t=true)(ha:a.okB=true)(hs:secB s=true) :
 ∃ x b,atV l t=(x,b,0)∧(b=true→useB x.rs=true∧∃ Q er,Z3x x a t s 7=(Q,er)∧((er≠0∧Z0g x.rs a=.error er) ∨
  (er=0∧Z0g x.rs a=.ok (Q.nights,Q.keep)∧Q.total=Q.nights.sum∧honV l Q (powP 4 s.toNat:Nat)=(Q.total,Q.keep,0) ∧
   ∀ t2 rs,Z3y l t2 rs=0→t<t2→honV (l++[Z1D l t2 rs]) Q (powP 4 s.toNat:Nat)=(Q.total,Q.keep,0)))):=by
 rw [Z6m h ht]
 rcases Z8k h t with ⟨e,_⟩ | ⟨i,hi,e,hle,_⟩
 · rw [e,if_pos (by decide)]
   exact ⟨_,_,rfl,fun hb=>by cases hb⟩
 · rw [e,if_neg (by omega)]
   have hget:l.getD (i:Int).toNat .zero=l[i]:=by simp [List.getD_eq_getElem?_getD,List.getElem?_eq_getElem hi]
   rw [hget]
   refine ⟨_,_,rfl,fun _=>?_⟩
   have hok:=(h.1 i hi hi).1
   have hlt:=hle i hi (zn _)
   have h7:secB 7=true:=by decide
   refine ⟨(Z8c hok).1,?_⟩
   cases hp:Z0g l[i].rs a with
   | error er =>
    obtain ⟨e0,_,_⟩:=Z6s hp
    exact ⟨_,_,Znn hok ha ht hs h7 hlt hp,.inl ⟨e0,rfl⟩⟩
   | ok x =>
    obtain ⟨ns,kp⟩:=x
    obtain ⟨E,S,hm⟩:=Znp hok ha ht hs h7 hlt hp
    refine ⟨_,_,hm,.inr ⟨rfl,rfl,rfl,?_,fun t2 rs hpu htt=>Znm hi hm e hpu htt⟩⟩
    obtain ⟨hv,hti,_⟩:=Z91 hm
    rw [ZaA (Z09.2 h) (Z9f s.toNat (Z9g s.toNat)) hi (by rw [hv];exact Zex h hi),Z5a hm,if_pos rfl,hti,e,if_pos rfl]
theorem Zac {l:List Vr}{t:Int}(h:VsOk l)(ht:Z0D t=true)(k:Nat)(hk:∀ hk:k<l.length,t<l[k].time):atV (l.take k) t=atV l t:=by
 rw [Z6m h ht,Z6m (h.take k) ht,Zgk h t k hk]
 have hr:=Z2k (fun v:Vr=>decide (v.time≤t)) (l.take k)
 have hr2:inF (l.take k) t<(l.take k).length:=hr.2
 rw [Zgk h t k hk,List.length_take] at hr2
 split
 · rfl
 · congr 1
   rw [List.getD_eq_getElem?_getD,List.getD_eq_getElem?_getD,List.getElem?_take_of_lt (by omega)]
theorem Zhj {l:List Vr}{t:Int}(h:VsOk l)(ht:Z0D t=true):∃ x b A,atV l t=(x,b,0)∧vrSm x∧-1≤A∧A<(l.length:Int)∧b=decide (A≥0) ∧
 (b=true→∃ hA:A.toNat<l.length,l[A.toNat]=x∧x.time≤t)∧(∀ j (hj:j<l.length),b=true→((l[j].num==x.num)=decide ((j:Int)=A)))∧∀ j (hj:j<l.length),A<(j:Int)→t<l[j].time:=by
 rw [Z6m h ht]
 rcases Z8k h t with ⟨e,hall⟩ | ⟨i,hi,e,hle,hgt⟩
 · rw [e,if_pos (by decide)]
   exact ⟨_,_,-1,rfl,Zer,by omega,by omega,rfl,fun hb=>absurd hb (by decide),fun _ _ hb=>absurd hb (by decide),fun j hj _=>hall j hj⟩
 · rw [e,if_neg (by omega)]
   have hget:l.getD (i:Int).toNat .zero=l[i]:=by simp [List.getD_eq_getElem?_getD,List.getElem?_eq_getElem hi]
   rw [hget]
   refine ⟨_,_,i,rfl,Zp6 (Z09.2 h) _ (List.getElem_mem hi),by omega,by omega,by simp,fun _=>⟨hi,rfl,hle i hi (zn _)⟩,fun j hj _=>?_,fun j hj hij=>hgt j hj (by omega)⟩
   rw [Bool.eq_iff_iff,beq_iff_eq,decide_eq_true_eq]
   exact ⟨fun hn=>by rw [h.num_inj hj hi hn],fun hn=>by have:j=i:=(by omega);subst this;rfl⟩
end
end Go.Proofs.YtnepkoepbapgeaaGreatDoor
