/-
  The example of the statements about versions, as plain facts.
-/
import Derived.Test.YtnepkoepbapgeaaGreatDoorQuoVs2
import Derived.Test.YtnepkoepbapgeaaGreatDoorQuoVs3
import Derived.Test.YtnepkoepbapgeaaGreatDoorQuoVs4
namespace Go.Proofs.YtnepkoepbapgeaaGreatDoor
open Go.RowKit Lx Px Qx
namespace Qx
attribute [local irreducible] Vr.dig powP sigE sigS
def hvA:Vr:=⟨1,10,[Z4e.rt]⟩
def hvB:Vr:=⟨2,20,[Z3F.rt]⟩
theorem Zfq:hvA.okB=true:=by
 unfold hvA Vr.okB
 simp only [Zjf,List.all_cons,List.all_nil,Zjg]
 rfl
theorem Zpx:hvB.okB=true:=by
 unfold hvB Vr.okB
 simp only [Zjj,List.all_cons,List.all_nil,Zjk]
 rfl
theorem hv_ok1:VsOk [hvA]:=by
 refine ⟨fun i h _=>?_,by decide⟩
 have:i=0:=by simp at h;omega
 subst this;exact ⟨Zfq,fun h=>absurd h (by decide)⟩
theorem Zfr:VsOk [hvA,hvB]:=by
 refine ⟨fun i h _=>?_,by decide⟩
 have:i=0∨i=1:=by simp at h;omega
 rcases this with rfl | rfl
 · exact ⟨Zfq,fun h=>absurd h (by decide)⟩
 · exact ⟨Zpx,fun _=>⟨(show (1:Int)<2 by decide),(show (10:Int)≤20 by decide)⟩⟩
theorem hv_nil:VsOk []:=⟨fun i h _=>absurd h (by simp),by decide⟩
theorem Zfs:Z3y [] 10 [Z4e.rt]=0∧Z1D [] 10 [Z4e.rt]=hvA:=by
 have e:Z1D [] 10 [Z4e.rt]=hvA:=rfl
 refine ⟨?_,e⟩
 rw [Z5j (Z09.2 hv_nil) (fun h=>absurd h (by simp)),e,Zfq]
 rfl
theorem Zft:Z3y [hvA] 20 [Z3F.rt]=0∧Z1D [hvA] 20 [Z3F.rt]=hvB:=by
 have e:Z1D [hvA] 20 [Z3F.rt]=hvB:=rfl
 refine ⟨?_,e⟩
 rw [Z5j (Z09.2 hv_ok1) (fun _=>(show (10:Int)≤20 by decide)),e,Zpx]
 rfl
theorem Znh:Z3y [hvA,hvB] 19 [Z3F.rt]=6:=Zm5 (Z09.2 Zfr) (by decide) (by decide)
theorem Zqy (t:Int)(k:Int)(h:inF [hvA,hvB] t=k)(ht:Z0D t=true):atV [hvA,hvB] t=if k<0 then (.zero,false,0) else ([hvA,hvB].getD k.toNat .zero,true,0):=by
 unfold atV
 rw [Z09.2 Zfr,ht,h]
 rfl
theorem Zqz:atV [hvA,hvB] 19=(hvA,true,0):=Zqy 19 0 (by decide) (by decide)
theorem ZqA:atV [hvA,hvB] 20=(hvB,true,0):=Zqy 20 1 (by decide) (by decide)
theorem hv_at9:atV [hvA,hvB] 9=(.zero,false,0):=(Zqy 9 (-1) (by decide) (by decide)).trans (if_pos (by decide))
def hvW (t:Int):Qt:=⟨1,t,20000,10000,Zcj,[10000,10000],hvA.dig,0,0⟩
def hvQ (t:Int):Qt:={ hvW t with sE:=(sigE 5 6 (hvW t).says:Nat),sS:=(sigS 5 6 (hvW t).says:Nat) }
theorem Zbi (t:Int)(h:t=15∨t=25):Z3x hvA Zcj t 5 6=(hvQ t,0):=by
 have hp:Z2F hvA Zcj t=.ok (hvW t):=Z8d (ns:=[10000,10000]) ZdH
 rw [Zfw Zfq (by decide) (by rcases h with rfl | rfl <;> decide) (by decide) (by decide),if_neg (by rcases h with rfl | rfl <;> decide),hp]
 rw [show (5:Int).toNat=5 from rfl,show (6:Int).toNat=6 from rfl]
 unfold hvQ
 rfl
theorem Zpy:memB (powP 4 5:Nat)=true:=Z9f 5 (Z9g 5)
theorem ZjD (q:Qt)(b:Bool)(hq:q.ver=1)(hc:Z18 hvA q (powP 4 5:Nat)=(b,0))(x:Int × Int × Int)(hx:(if b then (if inF [hvA,hvB] q.time=0 then (q.total,q.keep,0) else (0,0,6)) else (0,0,9))=x):honV [hvA,hvB] q (powP 4 5:Nat)=x:=by
 have hn:numI [hvA,hvB] q.ver=(0:Nat):=by rw [hq];decide
 rw [ZaA (Z09.2 Zfr) Zpy (i:=0) (by decide) hn]
 show (if (Z18 hvA q (powP 4 5:Nat)).1=true then _ else _)=x
 rw [hc]
 exact hx
theorem Zfu (t:Int)(h:t=15∨t=25):Z18 hvA (hvQ t) (powP 4 5:Nat)=(true,0):=by
 have h:=Z5a (Zbi t h)
 rwa [show (5:Int).toNat=5 from rfl] at h
theorem ZqB:honV [hvA,hvB] (hvQ 15) (powP 4 5:Nat)=(20000,10000,0):=ZjD _ true rfl (Zfu 15 (.inl rfl)) _ (by rw [if_pos rfl,if_pos (show inF [hvA,hvB] (hvQ 15).time=0 from (show inF [hvA,hvB] 15=0 by decide))];rfl)
theorem ZqC:honV [hvA,hvB] (hvQ 25) (powP 4 5:Nat)=(0,0,6):=ZjD _ true rfl (Zfu 25 (.inr rfl)) _ (by rw [if_pos rfl,if_neg (show ¬ inF [hvA,hvB] (hvQ 25).time=0 from (show ¬ inF [hvA,hvB] 25=0 by decide))])
theorem Zni:Z18 hvA { hvQ 15 with total:=20001 } (powP 4 5:Nat)=(false,0):=by
 refine Z93 (Zbi 15 (.inl rfl)) rfl rfl ?_ Zpy
 rw [← Bool.not_eq_true,Qt.same_iff]
 rintro ⟨_,_,h,_⟩
 exact absurd (show (20001:Int)=20000 from h) (by decide)
theorem ZqD:honV [hvA,hvB] { hvQ 15 with total:=20001 } (powP 4 5:Nat)=(0,0,9):=ZjD _ false rfl Zni _ rfl
theorem Zbj (t k:Int)(h:0≤t∧t≤100)(hk:0≤k∧k≤100000):(∀ x∈({ hvQ t with total:=k }:Qt).says,-9223372036854775808≤x∧x≤9223372036854775807):=by
 have hd:=Z90 hvA;unfold hvQ hvW
 generalize hvA.dig=d at *
 intro x hx
 simp only [Qt.says,Zcj,List.mem_append,List.mem_cons,List.not_mem_nil,or_false] at hx
 rcases hx with (hx | hx) | hx
 · rcases hx with rfl | rfl | rfl | rfl | rfl | rfl | rfl | rfl | rfl <;> first | omega | decide
 · rcases hx with rfl | rfl <;> decide
 · rcases hx with rfl | rfl <;> omega
theorem Znj:vsB [hvA,hvB]=true:=Z09.2 Zfr
theorem ZqE:vsB [⟨0,0,[]⟩]=false:=Z4G.2 fun h=>absurd ((h.1 0 (by decide) (by decide)).1) (by decide)
end Qx
end Go.Proofs.YtnepkoepbapgeaaGreatDoor
