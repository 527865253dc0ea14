/-
  Several texts in one: QuoHd, QuoVer.
-/
import Derived.Test.YtnepkoepbapgeaaGreatDoorQuoUse
import Derived.Test.YtnepkoepbapgeaaGreatDoorPrtSame
import Derived.Test.YtnepkoepbapgeaaGreatDoorParW13
import Derived.Test.YtnepkoepbapgeaaGreatDoorQuoPla
namespace Go.Proofs.YtnepkoepbapgeaaGreatDoor
section
open Go.RowKit Lx Px Qx
theorem Z28 (q:Qt)(nv:Value):(qtC q nv).size=12:=rfl
theorem Zgj {w w':World}{B:Nat}(h:Mx w B)(hb:Below B w w'):Mx w' w'.heap.size:=by
 obtain ⟨m,hm,hl⟩:=h
 exact ⟨m,(hb.cell hl).trans hm,by have:=World.block_lt_of_cell? _ _ ((hb.cell hl).trans hm);exact this⟩
structure QbK (p:Nat) (q:Qt) (nv:Value) (W:World):Prop where
 h:W.heap[p]?=some (.cells (qtC q nv) 32 (0,0))
 i:Z07 W p nv q.nights
theorem QbK.on {p:Nat}{q:Qt}{nv:Value}{W W':World}(h:QbK p q nv W)(hb:Below W.heap.size W W'):QbK p q nv W' :=
 ⟨(hb.block _ (zs h.h)).trans h.h,h.i.on (hb.mono (Nat.le_of_lt (zs h.h)))⟩
theorem QbK.new {q:Qt}{nv:Value}{W:World}(h:Z07 W W.heap.size nv q.nights):QbK W.heap.size q nv (W.alloc (.cells (qtC q nv) 32)):=by
 have hb:=(Below.refl W.heap.size W).alloc (zn _) (.cells (qtC q nv) 32)
 exact ⟨za W _,h.on hb⟩
theorem QbK.lt {p:Nat}{q:Qt}{nv:Value}{W:World}(h:QbK p q nv W):p<W.heap.size:=(zs h.h)
theorem QbK.v {p:Nat}{q:Qt}{A:Option Addr}{c:Nat}{W:World}(h:QbK p q (.slice A q.nights.length c) W):QtV W W.heap.size (.agg (qtC q (.slice A q.nights.length c))) q:=⟨A,c,rfl,h.i.up (Nat.le_of_lt h.lt)⟩
theorem QbK.c {p:Nat}{q:Qt}{nv:Value}{W:World}(h:QbK p q nv W)(i:Nat)(u:Value)(hu:(qtC q nv)[i]?=some u):W.cell? ⟨p,i,none⟩=some u:=by rw [zc h.h,hu]
theorem QbK.f {p:Nat}{q:Qt}{nv:Value}{W:World}(h:QbK p q nv W)(i:Nat):W.frozen? ⟨p,i,none⟩=false:=by have:=h.h;simp [World.frozen?,this]
theorem QbK.far {p B:Nat}{q:Qt}{nv:Value}{W W':World}(h:QbK p q nv W)(hb:Below B W W')(hp:p<B):QbK p q nv W':=⟨(hb.block _ hp).trans h.h,h.i.on (hb.mono (Nat.le_of_lt hp))⟩
theorem QbK.set2 {p:Nat}{q:Qt}{nv:Value}{W:World}(h:QbK p q nv W)(x:Int):QbK p { q with total:=x } nv (W.setCell ⟨p,2,none⟩ (.int .i64 x)):=by
 have h':=h.h
 refine ⟨?_,h.i.on ((Below.refl p W).setCell (p:=⟨p,2,none⟩) (zn _) _)⟩
 unfold qtC at h'
 simp [World.setCell,Array.getElem?_modify,h',qtC]
theorem QbK.all {p:Nat}{q:Qt}{nv:Value}{W:World}(h:QbK p q nv W):W.cell? ⟨p,0,none⟩=some (.int .i64 q.ver)∧W.cell? ⟨p,1,none⟩=some (.int .i64 q.time)∧W.cell? ⟨p,2,none⟩=some (.int .i64 q.total)∧W.cell? ⟨p,3,none⟩=some (.int .i64 q.keep) ∧
 W.cell? ⟨p,4,none⟩=some (.int .i64 q.ask.kind)∧W.cell? ⟨p,5,none⟩=some (.int .i64 q.ask.fr)∧W.cell? ⟨p,6,none⟩=some (.int .i64 q.ask.un)∧W.cell? ⟨p,7,none⟩=some (.int .i64 q.ask.pers)∧W.cell? ⟨p,8,none⟩=some nv∧W.cell? ⟨p,9,none⟩=some (.int .u64 (q.dig:Nat))∧W.cell? ⟨p,10,none⟩=some (.int .i64 q.sE)∧W.cell? ⟨p,11,none⟩=some (.int .i64 q.sS) :=
 ⟨h.c 0 _ rfl,h.c 1 _ rfl,h.c 2 _ rfl,h.c 3 _ rfl,h.c 4 _ rfl,h.c 5 _ rfl,h.c 6 _ rfl,h.c 7 _ rfl,h.c 8 _ rfl,h.c 9 _ rfl,h.c 10 _ rfl,h.c 11 _ rfl⟩
theorem Z4F {w:World}{B:Nat}{V:Value}{q:Qt}(h:QtV w B V q):∃ A c,V=.agg (qtC q (.slice A q.nights.length c))∧Z07 w B (.slice A q.nights.length c) q.nights:=h
attribute [local irreducible] Qx.sigE Qx.sigS Qx.Vr.dig Qx.powP
namespace Qx
def hdV12:Vr:=⟨3,50,[hdR12.rt]⟩
def hdW12:Qt:=⟨3,60,40000,20000,Zcj,[20000,20000],hdV12.dig,0,0⟩
end Qx
end
section
open Lx Px
namespace Qx
def Z1C {α:Type}(p:α→Bool):List α→Int
 | []=>-1
 | a::l=>if 0≤Z1C p l then Z1C p l+1 else if p a then 0 else -1
theorem Z2k {α:Type}(p:α→Bool)(l:List α) : -1≤Z1C p l∧Z1C p l<l.length:=by
 induction l with
 | nil=>simp [Z1C]
 | cons a l ih =>
  obtain ⟨h1,h2⟩:=ih
  unfold Z1C
  rw [List.length_cons]
  split
  · omega
  · split <;> omega
theorem Z5h {α:Type}(p:α→Bool):∀ (l:List α) (i:Nat) (h:i<l.length),p l[i]=true→(∀ j (hj:j<l.length),i<j→p l[j]=false)→Z1C p l=i:=by
 intro l
 induction l with
 | nil=>intro i h;simp at h
 | cons a l ih =>
  intro i h hp hn
  cases i with
  | zero =>
   have h0:Z1C p l = -1:=by
    rcases Int.lt_or_le (Z1C p l) 0 with h' | h'
    · have:=(Z2k p l).1;omega
    · exfalso
      exact nope l (fun j hj=>by have:=hn (j+1) (by simpa using hj) (by omega);simpa using this) h'
   unfold Z1C
   rw [h0]
   simp only [List.getElem_cons_zero] at hp
   rw [if_neg (by omega),if_pos hp]
   rfl
  | succ i =>
   have:=ih i (by simpa using h) (by simpa using hp) (fun j hj hij=>by have:=hn (j+1) (by simpa using hj) (by omega);simpa using this)
   unfold Z1C
   rw [this,if_pos (by omega)]
   omega
where
 nope (l:List α) (h:∀ j (hj:j<l.length),p l[j]=false) (h0:0≤Z1C p l):False:=by
  induction l with
  | nil=>simp [Z1C] at h0
  | cons a l ih =>
   unfold Z1C at h0
   split at h0
   · rename_i h1
     exact ih (fun j hj=>by have:=h (j+1) (by simpa using hj);simpa using this) h1
   · split at h0
     · rename_i h2
       have:=h 0 (by simp)
       simp only [List.getElem_cons_zero] at this
       rw [this] at h2
       cases h2
     · omega
theorem Z7q {α:Type}(p:α→Bool)(l:List α)(h:∀ j (hj:j<l.length),p l[j]=false):Z1C p l = -1:=by
 have h1:=(Z2k p l).1
 rcases Int.lt_or_le (Z1C p l) 0 with h' | h'
 · omega
 · exact (Z5h.nope p l h h').elim
theorem Zay {α:Type}(p:α→Bool):∀ (l:List α),(Z1C p l = -1∧∀ j (hj:j<l.length),p l[j]=false)∨(∃ (i:Nat) (h:i<l.length),Z1C p l=i∧p l[i]=true∧∀ j (hj:j<l.length),i<j→p l[j]=false):=by
 intro l
 induction l with
 | nil=>exact .inl ⟨rfl,fun j hj=>by simp at hj⟩
 | cons a l ih =>
  rcases ih with ⟨h1,h2⟩ | ⟨i,hi,h1,h2,h3⟩
  · cases hp:p a with
    | true =>
     refine .inr ⟨0,by simp,?_,by simpa using hp,?_⟩
     · unfold Z1C;rw [h1,if_neg (by omega),if_pos hp];rfl
     · intro j hj h0
       cases j with
       | zero=>omega
       | succ j=>simpa using h2 j (by simpa using hj)
    | false =>
     refine .inl ⟨?_,?_⟩
     · unfold Z1C;rw [h1,if_neg (by omega),hp];simp
     · intro j hj
       cases j with
       | zero=>simpa using hp
       | succ j=>simpa using h2 j (by simpa using hj)
  · refine .inr ⟨i+1,by simpa using hi,?_,by simpa using h2,?_⟩
    · unfold Z1C;rw [h1,if_pos (by omega)];omega
    · intro j hj h0
      cases j with
      | zero=>omega
      | succ j=>simpa using h3 j (by simpa using hj) (by omega)
theorem Zi1 {α:Type}(p:α→Bool)(l:List α)(a:α):Z1C p (l++[a])=if p a then (l.length:Int) else Z1C p l:=by
 cases hp:p a with
 | true =>
  rw [if_pos rfl]
  refine Z5h p (l++[a]) l.length (by simp) (by simpa using hp) (fun j hj h=>?_)
  simp at hj;omega
 | false =>
  rw [if_neg (by simp)]
  have hlast:∀ j (hj:j<(l++[a]).length),l.length≤j→p (l++[a])[j]=false:=by
   intro j hj h
   have:j=l.length:=by simp at hj;omega
   subst this;simpa using hp
  rcases Zay p l with ⟨h1,h2⟩ | ⟨i,hi,h1,h2,h3⟩
  · rw [h1]
    refine Z7q p _ (fun j hj=>?_)
    by_cases hl:j<l.length
    · rw [List.getElem_append_left hl];exact h2 j hl
    · exact hlast j hj (by omega)
  · rw [h1]
    refine Z5h p _ i (by simp;omega) (by rw [List.getElem_append_left hi];exact h2) (fun j hj hij=>?_)
    by_cases hl:j<l.length
    · rw [List.getElem_append_left hl];exact h3 j hl hij
    · exact hlast j hj (by omega)
def VsK (l:List Vr)(k:Nat):Prop:=∀ i (h:i<l.length),i<k→l[i].okB=true∧∀ (_:0<i),l[i - 1].num<l[i].num∧l[i - 1].time≤l[i].time
def VsOk (l:List Vr):Prop:=VsK l l.length∧l.length≤100
open Classical in
noncomputable def vsB (l:List Vr):Bool:=decide (VsOk l)
theorem Z09 {l:List Vr}:vsB l=true ↔ VsOk l:=by unfold vsB;simp
theorem Z4G {l:List Vr}:vsB l=false ↔ ¬ VsOk l:=by unfold vsB;simp
theorem VsK.zero (l:List Vr):VsK l 0:=fun i _ h=>absurd h (by omega)
theorem VsK.succ {l:List Vr}{k:Nat}(h:VsK l k)(hk:k<l.length)(h1:l[k].okB=true)(h2:∀ (_:0<k),l[k - 1].num<l[k].num∧l[k - 1].time≤l[k].time):VsK l (k+1):=by
 intro i hi hik
 by_cases e:i=k
 · subst e;exact ⟨h1,h2⟩
 · exact h i hi (by omega)
theorem VsK.mono {l:List Vr}(h:VsK l l.length):∀ (j i:Nat) (hj:j<l.length) (hij:i<j),(l[i]'(by omega)).num<l[j].num∧(l[i]'(by omega)).time≤l[j].time:=by
 intro j
 induction j with
 | zero=>intro i hj h';exact absurd h' (by omega)
 | succ j ih =>
  intro i hj hij
  obtain ⟨a,b⟩:=(h (j+1) hj hj).2 (by omega)
  simp only [Nat.add_sub_cancel] at a b
  by_cases e:i=j
  · subst e;exact ⟨a,b⟩
  · obtain ⟨c,d⟩:=ih i (by omega) (by omega)
    exact ⟨by omega,by omega⟩
theorem VsOk.take {l:List Vr}(h:VsOk l)(k:Nat):VsOk (l.take k):=by
 refine ⟨fun i hi _=>?_,by have:=h.2;rw [List.length_take];omega⟩
 have hl:i<l.length:=by rw [List.length_take] at hi;omega
 obtain ⟨a,b⟩:=h.1 i hl hl
 refine ⟨by rw [List.getElem_take];exact a,fun h0=>?_⟩
 rw [List.getElem_take,List.getElem_take]
 exact b h0
theorem VsOk.num_inj {l:List Vr}(h:VsOk l){i j:Nat}(hi:i<l.length)(hj:j<l.length)(e:l[i].num=l[j].num):i=j:=by
 rcases Nat.lt_trichotomy i j with h' | h' | h'
 · have:=(h.1.mono j i hj h').1;omega
 · exact h'
 · have:=(h.1.mono i j hi h').1;omega
def inF (l:List Vr)(t:Int):Int:=Z1C (fun v=>decide (v.time≤t)) l
def numI (l:List Vr)(n:Int):Int:=Z1C (fun v=>decide (v.num=n)) l
theorem Z8k {l:List Vr}(h:VsOk l)(t:Int):(inF l t = -1∧∀ j (hj:j<l.length),t<l[j].time)∨(∃ (i:Nat) (_:i<l.length),inF l t=i∧(∀ j (hj:j<l.length),j≤i→l[j].time≤t)∧∀ j (hj:j<l.length),i<j→t<l[j].time):=by
 rcases Zay (fun v:Vr=>decide (v.time≤t)) l with ⟨h1,h2⟩ | ⟨i,hi,h1,h2,h3⟩
 · exact .inl ⟨h1,fun j hj=>by have:=h2 j hj;simpa using this⟩
 · refine .inr ⟨i,hi,h1,fun j hj hji=>?_,fun j hj hij=>by have:=h3 j hj hij;simpa using this⟩
   have h2':l[i].time≤t:=by simpa using h2
   by_cases e:j=i
   · subst e;exact h2'
   · have:=(h.1.mono i j hi (by omega)).2;omega
theorem inF_is {l:List Vr}{t:Int}{i:Nat}(hi:i<l.length)(h1:l[i].time≤t)(h2:∀ j (hj:j<l.length),i<j→t<l[j].time):inF l t=i :=
 Z5h _ l i hi (by simpa using h1) (fun j hj hij=>by have:=h2 j hj hij;simpa using this)
theorem inF_no {l:List Vr}{t:Int}(h2:∀ j (hj:j<l.length),t<l[j].time):inF l t = -1 :=
 Z7q _ l (fun j hj=>by have:=h2 j hj;simpa using this)
theorem Zex {l:List Vr}(h:VsOk l){i:Nat}(hi:i<l.length):numI l l[i].num=i :=
 Z5h _ l i hi (by simp) (fun j hj hij=>by have:=(h.1.mono j i hj hij).1;simp;omega)
theorem Zgk {l:List Vr}(h:VsOk l)(t:Int)(k:Nat)(hk:∀ hk:k<l.length,t<l[k].time):inF (l.take k) t=inF l t:=by
 by_cases hkl:k<l.length
 · have hlt:=hk hkl
   rcases Z8k h t with ⟨h1,h2⟩ | ⟨i,hi,h1,h2,h3⟩
   · rw [h1]
     refine inF_no (fun j hj=>?_)
     rw [List.getElem_take]
     exact h2 j (by rw [List.length_take] at hj;omega)
   · have hik:i<k:=by
      rcases Nat.lt_or_ge i k with h' | h'
      · exact h'
      · have:=h2 k hkl h';omega
     rw [h1]
     refine inF_is (by rw [List.length_take];omega) (by rw [List.getElem_take];exact h2 i hi (zn _)) (fun j hj hij=>?_)
     rw [List.getElem_take]
     exact h3 j (by rw [List.length_take] at hj;omega) hij
 · rw [List.take_of_length_le (by omega)]
def Z1D (l:List Vr)(t:Int)(rs:List Rt):Vr:=⟨1+(if h:0<l.length then (l[l.length - 1]'(by omega)).num else 0),t,rs⟩
open Classical in
noncomputable def Z3y (l:List Vr) (t:Int) (rs:List Rt):Int :=
 if ¬ VsOk l then 1
 else if ∃ h:0<l.length,t<(l[l.length - 1]'(by omega)).time then 6
 else if l.length=100∨1000000<(Z1D l t rs).num then 2
 else if (Z1D l t rs).okB=true then 0 else 1
theorem Zey {l:List Vr}{t:Int}{rs:List Rt}(h:Z3y l t rs=0):VsOk l∧VsOk (l++[Z1D l t rs])∧(∀ j (hj:j<l.length),l[j].time≤t):=by
 unfold Z3y at h
 split at h
 · simp at h
 · rename_i hv
   rw [Classical.not_not] at hv
   split at h
   · simp at h
   · rename_i ht
     split at h
     · simp at h
     · rename_i hn
       split at h
       · rename_i ho
         have hlast:∀ h0:0<l.length,(l[l.length - 1]'(by omega)).time≤t:=fun h0=>by
          rcases Int.lt_or_le t (l[l.length - 1]'(by omega)).time with h' | h'
          · exact absurd ⟨h0,h'⟩ ht
          · exact h'
         have hall:∀ j (hj:j<l.length),l[j].time≤t:=by
          intro j hj
          have h1:=hlast (by omega)
          by_cases e:j=l.length - 1
          · subst e;exact h1
          · have:=(hv.1.mono (l.length - 1) j (by omega) (by omega)).2;omega
         refine ⟨hv,⟨fun i hi _=>?_,by rw [List.length_append,List.length_singleton];have:=hv.2;omega⟩,hall⟩
         by_cases hil:i<l.length
         · obtain ⟨a,b⟩:=hv.1 i hil hil
           refine ⟨by rw [List.getElem_append_left hil];exact a,fun h0=>?_⟩
           rw [List.getElem_append_left hil,List.getElem_append_left (by omega)]
           exact b h0
         · have he:i=l.length:=by rw [List.length_append,List.length_singleton] at hi;omega
           subst he;refine ⟨by simpa using ho,fun h0=>?_⟩
           rw [List.getElem_append_left (by omega)]
           simp only [List.getElem_append_right (zn _),Nat.sub_self,List.getElem_cons_zero]
           refine ⟨?_,hlast h0⟩
           simp only [Z1D,h0,dif_pos]
           omega
       · simp at h
theorem Zbu (l:List Vr)(t:Int)(rs:List Rt)(u:Int):inF (l++[Z1D l t rs]) u=if t≤u then (l.length:Int) else inF l u:=by
 unfold inF
 rw [Zi1]
 have:(Z1D l t rs).time=t:=rfl
 simp only [this,decide_eq_true_eq]
noncomputable def honV (l:List Vr) (q:Qt) (pub:Int):Int × Int × Int :=
 if ¬ (vsB l=true∧memB pub=true) then (0,0,1)
 else match l[(numI l q.ver).toNat]? with
  | none=>(0,0,4)
  | some v=>if numI l q.ver<0 then (0,0,4) else if (Z18 v q pub).1=true then (if inF l q.time=numI l q.ver then (q.total,q.keep,0) else (0,0,6)) else (0,0,9)
end Qx
end
end Go.Proofs.YtnepkoepbapgeaaGreatDoor
