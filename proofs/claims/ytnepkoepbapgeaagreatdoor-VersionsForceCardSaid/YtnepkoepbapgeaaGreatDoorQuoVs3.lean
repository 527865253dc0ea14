/-
  Walks: package versions: Push.
-/
import Derived.Test.YtnepkoepbapgeaaGreatDoorQuoVs2
import Derived.Deep.RegionLawGrows
import Derived.Deep.RegionHeld3
import Derived.Deep.AppendLies
namespace Go.Proofs.YtnepkoepbapgeaaGreatDoor
set_option maxRecDepth 100000
open Go.RowKit Lx Px Qx
attribute [local irreducible] Qx.Vr.dig
theorem VxB.grown {p:Nat}{v:Vr}{rv:Value}{W W':World}(h:VxB p v rv W)(hg:W.grownBy W' none):VxB p v rv W' :=
 ⟨(hg.block p h.lt (by intro e;cases e)).trans h.h,h.r.on ((Below.refl p W).grown hg (Nat.le_of_lt h.lt) (fun g e=>by cases e))⟩
theorem Zbx {W W':World}{B:Nat}{ad:Addr}{xs:List Value}(h:∀ j u,xs[j]?=some u→W.cell? (ad.add j)=some u)(hg:xs≠[]→ad.block<B)(hb:Below B W W'):∀ j u,xs[j]?=some u→W'.cell? (ad.add j)=some u:=by
 intro j u hj
 refine (hb.cell ?_).trans (h j u hj)
 rw [Z4k]
 exact hg (by intro e;rw [e] at hj;simp at hj)
structure Vm where
 v:Vr
 rv:Value
def Vm.cells (m:Vm):List Value:=[.int .i64 m.v.num,.int .i64 m.v.time,m.rv]
def Z0w (ms:List Vm):List Value:=ms.flatMap Vm.cells
theorem Z63 (ms:List Vm):(Z0w ms).length=ms.length*3:=by
 induction ms with
 | nil=>rfl
 | cons m ms ih=>simp only [Z0w,List.flatMap_cons,List.length_append,List.length_cons,Vm.cells] at ih ⊢;rw [ih];simp;omega
theorem Z9r (ms:List Vm)(k j:Nat)(h:k<ms.length)(hj:j<3):(Z0w ms)[k*3+j]?=ms[k].cells[j]?:=by
 induction ms generalizing k with
 | nil=>simp at h
 | cons m ms ih =>
  have hc:Z0w (m::ms)=m.cells++Z0w ms:=by simp [Z0w]
  rw [hc]
  cases k with
  | zero=>simp only [Nat.zero_mul,Nat.zero_add,List.getElem_cons_zero];rw [List.getElem?_append_left (by show j<3;omega)]
  | succ k =>
   rw [List.getElem?_append_right (by show 3≤_;omega)]
   have:=ih k (by simpa using h)
   simp only [List.getElem_cons_succ]
   rw [← this];congr 1;show (k+1)*3+j - 3=_;omega
theorem Zgn {w:World}{B:Nat}{A:Option Addr}{n c:Nat}{l:List Vr}(h:VssV w B (.slice A n c) l):n=l.length∧∃ ms:List Vm,ms.map (·.v)=l∧(∀ m∈ms,m.rv.oneCell'=true∧RtsV w B m.rv m.v.rs)∧(∀ ad,A=some ad→∀ j u,(Z0w ms)[j]?=some u→w.cell? (ad.add j)=some u)∧(A=none→l=[])∧(∀ ad,A=some ad→l≠[]→ad.block<B):=by
 obtain ⟨A',c',e,_,hA⟩:=h
 injection e with e1 e2 e3
 subst e1 e3;refine ⟨e2,?_⟩
 by_cases hl:l=[]
 · subst hl
   exact ⟨[],rfl,fun m h=>by simp at h,fun ad _ j u hj=>by simp [Z0w] at hj,fun _=>rfl,fun _ _ h=>absurd rfl h⟩
 obtain ⟨g,o,rfl,hg,hr⟩:=hA hl
 obtain ⟨ms,hml,hq⟩:=Zb6 (fun (i:Nat) (m:Vm)=>∃ hi:i<l.length,m.v=l[i]∧m.rv.oneCell'=true∧RtsV w B m.rv m.v.rs∧w.cell? ⟨g,o+i*3,none⟩=some (.int .i64 m.v.num)∧w.cell? ⟨g,o+i*3+1,none⟩=some (.int .i64 m.v.time)∧w.cell? ⟨g,o+i*3+2,none⟩=some m.rv) l.length (fun i hi=>by
  obtain ⟨RA,rc,h1,h2,h3,h4⟩:=hr i hi
  exact ⟨⟨l[i],.slice RA l[i].rs.length rc⟩,hi,rfl,rfl,h1,h2,h3,h4⟩)
 refine ⟨ms,?_,?_,?_,?_,?_⟩
 · refine List.ext_getElem (by simpa using hml) (fun i h1 h2=>?_)
   rw [List.getElem_map]
   obtain ⟨_,e,_⟩:=hq i (by simpa using h1)
   exact e
 · intro m hm
   obtain ⟨i,hi,rfl⟩:=List.getElem_of_mem hm
   obtain ⟨_,_,f1,f2,_⟩:=hq i hi
   exact ⟨f1,f2⟩
 · intro ad had j u hj
   injection had with had
   subst had;have hlt:j<ms.length*3:=by rw [← Z63];exact (List.getElem?_eq_some_iff.1 hj).1
   have hk:j / 3<ms.length:=by omega
   obtain ⟨_,_,_,_,h2,h3,h4⟩:=hq (j / 3) hk
   have hg:=Z9r ms (j / 3) (j % 3) hk (by omega)
   rw [show j / 3*3+j % 3=j from by omega,hj] at hg
   have ha:(⟨g,o,none⟩:Addr).add j=⟨g,o+j,none⟩:=by
    unfold Addr.add;split
    · rename_i h0;subst h0;rfl
    · rfl
   rw [ha]
   have hm3:j % 3=0∨j % 3=1∨j % 3=2:=by omega
   rcases hm3 with e | e | e
   · rw [e] at hg;simp only [Vm.cells,List.getElem?_cons_zero] at hg;rw [hg,← h2];congr 2;omega
   · rw [e] at hg;simp only [Vm.cells,List.getElem?_cons_succ,List.getElem?_cons_zero] at hg;rw [hg,← h3];congr 2;omega
   · rw [e] at hg;simp only [Vm.cells,List.getElem?_cons_succ,List.getElem?_cons_zero] at hg;rw [hg,← h4];congr 2;omega
 · intro h;cases h
 · intro ad had _
   injection had with had
   subst had;exact hg
theorem Zaz {w:World}{base B n:Nat}{v:Value}{ms:List Vm}(h:w.ownsRow base 24 3 v n (Z0w ms))(hn:n=ms.length)(hf:∀ m∈ms,RtsV w B m.rv m.v.rs)(hB:B≤w.heap.size):VssV w w.heap.size v (ms.map (·.v)):=by
 subst hn;rcases h.2 with ⟨hv,h0⟩ | ⟨g,cap,cur,hv,_,hg,hcap,_⟩
 · have:ms=[]:=List.length_eq_zero_iff.1 h0
   subst this;subst hv;exact VssV.nil _ _ _
 · refine ⟨some ⟨g,0,none⟩,cap,by rw [hv,List.length_map],by rw [List.length_map];exact hcap,fun _=>⟨g,0,rfl,(zs hg),fun i hi=>?_⟩⟩
   have hi':i<ms.length:=by simpa using hi
   have hR:=hf ms[i] (List.getElem_mem hi')
   obtain ⟨RA,rc,e,_⟩:=id hR
   have hc:=fun j u (hj:j<3) (hu:ms[i].cells[j]?=some u)=>(show w.cell? ⟨g,i*3+j,none⟩=some u by
    subst hv;rw [h.cellAt (i*3+j) (by omega),Z9r ms i j hi' hj,hu])
   simp only [List.getElem_map,Nat.zero_add]
   refine ⟨RA,rc,?_,hc 0 _ (by omega) rfl,hc 1 _ (by omega) rfl,?_⟩
   · rw [← e];exact hR.up hB
   · rw [← e];exact hc 2 _ (by omega) rfl
theorem Tryz.infoVr:(Tryz.prog.info? 24).map (fun i=>(i.zero,i.size,i.bytes))=some (some (.agg #[.int .i64 0,.int .i64 0,.slice none 0 0]),3,40):=by kernel_rfl
def Zez (l:List Vr)(t:Int)(rs:List Rt)(w:World)(e:Ending)(w':World):Prop :=
 ∃ SV,e=.returned (.tuple #[SV,.int .i64 (Z3y l t rs)])∧(if Z3y l t rs=0 then VssV w' w'.heap.size SV (l++[Z1D l t rs]) else SV=.slice none 0 0)∧Below w.heap.size w w'
theorem Zs7 {l:List Vr}{t:Int}{rs:List Rt}(h:vsB l=false):Z3y l t rs=1:=by unfold Z3y;rw [if_pos (Z4G.1 h)]
theorem Zm5 {l:List Vr}{t:Int}{rs:List Rt}(h:vsB l=true)(h0:0<l.length)(h1:t<(l[l.length - 1]'(by omega)).time):Z3y l t rs=6:=by
 unfold Z3y;rw [if_neg (by rw [Classical.not_not];exact Z09.1 h),if_pos ⟨h0,h1⟩]
theorem Z5j {l:List Vr}{t:Int}{rs:List Rt}(h:vsB l=true)(h1:∀ h0:0<l.length,(l[l.length - 1]'(by omega)).time≤t):Z3y l t rs=if l.length=100∨1000000<(Z1D l t rs).num then 2 else if (Z1D l t rs).okB=true then 0 else 1:=by
 unfold Z3y;rw [if_neg (by rw [Classical.not_not];exact Z09.1 h),if_neg (by rintro ⟨h0,h2⟩;have:=h1 h0;omega)]
set_option maxHeartbeats 8000000 in
theorem Z70 (l:List Vr)(t:Int)(rs:List Rt)(v rv:Value)(w:World)(hv:VssV w w.heap.size v l)(hr:RtsV w w.heap.size rv rs)(hll:l.length≤1000)(ht:Tabs w.heap.size w) :
 Calls Tryz.prog 39 #[v,.int .i64 t,rv] w (Zez l t rs w):=by
 have hva:=Z1A l v w hv hll ht
 have hir:=fun W x X (hb:Below w.heap.size w W) hX=>Z9p x X W hX (Z05 ht hb)
 obtain ⟨A,c,rfl,_⟩:=id hv
 obtain ⟨RA,rc,rfl,_⟩:=id hr
 have HV:=zh hv;have HR:=zh hr;have HVA:=zh hva;have HIR:=zh hir;clear hv hr hva hir ht;unfold Zez
 obtain ⟨E,hE⟩:∃ E,Z3y l t rs=E:=⟨_,rfl⟩
 rw [hE]
 have HE:=zh hE;clear hE;go_enter Tryz.func39,Tryz.ntmps39
 go_wp2_with fail;refine HVA.out.mono ?_
 rintro e w2 ⟨rfl,hb2⟩;cases h1:vsB l with
 | false =>
  have he:E=1:=HE.out.symm.trans (Zs7 h1)
  subst he;have HB:=zh hb2;clear hb2;go_wp2_with fail;go_ret2
  exact ⟨_,rfl,by simp,HB.out⟩
 | true =>
  have hok:=Z09.1 h1
  have hx2:=VxB.new (v:=⟨1,t,rs⟩) ((HR.out.on hb2).up hb2.size)
  have hB3:=hb2.alloc hb2.size (.cells #[.int .i64 1,.int .i64 t,.slice RA rs.length rc] 24)
  have hV3:=HV.out.on hB3
  have hn100:=hok.2
  dsimp only at hx2
  have hpv:Z1D l t rs=Z1D l t rs:=rfl
  by_cases h0:0<l.length
  · obtain ⟨m,hm⟩:∃ m,l.length=m+1:=⟨l.length - 1,by omega⟩
    have hml:m<l.length:=by omega
    obtain ⟨g,o,RB,rb,rfl,hg,hRl,c0,c1,c2⟩:=Z1y hV3 hml
    obtain ⟨ok1,_⟩:=hok.1 m hml hml
    obtain ⟨_,_,_,b0,b1⟩:=Z8c ok1
    have hpl:l[l.length - 1]'(by omega)=l[m]:=by congr 1;omega
    have hpn:Z1D l t rs=⟨1+l[m].num,t,rs⟩:=by unfold Z1D;rw [dif_pos h0,hpl]
    have hE6:=fun (h:t<l[m].time)=>HE.out.symm.trans (Zm5 h1 h0 (by rw [hpl];exact h))
    have hEr:=fun (h:l[m].time≤t)=>HE.out.symm.trans (Z5j h1 (fun _=>by rw [hpl];exact h))
    rw [hpn] at hEr
    have HPN:=zh hpn;clear hpn hpl hpv ok1 hok;generalize l[m]=x at *
    have dz:decide ((l.length:Int) > 0)=true:=by simp;omega
    have hw1:(l.length:Int) - 1=(m:Int):=by omega
    have hw2:IntKind.i64.wrap (1+x.num)=1+x.num:=IntWalk.i64_in _ (by omega)
    have n0:=hx2.fr 0
    obtain ⟨n1,n2,n3⟩:=hx2.cells
    dsimp only at n1 n2 n3
    have HX2:=zh hx2;have HB3:=zh hB3;have HV3:=zh hV3;have HE6:=zh hE6;have HER0:=zh hEr;have HB2:=zh hb2;have HM:=zh hm;clear hx2 hB3 hV3 hE6 hEr hb2 hm hRl;have hi0:(0:Int)≤(m:Int):=by omega
    have hcap:=HV.out.cap
    have hj0:(0:Int)≤(l.length:Int):=by omega
    have hj1:(l.length:Int)≤(c:Int):=by omega
    have hi1:(m:Int)<(l.length:Int):=by omega
    go_upto_region 6 with fail
    go_region
    have hX4:VxB w2.heap.size ⟨1+x.num,t,rs⟩ (.slice RA rs.length rc) (w2.alloc (.cells #[.int .i64 (1+x.num),.int .i64 t,.slice RA rs.length rc] 24)).drew:=(VxB.new (v:=⟨1+x.num,t,rs⟩) ((HR.out.on HB2.out).up HB2.out.size)).on (Below.refl _ _).drew
    have hB4:Below w.heap.size w (w2.alloc (.cells #[.int .i64 (1+x.num),.int .i64 t,.slice RA rs.length rc] 24)).drew:=(HB2.out.alloc HB2.out.size _).drew
    have c1':(w2.alloc (.cells #[.int .i64 (1+x.num),.int .i64 t,.slice RA rs.length rc] 24)).drew.cell? ⟨g,o+m*3+1,none⟩=some (.int .i64 x.time):=(hB4.cell (p:=⟨g,o+m*3+1,none⟩) hg).trans ((HB3.out.cell (p:=⟨g,o+m*3+1,none⟩) hg).symm.trans c1)
    clear c0 c1 c2 n0 n1 n2 n3 HX2 HB3 hw2;generalize hN0:1+x.num=N at *
    generalize (w2.alloc (.cells #[.int .i64 N,.int .i64 t,.slice RA rs.length rc] 24)).drew=w4 at *
    obtain ⟨n0,n1,n2⟩:=hX4.cells
    dsimp only at n0 n1 n2
    have HX4:=zh hX4;have HB4:=zh hB4;have HN0:=zh hN0;clear hX4 hB4 hN0;by_cases hT:t<x.time
    · have dT:decide (x.time > t)=true:=by simpa using hT
      have he:E=6:=HE6.out hT
      subst he;go_wp2_with fail;go_ret2
      exact ⟨_,rfl,by simp,HB4.out⟩
    · have dT:decide (x.time > t)=false:=by simpa using hT
      have her:=HER0.out (by omega)
      have HER:=zh her;clear her HER0 HE6;have hn0:Z0w []=[]:=rfl
      by_cases hn:l.length=100
      · have dn:((l.length:Int)==100)=true:=by simp;omega
        have he:E=2:=HER.out.trans (if_pos (.inl hn))
        subst he;clear hn;go_wp2_with fail;go_ret2
        exact ⟨_,rfl,by simp,HB4.out⟩
      · have dn:((l.length:Int)==100)=false:=by simp;omega
        by_cases hN:1000000<N
        · have dN:decide (N > 1000000)=true:=by simpa using hN
          have he:E=2:=HER.out.trans (if_pos (.inr hN))
          subst he;go_wp2_with fail;go_ret2
          exact ⟨_,rfl,by simp,HB4.out⟩
        · have dN:decide (N > 1000000)=false:=by simpa using hN
          have he:E=if (⟨N,t,rs⟩:Vr).okB=true then 0 else 1:=HER.out.trans (if_neg (show ¬ (l.length=100∨1000000<N) from fun h=>h.elim hn hN))
          have hir4:=HIR.out _ _ _ HB4.out HX4.out.v
          obtain ⟨b,hb⟩:∃ b,(⟨N,t,rs⟩:Vr).okB=b:=⟨_,rfl⟩
          rw [hb] at he hir4
          have HIR4:=zh hir4;have HEE:=zh he;clear hir4 he;go_wp2_with fail;refine HIR4.out.mono ?_
          rintro e w5 ⟨rfl,hb5⟩;have hB5:=Z00 HB4.out hb5
          have hX5:=HX4.out.on hb5
          have hV5:=HV.out.on hB5
          have HB5:=zh hB5;have HX5:=zh hX5;have HV5:=zh hV5;clear hB5 hX5 hV5 HB4 HX4 hb5 HIR4 n0 n1 n2;cases b with
          | false =>
           have he:E=1:=HEE.out
           subst he;go_wp2_with fail;go_ret2
           exact ⟨_,rfl,by simp,HB5.out⟩
          | true =>
           have he:E=0:=HEE.out
           subst he;clear HEE;obtain ⟨n0,n1,n2⟩:=HX5.out.cells
           dsimp only at n0 n1 n2
           obtain ⟨i0,hI,hZ0,hZ1,hZ2⟩:=info_parts Tryz.infoVr
           obtain ⟨_,ms,hms,hmf0,hmc0,hmn,hmb⟩:=Zgn HV.out
           have hmv:∀ W,Below w.heap.size w W→∀ m∈ms,RtsV W w.heap.size m.rv m.v.rs:=fun W hb m hm=>((hmf0 m hm).2).on hb
           clear hmf0;have hml2:ms.length=l.length:=by rw [← hms,List.length_map]
           have hol:(Z0w ms).length=l.length*3:=by rw [Z63,hml2]
           have hne:Z0w ms≠[]→l≠[]:=fun h e=>h (by have:ms=[]:=List.length_eq_zero_iff.1 (by rw [hml2,e];rfl);rw [this];rfl)
           have hmc:∀ ad:Addr,((some ⟨g,o,none⟩):Option Addr)=some ad→∀ j u,(Z0w ms)[j]?=some u→w5.cell? (ad.add j)=some u:=fun ad e=>Zbx (hmc0 ad e) (fun h=>hmb ad e (hne h)) HB5.out
           clear hmc0;have HMS:=zh hms;have HMV:=zh hmv;have HMC:=zh hmc;have HMN:=zh hmn;have HMB:=zh hmb;have HOL:=zh hol;have HNE:=zh hne;have HI:=zh hI;have HZ0:=zh hZ0;have HZ1:=zh hZ1;have HZ2:=zh hZ2;clear hms hmv hmc hmn hmb hol hne hI hZ0 hZ1 hZ2;go_wp2_with fail;go_region_held3 (fun w'=>w'.cell? ⟨w2.heap.size,0,none⟩=some (.int .i64 N)∧w'.cell? ⟨w2.heap.size,1,none⟩=some (.int .i64 t)∧w'.cell? ⟨w2.heap.size,2,none⟩=some (.slice RA rs.length rc))
            (first | go_keep | with_reducible exact hz)
            ((refine step_append_grows (by rfl) (.tmp 58) (.tmp 60) 68 (by rfl) 24 i0 _ 3 40 Tryz.underlying68 HI.out HZ0.out HZ1.out HZ2.out (by rfl) (by decide) (some ⟨g,o,none⟩) l.length l.length (Z0w ms) (by rfl) (fun h=>by cases h) HOL.out (fun b hb=>Zbx (W:=w5) (HMC.out b hb) (fun h=>Nat.lt_of_lt_of_le (HMB.out b hb (HNE.out h)) HB5.out.size) ((Below.refl _ _).drew.alloc (zn _) _)) ⟨w5.heap.size,0,none⟩ 1 1 [.int .i64 N,.int .i64 t,.slice RA rs.length rc] (by rfl) (by rfl) (World.news_of_block (za w5.drew _)) (by simp [Value.oneCell']) (by omega) (by unfold maxLen;omega) (by omega) ?_;intro v' w6 hown hgrow;have hz:=((HX5.out.on ((Below.refl _ _).drew.alloc (zn _) (.cells #[.int .i64 N,.int .i64 t,.slice RA rs.length rc] 24))).grown hgrow).cells))
           have hB6:Below w.heap.size w w6:=((HB5.out.drew).alloc HB5.out.size (.cells #[.int .i64 N,.int .i64 t,.slice RA rs.length rc] 24)).grown hgrow (by simp;have:=HB5.out.size;omega) (fun g e=>by cases e)
           have hres:VssV w6 w6.heap.size v' (l++[⟨N,t,rs⟩]):=by
            have h1:Z0w ms++[.int .i64 N,.int .i64 t,.slice RA rs.length rc]=Z0w (ms++[⟨⟨N,t,rs⟩,.slice RA rs.length rc⟩]):=by simp [Z0w,Vm.cells]
            rw [h1] at hown
            have h2:=Zaz (B:=w.heap.size) hown (by rw [List.length_append,List.length_singleton,hml2]) (fun m hm=>?_) hB6.size
            · rw [List.map_append,HMS.out] at h2
              exact h2
            · rw [List.mem_append,List.mem_singleton] at hm
              rcases hm with hm | rfl
              · exact HMV.out w6 hB6 m hm
              · exact HR.out.on hB6
           have hpl:Z1D l t rs=⟨N,t,rs⟩:=HPN.out
           have HB6:=zh hB6;have HRES:=zh hres;have HPL:=zh hpl;clear hB6 hres hpl hown hgrow hz;go_wp2_with fail;go_ret2
           refine ⟨_,rfl,?_,HB6.out⟩
           rw [HPL.out]
           exact HRES.out

  · have hl0:l=[]:=List.length_eq_zero_iff.1 (by omega)
    have hpn:Z1D l t rs=⟨1,t,rs⟩:=by unfold Z1D;rw [dif_neg h0];rfl
    have hEr:=HE.out.symm.trans (Z5j h1 (fun h=>absurd h h0))
    rw [hpn] at hEr
    have dz:decide ((l.length:Int) > 0)=false:=by simp;omega
    have hcap:=HV.out.cap
    have hj0:(0:Int)≤(l.length:Int):=by omega
    have hj1:(l.length:Int)≤(c:Int):=by omega
    have HN0:=zh hpn;have HPN:=zh hpn;have hX4:VxB w2.heap.size ⟨1,t,rs⟩ (.slice RA rs.length rc) (w2.alloc (.cells #[.int .i64 1,.int .i64 t,.slice RA rs.length rc] 24)):=hx2
    have hB4:=hB3
    have HER:=zh hEr;have HX4:=zh hX4;have HB4:=zh hB4;have HB2:=zh hb2;clear hEr hX4 hB4 hb2 hB3 hV3 hx2 hpn hpv hok hl0;go_upto_region 7 with fail
    generalize w2.alloc (.cells #[.int .i64 1,.int .i64 t,.slice RA rs.length rc] 24)=w4 at *
    obtain ⟨N,hN⟩:∃ N:Int,1=N:=⟨_,rfl⟩
    have hEr2:E=if l.length=100∨1000000<N then 2 else if (⟨N,t,rs⟩:Vr).okB=true then 0 else 1:=by rw [← hN];exact HER.out
    clear HER;have HER:=zh hEr2;clear hEr2;rw [hN] at HX4 HPN HN0
    obtain ⟨n0,n1,n2⟩:=HX4.out.cells
    dsimp only at n0 n1 n2
    clear hN;have hn0:Z0w []=[]:=rfl
    by_cases hn:l.length=100
    · have dn:((l.length:Int)==100)=true:=by simp;omega
      have he:E=2:=HER.out.trans (if_pos (.inl hn))
      subst he;clear hn;go_wp2_with fail;go_ret2
      exact ⟨_,rfl,by simp,HB4.out⟩
    · have dn:((l.length:Int)==100)=false:=by simp;omega
      by_cases hN:1000000<N
      · have dN:decide (N > 1000000)=true:=by simpa using hN
        have he:E=2:=HER.out.trans (if_pos (.inr hN))
        subst he;go_wp2_with fail;go_ret2
        exact ⟨_,rfl,by simp,HB4.out⟩
      · have dN:decide (N > 1000000)=false:=by simpa using hN
        have he:E=if (⟨N,t,rs⟩:Vr).okB=true then 0 else 1:=HER.out.trans (if_neg (show ¬ (l.length=100∨1000000<N) from fun h=>h.elim hn hN))
        have hir4:=HIR.out _ _ _ HB4.out HX4.out.v
        obtain ⟨b,hb⟩:∃ b,(⟨N,t,rs⟩:Vr).okB=b:=⟨_,rfl⟩
        rw [hb] at he hir4
        have HIR4:=zh hir4;have HEE:=zh he;clear hir4 he;go_wp2_with fail;refine HIR4.out.mono ?_
        rintro e w5 ⟨rfl,hb5⟩;have hB5:=Z00 HB4.out hb5
        have hX5:=HX4.out.on hb5
        have hV5:=HV.out.on hB5
        have HB5:=zh hB5;have HX5:=zh hX5;have HV5:=zh hV5;clear hB5 hX5 hV5 HB4 HX4 hb5 HIR4 n0 n1 n2;cases b with
        | false =>
         have he:E=1:=HEE.out
         subst he;go_wp2_with fail;go_ret2
         exact ⟨_,rfl,by simp,HB5.out⟩
        | true =>
         have he:E=0:=HEE.out
         subst he;clear HEE;obtain ⟨n0,n1,n2⟩:=HX5.out.cells
         dsimp only at n0 n1 n2
         obtain ⟨i0,hI,hZ0,hZ1,hZ2⟩:=info_parts Tryz.infoVr
         obtain ⟨_,ms,hms,hmf0,hmc0,hmn,hmb⟩:=Zgn HV.out
         have hmv:∀ W,Below w.heap.size w W→∀ m∈ms,RtsV W w.heap.size m.rv m.v.rs:=fun W hb m hm=>((hmf0 m hm).2).on hb
         clear hmf0;have hml2:ms.length=l.length:=by rw [← hms,List.length_map]
         have hol:(Z0w ms).length=l.length*3:=by rw [Z63,hml2]
         have hne:Z0w ms≠[]→l≠[]:=fun h e=>h (by have:ms=[]:=List.length_eq_zero_iff.1 (by rw [hml2,e];rfl);rw [this];rfl)
         have hmc:∀ ad:Addr,(A:Option Addr)=some ad→∀ j u,(Z0w ms)[j]?=some u→w5.cell? (ad.add j)=some u:=fun ad e=>Zbx (hmc0 ad e) (fun h=>hmb ad e (hne h)) HB5.out
         clear hmc0;have HMS:=zh hms;have HMV:=zh hmv;have HMC:=zh hmc;have HMN:=zh hmn;have HMB:=zh hmb;have HOL:=zh hol;have HNE:=zh hne;have HI:=zh hI;have HZ0:=zh hZ0;have HZ1:=zh hZ1;have HZ2:=zh hZ2;clear hms hmv hmc hmn hmb hol hne hI hZ0 hZ1 hZ2;go_wp2_with fail;go_region_held3 (fun w'=>w'.cell? ⟨w2.heap.size,0,none⟩=some (.int .i64 N)∧w'.cell? ⟨w2.heap.size,1,none⟩=some (.int .i64 t)∧w'.cell? ⟨w2.heap.size,2,none⟩=some (.slice RA rs.length rc))
          (first | go_keep | with_reducible exact hz)
          ((refine step_append_grows (by rfl) (.tmp 58) (.tmp 60) 68 (by rfl) 24 i0 _ 3 40 Tryz.underlying68 HI.out HZ0.out HZ1.out HZ2.out (by rfl) (by decide) A l.length l.length (Z0w ms) (by rfl) (fun h=>⟨by omega,by omega⟩) HOL.out (fun b hb=>Zbx (W:=w5) (HMC.out b hb) (fun h=>Nat.lt_of_lt_of_le (HMB.out b hb (HNE.out h)) HB5.out.size) ((Below.refl _ _).drew.alloc (zn _) _)) ⟨w5.heap.size,0,none⟩ 1 1 [.int .i64 N,.int .i64 t,.slice RA rs.length rc] (by rfl) (by rfl) (World.news_of_block (za w5.drew _)) (by simp [Value.oneCell']) (by omega) (by unfold maxLen;omega) (by omega) ?_;intro v' w6 hown hgrow;have hz:=((HX5.out.on ((Below.refl _ _).drew.alloc (zn _) (.cells #[.int .i64 N,.int .i64 t,.slice RA rs.length rc] 24))).grown hgrow).cells))
         have hB6:Below w.heap.size w w6:=((HB5.out.drew).alloc HB5.out.size (.cells #[.int .i64 N,.int .i64 t,.slice RA rs.length rc] 24)).grown hgrow (by simp;have:=HB5.out.size;omega) (fun g e=>by cases e)
         have hres:VssV w6 w6.heap.size v' (l++[⟨N,t,rs⟩]):=by
          have h1:Z0w ms++[.int .i64 N,.int .i64 t,.slice RA rs.length rc]=Z0w (ms++[⟨⟨N,t,rs⟩,.slice RA rs.length rc⟩]):=by simp [Z0w,Vm.cells]
          rw [h1] at hown
          have h2:=Zaz (B:=w.heap.size) hown (by rw [List.length_append,List.length_singleton,hml2]) (fun m hm=>?_) hB6.size
          · rw [List.map_append,HMS.out] at h2
            exact h2
          · rw [List.mem_append,List.mem_singleton] at hm
            rcases hm with hm | rfl
            · exact HMV.out w6 hB6 m hm
            · exact HR.out.on hB6
         have hpl:Z1D l t rs=⟨N,t,rs⟩:=HPN.out
         have HB6:=zh hB6;have HRES:=zh hres;have HPL:=zh hpl;clear hB6 hres hpl hown hgrow hz;go_wp2_with fail;go_ret2
         refine ⟨_,rfl,?_,HB6.out⟩
         rw [HPL.out]
         exact HRES.out
end Go.Proofs.YtnepkoepbapgeaaGreatDoor
