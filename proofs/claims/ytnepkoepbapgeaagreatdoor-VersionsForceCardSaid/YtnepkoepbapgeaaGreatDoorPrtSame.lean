/-
  Several texts in one: QuoCk, QuoHd0, PrtSame.
-/
import Derived.Test.YtnepkoepbapgeaaGreatDoorQuoIs
import Derived.Test.YtnepkoepbapgeaaGreatDoorQuoPlain
import Derived.Test.YtnepkoepbapgeaaGreatDoorQuoPla
import Derived.Test.YtnepkoepbapgeaaGreatDoorPrtNum
import Derived.Test.YtnepkoepbapgeaaGreatDoorPrtRead
namespace Go.Proofs.YtnepkoepbapgeaaGreatDoor
set_option maxHeartbeats 16000000
set_option maxRecDepth 100000
section
open Go.RowKit Lx Px Qx
namespace Qx
theorem ZmD {v:Vr}{q:Qt}{p:Int}(h:¬ (v.okB=true∧memB p=true)):Z18 v q p=(false,1):=by
 unfold Z18
 rw [if_neg]
 intro hc
 rw [Bool.and_eq_true] at hc
 exact h hc
theorem Zjb {v:Vr}{q:Qt}{p:Int}(h1:v.okB=true)(h2:memB p=true)(h:¬ (q.ask.okB=true∧Z0D q.time=true∧v.time≤q.time)):Z18 v q p=(false,0):=by
 unfold Z18
 rw [if_pos (by rw [h1,h2];rfl),if_neg]
 intro hc
 simp only [Bool.and_eq_true,decide_eq_true_eq] at hc
 exact h ⟨hc.1.1,hc.1.2,hc.2⟩
theorem ZmE {v:Vr}{q:Qt}{p e:Int}(h1:v.okB=true)(h2:memB p=true)(h:Z0g v.rs q.ask=.error e):Z18 v q p=(false,0):=by
 unfold Z18
 rw [if_pos (by rw [h1,h2];rfl),Zbk h]
 split <;> rfl
theorem Zjc {v:Vr}{q:Qt}{p:Int}{ns:List Int}{kp:Int}(h1:v.okB=true)(h2:memB p=true)(h3:Z0D q.time=true)(h4:v.time≤q.time)(h:Z0g v.rs q.ask=.ok (ns,kp)) :
 Z18 v q p=(q.same ⟨v.num,q.time,ns.sum,kp,q.ask,ns,v.dig,0,0⟩&&verB p.toNat q.sE q.sS q.says,0):=by
 unfold Z18
 rw [if_pos (by rw [h1,h2];rfl),Z8d h,if_pos (by rw [(Z8i h).2.1,h3];simpa using h4)]
end Qx
structure CkB (w:World) (v:Vr) (rv:Value) (q:Qt) (nv:Value) (W:World):Prop where
 hv:W.heap[w.heap.size]?=some (.cells #[.int .i64 v.num,.int .i64 v.time,rv] 24 (0,0))
 hq:W.heap[w.heap.size+1]?=some (.cells (qtC q nv) 32 (0,0))
 i:Z07 W W.heap.size nv q.nights
 b:Below w.heap.size w W
theorem CkB.on {w W W':World}{v:Vr}{rv nv:Value}{q:Qt}(h:CkB w v rv q nv W)(hb:Below W.heap.size W W'):CkB w v rv q nv W' :=
 ⟨(hb.block _ (zs h.hv)).trans h.hv,(hb.block _ (zs h.hq)).trans h.hq,(h.i.on hb).up hb.size,Z00 h.b hb⟩
theorem CkB.new (w:World)(v:Vr)(rv nv:Value)(q:Qt)(h:Z07 w w.heap.size nv q.nights):CkB w v rv q nv ((w.alloc (.cells #[.int .i64 v.num,.int .i64 v.time,rv] 24)).alloc (.cells (qtC q nv) 32)):=by
 have hb:=((Below.refl w.heap.size w).alloc (zn _) (.cells #[.int .i64 v.num,.int .i64 v.time,rv] 24)).alloc (by simp) (.cells (qtC q nv) 32)
 refine ⟨Z0C (za w _) _,?_,(h.on hb).up hb.size,hb⟩
 have:=za (w.alloc (.cells #[.int .i64 v.num,.int .i64 v.time,rv] 24)) (.cells (qtC q nv) 32)
 rwa [World.size_alloc] at this
theorem CkB.ver {w W:World}{v:Vr}{rv nv:Value}{q:Qt}(h:CkB w v rv q nv W):W.cell? ⟨w.heap.size,0,none⟩=some (.int .i64 v.num)∧W.cell? ⟨w.heap.size,1,none⟩=some (.int .i64 v.time)∧W.cell? ⟨w.heap.size,2,none⟩=some rv:=by
 refine ⟨?_,?_,?_⟩ <;> (rw [zc h.hv];rfl)
theorem CkB.c {w W:World}{v:Vr}{rv nv:Value}{q:Qt}(h:CkB w v rv q nv W)(i:Nat)(u:Value)(hu:(qtC q nv)[i]?=some u):W.cell? ⟨w.heap.size+1,i,none⟩=some u:=by rw [zc h.hq,hu]
structure CkN (w:World) (v:Vr) (rv:Value) (q:Qt) (nv:Value) (nb:Nat) (W:World):Prop where
 k:CkB w v rv q nv W
 n:W.heap[nb]?=some (.cells (qtC q nv) 89 (0,0))
theorem CkN.on {w W W':World}{v:Vr}{rv nv:Value}{q:Qt}{nb:Nat}(h:CkN w v rv q nv nb W)(hb:Below W.heap.size W W'):CkN w v rv q nv nb W' :=
 ⟨h.k.on hb,(hb.block _ (zs h.n)).trans h.n⟩
theorem CkN.drew {w W:World}{v:Vr}{rv nv:Value}{q:Qt}{nb:Nat}(h:CkN w v rv q nv nb W):CkN w v rv q nv nb W.drew:=h.on (Below.refl _ _).drew
theorem CkN.c {w W:World}{v:Vr}{rv nv:Value}{q:Qt}{nb:Nat}(h:CkN w v rv q nv nb W)(i:Nat)(u:Value)(hu:(qtC q nv)[i]?=some u):W.cell? ⟨nb,i,none⟩=some u:=by rw [zc h.n,hu]
theorem Zh1 (v:Vr)(q:Qt)(p:Int)(V U:Value)(w:World)(hV:VrV w w.heap.size V v)(hU:QtV w w.heap.size U q)(hr:∀ x∈q.says,-9223372036854775808≤x∧x≤9223372036854775807)(hqd:q.dig<18446744073709551616)(hqn:q.nights.length≤50000)(ht:Tabs w.heap.size w) :
 Calls Tryz.prog 19 #[V,U,.int .i64 p] w fun e w'=>e=.returned (.tuple #[.bool (Z18 v q p).1,.int .i64 (Z18 v q p).2])∧Below w.heap.size w w':=by
 have hdg:=fun W (hb:Below w.heap.size w W)=>Z7e v V W (by obtain ⟨A,c,rfl,h⟩:=hV;exact ⟨A,c,rfl,(h.on hb).up hb.size⟩) (Z05 ht hb)
 have hpl:=fun W (hb:Below w.heap.size w W)=>ZcG v q.ask q.time v.dig V W (by obtain ⟨A,c,rfl,h⟩:=hV;exact ⟨A,c,rfl,(h.on hb).up hb.size⟩)
 have hme:=fun W=>Z7r p W
 have htm:=fun W=>Z7h q.time W
 have hvf:=fun W U2 (hb:Below w.heap.size w W) h0 h1 h2=>Zi2 p q.sE q.sS U2 q.says w.heap.size W h0 h1 h2 hr (ht.on hb)
 have hno:=@ZmD v q p
 have hbad:=@Zjb v q p
 have her:=fun e h1 h2 h=>@ZmE v q p e h1 h2 h
 have hyes:=fun ns kp h1 h2 h3 h4 h=>@Zjc v q p ns kp h1 h2 h3 h4 h
 have hpval:=fun e (h:Z0g v.rs q.ask=.error e)=>Z6s h
 obtain ⟨A,c,rfl,hR⟩:=hV
 obtain ⟨QA,qc,rfl,hI⟩:=hU
 have hsl:q.says.length≤100000:=by simp [Qt.says];omega
 have hB0:=CkB.new w v (.slice A v.rs.length c) (.slice QA q.nights.length qc) q hI
 have hq:qtV q (.slice QA q.nights.length qc)=.agg (qtC q (.slice QA q.nights.length qc)):=rfl
 obtain ⟨M,hM⟩:∃ M,Z18 v q p=M:=⟨_,rfl⟩
 rw [hM] at hno hbad her hyes ⊢
 rw [hq]
 clear hM hq;unfold vrV at hdg hpl ⊢
 simp only [askV] at hpl
 unfold qtC at hB0 ⊢
 have HB:=zh hB0;have HDG:=zh hdg;have HPL:=zh hpl;have HME:=zh hme;have HTM:=zh htm;have HVF:=zh hvf;have HNO:=zh hno;have HBAD:=zh hbad;have HER:=zh her;have HYES:=zh hyes;have HPV:=zh hpval;have HR:=zh hR;have HI:=zh hI;have HRG:=zh hr;clear hB0 hdg hpl hme htm hvf hno hbad her hyes hpval hR hI hr;go_enter Tryz.func19,Tryz.ntmps19
 go_upto_region 1 with fail
 generalize (w.alloc (.cells #[.int .i64 v.num,.int .i64 v.time,.slice A v.rs.length c] 24)).alloc (.cells #[.int .i64 q.ver,.int .i64 q.time,.int .i64 q.total,.int .i64 q.keep,.int .i64 q.ask.kind,.int .i64 q.ask.fr,.int .i64 q.ask.un,.int .i64 q.ask.pers,.slice QA q.nights.length qc,.int .u64 (q.dig:Nat),.int .i64 q.sE,.int .i64 q.sS] 32)=w1 at *
 obtain ⟨q0,q1,q2⟩:=HB.out.ver
 go_wp2_with fail;refine (HDG.out _ HB.out.b).mono ?_
 rintro e w2 ⟨hb2,rfl⟩;have hB2:=HB.out.on hb2
 have HB2:=zh hB2;clear hB2 hb2 HB HDG q0 q1 q2;cases h1:v.okB with
 | false =>
  obtain rfl:=HNO.out (fun h=>by rw [h1] at h;simp at h)
  simp only [Bool.false_eq_true,if_false,if_true,Option.getD_none]
  go_wp2_with fail;go_ret2
  exact ⟨rfl,HB2.out.b⟩
 | true =>
  simp only [if_true,Option.getD_some]
  go_wp2_with fail;refine (HME.out _).mono ?_
  rintro e w3 ⟨rfl,hb3⟩;have hB3:=HB2.out.on hb3
  have HB3:=zh hB3;clear hB3 hb3 HB2;cases h2:memB p with
  | false =>
   obtain rfl:=HNO.out (fun h=>by rw [h2] at h;simp at h)
   go_wp2_with fail;go_ret2
   exact ⟨rfl,HB3.out.b⟩
  | true =>
   have h2f:memB p=true:=h2
   have c1:=HB3.out.c 1 (.int .i64 q.time) rfl
   go_wp2_with fail;refine (HTM.out _).mono ?_
   rintro e w' ⟨rfl,rfl⟩;cases h3:Z0D q.time with
   | false =>
    obtain rfl:=HBAD.out h1 h2 (fun h=>by rw [h3] at h;simp at h)
    go_wp2_with fail;go_ret2
    exact ⟨rfl,HB3.out.b⟩
   | true =>
    obtain ⟨q0,q1,q2⟩:=HB3.out.ver
    by_cases h4:q.time<v.time
    · have d4:decide (q.time<v.time)=true:=by simpa using h4
      obtain rfl:=HBAD.out h1 h2 (fun h=>by omega)
      go_wp2_with fail;go_ret2
      exact ⟨rfl,HB3.out.b⟩
    · have d4:decide (q.time<v.time)=false:=by simpa using h4
      have c4:=HB3.out.c 4 (.int .i64 q.ask.kind) rfl
      have c5:=HB3.out.c 5 (.int .i64 q.ask.fr) rfl
      have c6:=HB3.out.c 6 (.int .i64 q.ask.un) rfl
      have c7:=HB3.out.c 7 (.int .i64 q.ask.pers) rfl
      go_wp2_with fail;refine (HPL.out _ HB3.out.b).mono ?_
      intro e w4 hh
      obtain ⟨hb4,hh⟩:=hh
      have hB4:=HB3.out.on hb4
      clear c1 c4 c5 c6 c7 q0 q1 q2 HPL;cases hX:Z0g v.rs q.ask with
      | error er =>
       rw [hX] at hh
       dsimp only at hh
       subst hh;obtain ⟨e0,_,_⟩:=HPV.out er hX
       have d5:(er != 0)=true:=by simpa using e0
       obtain rfl:=HER.out er h1 h2 hX
       have hal:=(Below.refl w4.heap.size w4).alloc (zn _) (.cells (qtC Qt.zero (.slice none 0 0)) 89)
       have hB5:=hB4.on hal
       have hQ5:=hB5.hq
       have hz2:=Z0F Qt.zero none 0 0
       have hz3:=Z0F q QA q.nights.length qc
       have hb6:=((hB5.b.alloc hB5.b.size (.cells (qtC q (.slice QA q.nights.length qc)) 89)))
       simp only [qtC,Qt.zero,Int.natCast_zero] at hB5 hQ5 hz2 hz3 hb6 ⊢
       have HB5:=zh hB5;have HQ5:=zh hQ5;have HB6:=zh hb6;clear hB5 hQ5 hb6 hB4 hal hb4;go_wp2_with (first | (with_reducible refine Z0f rfl _ rfl (w.heap.size+1) rfl _ rfl _ HQ5.out ?_) | (refine Z0j rfl _ _ rfl _ _ rfl rfl rfl rfl hz2 ?_) | (refine Z0j rfl _ _ rfl _ _ rfl rfl rfl rfl hz3 ?_))
       go_ret2
       exact ⟨rfl,HB6.out⟩
      | ok pr =>
       obtain ⟨ns,kp⟩:=pr
       rw [hX] at hh
       obtain ⟨A2,rfl,hns,hfresh⟩:=hh
       have hMM:=HYES.out ns kp h1 h2 h3 (by omega) hX
       have hdlt:=Z90 v;have hl60:=Z6t hX;generalize v.dig=dg at *
       obtain ⟨Q1,hQ1⟩:∃ Q1:Qt,(⟨v.num,q.time,ns.sum,kp,q.ask,ns,dg,0,0⟩:Qt)=Q1:=⟨_,rfl⟩
       have hal:=(Below.refl w4.heap.size w4).alloc (zn _) (.cells (qtC ⟨v.num,q.time,ns.sum,kp,q.ask,ns,dg,0,0⟩ (.slice A2 ns.length ns.length)) 89)
       have hwn:=za w4 (.cells (qtC ⟨v.num,q.time,ns.sum,kp,q.ask,ns,dg,0,0⟩ (.slice A2 ns.length ns.length)) 89)
       have hns5:=(hns.on hal).up hal.size
       have hB5:=hB4.on hal
       have hs5:=World.size_alloc w4 (.cells (qtC ⟨v.num,q.time,ns.sum,kp,q.ask,ns,dg,0,0⟩ (.slice A2 ns.length ns.length)) 89)
       have hQ5:=hB5.hq
       have hz2:=Z0F ⟨v.num,q.time,ns.sum,kp,q.ask,ns,dg,0,0⟩ A2 ns.length ns.length
       have hz3:=Z0F q QA q.nights.length qc
       have his:=fun W h1 h2=>Zhh q Q1 (.agg (qtC q (.slice QA q.nights.length qc))) (.agg (qtC ⟨v.num,q.time,ns.sum,kp,q.ask,ns,dg,0,0⟩ (.slice A2 ns.length ns.length))) W h1 h2 hqd (by rw [← hQ1];exact hdlt) hqn (by rw [← hQ1];show ns.length≤50000;omega)
       have hmkq:∀ W,Z07 W W.heap.size (.slice A2 ns.length ns.length) ns→QtV W W.heap.size (.agg (qtC ⟨v.num,q.time,ns.sum,kp,q.ask,ns,dg,0,0⟩ (.slice A2 ns.length ns.length))) Q1:=fun W h=>by rw [← hQ1];exact ⟨A2,ns.length,rfl,h⟩
       have hmkp:∀ W,Z07 W W.heap.size (.slice QA q.nights.length qc) q.nights→QtV W W.heap.size (.agg (qtC q (.slice QA q.nights.length qc))) q:=fun W h=>⟨QA,qc,rfl,h⟩
       have hsy:=fun W h=>Z8j q (.agg (qtC q (.slice QA q.nights.length qc))) W h hqd hqn
       rw [hQ1] at hMM
       subst hMM;clear hal hQ1;have hn6:∀ W,CkB w v (.slice A v.rs.length c) q (.slice QA q.nights.length qc) W→CkN w v (.slice A v.rs.length c) q (.slice QA q.nights.length qc) W.heap.size (W.alloc (.cells (qtC q (.slice QA q.nights.length qc)) 89)):=fun W h=>⟨h.on ((Below.refl _ _).alloc (zn _) _),za W _⟩
       simp only [qtC] at hwn hB5 hQ5 hz2 hz3 hs5 hns5 his hmkq hmkp hsy hn6 ⊢
       go_upto_region 7 with (first | (refine Z0j rfl _ _ rfl _ _ rfl rfl rfl rfl hz2 ?_))
       generalize w4.alloc (.cells #[.int .i64 v.num,.int .i64 q.time,.int .i64 ns.sum,.int .i64 kp,.int .i64 q.ask.kind,.int .i64 q.ask.fr,.int .i64 q.ask.un,.int .i64 q.ask.pers,.slice A2 ns.length ns.length,.int .u64 (dg:Nat),.int .i64 0,.int .i64 0] 89)=w5 at *
       have hN6:=hn6 w5 hB5
       have hb6:=(Below.refl w5.heap.size w5).alloc (zn _) (.cells #[.int .i64 q.ver,.int .i64 q.time,.int .i64 q.total,.int .i64 q.keep,.int .i64 q.ask.kind,.int .i64 q.ask.fr,.int .i64 q.ask.un,.int .i64 q.ask.pers,.slice QA q.nights.length qc,.int .u64 (q.dig:Nat),.int .i64 q.sE,.int .i64 q.sS] 89)
       have hwn6:=(hb6.block _ (zs hwn)).trans hwn
       have hns6:=(hns5.on hb6).up hb6.size
       have his6:=his _ (hmkp _ hN6.k.i) (hmkq _ hns6)
       have hNN:=hN6.n
       simp only [qtC] at hNN
       rw [hs5] at hN6
       have nc0:=hN6.c 0 (.int .i64 q.ver) rfl
       have nc1:=hN6.c 1 (.int .i64 q.time) rfl
       have nc2:=hN6.c 2 (.int .i64 q.total) rfl
       have nc3:=hN6.c 3 (.int .i64 q.keep) rfl
       have nc4:=hN6.c 4 (.int .i64 q.ask.kind) rfl
       have nc5:=hN6.c 5 (.int .i64 q.ask.fr) rfl
       have nc6:=hN6.c 6 (.int .i64 q.ask.un) rfl
       have nc7:=hN6.c 7 (.int .i64 q.ask.pers) rfl
       have nc8:=hN6.c 8 (.slice QA q.nights.length qc) rfl
       have nc9:=hN6.c 9 (.int .u64 (q.dig:Nat)) rfl
       have nc10:=hN6.c 10 (.int .i64 q.sE) rfl
       have nc11:=hN6.c 11 (.int .i64 q.sS) rfl
       have wc0:(w5.alloc (.cells #[.int .i64 q.ver,.int .i64 q.time,.int .i64 q.total,.int .i64 q.keep,.int .i64 q.ask.kind,.int .i64 q.ask.fr,.int .i64 q.ask.un,.int .i64 q.ask.pers,.slice QA q.nights.length qc,.int .u64 (q.dig:Nat),.int .i64 q.sE,.int .i64 q.sS] 89)).cell? ⟨w4.heap.size,0,none⟩=some (.int .i64 v.num):=by rw [zc hwn6];rfl
       have wc1:(w5.alloc (.cells #[.int .i64 q.ver,.int .i64 q.time,.int .i64 q.total,.int .i64 q.keep,.int .i64 q.ask.kind,.int .i64 q.ask.fr,.int .i64 q.ask.un,.int .i64 q.ask.pers,.slice QA q.nights.length qc,.int .u64 (q.dig:Nat),.int .i64 q.sE,.int .i64 q.sS] 89)).cell? ⟨w4.heap.size,1,none⟩=some (.int .i64 q.time):=by rw [zc hwn6];rfl
       have wc2:(w5.alloc (.cells #[.int .i64 q.ver,.int .i64 q.time,.int .i64 q.total,.int .i64 q.keep,.int .i64 q.ask.kind,.int .i64 q.ask.fr,.int .i64 q.ask.un,.int .i64 q.ask.pers,.slice QA q.nights.length qc,.int .u64 (q.dig:Nat),.int .i64 q.sE,.int .i64 q.sS] 89)).cell? ⟨w4.heap.size,2,none⟩=some (.int .i64 ns.sum):=by rw [zc hwn6];rfl
       have wc3:(w5.alloc (.cells #[.int .i64 q.ver,.int .i64 q.time,.int .i64 q.total,.int .i64 q.keep,.int .i64 q.ask.kind,.int .i64 q.ask.fr,.int .i64 q.ask.un,.int .i64 q.ask.pers,.slice QA q.nights.length qc,.int .u64 (q.dig:Nat),.int .i64 q.sE,.int .i64 q.sS] 89)).cell? ⟨w4.heap.size,3,none⟩=some (.int .i64 kp):=by rw [zc hwn6];rfl
       have wc4:(w5.alloc (.cells #[.int .i64 q.ver,.int .i64 q.time,.int .i64 q.total,.int .i64 q.keep,.int .i64 q.ask.kind,.int .i64 q.ask.fr,.int .i64 q.ask.un,.int .i64 q.ask.pers,.slice QA q.nights.length qc,.int .u64 (q.dig:Nat),.int .i64 q.sE,.int .i64 q.sS] 89)).cell? ⟨w4.heap.size,4,none⟩=some (.int .i64 q.ask.kind):=by rw [zc hwn6];rfl
       have wc5:(w5.alloc (.cells #[.int .i64 q.ver,.int .i64 q.time,.int .i64 q.total,.int .i64 q.keep,.int .i64 q.ask.kind,.int .i64 q.ask.fr,.int .i64 q.ask.un,.int .i64 q.ask.pers,.slice QA q.nights.length qc,.int .u64 (q.dig:Nat),.int .i64 q.sE,.int .i64 q.sS] 89)).cell? ⟨w4.heap.size,5,none⟩=some (.int .i64 q.ask.fr):=by rw [zc hwn6];rfl
       have wc6:(w5.alloc (.cells #[.int .i64 q.ver,.int .i64 q.time,.int .i64 q.total,.int .i64 q.keep,.int .i64 q.ask.kind,.int .i64 q.ask.fr,.int .i64 q.ask.un,.int .i64 q.ask.pers,.slice QA q.nights.length qc,.int .u64 (q.dig:Nat),.int .i64 q.sE,.int .i64 q.sS] 89)).cell? ⟨w4.heap.size,6,none⟩=some (.int .i64 q.ask.un):=by rw [zc hwn6];rfl
       have wc7:(w5.alloc (.cells #[.int .i64 q.ver,.int .i64 q.time,.int .i64 q.total,.int .i64 q.keep,.int .i64 q.ask.kind,.int .i64 q.ask.fr,.int .i64 q.ask.un,.int .i64 q.ask.pers,.slice QA q.nights.length qc,.int .u64 (q.dig:Nat),.int .i64 q.sE,.int .i64 q.sS] 89)).cell? ⟨w4.heap.size,7,none⟩=some (.int .i64 q.ask.pers):=by rw [zc hwn6];rfl
       have wc8:(w5.alloc (.cells #[.int .i64 q.ver,.int .i64 q.time,.int .i64 q.total,.int .i64 q.keep,.int .i64 q.ask.kind,.int .i64 q.ask.fr,.int .i64 q.ask.un,.int .i64 q.ask.pers,.slice QA q.nights.length qc,.int .u64 (q.dig:Nat),.int .i64 q.sE,.int .i64 q.sS] 89)).cell? ⟨w4.heap.size,8,none⟩=some (.slice A2 ns.length ns.length):=by rw [zc hwn6];rfl
       have wc9:(w5.alloc (.cells #[.int .i64 q.ver,.int .i64 q.time,.int .i64 q.total,.int .i64 q.keep,.int .i64 q.ask.kind,.int .i64 q.ask.fr,.int .i64 q.ask.un,.int .i64 q.ask.pers,.slice QA q.nights.length qc,.int .u64 (q.dig:Nat),.int .i64 q.sE,.int .i64 q.sS] 89)).cell? ⟨w4.heap.size,9,none⟩=some (.int .u64 (dg:Nat)):=by rw [zc hwn6];rfl
       have wc10:(w5.alloc (.cells #[.int .i64 q.ver,.int .i64 q.time,.int .i64 q.total,.int .i64 q.keep,.int .i64 q.ask.kind,.int .i64 q.ask.fr,.int .i64 q.ask.un,.int .i64 q.ask.pers,.slice QA q.nights.length qc,.int .u64 (q.dig:Nat),.int .i64 q.sE,.int .i64 q.sS] 89)).cell? ⟨w4.heap.size,10,none⟩=some (.int .i64 0):=by rw [zc hwn6];rfl
       have wc11:(w5.alloc (.cells #[.int .i64 q.ver,.int .i64 q.time,.int .i64 q.total,.int .i64 q.keep,.int .i64 q.ask.kind,.int .i64 q.ask.fr,.int .i64 q.ask.un,.int .i64 q.ask.pers,.slice QA q.nights.length qc,.int .u64 (q.dig:Nat),.int .i64 q.sE,.int .i64 q.sS] 89)).cell? ⟨w4.heap.size,11,none⟩=some (.int .i64 0):=by rw [zc hwn6];rfl
       have HQ5:=zh hQ5;have HN6:=zh hN6;have HWN6:=zh hwn6;have HIS6:=zh his6;clear hQ5 hN6 hwn6 his6 hNN hB4 hB5 hwn hns hns5 hns6 his hmkq hn6 hb6 hb4;go_wp2_with (first | (with_reducible refine Z0f rfl _ rfl (w.heap.size+1) rfl _ rfl _ HQ5.out ?_) | (refine Z0j rfl _ _ rfl _ _ rfl rfl rfl rfl hz3 ?_))
       refine HIS6.out.mono ?_
       rintro e w7 ⟨rfl,hb7⟩;have hN7:=HN6.out.on hb7
       obtain ⟨R1,hR1⟩:∃ R1,q.same Q1=R1:=⟨_,rfl⟩
       rw [hR1]
       have HN7:=zh hN7;clear hN7 hb7 HIS6 HN6 HWN6 HQ5 nc0 nc1 nc2 nc3 nc4 nc5 nc6 nc7 nc8 nc9 nc10 nc11 wc0 wc1 wc2 wc3 wc4 wc5 wc6 wc7 wc8 wc9 wc10 wc11;cases R1 with
       | false =>
        go_wp2_with fail;go_ret2
        refine ⟨?_,HN7.out.k.b⟩
        try rw [hR1]
        rfl
       | true =>
        have HMS:Hid (∀ wx,CkN w v (.slice A v.rs.length c) q (.slice QA q.nights.length qc) (w4.heap.size+1) wx→wx.cell? ⟨w.heap.size+1,10,none⟩=some (.int .i64 q.sE)∧wx.cell? ⟨w.heap.size+1,11,none⟩=some (.int .i64 q.sS)∧wx.cell? ⟨w4.heap.size+1,0,none⟩=some (.int .i64 q.ver)∧wx.cell? ⟨w4.heap.size+1,1,none⟩=some (.int .i64 q.time)∧wx.cell? ⟨w4.heap.size+1,2,none⟩=some (.int .i64 q.total)∧wx.cell? ⟨w4.heap.size+1,3,none⟩=some (.int .i64 q.keep)∧wx.cell? ⟨w4.heap.size+1,4,none⟩=some (.int .i64 q.ask.kind)∧wx.cell? ⟨w4.heap.size+1,5,none⟩=some (.int .i64 q.ask.fr)∧wx.cell? ⟨w4.heap.size+1,6,none⟩=some (.int .i64 q.ask.un)∧wx.cell? ⟨w4.heap.size+1,7,none⟩=some (.int .i64 q.ask.pers)∧wx.cell? ⟨w4.heap.size+1,8,none⟩=some (.slice QA q.nights.length qc)∧wx.cell? ⟨w4.heap.size+1,9,none⟩=some (.int .u64 (q.dig:Nat))∧wx.cell? ⟨w4.heap.size+1,10,none⟩=some (.int .i64 q.sE)∧wx.cell? ⟨w4.heap.size+1,11,none⟩=some (.int .i64 q.sS)∧CkN w v (.slice A v.rs.length c) q (.slice QA q.nights.length qc) (w4.heap.size+1) wx):=fun wx h=>⟨h.k.c 10 _ rfl,h.k.c 11 _ rfl,h.c 0 _ rfl,h.c 1 _ rfl,h.c 2 _ rfl,h.c 3 _ rfl,h.c 4 _ rfl,h.c 5 _ rfl,h.c 6 _ rfl,h.c 7 _ rfl,h.c 8 _ rfl,h.c 9 _ rfl,h.c 10 _ rfl,h.c 11 _ rfl,h⟩
        have HSYC:Hid (∀ wx,CkN w v (.slice A v.rs.length c) q (.slice QA q.nights.length qc) (w4.heap.size+1) wx→Calls Tryz.prog 51 #[.agg #[.int .i64 q.ver,.int .i64 q.time,.int .i64 q.total,.int .i64 q.keep,.int .i64 q.ask.kind,.int .i64 q.ask.fr,.int .i64 q.ask.un,.int .i64 q.ask.pers,.slice QA q.nights.length qc,.int .u64 (q.dig:Nat),.int .i64 q.sE,.int .i64 q.sS]] wx fun e w'=>∃ r,e=.returned r∧Z07 w' w'.heap.size r q.says∧Below wx.heap.size wx w'):=fun wx h=>hsy wx (hmkp wx h.k.i)
        cases hvb:verB p.toNat q.sE q.sS q.says with
        | false =>
         have HVFC:Hid (∀ wx U2,CkN w v (.slice A v.rs.length c) q (.slice QA q.nights.length qc) (w4.heap.size+1) wx→Z07 wx wx.heap.size U2 q.says→Calls Tryz.prog 57 #[.int .i64 p,.agg #[.int .i64 q.sE,.int .i64 q.sS],U2] wx fun e w'=>e=.returned (.tuple #[.bool false,.int .i64 (if expB q.sE&&expB q.sS then 0 else 1)])∧Below wx.heap.size wx w'):=fun wx U2 h h2=>by
          have:=HVF.out wx U2 h.k.b h2f h2 hsl
          rwa [hvb] at this
         generalize (if expB q.sE&&expB q.sS then (0:Int) else 1)=er at *
         go_wp2_with fail;go_region_held3 (fun w'=>w'.cell? ⟨w.heap.size+1,10,none⟩=some (.int .i64 q.sE)∧w'.cell? ⟨w.heap.size+1,11,none⟩=some (.int .i64 q.sS)∧w'.cell? ⟨w4.heap.size+1,0,none⟩=some (.int .i64 q.ver)∧w'.cell? ⟨w4.heap.size+1,1,none⟩=some (.int .i64 q.time)∧w'.cell? ⟨w4.heap.size+1,2,none⟩=some (.int .i64 q.total)∧w'.cell? ⟨w4.heap.size+1,3,none⟩=some (.int .i64 q.keep)∧w'.cell? ⟨w4.heap.size+1,4,none⟩=some (.int .i64 q.ask.kind)∧w'.cell? ⟨w4.heap.size+1,5,none⟩=some (.int .i64 q.ask.fr)∧w'.cell? ⟨w4.heap.size+1,6,none⟩=some (.int .i64 q.ask.un)∧w'.cell? ⟨w4.heap.size+1,7,none⟩=some (.int .i64 q.ask.pers)∧w'.cell? ⟨w4.heap.size+1,8,none⟩=some (.slice QA q.nights.length qc)∧w'.cell? ⟨w4.heap.size+1,9,none⟩=some (.int .u64 (q.dig:Nat))∧w'.cell? ⟨w4.heap.size+1,10,none⟩=some (.int .i64 q.sE)∧w'.cell? ⟨w4.heap.size+1,11,none⟩=some (.int .i64 q.sS)∧CkN w v (.slice A v.rs.length c) q (.slice QA q.nights.length qc) (w4.heap.size+1) w')
          (first | (with_reducible exact HMS.out _ HN7.out.drew) | (with_reducible exact HMS.out _ L8) | (with_reducible exact HMS.out _ L9) | fail)
          (first
           | (go_at_call 51;have hA:=(‹_∧_∧_∧_∧_∧_∧_∧_∧_∧_∧_∧_∧_∧_∧CkN w v (.slice A v.rs.length c) q (.slice QA q.nights.length qc) (w4.heap.size+1) _›).2.2.2.2.2.2.2.2.2.2.2.2.2.2;refine (HSYC.out _ hA).mono ?_;rintro ex w8 ⟨r8,rfl,hr8,hb8⟩;have L8:=hA.on hb8;have HR8:=zh hr8;clear hr8 hb8 hA)
           | (go_at_call 57;have hA:=(‹_∧_∧_∧_∧_∧_∧_∧_∧_∧_∧_∧_∧_∧_∧CkN w v (.slice A v.rs.length c) q (.slice QA q.nights.length qc) (w4.heap.size+1) _›).2.2.2.2.2.2.2.2.2.2.2.2.2.2;refine (HVFC.out _ _ hA HR8.out).mono ?_;rintro ex w9 ⟨rfl,hb9⟩;have L9:=hA.on hb9;clear hb9 hA))
         all_goals
          have hA:=(‹_∧_∧_∧_∧_∧_∧_∧_∧_∧_∧_∧_∧_∧_∧CkN w v (.slice A v.rs.length c) q (.slice QA q.nights.length qc) (w4.heap.size+1) _›).2.2.2.2.2.2.2.2.2.2.2.2.2.2
          go_wp2_with fail;go_ret2
          refine ⟨?_,hA.k.b⟩
          try rw [hR1]
          try rw [hvb]
          rfl
        | true =>
         have HVFC:Hid (∀ wx U2,CkN w v (.slice A v.rs.length c) q (.slice QA q.nights.length qc) (w4.heap.size+1) wx→Z07 wx wx.heap.size U2 q.says→Calls Tryz.prog 57 #[.int .i64 p,.agg #[.int .i64 q.sE,.int .i64 q.sS],U2] wx fun e w'=>e=.returned (.tuple #[.bool true,.int .i64 0])∧Below wx.heap.size wx w'):=fun wx U2 h h2=>by
          have:=HVF.out wx U2 h.k.b h2f h2 hsl
          have he:(expB q.sE&&expB q.sS)=true:=by
           unfold verB at hvb
           simp only [Bool.and_eq_true] at hvb ⊢
           exact hvb.1
          rw [hvb,he] at this
          exact this
         go_wp2_with fail;go_region_held3 (fun w'=>w'.cell? ⟨w.heap.size+1,10,none⟩=some (.int .i64 q.sE)∧w'.cell? ⟨w.heap.size+1,11,none⟩=some (.int .i64 q.sS)∧w'.cell? ⟨w4.heap.size+1,0,none⟩=some (.int .i64 q.ver)∧w'.cell? ⟨w4.heap.size+1,1,none⟩=some (.int .i64 q.time)∧w'.cell? ⟨w4.heap.size+1,2,none⟩=some (.int .i64 q.total)∧w'.cell? ⟨w4.heap.size+1,3,none⟩=some (.int .i64 q.keep)∧w'.cell? ⟨w4.heap.size+1,4,none⟩=some (.int .i64 q.ask.kind)∧w'.cell? ⟨w4.heap.size+1,5,none⟩=some (.int .i64 q.ask.fr)∧w'.cell? ⟨w4.heap.size+1,6,none⟩=some (.int .i64 q.ask.un)∧w'.cell? ⟨w4.heap.size+1,7,none⟩=some (.int .i64 q.ask.pers)∧w'.cell? ⟨w4.heap.size+1,8,none⟩=some (.slice QA q.nights.length qc)∧w'.cell? ⟨w4.heap.size+1,9,none⟩=some (.int .u64 (q.dig:Nat))∧w'.cell? ⟨w4.heap.size+1,10,none⟩=some (.int .i64 q.sE)∧w'.cell? ⟨w4.heap.size+1,11,none⟩=some (.int .i64 q.sS)∧CkN w v (.slice A v.rs.length c) q (.slice QA q.nights.length qc) (w4.heap.size+1) w')
          (first | (with_reducible exact HMS.out _ HN7.out.drew) | (with_reducible exact HMS.out _ L8) | (with_reducible exact HMS.out _ L9) | fail)
          (first
           | (go_at_call 51;have hA:=(‹_∧_∧_∧_∧_∧_∧_∧_∧_∧_∧_∧_∧_∧_∧CkN w v (.slice A v.rs.length c) q (.slice QA q.nights.length qc) (w4.heap.size+1) _›).2.2.2.2.2.2.2.2.2.2.2.2.2.2;refine (HSYC.out _ hA).mono ?_;rintro ex w8 ⟨r8,rfl,hr8,hb8⟩;have L8:=hA.on hb8;have HR8:=zh hr8;clear hr8 hb8 hA)
           | (go_at_call 57;have hA:=(‹_∧_∧_∧_∧_∧_∧_∧_∧_∧_∧_∧_∧_∧_∧CkN w v (.slice A v.rs.length c) q (.slice QA q.nights.length qc) (w4.heap.size+1) _›).2.2.2.2.2.2.2.2.2.2.2.2.2.2;refine (HVFC.out _ _ hA HR8.out).mono ?_;rintro ex w9 ⟨rfl,hb9⟩;have L9:=hA.on hb9;clear hb9 hA))
         all_goals
          have hA:=(‹_∧_∧_∧_∧_∧_∧_∧_∧_∧_∧_∧_∧_∧_∧CkN w v (.slice A v.rs.length c) q (.slice QA q.nights.length qc) (w4.heap.size+1) _›).2.2.2.2.2.2.2.2.2.2.2.2.2.2
          go_wp2_with fail;go_ret2
          refine ⟨?_,hA.k.b⟩
          try rw [hR1]
          try rw [hvb]
          rfl
end
section
open Go.RowKit Lx Px Qx
def hdW12:Ex:=((12,0),.node 0 0 (1,0) .nil (.node 0 0 (1,0) .nil .nil))
def hdP12:Ex:=((6,0),.node 0 0 (2,10000) .nil (.node 0 0 (3,1) .nil .nil))
def hdR12:Rr:=⟨1,0,1,0,20,1,9,127,50,hdW12,hdP12⟩
def Zcj:Qx.Ask:=⟨1,4,6,2⟩
def Zjd:Bytes:=[114,97,116,101,32,49,32,108,101,118,101,108,32,48,32,107,105,110,100,32,49,32,110,105,103,104,116,115,32,48,32,116,111,32,50,48,32,115,116,97,121,32,49,32,116,111,32,57,32,97,114,114,105,118,101,32,49,50,55,32,107,101,101,112,32,53,48,37,32,119,104,101,110,32,48,32,61,32,48,32,112,114,105,99,101,32,49,48,48,46,48,48,59]
def Zck:List Tok:=[Z6a,[49],Z9G,[48],Zgz,[49],Z75,[48],kTo,[50,48],ZgA,[49],kTo,[57],Z76,[49,50,55],ZgB,[53,48],[37],Zdx,[48],[61],[48],Z8w,[49,48,48,46,48,48],[59]].map tk
theorem Zh2:toks Zjd=(Zck,0,0):=by kernel_rfl
def Z4e:Rr:=⟨1,0,1,0,20,1,9,127,50,hdW12,((2,10000),.nil)⟩
theorem Zh3:Z4i (exOf Zck) Zck 0=.ok Z4e 26:=by
 refine ZfE ⟨⟨2,4,6,8,10,12,14,16,18,23,25,?_,?_,?_,?_,?_,?_,?_,?_,?_,?_,?_,?_,?_,?_,?_,?_⟩,?_,?_⟩
 case refine_12=>exact Z8g 20 20 (by decide) 23 (by kernel_rfl) (by decide)
 case refine_14=>exact Z8g 20 24 (by decide) 25 (by kernel_rfl) (by decide)
 all_goals kernel_rfl
theorem Zje:srcO Zjd=.ok [Z4e]:=by
 rw [Zee Zh2]
 unfold allO
 have hl:Zck.length=26:=rfl
 have h1:=Z46 (Z3G Zck) (k:=0) (acc:=[]) (by decide) (fun h=>absurd h.1 (by decide)) Zh3
 rw [hl] at h1 ⊢
 exact h1
theorem Zjf:useB [Z4e.rt]=true:=by kernel_rfl
theorem Zjg:Rt.can Z4e.rt=true:=by kernel_rfl
theorem ZdH:Z0g [Z4e.rt] Zcj=.ok ([10000,10000],10000):=by kernel_rfl
def Zjh:Bytes:=[114,97,116,101,32,49,32,108,101,118,101,108,32,48,32,107,105,110,100,32,49,32,110,105,103,104,116,115,32,48,32,116,111,32,50,48,32,115,116,97,121,32,49,32,116,111,32,57,32,97,114,114,105,118,101,32,49,50,55,32,107,101,101,112,32,53,48,37,32,119,104,101,110,32,48,32,61,32,48,32,112,114,105,99,101,32,57,48,46,48,48,59]
def Zcm:List Tok:=[Z6a,[49],Z9G,[48],Zgz,[49],Z75,[48],kTo,[50,48],ZgA,[49],kTo,[57],Z76,[49,50,55],ZgB,[53,48],[37],Zdx,[48],[61],[48],Z8w,[57,48,46,48,48],[59]].map tk
theorem Zh4:toks Zjh=(Zcm,0,0):=by kernel_rfl
def Z3F:Rr:=⟨1,0,1,0,20,1,9,127,50,hdW12,((2,9000),.nil)⟩
theorem Zh5:Z4i (exOf Zcm) Zcm 0=.ok Z3F 26:=by
 refine ZfE ⟨⟨2,4,6,8,10,12,14,16,18,23,25,?_,?_,?_,?_,?_,?_,?_,?_,?_,?_,?_,?_,?_,?_,?_,?_⟩,?_,?_⟩
 case refine_12=>exact Z8g 20 20 (by decide) 23 (by kernel_rfl) (by decide)
 case refine_14=>exact Z8g 20 24 (by decide) 25 (by kernel_rfl) (by decide)
 all_goals kernel_rfl
theorem Zji:srcO Zjh=.ok [Z3F]:=by
 rw [Zee Zh4]
 unfold allO
 have hl:Zcm.length=26:=rfl
 have h1:=Z46 (Z3G Zcm) (k:=0) (acc:=[]) (by decide) (fun h=>absurd h.1 (by decide)) Zh5
 rw [hl] at h1 ⊢
 exact h1
theorem Zjj:useB [Z3F.rt]=true:=by kernel_rfl
theorem Zjk:Rt.can Z3F.rt=true:=by kernel_rfl
end
section
open Go.RowKit Lx Px
namespace Px
theorem Zjm:∀ l m:Fo,Z3D l m=true→flen l=flen m:=by
 intro l
 induction l with
 | nil=>intro m h;cases m with
  | nil=>rfl
  | node=>simp [Z3D] at h
 | node b o a l r _ ihr =>
  intro m h
  cases m with
  | nil=>simp [Z3D] at h
  | node b' o' a' l' r' =>
   simp only [Z3D,Bool.and_eq_true] at h
   simp only [flen];rw [ihr r' h.2]
theorem ZmF (l m:Fo)(h:¬ flen l=flen m):Z3D l m=false:=by
 cases e:Z3D l m with
 | false=>rfl
 | true=>exact absurd (Zjm l m e) h
end Px
def ZmG (a:Int × Int)(l:Fo):Prop :=
 ∀ (b:Int × Int) (m:Fo) (w:World) (v u:Value) (B:Nat),FoV w B v l→FoV w B u m→B≤w.heap.size→Z1m l≤1000 →
  Calls Tryz.prog 155 #[.agg #[.int .i64 a.1,.int .i64 a.2,v],.agg #[.int .i64 b.1,.int .i64 b.2,u]] w fun e w' =>
   e=.returned (.bool (Z6e a b l m))∧Below w.heap.size w w'
def SamL (l m:Fo)(w:World)(o1 o2:Obj)(i:Value)(wr:World):Prop :=
 ∃ (k:Nat),k≤flen l∧i=.int .i64 k∧Two w o1 o2 wr∧Z3D (Z1h l k) (Z1h m k)=Z3D l m
theorem Zfd (a:Int × Int)(l:Fo)(ih:∀ k,k<flen l→ZmG (getF l k).1 (getF l k).2):ZmG a l:=by
 intro b m w v u B hv hu hB hnd
 obtain ⟨A,c,rfl,hA⟩:=hv
 obtain ⟨A2,c2,rfl,hA2⟩:=hu
 obtain ⟨op,n⟩:=a
 obtain ⟨op2,n2⟩:=b
 have hfl:=ZgE l;have hx:=Z1d w (.cells #[.int .i64 op,.int .i64 n,.slice A (flen l) c] 63) (.cells #[.int .i64 op2,.int .i64 n2,.slice A2 (flen m) c2] 63)
 have hb:Below w.heap.size w ((w.alloc (.cells #[.int .i64 op,.int .i64 n,.slice A (flen l) c] 63)).alloc (.cells #[.int .i64 op2,.int .i64 n2,.slice A2 (flen m) c2] 63)):=((Below.refl _ _).alloc (zn _) _).alloc (by simp) _
 have HX:Hid (Two w (.cells #[.int .i64 op,.int .i64 n,.slice A (flen l) c] 63 (0,0)) (.cells #[.int .i64 op2,.int .i64 n2,.slice A2 (flen m) c2] 63 (0,0)) ((w.alloc (.cells #[.int .i64 op,.int .i64 n,.slice A (flen l) c] 63)).alloc (.cells #[.int .i64 op2,.int .i64 n2,.slice A2 (flen m) c2] 63))):=⟨hx.1,hx.2,hb⟩
 have HA:=zh hA;have HA2:=zh hA2;have HI:=zh ih;clear hx hb hA hA2 ih;dsimp only
 by_cases h1:op=op2
 · by_cases h2:n=n2
   · by_cases h3:flen l=flen m
     · subst h1;subst h2
       have d1:(op != op)=false:=by simp
       have d2:(n != n)=false:=by simp
       have d3:((flen l:Int) != (flen m:Int))=false:=by rw [h3];simp
       have hE:Z6e (op,n) (op,n) l m=Z3D l m:=by simp [Z6e]
       have HE:=zh hE;have H3:=zh h3;clear hE h3;go_enter Tryz.func155,Tryz.ntmps155
       go_wp2_with fail;go_loopw [5] (fun i wr=>SamL l m w (.cells #[.int .i64 op,.int .i64 n,.slice A (flen l) c] 63 (0,0)) (.cells #[.int .i64 op,.int .i64 n,.slice A2 (flen m) c2] 63 (0,0)) i wr) (fun i _=>flen l - (intOf i).toNat)
       case atStart=>exact ⟨0,by omega,rfl,HX.out,by rw [Z1h,Z1h]⟩
       case round =>
        obtain ⟨k,hk,rfl,hbx,hF⟩:=hrel
        have m2:wr.cell? ⟨w.heap.size,2,none⟩=some (.slice A (flen l) c):=by rw [zc hbx.1];rfl
        have m3:wr.cell? ⟨w.heap.size+1,2,none⟩=some (.slice A2 (flen m) c2):=by rw [zc hbx.2.1];rfl
        have HFF:=zh hF;have HBX:=zh hbx;clear hF hbx;by_cases hlt:k<flen l
        · have hkeep:∀ p:Addr,p.block<B→wr.cell? p=w.cell? p:=fun p hp=>HBX.out.2.2.cell (by omega)
          have hlt2:k<flen m:=by have:=H3.out;omega
          obtain ⟨ad,A',c',rfl,hlo,t0,t1,t2,t3⟩:=FoAt.get l A 0 k (FoAt.keep hkeep l A 0 HA.out) hlt
          obtain ⟨ad2,A2',c2',rfl,hlo2,q0,q1,q2,q3⟩:=FoAt.get m A2 0 k (FoAt.keep hkeep m A2 0 HA2.out) hlt2
          rw [Nat.zero_add] at t0 t1 t2 q0 q1 q2
          obtain ⟨bb,oo,hd⟩:=Z3E l k hlt
          obtain ⟨bb2,oo2,hd2⟩:=Z3E m k hlt2
          have hrec:=HI.out k hlt
          have hng:=Zj4 l k hlt
          obtain ⟨⟨op',n'⟩,l',hel⟩:∃ a' l',getF l k=(a',l'):=⟨_,_,rfl⟩
          obtain ⟨⟨op2',n2'⟩,m',hel2⟩:∃ a' l',getF m k=(a',l'):=⟨_,_,rfl⟩
          rw [hel] at t0 t1 t2 t3 hd hrec hng
          rw [hel2] at q0 q1 q2 q3 hd2
          dsimp only at t0 t1 t2 t3 hd hrec hng q0 q1 q2 q3 hd2
          have hF2:=HFF.out
          rw [hd,hd2,Z3D] at hF2
          obtain ⟨z,hz⟩:∃ z,z=Z6e (op',n') (op2',n2') l' m':=⟨_,rfl⟩
          have hF3:(z&&Z3D (Z1h l (k+1)) (Z1h m (k+1)))=Z3D l m:=by rw [hz];exact hF2
          have hcall:∀ W:World,Below w.heap.size w W→Two w (.cells #[.int .i64 op,.int .i64 n,.slice (some ad) (flen l) c] 63 (0,0)) (.cells #[.int .i64 op,.int .i64 n,.slice (some ad2) (flen m) c2] 63 (0,0)) W→FoV W B (.slice A' (flen l') c') l'→FoV W B (.slice A2' (flen m') c2') m' →
           Calls Tryz.prog 155 #[.agg #[.int .i64 op',.int .i64 n',.slice A' (flen l') c'],.agg #[.int .i64 op2',.int .i64 n2',.slice A2' (flen m') c2']] W fun e w'=>e=.returned (.bool z)∧Below W.heap.size W w':=by
           intro W h1 _ h2 h3
           rw [hz]
           exact hrec (op2',n2') m' W _ _ B h2 h3 (by have:=h1.size;omega) (by omega)
          have hC:=hcall wr.drew HBX.out.2.2.drew HBX.out.drew ⟨A',c',rfl,FoAt.keep (w:=wr) (w':=wr.drew) (fun _ _=>rfl) _ _ _ t3⟩ ⟨A2',c2',rfl,FoAt.keep (w:=wr) (w':=wr.drew) (fun _ _=>rfl) _ _ _ q3⟩
          have HC:=zh hC;have HF3:=zh hF3;clear hd hd2 hrec hel hel2 HFF hkeep t3 q3 hF2 hF3 hz hcall hC hng;have dk:((k:Int)<(flen l:Int)):=by omega
          go_wp2_with fail;go_still_tail 10,(by kernel_rfl)
          change wpList _ _ _ _ _ wr.drew
          have HB2:=zh HBX.out.drew
          clear HBX m2 m3 t0 t1 t2 q0 q1 q2;generalize wr.drew=w6 at *
          go_wp2_with fail;refine HC.out.mono ?_
          rintro e w7 ⟨rfl,hb⟩;have HB7:=zh (HB2.out.on hb)
          clear hb HB2 HC;cases z with
          | false =>
           go_wp2_with fail;go_ret
           rw [HE.out,← HF3.out]
           exact ⟨rfl,HB7.out.2.2⟩
          | true =>
           go_wp2_with fail;go_roundw
           case rel=>exact ⟨k+1,by omega,by go_num,HB7.out,by have:=HF3.out;simpa using this⟩
           case measure=>simp [intOf];omega
        · have hke:Z1h l k=.nil:=Z38 l k (by omega)
          have hke2:Z1h m k=.nil:=Z38 m k (by have:=H3.out;omega)
          have hF2:=HFF.out
          rw [hke,hke2,Z3D] at hF2
          have HF2:=zh hF2;clear HFF hF2;go_wp2_with fail;go_ret
          rw [HE.out,← HF2.out]
          exact ⟨rfl,HBX.out.2.2⟩
     · subst h1
       subst h2;have hE:Z6e (op,n) (op,n) l m=false:=by simp [Z6e,ZmF l m h3]
       have d1:(op != op)=false:=by simp
       have d2:(n != n)=false:=by simp
       have d3:((flen l:Int) != (flen m:Int))=true:=by simpa using (by omega:¬ (flen l:Int)=(flen m:Int))
       have HE:=zh hE;clear hE;go_enter Tryz.func155,Tryz.ntmps155
       go_wp2_with fail;go_ret
       rw [HE.out]
       exact ⟨rfl,HX.out.2.2⟩
   · subst h1
     have hE:Z6e (op,n) (op,n2) l m=false:=by simp [Z6e,h2]
     have d1:(op != op)=false:=by simp
     have d2:(n != n2)=true:=by simpa using h2
     have HE:=zh hE;clear hE;go_enter Tryz.func155,Tryz.ntmps155
     go_wp2_with fail;go_ret
     rw [HE.out]
     exact ⟨rfl,HX.out.2.2⟩
 · have hE:Z6e (op,n) (op2,n2) l m=false:=by simp [Z6e,h1]
   have d1:(op != op2)=true:=by simpa using h1
   have HE:=zh hE;clear hE;go_enter Tryz.func155,Tryz.ntmps155
   go_wp2_with fail;go_ret
   rw [HE.out]
   exact ⟨rfl,HX.out.2.2⟩
theorem ZmH (f:Fo):∀ k,k<flen f→ZmG (getF f k).1 (getF f k).2:=by
 induction f with
 | nil=>intro k h;simp [flen] at h
 | node b o a l r ihl ihr =>
  intro k h
  cases k with
  | zero=>exact Zfd a l ihl
  | succ k=>exact ihr k (by simp [flen] at h;omega)
theorem Zfe (a:Int × Int)(l:Fo):ZmG a l:=Zfd a l (ZmH l)
end
end Go.Proofs.YtnepkoepbapgeaaGreatDoor
