/-
  Several texts in one: QuoCk, QuoHd0.
-/
import Derived.Test.YtnepkoepbapgeaaGreatDoorQuoMk
import Derived.Test.YtnepkoepbapgeaaGreatDoorQuoIs
import Derived.Test.YtnepkoepbapgeaaGreatDoorParHd0
import Derived.Test.YtnepkoepbapgeaaGreatDoorQuoPlain
import Derived.Test.YtnepkoepbapgeaaGreatDoorQuoPla
namespace Go.Proofs.YtnepkoepbapgeaaGreatDoor
set_option maxRecDepth 100000
section
open Go.RowKit Lx Px Qx
namespace Qx
theorem Zk3 {v:Vr}{q:Qt}{p:Int}(h:¬ (v.okB=true∧memB p=true)):Z1B v q p=(false,1):=by
 unfold Z1B
 rw [if_neg]
 intro hc
 rw [Bool.and_eq_true] at hc
 exact h hc
theorem Zhg {v:Vr}{q:Qt}{p:Int}(h1:v.okB=true)(h2:memB p=true)(h:¬ (q.ask.okB=true∧Z2g q.time=true∧v.time≤q.time)):Z1B v q p=(false,0):=by
 unfold Z1B
 rw [if_pos (by rw [h1,h2];rfl),if_neg]
 intro hc
 simp only [Bool.and_eq_true,decide_eq_true_eq] at hc
 exact h ⟨hc.1.1,hc.1.2,hc.2⟩
theorem Zk4 {v:Vr}{q:Qt}{p e:Int}(h1:v.okB=true)(h2:memB p=true)(h:Z0g v.rs q.ask=.error e):Z1B v q p=(false,0):=by
 unfold Z1B
 rw [if_pos (by rw [h1,h2];rfl),Zdv h]
 split <;> rfl
theorem Zhh {v:Vr}{q:Qt}{p:Int}{ns:List Int}{kp:Int}(h1:v.okB=true)(h2:memB p=true)(h3:Z2g q.time=true)(h4:v.time≤q.time)(h:Z0g v.rs q.ask=.ok (ns,kp)) :
 Z1B v q p=(q.same ⟨v.num,q.time,ns.sum,kp,q.ask,ns,v.dig,0,0⟩&&verB p.toNat q.sE q.sS q.says,0):=by
 unfold Z1B
 rw [if_pos (by rw [h1,h2];rfl),Z9C h,if_pos (by rw [(Z6H h).2.1,h3];simpa using h4)]
end Qx
structure CkB (w:World) (v:Vr) (rv:Value) (q:Qt) (nv:Value) (W:World):Prop where
 hv:W.heap[w.heap.size]?=some (.cells #[.int .i64 v.num,.int .i64 v.time,rv] 24 (0,0))
 hq:W.heap[w.heap.size+1]?=some (.cells (qtC q nv) 32 (0,0))
 i:Z02 W W.heap.size nv q.nights
 b:Below w.heap.size w W
theorem CkB.on {w W W':World}{v:Vr}{rv nv:Value}{q:Qt}(h:CkB w v rv q nv W)(hb:Below W.heap.size W W'):CkB w v rv q nv W' :=
 ⟨(hb.block _ (zs h.hv)).trans h.hv,(hb.block _ (zs h.hq)).trans h.hq,(h.i.on hb).up hb.size,Z00 h.b hb⟩
theorem CkB.new (w:World)(v:Vr)(rv nv:Value)(q:Qt)(h:Z02 w w.heap.size nv q.nights):CkB w v rv q nv ((w.alloc (.cells #[.int .i64 v.num,.int .i64 v.time,rv] 24)).alloc (.cells (qtC q nv) 32)):=by
 have hb:=((Below.refl w.heap.size w).alloc (zn _) (.cells #[.int .i64 v.num,.int .i64 v.time,rv] 24)).alloc (by simp) (.cells (qtC q nv) 32)
 refine ⟨Z0z (za w _) _,?_,(h.on hb).up hb.size,hb⟩
 have:=za (w.alloc (.cells #[.int .i64 v.num,.int .i64 v.time,rv] 24)) (.cells (qtC q nv) 32)
 rwa [World.size_alloc] at this
theorem CkB.ver {w W:World}{v:Vr}{rv nv:Value}{q:Qt}(h:CkB w v rv q nv W):W.cell? ⟨w.heap.size,0,none⟩=some (.int .i64 v.num)∧W.cell? ⟨w.heap.size,1,none⟩=some (.int .i64 v.time)∧W.cell? ⟨w.heap.size,2,none⟩=some rv:=by
 refine ⟨?_,?_,?_⟩ <;> (rw [zc h.hv];rfl)
theorem CkB.c {w W:World}{v:Vr}{rv nv:Value}{q:Qt}(h:CkB w v rv q nv W)(i:Nat)(u:Value)(hu:(qtC q nv)[i]?=some u):W.cell? ⟨w.heap.size+1,i,none⟩=some u:=by rw [zc h.hq,hu]
structure CkN (w:World) (v:Vr) (rv:Value) (q:Qt) (nv:Value) (nb:Nat) (W:World):Prop where
 k:CkB w v rv q nv W
 n:W.heap[nb]?=some (.cells (qtC q nv) 89 (0,0))
theorem CkN.on {w W W':World}{v:Vr}{rv nv:Value}{q:Qt}{nb:Nat}(h:CkN w v rv q nv nb W)(hb:Below W.heap.size W W'):CkN w v rv q nv nb W' :=
 ⟨h.k.on hb,(hb.block _ (zs h.n)).trans h.n⟩
theorem CkN.drew {w W:World}{v:Vr}{rv nv:Value}{q:Qt}{nb:Nat}(h:CkN w v rv q nv nb W):CkN w v rv q nv nb W.drew:=h.on (Below.refl _ _).drew
theorem CkN.c {w W:World}{v:Vr}{rv nv:Value}{q:Qt}{nb:Nat}(h:CkN w v rv q nv nb W)(i:Nat)(u:Value)(hu:(qtC q nv)[i]?=some u):W.cell? ⟨nb,i,none⟩=some u:=by rw [zc h.n,hu]
set_option maxHeartbeats 16000000 in
theorem Z8B (v:Vr)(q:Qt)(p:Int)(V U:Value)(w:World)(hV:VrV w w.heap.size V v)(hU:QtV w w.heap.size U q)(hr:∀ x∈q.says,-9223372036854775808≤x∧x≤9223372036854775807)(hqd:q.dig<18446744073709551616)(hqn:q.nights.length≤50000)(ht:Tabs w.heap.size w) :
 Calls Tryz.prog 19 #[V,U,.int .i64 p] w fun e w'=>e=.returned (.tuple #[.bool (Z1B v q p).1,.int .i64 (Z1B v q p).2])∧Below w.heap.size w w':=by
 have hdg:=fun W (hb:Below w.heap.size w W)=>Z4m v V W (by obtain ⟨A,c,rfl,h⟩:=hV;exact ⟨A,c,rfl,(h.on hb).up hb.size⟩) (Z1y ht hb)
 have hpl:=fun W (hb:Below w.heap.size w W)=>Zba v q.ask q.time v.dig V W (by obtain ⟨A,c,rfl,h⟩:=hV;exact ⟨A,c,rfl,(h.on hb).up hb.size⟩)
 have hme:=fun W=>Z99 p W
 have htm:=fun W=>Z65 q.time W
 have hvf:=fun W U2 (hb:Below w.heap.size w W) h0 h1 h2=>Zfy p q.sE q.sS U2 q.says w.heap.size W h0 h1 h2 hr (ht.on hb)
 have hno:=@Zk3 v q p
 have hbad:=@Zhg v q p
 have her:=fun e h1 h2 h=>@Zk4 v q p e h1 h2 h
 have hyes:=fun ns kp h1 h2 h3 h4 h=>@Zhh v q p ns kp h1 h2 h3 h4 h
 have hpval:=fun e (h:Z0g v.rs q.ask=.error e)=>Z7D h
 obtain ⟨A,c,rfl,hR⟩:=hV
 obtain ⟨QA,qc,rfl,hI⟩:=hU
 have hsl:q.says.length≤100000:=by simp [Qt.says];omega
 have hB0:=CkB.new w v (.slice A v.rs.length c) (.slice QA q.nights.length qc) q hI
 have hq:qtV q (.slice QA q.nights.length qc)=.agg (qtC q (.slice QA q.nights.length qc)):=rfl
 obtain ⟨M,hM⟩:∃ M,Z1B v q p=M:=⟨_,rfl⟩
 rw [hM] at hno hbad her hyes ⊢
 rw [hq]
 clear hM hq;unfold vrV at hdg hpl ⊢
 simp only [askV] at hpl
 unfold qtC at hB0 ⊢
 have HB:=zh hB0;have HDG:=zh hdg;have HPL:=zh hpl;have HME:=zh hme;have HTM:=zh htm;have HVF:=zh hvf;have HNO:=zh hno;have HBAD:=zh hbad;have HER:=zh her;have HYES:=zh hyes;have HPV:=zh hpval;have HR:=zh hR;have HI:=zh hI;have HRG:=zh hr;clear hB0 hdg hpl hme htm hvf hno hbad her hyes hpval hR hI hr;go_enter Tryz.func19,Tryz.ntmps19
 go_upto_region 1 with fail
 generalize (w.alloc (.cells #[.int .i64 v.num,.int .i64 v.time,.slice A v.rs.length c] 24)).alloc (.cells #[.int .i64 q.ver,.int .i64 q.time,.int .i64 q.total,.int .i64 q.keep,.int .i64 q.ask.kind,.int .i64 q.ask.fr,.int .i64 q.ask.un,.int .i64 q.ask.pers,.slice QA q.nights.length qc,.int .u64 (q.dig:Nat),.int .i64 q.sE,.int .i64 q.sS] 32)=w1 at *
 obtain ⟨q0,q1,q2⟩:=HB.out.ver
 go_wp2_with fail;refine (HDG.out _ HB.out.b).mono ?_
 rintro e w2 ⟨hb2,rfl⟩;have hB2:=HB.out.on hb2
 have HB2:=zh hB2;clear hB2 hb2 HB HDG q0 q1 q2;cases h1:v.okB with
 | false =>
  obtain rfl:=HNO.out (fun h=>by rw [h1] at h;simp at h)
  simp only [Bool.false_eq_true,if_false,if_true,Option.getD_none]
  go_wp2_with fail;go_ret2
  exact ⟨rfl,HB2.out.b⟩
 | true =>
  simp only [if_true,Option.getD_some]
  go_wp2_with fail;refine (HME.out _).mono ?_
  rintro e w3 ⟨rfl,hb3⟩;have hB3:=HB2.out.on hb3
  have HB3:=zh hB3;clear hB3 hb3 HB2;cases h2:memB p with
  | false =>
   obtain rfl:=HNO.out (fun h=>by rw [h2] at h;simp at h)
   go_wp2_with fail;go_ret2
   exact ⟨rfl,HB3.out.b⟩
  | true =>
   have h2f:memB p=true:=h2
   have c1:=HB3.out.c 1 (.int .i64 q.time) rfl
   go_wp2_with fail;refine (HTM.out _).mono ?_
   rintro e w' ⟨rfl,rfl⟩;cases h3:Z2g q.time with
   | false =>
    obtain rfl:=HBAD.out h1 h2 (fun h=>by rw [h3] at h;simp at h)
    go_wp2_with fail;go_ret2
    exact ⟨rfl,HB3.out.b⟩
   | true =>
    obtain ⟨q0,q1,q2⟩:=HB3.out.ver
    by_cases h4:q.time<v.time
    · have d4:decide (q.time<v.time)=true:=by simpa using h4
      obtain rfl:=HBAD.out h1 h2 (fun h=>by omega)
      go_wp2_with fail;go_ret2
      exact ⟨rfl,HB3.out.b⟩
    · have d4:decide (q.time<v.time)=false:=by simpa using h4
      have c4:=HB3.out.c 4 (.int .i64 q.ask.kind) rfl
      have c5:=HB3.out.c 5 (.int .i64 q.ask.fr) rfl
      have c6:=HB3.out.c 6 (.int .i64 q.ask.un) rfl
      have c7:=HB3.out.c 7 (.int .i64 q.ask.pers) rfl
      go_wp2_with fail;refine (HPL.out _ HB3.out.b).mono ?_
      intro e w4 hh
      obtain ⟨hb4,hh⟩:=hh
      have hB4:=HB3.out.on hb4
      clear c1 c4 c5 c6 c7 q0 q1 q2 HPL;cases hX:Z0g v.rs q.ask with
      | error er =>
       rw [hX] at hh
       dsimp only at hh
       subst hh;obtain ⟨e0,_,_⟩:=HPV.out er hX
       have d5:(er != 0)=true:=by simpa using e0
       obtain rfl:=HER.out er h1 h2 hX
       have hal:=(Below.refl w4.heap.size w4).alloc (zn _) (.cells (qtC Qt.zero (.slice none 0 0)) 89)
       have hB5:=hB4.on hal
       have hQ5:=hB5.hq
       have hz2:=Z0A Qt.zero none 0 0
       have hz3:=Z0A q QA q.nights.length qc
       have hb6:=((hB5.b.alloc hB5.b.size (.cells (qtC q (.slice QA q.nights.length qc)) 89)))
       simp only [qtC,Qt.zero,Int.natCast_zero] at hB5 hQ5 hz2 hz3 hb6 ⊢
       have HB5:=zh hB5;have HQ5:=zh hQ5;have HB6:=zh hb6;clear hB5 hQ5 hb6 hB4 hal hb4;go_wp2_with (first | (with_reducible refine Z0x rfl _ rfl (w.heap.size+1) rfl _ rfl _ HQ5.out ?_) | (refine Z0e rfl _ _ rfl _ _ rfl rfl rfl rfl hz2 ?_) | (refine Z0e rfl _ _ rfl _ _ rfl rfl rfl rfl hz3 ?_))
       go_ret2
       exact ⟨rfl,HB6.out⟩
      | ok pr =>
       obtain ⟨ns,kp⟩:=pr
       rw [hX] at hh
       obtain ⟨A2,rfl,hns,hfresh⟩:=hh
       have hMM:=HYES.out ns kp h1 h2 h3 (by omega) hX
       have hdlt:=Zb8 v;have hl60:=Z5v hX;generalize v.dig=dg at *
       obtain ⟨Q1,hQ1⟩:∃ Q1:Qt,(⟨v.num,q.time,ns.sum,kp,q.ask,ns,dg,0,0⟩:Qt)=Q1:=⟨_,rfl⟩
       have hal:=(Below.refl w4.heap.size w4).alloc (zn _) (.cells (qtC ⟨v.num,q.time,ns.sum,kp,q.ask,ns,dg,0,0⟩ (.slice A2 ns.length ns.length)) 89)
       have hwn:=za w4 (.cells (qtC ⟨v.num,q.time,ns.sum,kp,q.ask,ns,dg,0,0⟩ (.slice A2 ns.length ns.length)) 89)
       have hns5:=(hns.on hal).up hal.size
       have hB5:=hB4.on hal
       have hs5:=World.size_alloc w4 (.cells (qtC ⟨v.num,q.time,ns.sum,kp,q.ask,ns,dg,0,0⟩ (.slice A2 ns.length ns.length)) 89)
       have hQ5:=hB5.hq
       have hz2:=Z0A ⟨v.num,q.time,ns.sum,kp,q.ask,ns,dg,0,0⟩ A2 ns.length ns.length
       have hz3:=Z0A q QA q.nights.length qc
       have his:=fun W h1 h2=>ZeE q Q1 (.agg (qtC q (.slice QA q.nights.length qc))) (.agg (qtC ⟨v.num,q.time,ns.sum,kp,q.ask,ns,dg,0,0⟩ (.slice A2 ns.length ns.length))) W h1 h2 hqd (by rw [← hQ1];exact hdlt) hqn (by rw [← hQ1];show ns.length≤50000;omega)
       have hmkq:∀ W,Z02 W W.heap.size (.slice A2 ns.length ns.length) ns→QtV W W.heap.size (.agg (qtC ⟨v.num,q.time,ns.sum,kp,q.ask,ns,dg,0,0⟩ (.slice A2 ns.length ns.length))) Q1:=fun W h=>by rw [← hQ1];exact ⟨A2,ns.length,rfl,h⟩
       have hmkp:∀ W,Z02 W W.heap.size (.slice QA q.nights.length qc) q.nights→QtV W W.heap.size (.agg (qtC q (.slice QA q.nights.length qc))) q:=fun W h=>⟨QA,qc,rfl,h⟩
       have hsy:=fun W h=>Z77 q (.agg (qtC q (.slice QA q.nights.length qc))) W h hqd hqn
       rw [hQ1] at hMM
       subst hMM;clear hal hQ1;have hn6:∀ W,CkB w v (.slice A v.rs.length c) q (.slice QA q.nights.length qc) W→CkN w v (.slice A v.rs.length c) q (.slice QA q.nights.length qc) W.heap.size (W.alloc (.cells (qtC q (.slice QA q.nights.length qc)) 89)):=fun W h=>⟨h.on ((Below.refl _ _).alloc (zn _) _),za W _⟩
       simp only [qtC] at hwn hB5 hQ5 hz2 hz3 hs5 hns5 his hmkq hmkp hsy hn6 ⊢
       go_upto_region 7 with (first | (refine Z0e rfl _ _ rfl _ _ rfl rfl rfl rfl hz2 ?_))
       generalize w4.alloc (.cells #[.int .i64 v.num,.int .i64 q.time,.int .i64 ns.sum,.int .i64 kp,.int .i64 q.ask.kind,.int .i64 q.ask.fr,.int .i64 q.ask.un,.int .i64 q.ask.pers,.slice A2 ns.length ns.length,.int .u64 (dg:Nat),.int .i64 0,.int .i64 0] 89)=w5 at *
       have hN6:=hn6 w5 hB5
       have hb6:=(Below.refl w5.heap.size w5).alloc (zn _) (.cells #[.int .i64 q.ver,.int .i64 q.time,.int .i64 q.total,.int .i64 q.keep,.int .i64 q.ask.kind,.int .i64 q.ask.fr,.int .i64 q.ask.un,.int .i64 q.ask.pers,.slice QA q.nights.length qc,.int .u64 (q.dig:Nat),.int .i64 q.sE,.int .i64 q.sS] 89)
       have hwn6:=(hb6.block _ (zs hwn)).trans hwn
       have hns6:=(hns5.on hb6).up hb6.size
       have his6:=his _ (hmkp _ hN6.k.i) (hmkq _ hns6)
       have hNN:=hN6.n
       simp only [qtC] at hNN
       rw [hs5] at hN6
       have nc0:=hN6.c 0 (.int .i64 q.ver) rfl
       have nc1:=hN6.c 1 (.int .i64 q.time) rfl
       have nc2:=hN6.c 2 (.int .i64 q.total) rfl
       have nc3:=hN6.c 3 (.int .i64 q.keep) rfl
       have nc4:=hN6.c 4 (.int .i64 q.ask.kind) rfl
       have nc5:=hN6.c 5 (.int .i64 q.ask.fr) rfl
       have nc6:=hN6.c 6 (.int .i64 q.ask.un) rfl
       have nc7:=hN6.c 7 (.int .i64 q.ask.pers) rfl
       have nc8:=hN6.c 8 (.slice QA q.nights.length qc) rfl
       have nc9:=hN6.c 9 (.int .u64 (q.dig:Nat)) rfl
       have nc10:=hN6.c 10 (.int .i64 q.sE) rfl
       have nc11:=hN6.c 11 (.int .i64 q.sS) rfl
       have wc0:(w5.alloc (.cells #[.int .i64 q.ver,.int .i64 q.time,.int .i64 q.total,.int .i64 q.keep,.int .i64 q.ask.kind,.int .i64 q.ask.fr,.int .i64 q.ask.un,.int .i64 q.ask.pers,.slice QA q.nights.length qc,.int .u64 (q.dig:Nat),.int .i64 q.sE,.int .i64 q.sS] 89)).cell? ⟨w4.heap.size,0,none⟩=some (.int .i64 v.num):=by rw [zc hwn6];rfl
       have wc1:(w5.alloc (.cells #[.int .i64 q.ver,.int .i64 q.time,.int .i64 q.total,.int .i64 q.keep,.int .i64 q.ask.kind,.int .i64 q.ask.fr,.int .i64 q.ask.un,.int .i64 q.ask.pers,.slice QA q.nights.length qc,.int .u64 (q.dig:Nat),.int .i64 q.sE,.int .i64 q.sS] 89)).cell? ⟨w4.heap.size,1,none⟩=some (.int .i64 q.time):=by rw [zc hwn6];rfl
       have wc2:(w5.alloc (.cells #[.int .i64 q.ver,.int .i64 q.time,.int .i64 q.total,.int .i64 q.keep,.int .i64 q.ask.kind,.int .i64 q.ask.fr,.int .i64 q.ask.un,.int .i64 q.ask.pers,.slice QA q.nights.length qc,.int .u64 (q.dig:Nat),.int .i64 q.sE,.int .i64 q.sS] 89)).cell? ⟨w4.heap.size,2,none⟩=some (.int .i64 ns.sum):=by rw [zc hwn6];rfl
       have wc3:(w5.alloc (.cells #[.int .i64 q.ver,.int .i64 q.time,.int .i64 q.total,.int .i64 q.keep,.int .i64 q.ask.kind,.int .i64 q.ask.fr,.int .i64 q.ask.un,.int .i64 q.ask.pers,.slice QA q.nights.length qc,.int .u64 (q.dig:Nat),.int .i64 q.sE,.int .i64 q.sS] 89)).cell? ⟨w4.heap.size,3,none⟩=some (.int .i64 kp):=by rw [zc hwn6];rfl
       have wc4:(w5.alloc (.cells #[.int .i64 q.ver,.int .i64 q.time,.int .i64 q.total,.int .i64 q.keep,.int .i64 q.ask.kind,.int .i64 q.ask.fr,.int .i64 q.ask.un,.int .i64 q.ask.pers,.slice QA q.nights.length qc,.int .u64 (q.dig:Nat),.int .i64 q.sE,.int .i64 q.sS] 89)).cell? ⟨w4.heap.size,4,none⟩=some (.int .i64 q.ask.kind):=by rw [zc hwn6];rfl
       have wc5:(w5.alloc (.cells #[.int .i64 q.ver,.int .i64 q.time,.int .i64 q.total,.int .i64 q.keep,.int .i64 q.ask.kind,.int .i64 q.ask.fr,.int .i64 q.ask.un,.int .i64 q.ask.pers,.slice QA q.nights.length qc,.int .u64 (q.dig:Nat),.int .i64 q.sE,.int .i64 q.sS] 89)).cell? ⟨w4.heap.size,5,none⟩=some (.int .i64 q.ask.fr):=by rw [zc hwn6];rfl
       have wc6:(w5.alloc (.cells #[.int .i64 q.ver,.int .i64 q.time,.int .i64 q.total,.int .i64 q.keep,.int .i64 q.ask.kind,.int .i64 q.ask.fr,.int .i64 q.ask.un,.int .i64 q.ask.pers,.slice QA q.nights.length qc,.int .u64 (q.dig:Nat),.int .i64 q.sE,.int .i64 q.sS] 89)).cell? ⟨w4.heap.size,6,none⟩=some (.int .i64 q.ask.un):=by rw [zc hwn6];rfl
       have wc7:(w5.alloc (.cells #[.int .i64 q.ver,.int .i64 q.time,.int .i64 q.total,.int .i64 q.keep,.int .i64 q.ask.kind,.int .i64 q.ask.fr,.int .i64 q.ask.un,.int .i64 q.ask.pers,.slice QA q.nights.length qc,.int .u64 (q.dig:Nat),.int .i64 q.sE,.int .i64 q.sS] 89)).cell? ⟨w4.heap.size,7,none⟩=some (.int .i64 q.ask.pers):=by rw [zc hwn6];rfl
       have wc8:(w5.alloc (.cells #[.int .i64 q.ver,.int .i64 q.time,.int .i64 q.total,.int .i64 q.keep,.int .i64 q.ask.kind,.int .i64 q.ask.fr,.int .i64 q.ask.un,.int .i64 q.ask.pers,.slice QA q.nights.length qc,.int .u64 (q.dig:Nat),.int .i64 q.sE,.int .i64 q.sS] 89)).cell? ⟨w4.heap.size,8,none⟩=some (.slice A2 ns.length ns.length):=by rw [zc hwn6];rfl
       have wc9:(w5.alloc (.cells #[.int .i64 q.ver,.int .i64 q.time,.int .i64 q.total,.int .i64 q.keep,.int .i64 q.ask.kind,.int .i64 q.ask.fr,.int .i64 q.ask.un,.int .i64 q.ask.pers,.slice QA q.nights.length qc,.int .u64 (q.dig:Nat),.int .i64 q.sE,.int .i64 q.sS] 89)).cell? ⟨w4.heap.size,9,none⟩=some (.int .u64 (dg:Nat)):=by rw [zc hwn6];rfl
       have wc10:(w5.alloc (.cells #[.int .i64 q.ver,.int .i64 q.time,.int .i64 q.total,.int .i64 q.keep,.int .i64 q.ask.kind,.int .i64 q.ask.fr,.int .i64 q.ask.un,.int .i64 q.ask.pers,.slice QA q.nights.length qc,.int .u64 (q.dig:Nat),.int .i64 q.sE,.int .i64 q.sS] 89)).cell? ⟨w4.heap.size,10,none⟩=some (.int .i64 0):=by rw [zc hwn6];rfl
       have wc11:(w5.alloc (.cells #[.int .i64 q.ver,.int .i64 q.time,.int .i64 q.total,.int .i64 q.keep,.int .i64 q.ask.kind,.int .i64 q.ask.fr,.int .i64 q.ask.un,.int .i64 q.ask.pers,.slice QA q.nights.length qc,.int .u64 (q.dig:Nat),.int .i64 q.sE,.int .i64 q.sS] 89)).cell? ⟨w4.heap.size,11,none⟩=some (.int .i64 0):=by rw [zc hwn6];rfl
       have HQ5:=zh hQ5;have HN6:=zh hN6;have HWN6:=zh hwn6;have HIS6:=zh his6;clear hQ5 hN6 hwn6 his6 hNN hB4 hB5 hwn hns hns5 hns6 his hmkq hn6 hb6 hb4;go_wp2_with (first | (with_reducible refine Z0x rfl _ rfl (w.heap.size+1) rfl _ rfl _ HQ5.out ?_) | (refine Z0e rfl _ _ rfl _ _ rfl rfl rfl rfl hz3 ?_))
       refine HIS6.out.mono ?_
       rintro e w7 ⟨rfl,hb7⟩;have hN7:=HN6.out.on hb7
       obtain ⟨R1,hR1⟩:∃ R1,q.same Q1=R1:=⟨_,rfl⟩
       rw [hR1]
       have HN7:=zh hN7;clear hN7 hb7 HIS6 HN6 HWN6 HQ5 nc0 nc1 nc2 nc3 nc4 nc5 nc6 nc7 nc8 nc9 nc10 nc11 wc0 wc1 wc2 wc3 wc4 wc5 wc6 wc7 wc8 wc9 wc10 wc11;cases R1 with
       | false =>
        go_wp2_with fail;go_ret2
        refine ⟨?_,HN7.out.k.b⟩
        try rw [hR1]
        rfl
       | true =>
        have HMS:Hid (∀ wx,CkN w v (.slice A v.rs.length c) q (.slice QA q.nights.length qc) (w4.heap.size+1) wx→wx.cell? ⟨w.heap.size+1,10,none⟩=some (.int .i64 q.sE)∧wx.cell? ⟨w.heap.size+1,11,none⟩=some (.int .i64 q.sS)∧wx.cell? ⟨w4.heap.size+1,0,none⟩=some (.int .i64 q.ver)∧wx.cell? ⟨w4.heap.size+1,1,none⟩=some (.int .i64 q.time)∧wx.cell? ⟨w4.heap.size+1,2,none⟩=some (.int .i64 q.total)∧wx.cell? ⟨w4.heap.size+1,3,none⟩=some (.int .i64 q.keep)∧wx.cell? ⟨w4.heap.size+1,4,none⟩=some (.int .i64 q.ask.kind)∧wx.cell? ⟨w4.heap.size+1,5,none⟩=some (.int .i64 q.ask.fr)∧wx.cell? ⟨w4.heap.size+1,6,none⟩=some (.int .i64 q.ask.un)∧wx.cell? ⟨w4.heap.size+1,7,none⟩=some (.int .i64 q.ask.pers)∧wx.cell? ⟨w4.heap.size+1,8,none⟩=some (.slice QA q.nights.length qc)∧wx.cell? ⟨w4.heap.size+1,9,none⟩=some (.int .u64 (q.dig:Nat))∧wx.cell? ⟨w4.heap.size+1,10,none⟩=some (.int .i64 q.sE)∧wx.cell? ⟨w4.heap.size+1,11,none⟩=some (.int .i64 q.sS)∧CkN w v (.slice A v.rs.length c) q (.slice QA q.nights.length qc) (w4.heap.size+1) wx):=fun wx h=>⟨h.k.c 10 _ rfl,h.k.c 11 _ rfl,h.c 0 _ rfl,h.c 1 _ rfl,h.c 2 _ rfl,h.c 3 _ rfl,h.c 4 _ rfl,h.c 5 _ rfl,h.c 6 _ rfl,h.c 7 _ rfl,h.c 8 _ rfl,h.c 9 _ rfl,h.c 10 _ rfl,h.c 11 _ rfl,h⟩
        have HSYC:Hid (∀ wx,CkN w v (.slice A v.rs.length c) q (.slice QA q.nights.length qc) (w4.heap.size+1) wx→Calls Tryz.prog 51 #[.agg #[.int .i64 q.ver,.int .i64 q.time,.int .i64 q.total,.int .i64 q.keep,.int .i64 q.ask.kind,.int .i64 q.ask.fr,.int .i64 q.ask.un,.int .i64 q.ask.pers,.slice QA q.nights.length qc,.int .u64 (q.dig:Nat),.int .i64 q.sE,.int .i64 q.sS]] wx fun e w'=>∃ r,e=.returned r∧Z02 w' w'.heap.size r q.says∧Below wx.heap.size wx w'):=fun wx h=>hsy wx (hmkp wx h.k.i)
        cases hvb:verB p.toNat q.sE q.sS q.says with
        | false =>
         have HVFC:Hid (∀ wx U2,CkN w v (.slice A v.rs.length c) q (.slice QA q.nights.length qc) (w4.heap.size+1) wx→Z02 wx wx.heap.size U2 q.says→Calls Tryz.prog 57 #[.int .i64 p,.agg #[.int .i64 q.sE,.int .i64 q.sS],U2] wx fun e w'=>e=.returned (.tuple #[.bool false,.int .i64 (if expB q.sE&&expB q.sS then 0 else 1)])∧Below wx.heap.size wx w'):=fun wx U2 h h2=>by
          have:=HVF.out wx U2 h.k.b h2f h2 hsl
          rwa [hvb] at this
         generalize (if expB q.sE&&expB q.sS then (0:Int) else 1)=er at *
         go_wp2_with fail;go_region_held3 (fun w'=>w'.cell? ⟨w.heap.size+1,10,none⟩=some (.int .i64 q.sE)∧w'.cell? ⟨w.heap.size+1,11,none⟩=some (.int .i64 q.sS)∧w'.cell? ⟨w4.heap.size+1,0,none⟩=some (.int .i64 q.ver)∧w'.cell? ⟨w4.heap.size+1,1,none⟩=some (.int .i64 q.time)∧w'.cell? ⟨w4.heap.size+1,2,none⟩=some (.int .i64 q.total)∧w'.cell? ⟨w4.heap.size+1,3,none⟩=some (.int .i64 q.keep)∧w'.cell? ⟨w4.heap.size+1,4,none⟩=some (.int .i64 q.ask.kind)∧w'.cell? ⟨w4.heap.size+1,5,none⟩=some (.int .i64 q.ask.fr)∧w'.cell? ⟨w4.heap.size+1,6,none⟩=some (.int .i64 q.ask.un)∧w'.cell? ⟨w4.heap.size+1,7,none⟩=some (.int .i64 q.ask.pers)∧w'.cell? ⟨w4.heap.size+1,8,none⟩=some (.slice QA q.nights.length qc)∧w'.cell? ⟨w4.heap.size+1,9,none⟩=some (.int .u64 (q.dig:Nat))∧w'.cell? ⟨w4.heap.size+1,10,none⟩=some (.int .i64 q.sE)∧w'.cell? ⟨w4.heap.size+1,11,none⟩=some (.int .i64 q.sS)∧CkN w v (.slice A v.rs.length c) q (.slice QA q.nights.length qc) (w4.heap.size+1) w')
          (first | (with_reducible exact HMS.out _ HN7.out.drew) | (with_reducible exact HMS.out _ L8) | (with_reducible exact HMS.out _ L9) | fail)
          (first
           | (go_at_call 51;have hA:=(‹_∧_∧_∧_∧_∧_∧_∧_∧_∧_∧_∧_∧_∧_∧CkN w v (.slice A v.rs.length c) q (.slice QA q.nights.length qc) (w4.heap.size+1) _›).2.2.2.2.2.2.2.2.2.2.2.2.2.2;refine (HSYC.out _ hA).mono ?_;rintro ex w8 ⟨r8,rfl,hr8,hb8⟩;have L8:=hA.on hb8;have HR8:=zh hr8;clear hr8 hb8 hA)
           | (go_at_call 57;have hA:=(‹_∧_∧_∧_∧_∧_∧_∧_∧_∧_∧_∧_∧_∧_∧CkN w v (.slice A v.rs.length c) q (.slice QA q.nights.length qc) (w4.heap.size+1) _›).2.2.2.2.2.2.2.2.2.2.2.2.2.2;refine (HVFC.out _ _ hA HR8.out).mono ?_;rintro ex w9 ⟨rfl,hb9⟩;have L9:=hA.on hb9;clear hb9 hA))
         all_goals
          have hA:=(‹_∧_∧_∧_∧_∧_∧_∧_∧_∧_∧_∧_∧_∧_∧CkN w v (.slice A v.rs.length c) q (.slice QA q.nights.length qc) (w4.heap.size+1) _›).2.2.2.2.2.2.2.2.2.2.2.2.2.2
          go_wp2_with fail;go_ret2
          refine ⟨?_,hA.k.b⟩
          try rw [hR1]
          try rw [hvb]
          rfl
        | true =>
         have HVFC:Hid (∀ wx U2,CkN w v (.slice A v.rs.length c) q (.slice QA q.nights.length qc) (w4.heap.size+1) wx→Z02 wx wx.heap.size U2 q.says→Calls Tryz.prog 57 #[.int .i64 p,.agg #[.int .i64 q.sE,.int .i64 q.sS],U2] wx fun e w'=>e=.returned (.tuple #[.bool true,.int .i64 0])∧Below wx.heap.size wx w'):=fun wx U2 h h2=>by
          have:=HVF.out wx U2 h.k.b h2f h2 hsl
          have he:(expB q.sE&&expB q.sS)=true:=by
           unfold verB at hvb
           simp only [Bool.and_eq_true] at hvb ⊢
           exact hvb.1
          rw [hvb,he] at this
          exact this
         go_wp2_with fail;go_region_held3 (fun w'=>w'.cell? ⟨w.heap.size+1,10,none⟩=some (.int .i64 q.sE)∧w'.cell? ⟨w.heap.size+1,11,none⟩=some (.int .i64 q.sS)∧w'.cell? ⟨w4.heap.size+1,0,none⟩=some (.int .i64 q.ver)∧w'.cell? ⟨w4.heap.size+1,1,none⟩=some (.int .i64 q.time)∧w'.cell? ⟨w4.heap.size+1,2,none⟩=some (.int .i64 q.total)∧w'.cell? ⟨w4.heap.size+1,3,none⟩=some (.int .i64 q.keep)∧w'.cell? ⟨w4.heap.size+1,4,none⟩=some (.int .i64 q.ask.kind)∧w'.cell? ⟨w4.heap.size+1,5,none⟩=some (.int .i64 q.ask.fr)∧w'.cell? ⟨w4.heap.size+1,6,none⟩=some (.int .i64 q.ask.un)∧w'.cell? ⟨w4.heap.size+1,7,none⟩=some (.int .i64 q.ask.pers)∧w'.cell? ⟨w4.heap.size+1,8,none⟩=some (.slice QA q.nights.length qc)∧w'.cell? ⟨w4.heap.size+1,9,none⟩=some (.int .u64 (q.dig:Nat))∧w'.cell? ⟨w4.heap.size+1,10,none⟩=some (.int .i64 q.sE)∧w'.cell? ⟨w4.heap.size+1,11,none⟩=some (.int .i64 q.sS)∧CkN w v (.slice A v.rs.length c) q (.slice QA q.nights.length qc) (w4.heap.size+1) w')
          (first | (with_reducible exact HMS.out _ HN7.out.drew) | (with_reducible exact HMS.out _ L8) | (with_reducible exact HMS.out _ L9) | fail)
          (first
           | (go_at_call 51;have hA:=(‹_∧_∧_∧_∧_∧_∧_∧_∧_∧_∧_∧_∧_∧_∧CkN w v (.slice A v.rs.length c) q (.slice QA q.nights.length qc) (w4.heap.size+1) _›).2.2.2.2.2.2.2.2.2.2.2.2.2.2;refine (HSYC.out _ hA).mono ?_;rintro ex w8 ⟨r8,rfl,hr8,hb8⟩;have L8:=hA.on hb8;have HR8:=zh hr8;clear hr8 hb8 hA)
           | (go_at_call 57;have hA:=(‹_∧_∧_∧_∧_∧_∧_∧_∧_∧_∧_∧_∧_∧_∧CkN w v (.slice A v.rs.length c) q (.slice QA q.nights.length qc) (w4.heap.size+1) _›).2.2.2.2.2.2.2.2.2.2.2.2.2.2;refine (HVFC.out _ _ hA HR8.out).mono ?_;rintro ex w9 ⟨rfl,hb9⟩;have L9:=hA.on hb9;clear hb9 hA))
         all_goals
          have hA:=(‹_∧_∧_∧_∧_∧_∧_∧_∧_∧_∧_∧_∧_∧_∧CkN w v (.slice A v.rs.length c) q (.slice QA q.nights.length qc) (w4.heap.size+1) _›).2.2.2.2.2.2.2.2.2.2.2.2.2.2
          go_wp2_with fail;go_ret2
          refine ⟨?_,hA.k.b⟩
          try rw [hR1]
          try rw [hvb]
          rfl
end
section
open Go.RowKit Lx Px Qx
def Zna:Bytes:=[114,97,116,101,32,49,32,108,101,118,101,108,32,48,32,107,105,110,100,32,49,32,110,105,103,104,116,115,32,48,32,116,111,32,50,48,32,115,116,97,121,32,49,32,116,111,32,57,32,97,114,114,105,118,101,32,49,50,55,32,107,101,101,112,32,53,48,37,32,119,104,101,110,32,48,32,61,32,48,32,112,114,105,99,101,32,49,48,48,46,48,48,32,42,32,110,105,103,104,116,115,59]
def Zhi:List Tok:=[Z63,[49],Zan,[48],Zgn,[49],Z64,[48],kTo,[50,48],Zgp,[49],kTo,[57],Z7i,[49,50,55],Zgq,[53,48],[37],Zen,[48],[61],[48],Z8m,[49,48,48,46,48,48],[42],Z64,[59]].map tk
theorem Zhj:toks Zna=(Zhi,0,0):=by kernel_rfl
def hdW12:Ex:=((12,0),.node 0 0 (1,0) .nil (.node 0 0 (1,0) .nil .nil))
def hdP12:Ex:=((6,0),.node 0 0 (2,10000) .nil (.node 0 0 (3,1) .nil .nil))
def ZeC:Rr:=⟨1,0,1,0,20,1,9,127,50,hdW12,hdP12⟩
theorem Zhk:Z3F (exOf Zhi) Zhi 0=.ok ZeC 28:=by
 refine Zj4 ⟨⟨2,4,6,8,10,12,14,16,18,23,27,?_,?_,?_,?_,?_,?_,?_,?_,?_,?_,?_,?_,?_,?_,?_,?_⟩,?_,?_⟩
 case refine_12=>exact Zd5 20 20 (by decide) 23 (by kernel_rfl) (by decide)
 case refine_14=>exact Zd5 20 24 (by decide) 27 (by kernel_rfl) (by decide)
 all_goals kernel_rfl
theorem Zk5:srcO Zna=.ok [ZeC]:=by
 rw [Zgc Zhj]
 unfold allO
 have hl:Zhi.length=28:=rfl
 have h1:=Z4H (Z4e Zhi) (k:=0) (acc:=[]) (by decide) (fun h=>absurd h.1 (by decide)) Zhk
 rw [hl] at h1 ⊢
 exact h1
def hdA12:Qx.Ask:=⟨1,4,6,2⟩
theorem Zk6:useB [ZeC.rt]=true:=by kernel_rfl
theorem Zk7:Rt.can ZeC.rt=true:=by kernel_rfl
theorem ZeD:Z0g [ZeC.rt] hdA12=.ok ([20000,20000],20000):=by kernel_rfl
end
end Go.Proofs.YtnepkoepbapgeaaGreatDoor
