/-
  VersionsPush: the walk.
-/
import Derived.Test.YtnepkoepbapgeaaGreatDoorQuoHe2
import Derived.Test.YtnepkoepbapgeaaGreatDoorQuoLaw6
import Derived.Test.YtnepkoepbapgeaaGreatDoorQuoApp2
import Derived.Lib.QuietBelow
import Derived.BigQuiet
namespace Go.Proofs.YtnepkoepbapgeaaGreatDoor
set_option maxRecDepth 100000
open Go.RowKit Lx Px Qx Go.Sort
attribute [local irreducible] Qx.Vr.dig Qx.powP Qx.sigE Qx.sigS
set_option maxHeartbeats 16000000 in
theorem ZjG (l:List Vr)(t th:Int)(rs:List Rt)(V RV:Value)(w:World)(hv:VssV w w.heap.size V l)(hr:RtsV w w.heap.size RV rs)(ht:Tabs w.heap.size w)(hM:Mx w w.heap.size) :
 Calls Tryz.prog 11 #[V,.int .i64 t,RV,.int .i64 th] w fun e w'=>e=.returned (.bool true)∧Below w.heap.size w w':=by
 obtain ⟨A,c,rfl,_⟩:=id hv
 obtain ⟨A2,c2,rfl,_⟩:=id hr
 have hpl:=@Zr0 l t th rs
 have hvw:=fun W (hb:Below w.heap.size w W)=>(hv.on hb).up hb.size
 have hrw:=fun W (hb:Below w.heap.size w W)=>(hr.on hb).up hb.size
 have HV:=zh hvw;have HR:=zh hrw;have HPL:=zh hpl;have HT:=zh ht;have HM:=zh hM;clear hvw hrw hpl ht hM hv hr;go_enter Tryz.func11,Tryz.ntmps11
 go_wp2_with fail;refine (Z56 w HT.out HM.out).mono ?_
 rintro e w1 ⟨rfl,hb1⟩;have HB1:=zh hb1;clear hb1;go_wp2_with fail;refine (Z3s l _ w1 (HV.out w1 HB1.out)).mono ?_
 rintro e w2 ⟨⟨b,rfl,hb⟩,hb2⟩
 have hB2:=Z00 HB1.out hb2
 have HB2:=zh hB2;clear hB2 hb2 HB1;cases b with
 | false =>
  clear hb;go_wp2_with fail;go_ret
  exact ⟨rfl,HB2.out⟩
 | true =>
  obtain ⟨hl10,hvs⟩:=hb rfl
  have HVS:=zh hvs;clear hvs hb;go_wp2_with fail;refine (Z7C rs _ w2 (HR.out w2 HB2.out)).mono ?_
  rintro e w3 ⟨⟨b,rfl⟩,hb3⟩
  have hB3:=Z00 HB2.out hb3
  have HB3:=zh hB3;clear hB3 hb3 HB2;cases b with
  | false =>
   go_wp2_with fail;go_ret
   exact ⟨rfl,HB3.out⟩
  | true =>
   go_wp2_with fail;refine (Z4B th w3).mono ?_
   rintro e w' ⟨rfl,rfl⟩;obtain ⟨bt,hbt⟩:∃ b,Z0D th=b:=⟨_,rfl⟩
   rw [hbt]
   cases bt with
   | false =>
    clear hbt;go_wp2_with fail;go_ret
    exact ⟨rfl,HB3.out⟩
   | true =>
    have hpu:=Z70 l t rs (.slice A l.length c) (.slice A2 rs.length c2) w3 (HV.out w3 HB3.out) (HR.out w3 HB3.out) (by omega) (Z05 HT.out HB3.out)
    unfold Zez at hpu
    have HPU:=zh hpu;have HBT:=zh hbt;clear hpu hbt;go_wp2_with fail;refine HPU.out.mono ?_
    rintro e w4 ⟨SV,rfl,hs,hb4⟩;have hB4:=Z00 HB3.out hb4
    have HB4:=zh hB4;clear hB4 hb4 HB3 HPU;by_cases hp:Z3y l t rs=0
    · obtain ⟨x1,b1,x2,b2,e1,e2,hsm,hq1,hq2⟩:=HPL.out hp HBT.out
      have hok:=Zey hp;rw [hp] at hs ⊢
      simp only [if_true] at hs
      obtain ⟨pv,hpv⟩:∃ x,Z1D l t rs=x:=⟨_,rfl⟩
      rw [hpv] at hs e1 hq1 hok
      have hps:vrSm pv:=Zp6 (Z09.2 hok.2.1) pv (by simp)
      obtain ⟨A4,c4,rfl,_⟩:=id hs
      obtain ⟨g,o,RA,rc,rfl,hg,hRp,_⟩:=Z1y hs (k:=l.length) (by simp)
      have hcap:=hs.cap
      obtain ⟨N,hN⟩:∃ n,(l++[pv]).length=n:=⟨_,rfl⟩
      rw [hN] at hs hcap ⊢
      have hN1:N=l.length+1:=by rw [← hN];simp
      clear hpv hN hRp;subst hN1;have dn:(((l.length+1:Nat):Int) != (l.length:Int)+1)=false:=by simp
      have dn':((l.length:Int)+1 != (l.length:Int)+1)=false:=by simp
      have i1:(l.length:Int)≤(c4:Int):=by omega
      have i2:(l.length:Int)≤((l.length+1:Nat):Int):=by omega
      have i0:(0:Int)≤(l.length:Int):=by omega
      have HS:=zh hs;have E1:=zh e1;have E2:=zh e2;have HSM:=zh hsm;have HQ1:=zh hq1;have HQ2:=zh hq2;have HOK:=zh hok;have HPS:=zh hps;have HP:=zh hp;clear hs e1 e2 hsm hq1 hq2 hok hps hp;go_upto_region 7 with fail
      go_wp2_with fail;have htk:=Z6n (k:=l.length) HS.out (by simp)
      rw [List.take_left' rfl] at htk
      refine (ZkA l _ _ w4 htk (HV.out w4 HB4.out) (Zp6 HVS.out) (by omega)).mono ?_
      rintro e w5 ⟨rfl,hC5⟩;clear htk;have hmw:=fun W (hb:Below w4.heap.size w4 W)=>(HS.out.on hb).up hb.size
      have HM4:=zh hmw;have HC5:=zh hC5;clear hmw hC5 HS;have hc:=Z1A (l++[pv]) _ w5 (HM4.out w5 HC5.out) (by simp;omega) (Z05 (Z05 HT.out HB4.out) HC5.out)
      rw [Z09.2 HOK.out.2.1] at hc
      have HC:=zh hc;clear hc;go_wp2_with fail;refine HC.out.mono ?_
      rintro e w6 ⟨rfl,hb6⟩;have hC6:=Z00 HC5.out hb6
      have hc:=Z5x (l++[pv]) th _ w6 (HM4.out w6 hC6) (by simp;omega) (Z05 (Z05 HT.out HB4.out) hC6)
      rw [E1.out] at hc
      have HC6:=zh hC6;clear hC6 HC HC5 hb6;have HC:=zh hc;clear hc;go_wp2_with fail;refine HC.out.mono ?_
      rintro e w7 ⟨XV,rfl,hX,hb7⟩;obtain ⟨A5,c5,rfl,hR5⟩:=hX
      rw [show vrV x1 (.slice A5 x1.rs.length c5)=.agg #[.int .i64 x1.num,.int .i64 x1.time,.slice A5 x1.rs.length c5] from rfl]
      have hC7:=Z00 HC6.out hb7
      have hX8:VxB w7.heap.size x1 (.slice A5 x1.rs.length c5) (w7.alloc (.cells #[.int .i64 x1.num,.int .i64 x1.time,.slice A5 x1.rs.length c5] 24)):=VxB.new hR5
      have hC8:=hC7.alloc hC7.size (.cells #[.int .i64 x1.num,.int .i64 x1.time,.slice A5 x1.rs.length c5] 24)
      have HX8:=zh hX8;have HC8:=zh hC8;clear hX8 hC8 HC HC6 hb7 hC7 hR5;dsimp only
      go_upto_region 10 with (refine Z0b rfl _ _ rfl _ _ rfl rfl rfl rfl rfl ?_)
      generalize w7.alloc (.cells #[.int .i64 x1.num,.int .i64 x1.time,.slice A5 x1.rs.length c5] 24)=w8 at *
      have hc:=Z5x l th _ w8 (HV.out w8 (Z00 HB4.out HC8.out)) (by omega) (Z05 (Z05 HT.out HB4.out) HC8.out)
      rw [E2.out] at hc
      have HC:=zh hc;clear hc;go_wp2_with fail;refine HC.out.mono ?_
      rintro e w9 ⟨YV,rfl,hY,hb9⟩;obtain ⟨A6,c6,rfl,hR6⟩:=hY
      rw [show vrV x2 (.slice A6 x2.rs.length c6)=.agg #[.int .i64 x2.num,.int .i64 x2.time,.slice A6 x2.rs.length c6] from rfl]
      have hC9:=Z00 HC8.out hb9
      have hY10:VxB w9.heap.size x2 (.slice A6 x2.rs.length c6) (w9.alloc (.cells #[.int .i64 x2.num,.int .i64 x2.time,.slice A6 x2.rs.length c6] 24)):=VxB.new hR6
      have hX9:=HX8.out.on hb9
      have hX10:=hX9.on ((Below.refl w9.heap.size w9).alloc (zn _) (.cells #[.int .i64 x2.num,.int .i64 x2.time,.slice A6 x2.rs.length c6] 24))
      have hC10:=hC9.alloc hC9.size (.cells #[.int .i64 x2.num,.int .i64 x2.time,.slice A6 x2.rs.length c6] 24)
      have HX10:=zh hX10;have HY10:=zh hY10;have HC10:=zh hC10;clear hX10 hY10 hC10 HC HC8 HX8 hb9 hC9 hX9 hR6;dsimp only
      go_upto_region 11 with (refine Z0b rfl _ _ rfl _ _ rfl rfl rfl rfl rfl ?_)
      generalize w9.alloc (.cells #[.int .i64 x2.num,.int .i64 x2.time,.slice A6 x2.rs.length c6] 24)=w10 at *
      by_cases hth:t≤th
      · obtain ⟨rfl,rfl⟩:=HQ1.out hth
        have dt:decide (th≥t)=true:=by simpa using hth
        have dt':decide (t≤th)=true:=by simpa using hth
        clear hth;obtain ⟨z0,z1,z2⟩:=HX10.out.cells
        obtain ⟨g',o',RA,rc,e',hg',hRp,c0,c1,c2⟩:=Z1y (HM4.out w10 HC10.out) (k:=l.length) (by simp)
        injection e' with e'
        injection e' with e'1 e'2
        subst e'1 e'2;rw [List.getElem_append_right (zn _)] at hRp c0 c1 c2
        simp only [Nat.sub_self,List.getElem_cons_zero] at hRp c0 c1 c2
        have hcq:=fun d os=>Calls.regrown_of (Z1z x1 _ _ _ ((HX10.out.v).on (below_regrown w10 d os) |>.up (below_regrown w10 d os).size) ((Zdi hRp (zn _)).on (below_regrown w10 d os) |>.up (below_regrown w10 d os).size) HPS.out)
        have i5:(l.length:Int)<(l.length:Int)+1:=by omega
        have i6:(l.length:Int)<((l.length+1:Nat):Int):=by omega
        have HCQ:=zh hcq;clear hcq hRp;generalize x1.num=num at *
        generalize x1.time=time at *
        generalize x1.rs.length=rl at *
        go_wp2_with fail;have y0:=cell_regrown z0;have y1:=cell_regrown z1;have y2:=cell_regrown z2;have y3:=cell_regrown c0;have y4:=cell_regrown c1;have y5:=cell_regrown c2;refine wp_region_quiet_below (by kernel_rfl) (by kernel_rfl) ?_
        repeat (first | go_big_quiet_step (exact HCQ.out _ _) | quiet_step (exact HCQ.out _ _))
        refine wpQuiet_nil ?_
        intro _ hw'
        obtain ⟨⟨dq,osq⟩,hw''⟩:=hw'
        subst hw'';have hA:=Z00 HB4.out (Z00 HC10.out (below_regrown w10 dq osq))
        have HAA:=zh hA;clear hA;go_wp2_with fail;go_ret
        exact ⟨rfl,HAA.out⟩
      · obtain ⟨rfl,rfl⟩:=HQ2.out (by omega)
        have dt:decide (th≥t)=false:=by simp;omega
        have dt':decide (t≤th)=false:=by simp;omega
        clear hth;obtain ⟨z0,z1,z2⟩:=HX10.out.cells
        obtain ⟨c0,c1,c2⟩:=HY10.out.cells
        have hc:=Z1z x1 _ _ w10 HX10.out.v HY10.out.v HSM.out
        generalize x1.num=num at *
        generalize x1.time=time at *
        generalize x1.rs.length=rl at *
        have HC:=zh hc;clear hc;cases b1
        · go_wp2_with fail
          refine HC.out.mono ?_
          rintro e w11 ⟨rfl,hb11⟩;have hA:=Z00 HB4.out (Z00 HC10.out hb11)
          have HAA:=zh hA;clear hA;go_wp2_with fail;go_ret
          exact ⟨rfl,HAA.out⟩
        · go_wp2_with fail
          refine HC.out.mono ?_
          rintro e w11 ⟨rfl,hb11⟩;have hA:=Z00 HB4.out (Z00 HC10.out hb11)
          have HAA:=zh hA;clear hA;go_wp2_with fail;go_ret
          exact ⟨rfl,HAA.out⟩
    · obtain ⟨er,her⟩:∃ x,Z3y l t rs=x:=⟨_,rfl⟩
      rw [her] at hp hs ⊢
      rw [if_neg hp] at hs
      subst hs;have d:(er != 0)=true:=by simpa using hp
      clear her hp;go_wp2_with fail;go_ret
      exact ⟨rfl,HB4.out⟩
end Go.Proofs.YtnepkoepbapgeaaGreatDoor
