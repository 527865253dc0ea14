/-
  VersionsForce: the walk.
-/
import Derived.Test.YtnepkoepbapgeaaGreatDoorQuoHe2
import Derived.Test.YtnepkoepbapgeaaGreatDoorQuoLaw8
import Derived.Test.YtnepkoepbapgeaaGreatDoorQuoApp2
import Derived.Lib.QuietBelow
import Derived.BigQuiet
namespace Go.Proofs.YtnepkoepbapgeaaGreatDoor
set_option maxRecDepth 100000
open Go.RowKit Lx Px Qx Go.Sort
attribute [local irreducible] Qx.Vr.dig Qx.powP Qx.sigE Qx.sigS
set_option maxHeartbeats 16000000 in
theorem ZjF (l:List Vr)(t m2:Int)(V:Value)(w:World)(hv:VssV w w.heap.size V l)(hm2:0≤m2∧m2≤255)(ht:Tabs w.heap.size w)(hM:Mx w w.heap.size) :
 Calls Tryz.prog 10 #[V,.int .i64 t,.int .u8 m2] w fun e w'=>e=.returned (.bool true)∧Below w.heap.size w w':=by
 obtain ⟨A,c,rfl,_⟩:=id hv
 have hvw:=fun W (hb:Below w.heap.size w W)=>(hv.on hb).up hb.size
 have hcap:=hv.cap
 obtain ⟨mN,rfl⟩:=Int.eq_ofNat_of_zero_le hm2.1
 obtain ⟨k,hk⟩:∃ k:Nat,mN % (l.length+1)=k:=⟨_,rfl⟩
 have hkl:k≤l.length:=by
  have:=Nat.mod_lt mN (show 0<l.length+1 by omega)
  omega
 have hrem:((mN:Int) % ((l.length:Int)+1))=(k:Int):=by rw [← hk];simp
 have hrem2:(mN:Int).tmod ((l.length:Int)+1)=(k:Int):=by rw [Int.tmod_eq_emod_of_nonneg (by omega),hrem]
 have hwm:IntKind.i64.wrap (mN:Int)=mN:=IntWalk.i64_in _ (by omega)
 have hz0:¬ (l.length:Int)+1=0:=by omega
 have hk0:(0:Int)≤(k:Int):=by omega
 have hk1:(k:Int)≤(c:Int):=by omega
 have hk2:(k:Int)≤(l.length:Int):=by omega
 have HV:=zh hvw;have HT:=zh ht;have HM:=zh hM;have HK:=zh hk;clear hvw ht hM hk hv;go_enter Tryz.func10,Tryz.ntmps10
 go_wp2_with fail;refine (Z56 w HT.out HM.out).mono ?_
 rintro e w1 ⟨rfl,hb1⟩;have HB1:=zh hb1;clear hb1;go_wp2_with fail;refine (Z3s l _ w1 (HV.out w1 HB1.out)).mono ?_
 rintro e w2 ⟨⟨b,rfl,hb⟩,hb2⟩
 have hB2:=Z00 HB1.out hb2
 have HB2:=zh hB2;clear hB2 hb2 HB1;cases b with
 | false =>
  clear hb;go_wp2_with fail;go_ret
  exact ⟨rfl,HB2.out⟩
 | true =>
  obtain ⟨hl10,hvs⟩:=hb rfl
  have HVS:=zh hvs;clear hvs hb;go_wp2_with fail;refine (Z4B t w2).mono ?_
  rintro e w' ⟨rfl,rfl⟩;obtain ⟨bt,hbt⟩:∃ b,Z0D t=b:=⟨_,rfl⟩
  rw [hbt]
  cases bt with
  | false =>
   clear hbt;go_wp2_with fail;go_ret
   exact ⟨rfl,HB2.out⟩
  | true =>
   obtain ⟨x,b,N,e1,hsm,hN1,hN2,hbN,hin,hnum,hgt⟩:=Zhj (Z09.1 HVS.out) hbt
   have hc:=Z5x l t _ w2 (HV.out w2 HB2.out) (by omega) (Z05 HT.out HB2.out)
   rw [e1] at hc
   have HC:=zh hc;have E1:=zh e1;have HSM:=zh hsm;have HIN:=zh hin;have HNUM:=zh hnum;have HGT:=zh hgt;have HBT:=zh hbt;have HBN:=zh hbN;clear hc e1 hsm hin hnum hgt hbt hbN;go_wp2_with fail;refine HC.out.mono ?_
   rintro e w3 ⟨YV,rfl,hY,hb3⟩;obtain ⟨A6,c6,rfl,hR6⟩:=hY
   rw [show vrV x (.slice A6 x.rs.length c6)=.agg #[.int .i64 x.num,.int .i64 x.time,.slice A6 x.rs.length c6] from rfl]
   have hC6:=(Below.refl w3.heap.size w3).alloc (zn _) (.cells #[.int .i64 x.num,.int .i64 x.time,.slice A6 x.rs.length c6] 24)
   have hY6:VxB w3.heap.size x (.slice A6 x.rs.length c6) (w3.alloc (.cells #[.int .i64 x.num,.int .i64 x.time,.slice A6 x.rs.length c6] 24)):=VxB.new hR6
   have hB6:=Z00 (Z00 HB2.out hb3) hC6
   have HY6:=zh hY6;have HB6:=zh hB6;clear hY6 hB6 HC HB2 hb3 hR6 hC6;dsimp only
   go_upto_region 5 with (refine Z0b rfl _ _ rfl _ _ rfl rfl rfl rfl rfl ?_)
   generalize w3.alloc (.cells #[.int .i64 x.num,.int .i64 x.time,.slice A6 x.rs.length c6] 24)=w4 at *
   generalize w3.heap.size=p3 at *
   go_wp2_with fail;obtain ⟨F,hF⟩:∃ F:Nat→Int,∀ k:Nat,F k=if N<(k:Int) then N else -1:=⟨_,fun _=>rfl⟩
   have hF0:F 0 = -1:=by rw [hF];split <;> omega
   have hFs:∀ k:Nat,(k:Int)≠N→F (k+1)=F k:=fun k h=>by rw [hF,hF];split <;> split <;> omega
   have hFe:∀ k:Nat,(k:Int)=N→F (k+1)=k:=fun k h=>by rw [hF,if_pos (by omega),h]
   have hFl:F l.length=N:=by rw [hF,if_pos hN2]
   have HF:=zh hF;have HF0:=zh hF0;have HFS:=zh hFs;have HFE:=zh hFe;have HFL:=zh hFl;clear hF hF0 hFs hFe hFl;go_loopw [11,40] (fun at0 i wr=>∃ k:Nat,k≤l.length∧at0=.int .i64 (F k)∧i=.int .i64 k∧VxB p3 x (.slice A6 x.rs.length c6) wr∧Below w.heap.size w wr) (fun _ i _=>l.length - (intOf i).toNat)
   case atStart=>exact ⟨0,Nat.zero_le _,by rw [HF0.out],rfl,HY6.out,HB6.out⟩
   case round =>
    clear HY6 HB6;obtain ⟨k,hk,rfl,rfl,hYr,hBr⟩:=hrel
    by_cases hlt:k<l.length
    · obtain ⟨g,o,RA,rc,rfl,hg,hR,c0,c1,c2⟩:=Z1y (HV.out wr hBr) hlt
      have hX:VxB wr.heap.size l[k] (.slice RA l[k].rs.length rc) (wr.alloc (.cells #[.int .i64 l[k].num,.int .i64 l[k].time,.slice RA l[k].rs.length rc] 24)):=VxB.new hR
      have hCx:=(Below.refl wr.heap.size wr).alloc (zn _) (.cells #[.int .i64 l[k].num,.int .i64 l[k].time,.slice RA l[k].rs.length rc] 24)
      have hY2:=hYr.on hCx
      have hB2:=Z00 hBr hCx
      have hnk:=HNUM.out k hlt
      have dl:decide ((k:Int)<(l.length:Int))=true:=by simpa using hlt
      have HX:=zh hX;have HY2:=zh hY2;have HB2:=zh hB2;have HNK:=zh hnk;clear hX hY2 hB2 hnk hYr hBr hCx hR;go_upto_region 11 with (refine Z0b rfl _ _ rfl _ _ rfl rfl rfl rfl rfl ?_)
      generalize wr.alloc (.cells #[.int .i64 l[k].num,.int .i64 l[k].time,.slice RA l[k].rs.length rc] 24)=wx at *
      clear c0 c1 c2;obtain ⟨x0,x1,x2⟩:=HX.out.cells
      obtain ⟨y0,y1,y2⟩:=HY2.out.cells
      cases b with
      | false =>
       have hN:N = -1:=by have hh:=HBN.out;simp at hh;omega
       subst hN;go_wp2_with fail;go_roundw
       case rel=>exact ⟨k+1,by omega,by rw [HFS.out k (by omega)],by go_num,HY2.out,HB2.out⟩
       case measure=>simp [intOf];omega
      | true =>
       have hnk:=HNK.out rfl
       by_cases hkN:(k:Int)=N
       · have dn:(l[k].num==x.num)=true:=by rw [hnk];simpa using hkN
         have hF2:=HFE.out k hkN
         have HF2:=zh hF2;have HKN:=zh hkN;clear hF2 hkN hnk HNK;generalize l[k].num=n1 at *
         go_wp2_with fail;go_roundw
         case rel=>exact ⟨k+1,by omega,by rw [HF2.out],by go_num,HY2.out,HB2.out⟩
         case measure=>simp [intOf];omega
       · have dn:(l[k].num==x.num)=false:=by rw [hnk];simpa using hkN
         have hF2:=HFS.out k hkN
         have HF2:=zh hF2;have HKN:=zh hkN;clear hF2 hkN hnk HNK;generalize l[k].num=n1 at *
         go_wp2_with fail;go_roundw
         case rel=>exact ⟨k+1,by omega,by rw [HF2.out],by go_num,HY2.out,HB2.out⟩
         case measure=>simp [intOf];omega
    · have hke:k=l.length:=by omega
      subst hke;have dl:decide ((l.length:Int)<(l.length:Int))=false:=by simp
      rw [HFL.out]
      have HYR:=zh hYr;have HBR:=zh hBr;clear hYr hBr HFS HFE HF HF0 HFL;obtain ⟨y0,y1,y2⟩:=HYR.out.cells
      cases b with
      | false =>
       have hN:N = -1:=by have hh:=HBN.out;simp at hh;omega
       subst hN;go_wp2_with fail;have z0:=cell_regrown y0;have z1:=cell_regrown y1;have z2:=cell_regrown y2;refine wp_region_quiet_below (by kernel_rfl) (by kernel_rfl) ?_
       repeat (first | go_big_quiet_step (fail) | quiet_step (fail))
       refine wpQuiet_nil ?_
       intro _ hw'
       obtain ⟨⟨dq,osq⟩,hw''⟩:=hw'
       subst hw'';have hY5:=HYR.out.on (below_regrown wr dq osq)
       have hB5:=Z00 HBR.out (below_regrown wr dq osq)
       generalize grow (redrawn wr dq) osq=w5 at *
       clear y0 y1 y2 z0 z1 z2;have HY5:=zh hY5;have HB5:=zh hB5;clear hY5 hB5 HYR HBR;go_wp2_with fail;go_loopw [7,14] (fun up i0 wr=>∃ j:Nat,j≤l.length∧(-1:Int)<(j:Int)∧up=.bool true∧i0=.int .i64 j∧VxB p3 x (.slice A6 x.rs.length c6) wr∧Below w.heap.size w wr) (fun _ i _=>l.length - (intOf i).toNat)
       case atStart=>exact ⟨0,by omega,by omega,rfl,by go_num,HY5.out,HB5.out⟩
       case round =>
        clear HY5 HB5;obtain ⟨j,hj,hNj,rfl,rfl,hYr,hBr⟩:=hrel
        by_cases hlt:j<l.length
        · obtain ⟨g,o,RA',rc',rfl,hg',hR',c0,c1,c2⟩:=Z1y (HV.out wr hBr) hlt
          have hgt:=HGT.out j hlt hNj
          have dl:decide ((j:Int)<(l.length:Int))=true:=by simpa using hlt
          have dt:decide (l[j].time > t)=true:=by simpa using hgt
          have dt':decide (t<l[j].time)=true:=by simpa using hgt
          have j0:(0:Int)≤(j:Int):=by omega
          have j1:(j:Int)<(l.length:Int):=by omega
          clear hR' hgt c0 c2;generalize l[j].time=tj at *
          have HYR:=zh hYr;have HBR:=zh hBr;clear hYr hBr;go_wp2_with fail;go_roundw
          case rel=>exact ⟨j+1,by omega,by omega,rfl,by go_num,HYR.out,HBR.out⟩
          case measure=>simp [intOf];omega
        · have hje:j=l.length:=by omega
          subst hje;have dl:decide ((l.length:Int)<(l.length:Int))=false:=by simp
          obtain ⟨x2,b2,e2,hs2⟩:=Zcz ((Z09.1 HVS.out).take k) HBT.out
          have hsa:(∀ hk:k<l.length,t<l[k].time)→x2=x∧b2=false:=fun h=>by
           have h2:=Zac (Z09.1 HVS.out) HBT.out k h
           rw [e2,E1.out] at h2
           injection h2 with h3 h4
           injection h4 with h4 _
           exact ⟨h3,h4⟩
          have htk:=Z6n (HV.out wr hBr) hkl
          have hc:=Z5x (l.take k) t _ wr htk (by rw [List.length_take];omega) (Z05 HT.out hBr)
          rw [e2] at hc
          have HC:=zh hc;have E2:=zh e2;have HS2:=zh hs2;have HSA:=zh hsa;have HTK:=zh htk;have HYR:=zh hYr;have HBR:=zh hBr;clear hc e2 hs2 hsa htk hYr hBr;go_wp2_with fail;refine HC.out.mono ?_
          rintro e w6 ⟨ZV,rfl,hZ,hb6⟩;obtain ⟨A7,c7,rfl,hR7⟩:=hZ
          rw [show vrV x2 (.slice A7 x2.rs.length c7)=.agg #[.int .i64 x2.num,.int .i64 x2.time,.slice A7 x2.rs.length c7] from rfl]
          have hC7:=(Below.refl w6.heap.size w6).alloc (zn _) (.cells #[.int .i64 x2.num,.int .i64 x2.time,.slice A7 x2.rs.length c7] 24)
          have hZ7:VxB w6.heap.size x2 (.slice A7 x2.rs.length c7) (w6.alloc (.cells #[.int .i64 x2.num,.int .i64 x2.time,.slice A7 x2.rs.length c7] 24)):=VxB.new hR7
          have hY7:=(HYR.out.on hb6).on hC7
          have hB7:=Z00 (Z00 HBR.out hb6) hC7
          have HY7:=zh hY7;have HZ7:=zh hZ7;have HB7:=zh hB7;clear hY7 hZ7 hB7 HC HBR HYR HTK hb6 hR7 hC7;dsimp only
          go_upto_region 22 with (refine Z0b rfl _ _ rfl _ _ rfl rfl rfl rfl rfl ?_)
          generalize w6.alloc (.cells #[.int .i64 x2.num,.int .i64 x2.time,.slice A7 x2.rs.length c7] 24)=w7 at *
          generalize w6.heap.size=p7 at *
          have htk:=Z6n (HV.out w7 HB7.out) hkl
          have hc:=Z1A (l.take k) _ w7 htk (by rw [List.length_take];omega) (Z05 HT.out HB7.out)
          rw [Z09.2 ((Z09.1 HVS.out).take k)] at hc
          have HC:=zh hc;clear hc htk;go_wp2_with fail;refine HC.out.mono ?_
          rintro e w8 ⟨rfl,hb8⟩;have hY8:=HY7.out.on hb8
          have hZ8:=HZ7.out.on hb8
          have hB8:=Z00 HB7.out hb8
          have HY8:=zh hY8;have HZ8:=zh hZ8;have HB8:=zh hB8;clear hY8 hZ8 hB8 HC HY7 HZ7 HB7 hb8;by_cases hk1:k<l.length
          · obtain ⟨g,o,RA',rc',rfl,hg',hR',c0,c1,c2⟩:=Z1y (HV.out w8 HB8.out) hk1
            have dk:decide ((k:Int)<(l.length:Int))=true:=by simpa using hk1
            have k1:(k:Int)<(l.length:Int):=by omega
            clear hR' c0 c2;by_cases htt:l[k].time≤t
            · have dt:decide (l[k].time≤t)=true:=by simpa using htt
              clear HSA htt;generalize l[k].time=tk at *
              go_wp2_with fail;go_ret
              exact ⟨rfl,HB8.out⟩
            · have dt:decide (l[k].time≤t)=false:=by simpa using htt
              have hcond:∀ hk:k<l.length,t<l[k].time:=fun _=>by omega
              clear htt;obtain ⟨rfl,rfl⟩:=HSA.out hcond
              have hc:=Z1z x2 _ _ w8 HY8.out.v HZ8.out.v HSM.out
              obtain ⟨y0,y1,y2⟩:=HY8.out.cells
              obtain ⟨z0,z1,z2⟩:=HZ8.out.cells
              have HC:=zh hc;clear hc hcond;go_wp2_with fail;refine HC.out.mono ?_
              rintro e w9 ⟨rfl,hb9⟩;have hB9:=Z00 HB8.out hb9
              have HB9:=zh hB9;clear hB9;go_wp2_with fail;go_ret
              exact ⟨rfl,HB9.out⟩
          · have dk:decide ((k:Int)<(l.length:Int))=false:=by simpa using hk1
            have hcond:∀ hk:k<l.length,t<l[k].time:=fun h=>absurd h hk1
            obtain ⟨rfl,rfl⟩:=HSA.out hcond
            have hc:=Z1z x2 _ _ w8 HY8.out.v HZ8.out.v HSM.out
            obtain ⟨y0,y1,y2⟩:=HY8.out.cells
            obtain ⟨z0,z1,z2⟩:=HZ8.out.cells
            have HC:=zh hc;clear hc hcond;go_wp2_with fail;refine HC.out.mono ?_
            rintro e w9 ⟨rfl,hb9⟩;have hB9:=Z00 HB8.out hb9
            have HB9:=zh hB9;clear hB9;go_wp2_with fail;go_ret
            exact ⟨rfl,HB9.out⟩
      | true =>
       obtain ⟨hA,hxl,hxt⟩:=HIN.out rfl
       have hNn:0≤N:=by have hh:=HBN.out;simp at hh;omega
       obtain ⟨i,rfl⟩:=Int.eq_ofNat_of_zero_le hNn
       have hil:i<l.length:=by omega
       have hxi:l[i]=x:=hxl
       obtain ⟨g,o,RA,rc,rfl,hg,hRp,c0,c1,c2⟩:=Z1y (HV.out wr HBR.out) hil
       rw [hxi] at hRp c0 c1 c2
       have hcq:=fun d os=>Calls.regrown_of (Z1z x _ _ _ ((HYR.out.v).on (below_regrown wr d os) |>.up (below_regrown wr d os).size) ((Zdi hRp (zn _)).on (below_regrown wr d os) |>.up (below_regrown wr d os).size) HSM.out)
       have dt:decide (x.time > t)=false:=by simpa using hxt
       have dt':decide (t<x.time)=false:=by simpa using hxt
       have i0:(0:Int)≤(i:Int):=by omega
       have i1:(i:Int)<(l.length:Int):=by omega
       have di:decide ((i:Int)≥0)=true:=by simp
       have HCQ:=zh hcq;have HXI:=zh hxi;clear hcq hxi hRp hxl hA;go_wp2_with fail;have z0:=cell_regrown y0;have z1:=cell_regrown y1;have z2:=cell_regrown y2;have z3:=cell_regrown c0;have z4:=cell_regrown c1;have z5:=cell_regrown c2;refine wp_region_quiet_below (by kernel_rfl) (by kernel_rfl) ?_
       repeat (first | go_big_quiet_step (exact HCQ.out _ _) | quiet_step (exact HCQ.out _ _))
       refine wpQuiet_nil ?_
       intro _ hw'
       obtain ⟨⟨dq,osq⟩,hw''⟩:=hw'
       subst hw'';have hY5:=HYR.out.on (below_regrown wr dq osq)
       have hB5:=Z00 HBR.out (below_regrown wr dq osq)
       generalize grow (redrawn wr dq) osq=w5 at *
       clear y0 y1 y2 z0 z1 z2 z3 z4 z5 c0 c1 c2 HCQ dt dt';have HY5:=zh hY5;have HB5:=zh hB5;clear hY5 hB5 HYR HBR;go_wp2_with fail;go_loopw [7,14] (fun up i0 wr=>∃ j:Nat,j≤l.length∧(i:Int)<(j:Int)∧up=.bool true∧i0=.int .i64 j∧VxB p3 x (.slice A6 x.rs.length c6) wr∧Below w.heap.size w wr) (fun _ i _=>l.length - (intOf i).toNat)
       case atStart=>exact ⟨i+1,by omega,by omega,rfl,by go_num,HY5.out,HB5.out⟩
       case round =>
        clear HY5 HB5;obtain ⟨j,hj,hNj,rfl,rfl,hYr,hBr⟩:=hrel
        by_cases hlt:j<l.length
        · obtain ⟨g',o',RA',rc',e',hg',hR',c0,c1,c2⟩:=Z1y (HV.out wr hBr) hlt
          injection e' with e'
          injection e' with e'1 e'2
          subst e'1 e'2;have hgt:=HGT.out j hlt hNj
          have dl:decide ((j:Int)<(l.length:Int))=true:=by simpa using hlt
          have dt:decide (l[j].time > t)=true:=by simpa using hgt
          have dt':decide (t<l[j].time)=true:=by simpa using hgt
          have j0:(0:Int)≤(j:Int):=by omega
          have j1:(j:Int)<(l.length:Int):=by omega
          clear hR' hgt c0 c2;generalize l[j].time=tj at *
          have HYR:=zh hYr;have HBR:=zh hBr;clear hYr hBr;go_wp2_with fail;go_roundw
          case rel=>exact ⟨j+1,by omega,by omega,rfl,by go_num,HYR.out,HBR.out⟩
          case measure=>simp [intOf];omega
        · have hje:j=l.length:=by omega
          subst hje;have dl:decide ((l.length:Int)<(l.length:Int))=false:=by simp
          obtain ⟨x2,b2,e2,hs2⟩:=Zcz ((Z09.1 HVS.out).take k) HBT.out
          have hsa:(∀ hk:k<l.length,t<l[k].time)→x2=x∧b2=true:=fun h=>by
           have h2:=Zac (Z09.1 HVS.out) HBT.out k h
           rw [e2,E1.out] at h2
           injection h2 with h3 h4
           injection h4 with h4 _
           exact ⟨h3,h4⟩
          have htk:=Z6n (HV.out wr hBr) hkl
          have hc:=Z5x (l.take k) t _ wr htk (by rw [List.length_take];omega) (Z05 HT.out hBr)
          rw [e2] at hc
          have HC:=zh hc;have E2:=zh e2;have HS2:=zh hs2;have HSA:=zh hsa;have HTK:=zh htk;have HYR:=zh hYr;have HBR:=zh hBr;clear hc e2 hs2 hsa htk hYr hBr;go_wp2_with fail;refine HC.out.mono ?_
          rintro e w6 ⟨ZV,rfl,hZ,hb6⟩;obtain ⟨A7,c7,rfl,hR7⟩:=hZ
          rw [show vrV x2 (.slice A7 x2.rs.length c7)=.agg #[.int .i64 x2.num,.int .i64 x2.time,.slice A7 x2.rs.length c7] from rfl]
          have hC7:=(Below.refl w6.heap.size w6).alloc (zn _) (.cells #[.int .i64 x2.num,.int .i64 x2.time,.slice A7 x2.rs.length c7] 24)
          have hZ7:VxB w6.heap.size x2 (.slice A7 x2.rs.length c7) (w6.alloc (.cells #[.int .i64 x2.num,.int .i64 x2.time,.slice A7 x2.rs.length c7] 24)):=VxB.new hR7
          have hY7:=(HYR.out.on hb6).on hC7
          have hB7:=Z00 (Z00 HBR.out hb6) hC7
          have HY7:=zh hY7;have HZ7:=zh hZ7;have HB7:=zh hB7;clear hY7 hZ7 hB7 HC HBR HYR HTK hb6 hR7 hC7;dsimp only
          go_upto_region 22 with (refine Z0b rfl _ _ rfl _ _ rfl rfl rfl rfl rfl ?_)
          generalize w6.alloc (.cells #[.int .i64 x2.num,.int .i64 x2.time,.slice A7 x2.rs.length c7] 24)=w7 at *
          generalize w6.heap.size=p7 at *
          have htk:=Z6n (HV.out w7 HB7.out) hkl
          have hc:=Z1A (l.take k) _ w7 htk (by rw [List.length_take];omega) (Z05 HT.out HB7.out)
          rw [Z09.2 ((Z09.1 HVS.out).take k)] at hc
          have HC:=zh hc;clear hc htk;go_wp2_with fail;refine HC.out.mono ?_
          rintro e w8 ⟨rfl,hb8⟩;have hY8:=HY7.out.on hb8
          have hZ8:=HZ7.out.on hb8
          have hB8:=Z00 HB7.out hb8
          have HY8:=zh hY8;have HZ8:=zh hZ8;have HB8:=zh hB8;clear hY8 hZ8 hB8 HC HY7 HZ7 HB7 hb8;by_cases hk1:k<l.length
          · obtain ⟨g',o',RA',rc',e',hg',hR',c0,c1,c2⟩:=Z1y (HV.out w8 HB8.out) hk1
            injection e' with e'
            injection e' with e'1 e'2
            subst e'1 e'2;have dk:decide ((k:Int)<(l.length:Int))=true:=by simpa using hk1
            have k1:(k:Int)<(l.length:Int):=by omega
            clear hR' c0 c2;by_cases htt:l[k].time≤t
            · have dt:decide (l[k].time≤t)=true:=by simpa using htt
              clear HSA htt;generalize l[k].time=tk at *
              go_wp2_with fail;go_ret
              exact ⟨rfl,HB8.out⟩
            · have dt:decide (l[k].time≤t)=false:=by simpa using htt
              have hcond:∀ hk:k<l.length,t<l[k].time:=fun _=>by omega
              clear htt;obtain ⟨rfl,rfl⟩:=HSA.out hcond
              have hc:=Z1z x2 _ _ w8 HY8.out.v HZ8.out.v HSM.out
              obtain ⟨y0,y1,y2⟩:=HY8.out.cells
              obtain ⟨z0,z1,z2⟩:=HZ8.out.cells
              have HC:=zh hc;clear hc hcond;go_wp2_with fail;refine HC.out.mono ?_
              rintro e w9 ⟨rfl,hb9⟩;have hB9:=Z00 HB8.out hb9
              have HB9:=zh hB9;clear hB9;go_wp2_with fail;go_ret
              exact ⟨rfl,HB9.out⟩
          · have dk:decide ((k:Int)<(l.length:Int))=false:=by simpa using hk1
            have hcond:∀ hk:k<l.length,t<l[k].time:=fun h=>absurd h hk1
            obtain ⟨rfl,rfl⟩:=HSA.out hcond
            have hc:=Z1z x2 _ _ w8 HY8.out.v HZ8.out.v HSM.out
            obtain ⟨y0,y1,y2⟩:=HY8.out.cells
            obtain ⟨z0,z1,z2⟩:=HZ8.out.cells
            have HC:=zh hc;clear hc hcond;go_wp2_with fail;refine HC.out.mono ?_
            rintro e w9 ⟨rfl,hb9⟩;have hB9:=Z00 HB8.out hb9
            have HB9:=zh hB9;clear hB9;go_wp2_with fail;go_ret
            exact ⟨rfl,HB9.out⟩
end Go.Proofs.YtnepkoepbapgeaaGreatDoor
