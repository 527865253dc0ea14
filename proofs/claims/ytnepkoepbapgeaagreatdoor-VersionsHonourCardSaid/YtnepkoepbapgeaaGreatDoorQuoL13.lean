/-
  VersionsHonour: the walk.
-/
import Derived.Test.YtnepkoepbapgeaaGreatDoorQuoHe2
import Derived.Test.YtnepkoepbapgeaaGreatDoorQuoLaw8
import Derived.Test.YtnepkoepbapgeaaGreatDoorQuoApp2
import Derived.Test.YtnepkoepbapgeaaGreatDoorQuoAkb
namespace Go.Proofs.YtnepkoepbapgeaaGreatDoor
set_option maxRecDepth 100000
open Go.RowKit Lx Px Qx Go.Sort
attribute [local irreducible] Qx.Vr.dig Qx.powP Qx.sigE Qx.sigS
set_option maxHeartbeats 16000000 in
theorem ZjH (l:List Vr)(a:Qx.Ask)(t s:Int)(rs:List Rt)(m5:Int)(V RV:Value)(w:World)(hv:VssV w w.heap.size V l)(hr:RtsV w w.heap.size RV rs)(hm5:0≤m5∧m5≤65535)(ht:Tabs w.heap.size w)(hM:Mx w w.heap.size) :
 Calls Tryz.prog 12 #[V,askV a,.int .i64 t,.int .i64 s,RV,.int .u16 m5] w fun e w'=>e=.returned (.bool true)∧Below w.heap.size w w':=by
 obtain ⟨A,c,rfl,_⟩:=id hv
 obtain ⟨A2,c2,rfl,_⟩:=id hr
 have hvw:=fun W (hb:Below w.heap.size w W)=>(hv.on hb).up hb.size
 have hrw:=fun W (hb:Below w.heap.size w W)=>(hr.on hb).up hb.size
 have hB0:=(Below.refl w.heap.size w).alloc (zn _) (.cells #[.int .i64 a.kind,.int .i64 a.fr,.int .i64 a.un,.int .i64 a.pers] 26)
 have hA0:AkB w.heap.size a (w.alloc (.cells #[.int .i64 a.kind,.int .i64 a.fr,.int .i64 a.un,.int .i64 a.pers] 26)):=⟨za _ _⟩
 unfold askV
 have HV:=zh hvw;have HR:=zh hrw;have HT:=zh ht;have HM:=zh hM;have HB0:=zh hB0;have HA0:=zh hA0;clear hvw hrw ht hM hB0 hA0 hv hr;go_enter Tryz.func12,Tryz.ntmps12
 go_upto_region 1 with fail
 generalize w.alloc (.cells #[.int .i64 a.kind,.int .i64 a.fr,.int .i64 a.un,.int .i64 a.pers] 26)=w0 at *
 go_wp2_with fail;refine (Z56 w0 (Z05 HT.out HB0.out) (Zgj HM.out HB0.out)).mono ?_
 rintro e w1 ⟨rfl,hb1⟩;have hB1:=Z00 HB0.out hb1
 have hA1:=HA0.out.on hb1
 have HB1:=zh hB1;have HA1:=zh hA1;clear hB1 hA1 HB0 HA0 hb1;go_wp2_with fail;refine (Z3s l _ w1 (HV.out w1 HB1.out)).mono ?_
 rintro e w2 ⟨⟨b,rfl,hb⟩,hb2⟩
 have hB2:=Z00 HB1.out hb2
 have hA2:=HA1.out.on hb2
 obtain ⟨q0,q1,q2,q3⟩:=hA2.c
 have HB2:=zh hB2;have HA2:=zh hA2;clear hB2 hA2 hb2 HB1 HA1;cases b with
 | false =>
  clear hb;go_wp2_with fail;go_ret
  exact ⟨rfl,HB2.out⟩
 | true =>
  obtain ⟨hl10,hvs⟩:=hb rfl
  have HVS:=zh hvs;clear hvs hb;have hra:=Zfk a w2
  unfold askV at hra
  have HRA:=zh hra;clear hra;go_wp2_with fail;refine HRA.out.mono ?_
  rintro e w3 ⟨rfl,hb3⟩;have hB3:=Z00 HB2.out hb3
  have hA3:=HA2.out.on hb3
  have HB3:=zh hB3;have HA3:=zh hA3;clear hB3 hA3 HRA HB2 HA2 hb3 q0 q1 q2 q3;obtain ⟨ba,hba⟩:∃ b,a.okB=b:=⟨_,rfl⟩
  rw [hba]
  cases ba with
  | false =>
   clear hba;go_wp2_with fail;go_ret
   exact ⟨rfl,HB3.out⟩
  | true =>
  go_wp2_with fail;refine (Z4B t w3).mono ?_
  rintro e w' ⟨rfl,rfl⟩;obtain ⟨bt,hbt⟩:∃ b,Z0D t=b:=⟨_,rfl⟩
  rw [hbt]
  cases bt with
  | false =>
   clear hbt;go_wp2_with fail;go_ret
   exact ⟨rfl,HB3.out⟩
  | true =>
  go_wp2_with fail;refine (Z9c s w3).mono ?_
  rintro e w' ⟨rfl,rfl⟩;obtain ⟨bs,hbs⟩:∃ b,secB s=b:=⟨_,rfl⟩
  rw [hbs]
  cases bs with
  | false =>
   clear hbs;go_wp2_with fail;go_ret
   exact ⟨rfl,HB3.out⟩
  | true =>
  go_wp2_with fail;refine (Z7C rs _ w3 (HR.out w3 HB3.out)).mono ?_
  rintro e w4 ⟨⟨b,rfl⟩,hb4⟩
  have hB4:=Z00 HB3.out hb4
  have hA4:=HA3.out.on hb4
  have HB4:=zh hB4;have HA4:=zh hA4;clear hB4 hA4 hb4 HB3 HA3;cases b with
  | false =>
   go_wp2_with fail;go_ret
   exact ⟨rfl,HB4.out⟩
  | true =>
   obtain ⟨x,b,e1,hon⟩:=Zr1 (Z09.1 HVS.out) hbt hba hbs
   have tb:0≤t∧t≤1000000000:=by simpa [Z0D] using hbt
   have hc:=Z5x l t _ w4 (HV.out w4 HB4.out) (by omega) (Z05 HT.out HB4.out)
   rw [e1] at hc
   have HC:=zh hc;have E1:=zh e1;have HON:=zh hon;have HBA:=zh hba;have HBT:=zh hbt;have HBS:=zh hbs;clear hc e1 hon hba hbt hbs;go_wp2_with fail;refine HC.out.mono ?_
   rintro e w5 ⟨YV,rfl,hY,hb5⟩;obtain ⟨A6,c6,rfl,hR6⟩:=hY
   rw [show vrV x (.slice A6 x.rs.length c6)=.agg #[.int .i64 x.num,.int .i64 x.time,.slice A6 x.rs.length c6] from rfl]
   have hC6:=(Below.refl w5.heap.size w5).alloc (zn _) (.cells #[.int .i64 x.num,.int .i64 x.time,.slice A6 x.rs.length c6] 24)
   have hY6:VxB w5.heap.size x (.slice A6 x.rs.length c6) (w5.alloc (.cells #[.int .i64 x.num,.int .i64 x.time,.slice A6 x.rs.length c6] 24)):=VxB.new hR6
   have hRx:∀ W,Below w5.heap.size w5 W→RtsV W W.heap.size (.slice A6 x.rs.length c6) x.rs:=fun W hb=>(hR6.on hb).up hb.size
   have hA6:=(HA4.out.on hb5).on hC6
   have hB6:=Z00 (Z00 HB4.out hb5) hC6
   have HY6:=zh hY6;have HA6:=zh hA6;have HB6:=zh hB6;have HC6:=zh hC6;have HRX:=zh hRx;clear hY6 hA6 hB6 hC6 hRx HC HB4 HA4 hb5 hR6;dsimp only
   go_upto_region 5 with (refine Z0b rfl _ _ rfl _ _ rfl rfl rfl rfl rfl ?_)
   generalize w5.alloc (.cells #[.int .i64 x.num,.int .i64 x.time,.slice A6 x.rs.length c6] 24)=w6 at *
   have hpu:=Z7s s w6 HBS.out
   have HPU:=zh hpu;clear hpu;go_wp2_with fail;refine HPU.out.mono ?_
   rintro e w7 ⟨rfl,hb7⟩;have hY7:=HY6.out.on hb7
   have hA7:=HA6.out.on hb7
   have hB7:=Z00 HB6.out hb7
   have hC7:=Z00 HC6.out hb7
   obtain ⟨x0,x1,x2⟩:=hY7.cells
   obtain ⟨q0,q1,q2,q3⟩:=hA7.c
   have HY7:=zh hY7;have HA7:=zh hA7;have HB7:=zh hB7;have HC7:=zh hC7;clear hY7 hA7 hB7 hC7 HPU hb7 HY6 HA6 HB6 HC6;cases b with
   | false =>
    go_wp2_with fail;go_ret
    exact ⟨rfl,HB7.out⟩
   | true =>
    obtain ⟨hux,Q,er,hmq,hcase⟩:=HON.out rfl
    have hc:=Z6k x a t s 7 _ w7 HY7.out.v (Z05 HT.out HB7.out)
    rw [hmq] at hc
    unfold askV at hc
    have hp:=fun W (hb:Below w5.heap.size w5 W)=>ZcE x.rs (.slice A6 x.rs.length c6) a W (HRX.out W hb)
    unfold askV at hp
    have HC:=zh hc;have HP:=zh hp;have HCASE:=zh hcase;have HMQ:=zh hmq;clear hc hp hcase hmq HON;go_wp2_with fail;refine HC.out.mono ?_
    rintro e w8 ⟨QV,rfl,hq,hb8⟩;obtain ⟨AQ,cQ,rfl,hI⟩:=Z4F hq
    clear hq;obtain ⟨nv,hnv⟩:∃ nv,(Value.slice AQ Q.nights.length cQ)=nv:=⟨_,rfl⟩
    have hone:(qtC Q nv).all (·.oneCell')=true:=by rw [← hnv];exact Z0F _ _ _ _
    have hqv:∀ W p,QbK p Q nv W→QtV W W.heap.size (.agg (qtC Q nv)) Q:=by rw [← hnv];exact fun W p h=>h.v
    rw [hnv] at hI ⊢
    clear hnv;have hC9:=(Below.refl w8.heap.size w8).alloc (zn _) (.cells (qtC Q nv) 32)
    have hQ9:=QbK.new (q:=Q) hI
    have hb9:=Z00 hb8 hC9
    have hY9:=HY7.out.on hb9
    have hA9:=HA7.out.on hb9
    have hB9:=Z00 HB7.out hb9
    have hD9:=Z00 HC7.out hb9
    clear x0 x1 x2 q0 q1 q2 q3;obtain ⟨x0,x1,x2⟩:=hY9.cells
    obtain ⟨q0,q1,q2,q3⟩:=hA9.c
    have HQV:=zh hqv;have HQ9:=zh hQ9;have HY9:=zh hY9;have HA9:=zh hA9;have HB9:=zh hB9;have HD9:=zh hD9;clear hqv hQ9 hY9 hA9 hB9 hD9 HC HY7 HA7 HB7 HC7 hb8 hI hC9 hb9;dsimp only
    go_upto_region 9 with (refine Z19 rfl _ _ rfl _ _ rfl rfl rfl (Z28 _ _) hone ?_)
    generalize w8.alloc (.cells (qtC Q nv) 32)=w9 at *
    go_wp2_with fail;refine (HP.out w9 HD9.out).mono ?_
    rcases HCASE.out with ⟨he,hpe⟩ | ⟨rfl,hpe,htot,hh1,hh2⟩
    · rw [hpe]
      rintro e w10 ⟨hb10,rfl⟩;have hB10:=Z00 HB9.out hb10
      have de:(er != 0)=true:=by simpa using he
      have de2:(er==er)=true:=by simp
      have HB10:=zh hB10;clear hB10 HB9 HQ9 HY9 HA9 HD9 hb10 hpe HCASE he HMQ;go_wp2_with fail;go_ret
      exact ⟨rfl,HB10.out⟩
    · obtain ⟨hsm,hdg,hn60,hmk⟩:=Za7 HMQ.out
      clear hmk;have hsr:∀ y∈Q.says,-9223372036854775808≤y∧y≤9223372036854775807:=fun y hy=>by have:=hsm y hy;omega
      have f6:=Z6A hpe;obtain ⟨f1,f2,f3,f4,_⟩:=Z2j hpe
      rw [hpe]
      rintro e w10 ⟨hb10,AN,rfl,hIN,_⟩;have hB10:=Z00 HB9.out hb10
      have hQ10:=HQ9.out.on hb10
      have HB10:=zh hB10;have HQ10:=zh hQ10;have HIN:=zh hIN;have F6:=zh f6;have HPE:=zh hpe;have HSR:=zh hsr;have HTOT:=zh htot;have HH1:=zh hh1;have HH2:=zh hh2;clear hB10 hQ10 hIN f6 hpe hsr htot hh1 hh2 HB9 HQ9 HY9 HA9 HD9 hb10 HCASE HMQ x0 x1 x2 q0 q1 q2 q3 hsm;generalize powP 4 s.toNat=pb at *
      go_wp2_with fail;go_loopw [24,114] (fun sm i wr=>∃ k:Nat,k≤Q.nights.length∧sm=.int .i64 (Q.nights.take k).sum∧i=.int .i64 k∧wr=w10) (fun _ i _=>Q.nights.length - (intOf i).toNat)
      case atStart=>exact ⟨0,Nat.zero_le _,by simp,rfl,rfl⟩
      case round =>
       obtain ⟨k,hk,rfl,rfl,rfl⟩:=hrel
       by_cases hlt:k<Q.nights.length
       · obtain ⟨g,o,rfl,hg,hcc⟩:=Z4D HIN.out (by intro e;rw [e] at hlt;simp at hlt)
         have ck:wr.cell? ⟨g,o+k,none⟩=some (.int .i64 Q.nights[k]):=hcc k hlt
         have hs:=ZfB Q.nights k hlt
         obtain ⟨s1,s2⟩:=ZcF (fun x hx=>(F6.out x hx).1) f4 k
         obtain ⟨z5,z6⟩:=F6.out Q.nights[k] (List.getElem_mem hlt)
         have dl:decide ((k:Int)<(Q.nights.length:Int))=true:=by simpa using hlt
         clear hcc;generalize Q.nights[k]=z at *
         have HS:=zh hs;clear hs;go_wp2_with fail;go_roundw
         case rel=>exact ⟨k+1,by omega,by rw [HS.out],by go_num,by first | rfl | trivial⟩
         case measure=>simp [intOf];omega
       · have hke:k=Q.nights.length:=by omega
         subst hke;have dl:decide ((Q.nights.length:Int)<(Q.nights.length:Int))=false:=by simp
         rw [List.take_length]
         have hsum:Q.nights.sum=Q.total:=HTOT.out.symm
         rw [hsum]
         have hqh:=HQ10.out.h
         have hc:=Z2m l Q (pb:Nat) _ (.agg (qtC Q nv)) wr (HV.out wr HB10.out) (HQV.out _ _ HQ10.out) (by omega) HSR.out hdg (by omega) (Z05 HT.out HB10.out)
         unfold HonP at hc
         rw [HH1.out] at hc
         have HC:=zh hc;have HQH:=zh hqh;clear hc hqh;go_wp2_with (refine Z0f rfl _ rfl w8.heap.size rfl _ (Z28 _ _) _ HQH.out ?_)
         refine HC.out.mono ?_
         rintro e w11 ⟨rfl,hb11⟩;dsimp only
         clear HC HQH;have hB11:=Z00 HB10.out hb11
         have hQ11:=HQ10.out.on hb11
         have dn1:(Q.total != Q.total)=false:=by simp
         have dn2:(Q.keep != Q.keep)=false:=by simp
         have w1:IntKind.i64.wrap (t+1)=t+1:=IntWalk.i64_in _ (by omega)
         have w2:IntKind.i64.wrap m5=m5:=IntWalk.i64_in _ (by omega)
         have w3:IntKind.i64.wrap (t+1+m5)=t+1+m5:=IntWalk.i64_in _ (by omega)
         have hpu:=Z70 l (t+1+m5) rs (.slice A l.length c) (.slice A2 rs.length c2) w11 (HV.out w11 hB11) (HR.out w11 hB11) (by omega) (Z05 HT.out hB11)
         unfold Zez at hpu
         have HPU:=zh hpu;have HB11:=zh hB11;have HQ11:=zh hQ11;clear hpu hB11 hQ11 HB10 HQ10 hb11;go_wp2_with fail;refine HPU.out.mono ?_
         rintro e w12 ⟨SV,rfl,hs,hb12⟩;have hB12:=Z00 HB11.out hb12
         have hQ12:=HQ11.out.on hb12
         have HB12:=zh hB12;have HQ12:=zh hQ12;clear hB12 hQ12 hb12 HB11 HQ11 HPU w1 w2 w3;by_cases hp:Z3y l (t+1+m5) rs=0
         · rw [hp] at hs ⊢
           simp only [if_true] at hs
           have hh2:=HH2.out (t+1+m5) rs hp (by omega)
           obtain ⟨l2,hl2⟩:∃ x,l++[Z1D l (t+1+m5) rs]=x:=⟨_,rfl⟩
           have hlen:l2.length≤1000:=by rw [← hl2];simp;omega
           rw [hl2] at hs hh2
           obtain ⟨A4,c4,rfl,_⟩:=id hs
           have hqh:=HQ12.out.h
           have hc:=Z2m l2 Q (pb:Nat) _ (.agg (qtC Q nv)) w12 hs (HQV.out _ _ HQ12.out) hlen HSR.out hdg (by omega) (Z05 HT.out HB12.out)
           unfold HonP at hc
           rw [hh2] at hc
           have HC:=zh hc;have HQH:=zh hqh;clear hc hqh hs hh2 hl2 hp;go_wp2_with (refine Z0f rfl _ rfl w8.heap.size rfl _ (Z28 _ _) _ HQH.out ?_)
           refine HC.out.mono ?_
           rintro e w13 ⟨rfl,hb13⟩;dsimp only
           clear HC HQH;have hB13:=Z00 HB12.out hb13
           have de1:(Q.total==Q.total)=true:=by simp
           have de2:(Q.keep==Q.keep)=true:=by simp
           have HB13:=zh hB13;clear hB13 hb13 HB12 HQ12;go_wp2_with fail;go_ret
           exact ⟨rfl,HB13.out⟩
         · obtain ⟨er,her⟩:∃ x,Z3y l (t+1+m5) rs=x:=⟨_,rfl⟩
           rw [her] at hp hs ⊢
           rw [if_neg hp] at hs
           subst hs;have d:(er != 0)=true:=by simpa using hp
           clear her hp;go_wp2_with fail;go_ret
           exact ⟨rfl,HB12.out⟩
end Go.Proofs.YtnepkoepbapgeaaGreatDoor
