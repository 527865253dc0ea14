/-
  The head of the statements about versions. (made by gen_he2.py)
-/
import Derived.Test.YtnepkoepbapgeaaGreatDoorQuoHe1
import Derived.Test.YtnepkoepbapgeaaGreatDoorQuoUse
namespace Go.Proofs.YtnepkoepbapgeaaGreatDoor
set_option maxRecDepth 100000
open Go.RowKit Lx Px Qx
attribute [local irreducible] Qx.Vr.dig Qx.powP Qx.sigE Qx.sigS
theorem Tryz.infoVrSz:(Tryz.prog.info? 24).map (·.size)=some 3:=by kernel_rfl
theorem Z0b {ops:Array Oper}{rest:List Oper}{op:Oper}{a:Act}{w:World}{Q:Exit→Act→World→Prop}(hgd:op.guard=none)(x y:Operand)(ho:op.op=.store 24 x y)
 (zs cs:Array Value) (hx:a.eval x=.pointer (some ⟨w.heap.size,0,none⟩)) (hy:a.eval y=.agg cs) (hz:zs.size=3) (hs:cs.size=3) (h1:cs.all (·.oneCell')=true)
 (h:wpList Tryz.prog ops Q rest (a.put op.dst undef) (w.alloc (.cells cs 24))):wpList Tryz.prog ops Q (op::rest) a (w.alloc (.cells zs 24)):=by
 refine wpList_store_row hgd 24 x y ho w.heap.size cs hx hy _ zs (za w _) (by rw [Tryz.infoVrSz,hs]) (by omega) h1 ?_
 rw [Z1x]
 exact h
def hv2:List Vr:=[hvA,hvB]
structure VmB (B:Nat) (l:List Vr) (M:Value) (W:World):Prop where
 s:VssV W B M l
 le:B≤W.heap.size
theorem VmB.v {B:Nat}{l:List Vr}{M:Value}{W:World}(h:VmB B l M W):VssV W W.heap.size M l:=h.s.up h.le
theorem VmB.far {B C:Nat}{l:List Vr}{M:Value}{W W':World}(h:VmB B l M W)(hb:Below C W W')(hC:B≤C):VmB B l M W':=⟨h.s.on (hb.mono hC),Nat.le_trans h.le hb.size⟩
theorem VmB.on {B:Nat}{l:List Vr}{M:Value}{W W':World}(h:VmB B l M W)(hb:Below W.heap.size W W'):VmB B l M W':=h.far hb h.le
theorem hv_zs (W:World):VssV (W.alloc (.cells #[.int .i64 0,.int .i64 0,.slice none 0 0] 24)) (W.alloc (.cells #[.int .i64 0,.int .i64 0,.slice none 0 0] 24)).heap.size (.slice (some ⟨W.heap.size,0,none⟩) 1 1) [⟨0,0,[]⟩]:=by
 have h:=za W (.cells #[.int .i64 0,.int .i64 0,.slice none 0 0] 24)
 refine ⟨_,1,rfl,zn _,fun _=>⟨_,0,rfl,by simp,fun k hk=>?_⟩⟩
 have:k=0:=by simp at hk;omega
 subst this;exact ⟨none,0,RtsV.nil _ _,by rw [zc h];rfl,by rw [zc h];rfl,by rw [zc h];rfl⟩
structure AxB (p:Nat) (W:World):Prop where
 h:W.heap[p]?=some (.cells #[.int .i64 1,.int .i64 4,.int .i64 6,.int .i64 2] 26 (0,0))
theorem AxB.on {p:Nat}{W W':World}(h:AxB p W)(hb:Below W.heap.size W W'):AxB p W':=⟨(hb.block _ (zs h.h)).trans h.h⟩
theorem AxB.c {p:Nat}{W:World}(h:AxB p W):W.cell? ⟨p,0,none⟩=some (.int .i64 1)∧W.cell? ⟨p,1,none⟩=some (.int .i64 4)∧W.cell? ⟨p,2,none⟩=some (.int .i64 6)∧W.cell? ⟨p,3,none⟩=some (.int .i64 2) :=
 ⟨by rw [zc h.h];rfl,by rw [zc h.h];rfl,by rw [zc h.h];rfl,by rw [zc h.h];rfl⟩
theorem Zfv {p c:Nat}{A:Option Addr}{W:World}(h:VxB p hvA (.slice A 1 c) W):W.cell? ⟨p,0,none⟩=some (.int .i64 1)∧W.cell? ⟨p,1,none⟩=some (.int .i64 10)∧W.cell? ⟨p,2,none⟩=some (.slice A 1 c):=h.cells
set_option maxHeartbeats 16000000 in
theorem Z56 (w:World)(ht:Tabs w.heap.size w)(hM:Mx w w.heap.size):Calls Tryz.prog 31 #[] w fun e w'=>e=.returned (.bool true)∧Below w.heap.size w w':=by
 have HT:=zh ht;have HM:=zh hM;clear ht hM;go_enter Tryz.func31,Tryz.ntmps31
 go_wp2_with fail;refine (Zdj w HM.out).mono ?_
 rintro e w1 ⟨hb1,A1,c1,rfl,hR⟩;have hp:=Z70 [] 10 [Z4e.rt] (.slice none 0 0) (.slice A1 1 c1) w1 (VssV.nil _ _ _) hR (by simp) (Z05 HT.out hb1)
 unfold Zez at hp
 rw [Zfs.1,Zfs.2] at hp
 have HP:=zh hp;have HB1:=zh hb1;clear hp hb1 hR;go_wp2_with fail;refine HP.out.mono ?_
 rintro e w2 ⟨SV,rfl,hs,hb2⟩;simp only [if_true] at hs
 obtain ⟨A2,c2,rfl,_⟩:=id hs
 dsimp only [List.length_cons,List.length_nil,Nat.reduceAdd,List.nil_append] at hs ⊢
 have hB2:=Z00 HB1.out hb2
 have HB2:=zh hB2;have HS2:=zh hs;clear hB2 hs HB1 HP hb2;go_wp2_with fail;refine (Z7E w2 (Zgj HM.out HB2.out)).mono ?_
 rintro e w3 ⟨hb3,A3,c3,rfl,hR⟩;have hB3:=Z00 HB2.out hb3
 have hp:=Z70 [hvA] 20 [Z3F.rt] (.slice A2 1 c2) (.slice A3 1 c3) w3 ((HS2.out.on hb3).up hb3.size) hR (by simp) (Z05 HT.out hB3)
 unfold Zez at hp
 rw [Zft.1,Zft.2] at hp
 have HP:=zh hp;have HB3:=zh hB3;clear hp hB3 hR hb3 HB2 HS2;go_wp2_with fail;refine HP.out.mono ?_
 rintro e w4 ⟨SV,rfl,hs,hb4⟩;simp only [if_true] at hs
 obtain ⟨A4,c4,rfl,_⟩:=id hs
 dsimp only [List.length_cons,List.length_nil,Nat.reduceAdd,List.cons_append,List.nil_append] at hs ⊢
 have hB4:=Z00 HB3.out hb4
 have hS4:VmB w4.heap.size hv2 (.slice A4 2 c4) w4:=⟨hs,zn _⟩
 have HB4:=zh hB4;have HS4:=zh hS4;clear hB4 hS4 HB3 HP hb4 hs;have hc:=Z5x hv2 19 (.slice A4 2 c4) w4 HS4.out.v (by decide) (Z05 HT.out HB4.out)
 unfold hv2 at hc
 rw [Zqz] at hc
 have HC:=zh hc;clear hc;go_wp2_with fail;refine HC.out.mono ?_
 rintro e w5 ⟨V,rfl,hV,hb5⟩;obtain ⟨AV,cV,rfl,hRV⟩:=hV
 rw [show vrV hvA (.slice AV hvA.rs.length cV)=.agg #[.int .i64 1,.int .i64 10,.slice AV 1 cV] from rfl]
 clear HC;have hB5:=Z00 HB4.out hb5
 have hS5:=HS4.out.on hb5
 have HB5:=zh hB5;have HS5:=zh hS5;clear hB5 hS5 HB4 HS4 hb5;have hb6:=(Below.refl w5.heap.size w5).alloc (zn _) (.cells #[.int .i64 1,.int .i64 10,.slice AV 1 cV] 24)
 have hV6:VxB w5.heap.size hvA (.slice AV 1 cV) (w5.alloc (.cells #[.int .i64 1,.int .i64 10,.slice AV 1 cV] 24)):=VxB.new (v:=hvA) hRV
 have HV6:=zh hV6;clear hV6;have hB6:=Z00 HB5.out hb6
 have hS6:=HS5.out.on hb6
 have HB6:=zh hB6;have HS6:=zh hS6;clear hB6 hS6 HB5 HS5 hb6 hRV;dsimp only
 go_upto_region 4 with (refine Z0b rfl _ _ rfl _ _ rfl rfl rfl rfl rfl ?_)
 generalize w5.alloc (.cells #[.int .i64 1,.int .i64 10,.slice AV 1 cV] 24)=w6 at *
 have hc:=Z5x hv2 20 (.slice A4 2 c4) w6 HS6.out.v (by decide) (Z05 HT.out HB6.out)
 unfold hv2 at hc
 rw [ZqA] at hc
 have HC:=zh hc;clear hc;go_wp2_with fail;refine HC.out.mono ?_
 rintro e w7 ⟨V,rfl,hV,hb7⟩;obtain ⟨AX,cX,rfl,hRX⟩:=hV
 rw [show vrV hvB (.slice AX hvB.rs.length cX)=.agg #[.int .i64 2,.int .i64 20,.slice AX 1 cX] from rfl]
 clear HC;have hB7:=Z00 HB6.out hb7
 have hS7:=HS6.out.on hb7
 have hV7:=HV6.out.on hb7
 have HB7:=zh hB7;have HS7:=zh hS7;have HV7:=zh hV7;clear hB7 hS7 hV7 HB6 HS6 HV6 hb7;have hb8:=(Below.refl w7.heap.size w7).alloc (zn _) (.cells #[.int .i64 2,.int .i64 20,.slice AX 1 cX] 24)
 have hX8:VxB w7.heap.size hvB (.slice AX 1 cX) (w7.alloc (.cells #[.int .i64 2,.int .i64 20,.slice AX 1 cX] 24)):=VxB.new (v:=hvB) hRX
 have HX8:=zh hX8;clear hX8;have hB8:=Z00 HB7.out hb8
 have hS8:=HS7.out.on hb8
 have hV8:=HV7.out.on hb8
 have HB8:=zh hB8;have HS8:=zh hS8;have HV8:=zh hV8;clear hB8 hS8 hV8 HB7 HS7 HV7 hb8 hRX;dsimp only
 go_upto_region 5 with (refine Z0b rfl _ _ rfl _ _ rfl rfl rfl rfl rfl ?_)
 generalize w7.alloc (.cells #[.int .i64 2,.int .i64 20,.slice AX 1 cX] 24)=w8 at *
 have hc:=Z5x hv2 9 (.slice A4 2 c4) w8 HS8.out.v (by decide) (Z05 HT.out HB8.out)
 unfold hv2 at hc
 rw [hv_at9] at hc
 have HC:=zh hc;clear hc;go_wp2_with fail;refine HC.out.mono ?_
 rintro e w9 ⟨V,rfl,hV,hb9⟩;obtain ⟨AZ,cZ,rfl,hRZ⟩:=hV
 rw [show vrV Vr.zero (.slice AZ Vr.zero.rs.length cZ)=.agg #[.int .i64 0,.int .i64 0,.slice AZ 0 cZ] from rfl]
 clear HC;have hB9:=Z00 HB8.out hb9
 have hS9:=HS8.out.on hb9
 have hV9:=HV8.out.on hb9
 have hX9:=HX8.out.on hb9
 have HB9:=zh hB9;have HS9:=zh hS9;have HV9:=zh hV9;have HX9:=zh hX9;clear hB9 hS9 hV9 hX9 HB8 HS8 HV8 HX8 hb9;have hb10:=(Below.refl w9.heap.size w9).alloc (zn _) (.cells #[.int .i64 0,.int .i64 0,.slice AZ 0 cZ] 24)
 have hB10:=Z00 HB9.out hb10
 have hS10:=HS9.out.on hb10
 have hV10:=HV9.out.on hb10
 have hX10:=HX9.out.on hb10
 have HB10:=zh hB10;have HS10:=zh hS10;have HV10:=zh hV10;have HX10:=zh hX10;clear hB10 hS10 hV10 hX10 HB9 HS9 HV9 HX9 hb10 hRZ;dsimp only
 go_upto_region 6 with (refine Z0b rfl _ _ rfl _ _ rfl rfl rfl rfl rfl ?_)
 generalize w9.alloc (.cells #[.int .i64 0,.int .i64 0,.slice AZ 0 cZ] 24)=w10 at *
 have hb11:=(Below.refl w10.heap.size w10).alloc (zn _) (.cells #[.int .i64 1,.int .i64 4,.int .i64 6,.int .i64 2] 26)
 have hA11:AxB w10.heap.size (w10.alloc (.cells #[.int .i64 1,.int .i64 4,.int .i64 6,.int .i64 2] 26)):=⟨za _ _⟩
 have HA11:=zh hA11;clear hA11;have hB11:=Z00 HB10.out hb11
 have hS11:=HS10.out.on hb11
 have hV11:=HV10.out.on hb11
 have hX11:=HX10.out.on hb11
 have HB11:=zh hB11;have HS11:=zh hS11;have HV11:=zh hV11;have HX11:=zh hX11;clear hB11 hS11 hV11 hX11 HB10 HS10 HV10 HX10 hb11;go_upto_region 9 with fail
 generalize w10.alloc (.cells #[.int .i64 1,.int .i64 4,.int .i64 6,.int .i64 2] 26)=w11 at *
 obtain ⟨q0,q1,q2⟩:=Zfv HV11.out
 obtain ⟨q3,q4,q5,q6⟩:=HA11.out.c
 have hc:=Z6k hvA Zcj 15 5 6 (.agg #[.int .i64 1,.int .i64 10,.slice AV 1 cV]) w11 HV11.out.v (Z05 HT.out HB11.out)
 rw [Zbi 15 (by decide)] at hc
 have HC:=zh hc;clear hc;go_wp2_with fail;refine HC.out.mono ?_
 rintro e w12 ⟨QV,rfl,hq,hb12⟩;clear HC q0 q1 q2 q3 q4 q5 q6;obtain ⟨AP,cP,rfl,hI⟩:=Z4F hq
 clear hq;obtain ⟨nvP,hnv⟩:∃ nv,(Value.slice AP (hvQ 15).nights.length cP)=nv:=⟨_,rfl⟩
 have hone:(qtC (hvQ 15) nvP).all (·.oneCell')=true:=by rw [← hnv];exact Z0F _ _ _ _
 have hqvP:∀ W p,QbK p (hvQ 15) nvP W→QtV W W.heap.size (.agg (qtC (hvQ 15) nvP)) (hvQ 15):=by rw [← hnv];exact fun W p h=>h.v
 have hqzP:∀ W p,QbK p { hvQ 15 with total:=20001 } nvP W→QtV W W.heap.size (.agg (qtC { hvQ 15 with total:=20001 } nvP)) { hvQ 15 with total:=20001 }:=by rw [← hnv];exact fun W p h=>h.v
 rw [hnv] at hI ⊢
 clear hnv;have HQVP:=zh hqvP;have HQZP:=zh hqzP;clear hqvP hqzP;have hB12:=Z00 HB11.out hb12
 have hS12:=HS11.out.on hb12
 have hV12:=HV11.out.on hb12
 have hX12:=HX11.out.on hb12
 have hA12:=HA11.out.on hb12
 have HB12:=zh hB12;have HS12:=zh hS12;have HV12:=zh hV12;have HX12:=zh hX12;have HA12:=zh hA12;clear hB12 hS12 hV12 hX12 hA12 HB11 HS11 HV11 HX11 HA11 hb12;have hleP:=HB12.out.size
 have hltV:=HV12.out.lt
 have hltX:=HX12.out.lt
 have hltS:=HS12.out.le
 have hb13:=(Below.refl w12.heap.size w12).alloc (zn _) (.cells (qtC (hvQ 15) nvP) 32)
 have hP13:=QbK.new (q:=hvQ 15) hI
 have HP13:=zh hP13;clear hP13;have hB13:=Z00 HB12.out hb13
 have hS13:=HS12.out.on hb13
 have hV13:=HV12.out.on hb13
 have hX13:=HX12.out.on hb13
 have hA13:=HA12.out.on hb13
 have HB13:=zh hB13;have HS13:=zh hS13;have HV13:=zh hV13;have HX13:=zh hX13;have HA13:=zh hA13;clear hB13 hS13 hV13 hX13 hA13 HB12 HS12 HV12 HX12 HA12 hb13 hI;dsimp only
 go_upto_region 10 with (refine Z19 rfl _ _ rfl _ _ rfl rfl rfl (Z28 _ _) hone ?_)
 generalize w12.alloc (.cells (qtC (hvQ 15) nvP) 32)=w13 at *
 clear hone;obtain ⟨q0,q1,q2⟩:=Zfv HV13.out
 obtain ⟨q3,q4,q5,q6⟩:=HA13.out.c
 have hc:=Z6k hvA Zcj 25 5 6 (.agg #[.int .i64 1,.int .i64 10,.slice AV 1 cV]) w13 HV13.out.v (Z05 HT.out HB13.out)
 rw [Zbi 25 (by decide)] at hc
 have HC:=zh hc;clear hc;go_wp2_with fail;refine HC.out.mono ?_
 rintro e w14 ⟨QV,rfl,hq,hb14⟩;clear HC q0 q1 q2 q3 q4 q5 q6;obtain ⟨AQ,cQ,rfl,hI⟩:=Z4F hq
 clear hq;obtain ⟨nvQ,hnv⟩:∃ nv,(Value.slice AQ (hvQ 25).nights.length cQ)=nv:=⟨_,rfl⟩
 have hone:(qtC (hvQ 25) nvQ).all (·.oneCell')=true:=by rw [← hnv];exact Z0F _ _ _ _
 have hqvQ:∀ W p,QbK p (hvQ 25) nvQ W→QtV W W.heap.size (.agg (qtC (hvQ 25) nvQ)) (hvQ 25):=by rw [← hnv];exact fun W p h=>h.v
 have hqzQ:∀ W p,QbK p { hvQ 25 with total:=20001 } nvQ W→QtV W W.heap.size (.agg (qtC { hvQ 25 with total:=20001 } nvQ)) { hvQ 25 with total:=20001 }:=by rw [← hnv];exact fun W p h=>h.v
 rw [hnv] at hI ⊢
 clear hnv;have HQVQ:=zh hqvQ;have HQZQ:=zh hqzQ;clear hqvQ hqzQ;have hB14:=Z00 HB13.out hb14
 have hS14:=HS13.out.on hb14
 have hV14:=HV13.out.on hb14
 have hX14:=HX13.out.on hb14
 have hA14:=HA13.out.on hb14
 have hP14:=HP13.out.on hb14
 have HB14:=zh hB14;have HS14:=zh hS14;have HV14:=zh hV14;have HX14:=zh hX14;have HA14:=zh hA14;have HP14:=zh hP14;clear hB14 hS14 hV14 hX14 hA14 hP14 HB13 HS13 HV13 HX13 HA13 HP13 hb14;have hb15:=(Below.refl w14.heap.size w14).alloc (zn _) (.cells (qtC (hvQ 25) nvQ) 32)
 have hQ15:=QbK.new (q:=hvQ 25) hI
 have HQ15:=zh hQ15;clear hQ15;have hB15:=Z00 HB14.out hb15
 have hS15:=HS14.out.on hb15
 have hV15:=HV14.out.on hb15
 have hX15:=HX14.out.on hb15
 have hA15:=HA14.out.on hb15
 have hP15:=HP14.out.on hb15
 have HB15:=zh hB15;have HS15:=zh hS15;have HV15:=zh hV15;have HX15:=zh hX15;have HA15:=zh hA15;have HP15:=zh hP15;clear hB15 hS15 hV15 hX15 hA15 hP15 HB14 HS14 HV14 HX14 HA14 HP14 hb15 hI;dsimp only
 go_upto_region 11 with (refine Z19 rfl _ _ rfl _ _ rfl rfl rfl (Z28 _ _) hone ?_)
 generalize w14.alloc (.cells (qtC (hvQ 25) nvQ) 32)=w15 at *
 clear hone;have hpu:=Z7s 5 w15 (by decide)
 rw [show (5:Int).toNat=5 from rfl] at hpu
 have hk1:=ZqB
 have hk2:=ZqC
 have hk3:=ZqD
 generalize powP 4 5=pb at hpu hk1 hk2 hk3
 have HPU:=zh hpu;have HK1:=zh hk1;have HK2:=zh hk2;have HK3:=zh hk3;clear hpu hk1 hk2 hk3;go_wp2_with fail;refine HPU.out.mono ?_
 rintro e w16 ⟨rfl,hb16⟩;clear HPU;have hB16:=Z00 HB15.out hb16
 have hS16:=HS15.out.on hb16
 have hV16:=HV15.out.on hb16
 have hX16:=HX15.out.on hb16
 have hA16:=HA15.out.on hb16
 have hP16:=HP15.out.on hb16
 have hQ16:=HQ15.out.on hb16
 have HB16:=zh hB16;have HS16:=zh hS16;have HV16:=zh hV16;have HX16:=zh hX16;have HA16:=zh hA16;have HP16:=zh hP16;have HQ16:=zh hQ16;clear hB16 hS16 hV16 hX16 hA16 hP16 hQ16 HB15 HS15 HV15 HX15 HA15 HP15 HQ15 hb16;have hqh:=HP16.out.h
 have HQH:=zh hqh;clear hqh;go_wp2_with (refine Z0f rfl _ rfl w12.heap.size rfl _ (Z28 _ _) _ HQH.out ?_)
 have hc:=Z2m hv2 (hvQ 15) (pb:Nat) (.slice A4 2 c4) (.agg (qtC (hvQ 15) nvP)) w16 HS16.out.v (HQVP.out _ _ HP16.out) (by decide) (Zbj 15 20000 (by decide) (by decide)) (show hvA.dig<18446744073709551616 from Z90 hvA) (show ([10000,10000]:List Int).length≤50000 by decide) (Z05 HT.out HB16.out)
 unfold HonP hv2 at hc
 rw [HK1.out] at hc
 have HC:=zh hc;clear hc;refine HC.out.mono ?_
 rintro e w17 ⟨rfl,hb17⟩;dsimp only
 clear HC HQH HK1;have hB17:=Z00 HB16.out hb17
 have hS17:=HS16.out.on hb17
 have hV17:=HV16.out.on hb17
 have hX17:=HX16.out.on hb17
 have hA17:=HA16.out.on hb17
 have hP17:=HP16.out.on hb17
 have hQ17:=HQ16.out.on hb17
 have HB17:=zh hB17;have HS17:=zh hS17;have HV17:=zh hV17;have HX17:=zh hX17;have HA17:=zh hA17;have HP17:=zh hP17;have HQ17:=zh hQ17;clear hB17 hS17 hV17 hX17 hA17 hP17 hQ17 HB16 HS16 HV16 HX16 HA16 HP16 HQ16 hb17;have hqh:=HQ17.out.h
 have HQH:=zh hqh;clear hqh;go_wp2_with (refine Z0f rfl _ rfl w14.heap.size rfl _ (Z28 _ _) _ HQH.out ?_)
 have hc:=Z2m hv2 (hvQ 25) (pb:Nat) (.slice A4 2 c4) (.agg (qtC (hvQ 25) nvQ)) w17 HS17.out.v (HQVQ.out _ _ HQ17.out) (by decide) (Zbj 25 20000 (by decide) (by decide)) (show hvA.dig<18446744073709551616 from Z90 hvA) (show ([10000,10000]:List Int).length≤50000 by decide) (Z05 HT.out HB17.out)
 unfold HonP hv2 at hc
 rw [HK2.out] at hc
 have HC:=zh hc;clear hc;refine HC.out.mono ?_
 rintro e w18 ⟨rfl,hb18⟩;dsimp only
 clear HC HQH HK2;have hB18:=Z00 HB17.out hb18
 have hS18:=HS17.out.on hb18
 have hV18:=HV17.out.on hb18
 have hX18:=HX17.out.on hb18
 have hA18:=HA17.out.on hb18
 have hP18:=HP17.out.on hb18
 have hQ18:=HQ17.out.on hb18
 have HB18:=zh hB18;have HS18:=zh hS18;have HV18:=zh hV18;have HX18:=zh hX18;have HA18:=zh hA18;have HP18:=zh hP18;have HQ18:=zh hQ18;clear hB18 hS18 hV18 hX18 hA18 hP18 hQ18 HB17 HS17 HV17 HX17 HA17 HP17 HQ17 hb18 HQ18 HA18;have t2:w18.cell? ⟨w12.heap.size,2,none⟩=some (.int .i64 20000):=HP18.out.c 2 _ rfl
 have f2:=HP18.out.f 2
 have hbs:=(Below.refl w12.heap.size w18).setCell (p:=⟨w12.heap.size,2,none⟩) (zn _) (.int .i64 20001)
 have hP19:=HP18.out.set2 20001
 have hV19:=HV18.out.far hbs hltV
 have hX19:=HX18.out.far hbs hltX
 have hS19:=HS18.out.far hbs hltS
 have hB19:=HB18.out.trans (hbs.mono hleP)
 have HP19:=zh hP19;have HV19:=zh hV19;have HX19:=zh hX19;have HS19:=zh hS19;have HB19:=zh hB19;clear hP19 hV19 hX19 hS19 hB19 hbs HB18 HS18 HV18 HX18 HP18;go_upto_region 15 with fail
 generalize w18.setCell ⟨w12.heap.size,2,none⟩ (.int .i64 20001)=w19 at *
 clear t2 f2;have hqh:=HP19.out.h
 have HQH:=zh hqh;clear hqh;go_wp2_with (refine Z0f rfl _ rfl w12.heap.size rfl _ (Z28 _ _) _ HQH.out ?_)
 have hc:=Z2m hv2 { hvQ 15 with total:=20001 } (pb:Nat) (.slice A4 2 c4) (.agg (qtC { hvQ 15 with total:=20001 } nvP)) w19 HS19.out.v (HQZP.out _ _ HP19.out) (by decide) (Zbj 15 20001 (by decide) (by decide)) (show hvA.dig<18446744073709551616 from Z90 hvA) (show ([10000,10000]:List Int).length≤50000 by decide) (Z05 HT.out HB19.out)
 unfold HonP hv2 at hc
 rw [HK3.out] at hc
 have HC:=zh hc;clear hc;refine HC.out.mono ?_
 rintro e w20 ⟨rfl,hb20⟩;dsimp only
 clear HC HQH HK3;have hB20:=Z00 HB19.out hb20
 have hS20:=HS19.out.on hb20
 have hV20:=HV19.out.on hb20
 have hX20:=HX19.out.on hb20
 have hP20:=HP19.out.on hb20
 have HB20:=zh hB20;have HS20:=zh hS20;have HV20:=zh hV20;have HX20:=zh hX20;have HP20:=zh hP20;clear hB20 hS20 hV20 hX20 hP20 HB19 HS19 HV19 HX19 HP19 hb20 HP20;go_wp2_with fail;refine (Z7E w20 (Zgj HM.out HB20.out)).mono ?_
 rintro e w21 ⟨hb21,A9,c9,rfl,hR9⟩;have hB21:=Z00 HB20.out hb21
 have hS21:=HS20.out.on hb21
 have hV21:=HV20.out.on hb21
 have hX21:=HX20.out.on hb21
 have HB21:=zh hB21;have HS21:=zh hS21;have HV21:=zh hV21;have HX21:=zh hX21;clear hB21 hS21 hV21 hX21 HB20 HS20 HV20 HX20 hb21;have hc:=Z70 hv2 19 [Z3F.rt] (.slice A4 2 c4) (.slice A9 1 c9) w21 HS21.out.v hR9 (by decide) (Z05 HT.out HB21.out)
 unfold Zez hv2 at hc
 rw [Znh] at hc
 have HC:=zh hc;clear hc hR9;go_wp2_with fail;refine HC.out.mono ?_
 rintro e w22 ⟨SV,rfl,hs,hb22⟩;rw [if_neg (by decide)] at hs
 subst hs;clear HC;have hB22:=Z00 HB21.out hb22
 have hS22:=HS21.out.on hb22
 have hV22:=HV21.out.on hb22
 have hX22:=HX21.out.on hb22
 have HB22:=zh hB22;have HS22:=zh hS22;have HV22:=zh hV22;have HX22:=zh hX22;clear hB22 hS22 hV22 hX22 HB21 HS21 HV21 HX21 hb22;have v0:w22.cell? ⟨w5.heap.size,0,none⟩=some (.int .i64 1):=HV22.out.cells.1
 have x0:w22.cell? ⟨w7.heap.size,0,none⟩=some (.int .i64 2):=HX22.out.cells.1
 have hc:=Z1A hv2 (.slice A4 2 c4) w22 HS22.out.v (by decide) (Z05 HT.out HB22.out)
 unfold hv2 at hc
 rw [Znj] at hc
 have HC:=zh hc;clear hc;go_wp2_with fail;refine HC.out.mono ?_
 rintro e w23 ⟨rfl,hb23⟩;clear HC v0 x0;have hB23:=Z00 HB22.out hb23
 have hS23:=HS22.out.on hb23
 have hV23:=HV22.out.on hb23
 have hX23:=HX22.out.on hb23
 have HB23:=zh hB23;have HS23:=zh hS23;have HV23:=zh hV23;have HX23:=zh hX23;clear hB23 hS23 hV23 hX23 HB22 HS22 HV22 HX22 hb23;have hc:=Z1A [⟨0,0,[]⟩] (.slice (some ⟨w23.heap.size,0,none⟩) 1 1) _ (hv_zs w23) (by decide) (Z05 (Z05 HT.out HB23.out) ((Below.refl w23.heap.size w23).alloc (zn _) _))
 rw [ZqE] at hc
 have hB24:=HB23.out.alloc HB23.out.size (.cells #[.int .i64 0,.int .i64 0,.slice none 0 0] 24)
 have HC:=zh hc;have HB24:=zh hB24;clear hc hB24;go_wp2_with fail;refine HC.out.mono ?_
 rintro e w24 ⟨rfl,hb24⟩;have hBz:=Z00 HB24.out hb24
 have HBZ:=zh hBz;clear hBz;go_wp2_with fail;go_ret
 exact ⟨rfl,HBZ.out⟩
end Go.Proofs.YtnepkoepbapgeaaGreatDoor
