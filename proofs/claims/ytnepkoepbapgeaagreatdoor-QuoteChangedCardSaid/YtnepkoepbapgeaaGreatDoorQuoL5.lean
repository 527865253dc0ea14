/-
  Several texts in one: QuoHd, QuoLaw5, QuoL5.
-/
import Derived.Test.YtnepkoepbapgeaaGreatDoorQuoUse
import Derived.Test.YtnepkoepbapgeaaGreatDoorQuoHd0
import Derived.Test.YtnepkoepbapgeaaGreatDoorParW13
import Derived.Test.YtnepkoepbapgeaaGreatDoorQuoMk
import Derived.Test.YtnepkoepbapgeaaGreatDoorQuoPla
namespace Go.Proofs.YtnepkoepbapgeaaGreatDoor
set_option maxRecDepth 100000
section
open Go.RowKit Lx Px Qx
theorem Z2s (q:Qt)(nv:Value):(qtC q nv).size=12:=rfl
theorem qmx_up {w w':World}{B:Nat}(h:Mx w B)(hb:Below B w w'):Mx w' w'.heap.size:=by
 obtain ⟨m,hm,hl⟩:=h
 exact ⟨m,(hb.cell hl).trans hm,by have:=World.block_lt_of_cell? _ _ ((hb.cell hl).trans hm);exact this⟩
structure QbK (p:Nat) (q:Qt) (nv:Value) (W:World):Prop where
 h:W.heap[p]?=some (.cells (qtC q nv) 32 (0,0))
 i:Z02 W p nv q.nights
theorem QbK.on {p:Nat}{q:Qt}{nv:Value}{W W':World}(h:QbK p q nv W)(hb:Below W.heap.size W W'):QbK p q nv W' :=
 ⟨(hb.block _ (zs h.h)).trans h.h,h.i.on (hb.mono (Nat.le_of_lt (zs h.h)))⟩
theorem QbK.new {q:Qt}{nv:Value}{W:World}(h:Z02 W W.heap.size nv q.nights):QbK W.heap.size q nv (W.alloc (.cells (qtC q nv) 32)):=by
 have hb:=(Below.refl W.heap.size W).alloc (zn _) (.cells (qtC q nv) 32)
 exact ⟨za W _,h.on hb⟩
theorem QbK.lt {p:Nat}{q:Qt}{nv:Value}{W:World}(h:QbK p q nv W):p<W.heap.size:=(zs h.h)
theorem QbK.v {p:Nat}{q:Qt}{A:Option Addr}{c:Nat}{W:World}(h:QbK p q (.slice A q.nights.length c) W):QtV W W.heap.size (.agg (qtC q (.slice A q.nights.length c))) q:=⟨A,c,rfl,h.i.up (Nat.le_of_lt h.lt)⟩
theorem QbK.c {p:Nat}{q:Qt}{nv:Value}{W:World}(h:QbK p q nv W)(i:Nat)(u:Value)(hu:(qtC q nv)[i]?=some u):W.cell? ⟨p,i,none⟩=some u:=by rw [zc h.h,hu]
theorem QbK.f {p:Nat}{q:Qt}{nv:Value}{W:World}(h:QbK p q nv W)(i:Nat):W.frozen? ⟨p,i,none⟩=false:=by have:=h.h;simp [World.frozen?,this]
theorem QbK.far {p B:Nat}{q:Qt}{nv:Value}{W W':World}(h:QbK p q nv W)(hb:Below B W W')(hp:p<B):QbK p q nv W':=⟨(hb.block _ hp).trans h.h,h.i.on (hb.mono (Nat.le_of_lt hp))⟩
theorem QbK.set2 {p:Nat}{q:Qt}{nv:Value}{W:World}(h:QbK p q nv W)(x:Int):QbK p { q with total:=x } nv (W.setCell ⟨p,2,none⟩ (.int .i64 x)):=by
 have h':=h.h
 refine ⟨?_,h.i.on ((Below.refl p W).setCell (p:=⟨p,2,none⟩) (zn _) _)⟩
 unfold qtC at h'
 simp [World.setCell,Array.getElem?_modify,h',qtC]
theorem QbK.all {p:Nat}{q:Qt}{nv:Value}{W:World}(h:QbK p q nv W):W.cell? ⟨p,0,none⟩=some (.int .i64 q.ver)∧W.cell? ⟨p,1,none⟩=some (.int .i64 q.time)∧W.cell? ⟨p,2,none⟩=some (.int .i64 q.total)∧W.cell? ⟨p,3,none⟩=some (.int .i64 q.keep) ∧
 W.cell? ⟨p,4,none⟩=some (.int .i64 q.ask.kind)∧W.cell? ⟨p,5,none⟩=some (.int .i64 q.ask.fr)∧W.cell? ⟨p,6,none⟩=some (.int .i64 q.ask.un)∧W.cell? ⟨p,7,none⟩=some (.int .i64 q.ask.pers)∧W.cell? ⟨p,8,none⟩=some nv∧W.cell? ⟨p,9,none⟩=some (.int .u64 (q.dig:Nat))∧W.cell? ⟨p,10,none⟩=some (.int .i64 q.sE)∧W.cell? ⟨p,11,none⟩=some (.int .i64 q.sS) :=
 ⟨h.c 0 _ rfl,h.c 1 _ rfl,h.c 2 _ rfl,h.c 3 _ rfl,h.c 4 _ rfl,h.c 5 _ rfl,h.c 6 _ rfl,h.c 7 _ rfl,h.c 8 _ rfl,h.c 9 _ rfl,h.c 10 _ rfl,h.c 11 _ rfl⟩
theorem Z7y {w:World}{B:Nat}{V:Value}{q:Qt}(h:QtV w B V q):∃ A c,V=.agg (qtC q (.slice A q.nights.length c))∧Z02 w B (.slice A q.nights.length c) q.nights:=h
attribute [local irreducible] Qx.sigE Qx.sigS Qx.Vr.dig Qx.powP
namespace Qx
def Z2t:Vr:=⟨3,50,[ZeC.rt]⟩
theorem Zci:Z2t.okB=true:=by
 unfold Z2t Vr.okB
 simp only [Zk6,List.all_cons,List.all_nil,Zk7]
 rfl
def hdW12:Qt:=⟨3,60,40000,20000,hdA12,[20000,20000],Z2t.dig,0,0⟩
def hdQ12:Qt:={ hdW12 with sE:=(sigE 5 6 hdW12.says:Nat),sS:=(sigS 5 6 hdW12.says:Nat) }
theorem Z7z:Z5a Z2t hdA12 60 5 6=(hdQ12,0):=by
 have hp:Z2G Z2t hdA12 60=.ok hdW12:=Z9C (ns:=[20000,20000]) ZeD
 rw [Z9B Zci (by decide) (by decide) (by decide) (by decide),if_neg (by decide),hp]
 rw [show (5:Int).toNat=5 from rfl,show (6:Int).toNat=6 from rfl]
 unfold hdQ12
 rfl
theorem ZeF:Z5a Z2t hdA12 49 5 6=(.zero,6):=by
 rw [Z9B Zci (by decide) (by decide) (by decide) (by decide),if_pos (by decide)]
theorem ZeG:Z1B Z2t hdQ12 (powP 4 5:Nat)=(true,0):=by
 have h:=Zf5 Z7z;rwa [show (5:Int).toNat=5 from rfl] at h
theorem ZeH:Z1B Z2t { hdQ12 with total:=40001 } (powP 4 5:Nat)=(false,0):=by
 refine Z56 Z7z rfl rfl ?_ (ZcA 5 (ZcB 5))
 rw [← Bool.not_eq_true,Qt.same_iff]
 rintro ⟨_,_,h,_⟩
 exact absurd (show (40001:Int)=40000 from h) (by decide)
theorem Zhn:(⟨0,0,[]⟩:Vr).okB=false:=by decide
theorem Z3h:(∀ x∈hdQ12.says,-9223372036854775808≤x∧x≤9223372036854775807)∧hdQ12.dig<18446744073709551616∧hdQ12.nights.length≤50000:=by
 have hd:=Zb8 Z2t;unfold hdQ12 hdW12
 generalize Z2t.dig=d at *
 refine ⟨?_,hd,by show ([20000,20000]:List Int).length≤50000;decide⟩
 intro x hx
 simp only [Qt.says,hdA12,List.mem_append,List.mem_cons,List.not_mem_nil,or_false] at hx
 rcases hx with (hx | hx) | hx
 · rcases hx with rfl | rfl | rfl | rfl | rfl | rfl | rfl | rfl | rfl <;> decide
 · rcases hx with rfl | rfl <;> decide
 · rcases hx with rfl | rfl <;> omega
theorem Zcj:(∀ x∈({ hdQ12 with total:=40001 }:Qt).says,-9223372036854775808≤x∧x≤9223372036854775807):=by
 have hd:=Zb8 Z2t;unfold hdQ12 hdW12
 generalize Z2t.dig=d at *
 intro x hx
 simp only [Qt.says,hdA12,List.mem_append,List.mem_cons,List.not_mem_nil,or_false] at hx
 rcases hx with (hx | hx) | hx
 · rcases hx with rfl | rfl | rfl | rfl | rfl | rfl | rfl | rfl | rfl <;> decide
 · rcases hx with rfl | rfl <;> decide
 · rcases hx with rfl | rfl <;> omega
theorem Zhp:hdQ12.same ⟨3,60,40000,20000,hdA12,[20000,20000],Z2t.dig,0,0⟩=true:=by
 rw [Qt.same_iff]
 exact ⟨rfl,rfl,rfl,rfl,rfl,rfl,rfl⟩
end Qx
theorem Z2w {w W:World}{A:Option Addr}{c:Nat}(h:LwB w Z2t (.slice A 1 c) hdA12 W):W.cell? ⟨w.heap.size,0,none⟩=some (.int .i64 3)∧W.cell? ⟨w.heap.size,1,none⟩=some (.int .i64 50)∧W.cell? ⟨w.heap.size,2,none⟩=some (.slice A 1 c) ∧
 W.cell? ⟨w.heap.size+1,0,none⟩=some (.int .i64 1)∧W.cell? ⟨w.heap.size+1,1,none⟩=some (.int .i64 4)∧W.cell? ⟨w.heap.size+1,2,none⟩=some (.int .i64 6)∧W.cell? ⟨w.heap.size+1,3,none⟩=some (.int .i64 2):=h.cells
set_option maxHeartbeats 16000000 in
theorem Zf0 (w:World)(ht:Tabs w.heap.size w)(hM:Mx w w.heap.size):Calls Tryz.prog 14 #[] w fun e w'=>e=.returned (.bool true)∧Below w.heap.size w w':=by
 have HT:=zh ht;have HM:=zh hM;clear ht hM;go_enter Tryz.func14,Tryz.ntmps14
 go_wp2_with fail;refine (Z7j _ _ HM.out).mono ?_
 intro e w1 (hh:SrcP w (srcO Zna) e w1)
 rw [Zk5] at hh
 obtain ⟨hb1,A,c,rfl,hR⟩:=hh
 have hL0:LwB w1 Z2t (.slice A 1 c) hdA12 ((w1.alloc (.cells #[.int .i64 3,.int .i64 50,.slice A 1 c] 24)).alloc (.cells #[.int .i64 1,.int .i64 4,.int .i64 6,.int .i64 2] 26)):=LwB.new w1 Z2t (.slice A 1 c) hdA12 hR
 have hmk:=fun t s o W (h:LwB w1 Z2t (.slice A 1 c) hdA12 W)=>Zb9 Z2t hdA12 t s o (.agg #[.int .i64 3,.int .i64 50,.slice A 1 c]) W h.ver (Z1y (Z1y HT.out hb1) h.b)
 have hck:=fun q p U W (h:LwB w1 Z2t (.slice A 1 c) hdA12 W) hU hr hd hn=>Z8B Z2t q p (.agg #[.int .i64 3,.int .i64 50,.slice A 1 c]) U W h.ver hU hr hd hn (Z1y (Z1y HT.out hb1) h.b)
 have hdg:=fun W (h:LwB w1 Z2t (.slice A 1 c) hdA12 W)=>Z4m Z2t (.agg #[.int .i64 3,.int .i64 50,.slice A 1 c]) W h.ver (Z1y (Z1y HT.out hb1) h.b)
 have hdz:=fun W (h:LwB w1 Z2t (.slice A 1 c) hdA12 W)=>Z4m ⟨0,0,[]⟩ (.agg #[.int .i64 0,.int .i64 0,.slice none 0 0]) W ⟨none,0,rfl,RtsV.nil _ _⟩ (Z1y (Z1y HT.out hb1) h.b)
 rw [Zci] at hdg
 rw [Zhn] at hdz
 have HL0:=zh hL0;have HMK:=zh hmk;have HCK:=zh hck;have HDG:=zh hdg;have HDZ:=zh hdz;have HB1:=zh hb1;clear hL0 hmk hck hdg hdz hb1 hR;dsimp only [List.length_cons,List.length_nil,Nat.reduceAdd]
 go_upto_region 4 with fail
 generalize (w1.alloc (.cells #[.int .i64 3,.int .i64 50,.slice A 1 c] 24)).alloc (.cells #[.int .i64 1,.int .i64 4,.int .i64 6,.int .i64 2] 26)=w2 at *
 obtain ⟨q0,q1,q2,q3,q4,q5,q6⟩:=Z2w HL0.out
 go_wp2_with fail;have hm:=HMK.out 60 5 6 w2 HL0.out
 rw [Z7z] at hm
 refine hm.mono ?_
 rintro e w3 ⟨QV,rfl,hq,hb3⟩;obtain ⟨A1,c1,rfl,hI1⟩:=Z7y hq
 obtain ⟨nv,hnv⟩:∃ nv,(Value.slice A1 hdQ12.nights.length c1)=nv:=⟨_,rfl⟩
 have hone:(qtC hdQ12 nv).all (·.oneCell')=true:=by rw [← hnv];exact Z0A _ _ _ _
 have hqv:∀ W p,QbK p hdQ12 nv W→QtV W W.heap.size (.agg (qtC hdQ12 nv)) hdQ12:=by rw [← hnv];exact fun W p h=>h.v
 have hqv2:∀ W p,QbK p { hdQ12 with total:=40001 } nv W→QtV W W.heap.size (.agg (qtC { hdQ12 with total:=40001 } nv)) { hdQ12 with total:=40001 }:=by rw [← hnv];exact fun W p h=>h.v
 rw [hnv] at hI1 ⊢
 clear hnv;have hL3:=HL0.out.on hb3
 have hal:=(Below.refl w3.heap.size w3).alloc (zn _) (.cells (qtC hdQ12 nv) 32)
 have hL4:=hL3.on hal
 have hQ4:=QbK.new (q:=hdQ12) hI1
 obtain ⟨q0,q1,q2,q3,q4,q5,q6⟩:=Z2w hL4
 have hz3:=hL3.b.size
 have HL4:=zh hL4;have HQ4:=zh hQ4;have HQV:=zh hqv;have HQV2:=zh hqv2;clear hL4 hQ4 hqv hqv2 hL3 hal hb3 HL0 hm hq hI1;dsimp only
 go_upto_region 5 with (refine Z0t rfl _ _ rfl _ _ rfl rfl rfl (Z2s _ _) hone ?_)
 generalize w3.alloc (.cells (qtC hdQ12 nv) 32)=w4 at *
 go_wp2_with fail;have hm:=HMK.out 49 5 6 w4 HL4.out
 rw [ZeF] at hm
 refine hm.mono ?_
 rintro e w5 ⟨QV,rfl,hq,hb5⟩;obtain ⟨A2,c2,rfl,hI2⟩:=Z7y hq
 have hone2:=Z0A Qt.zero A2 Qt.zero.nights.length c2
 have hL5:=HL4.out.on hb5
 have hQ5:=HQ4.out.on hb5
 have hal:=(Below.refl w5.heap.size w5).alloc (zn _) (.cells (qtC Qt.zero (.slice A2 Qt.zero.nights.length c2)) 32)
 have hL6:=hL5.on hal
 have hQ6:=hQ5.on hal
 have HL6:=zh hL6;have HQ6:=zh hQ6;clear hL6 hQ6 hL5 hQ5 hal HL4 HQ4 hm hq hI2 hb5 q0 q1 q2 q3 q4 q5 q6;dsimp only
 go_upto_region 6 with (refine Z0t rfl _ _ rfl _ _ rfl rfl rfl (Z2s _ _) hone2 ?_)
 generalize w5.alloc (.cells (qtC Qt.zero (.slice A2 Qt.zero.nights.length c2)) 32)=w6 at *
 have hpu:=Z9a 5 w6 (by decide)
 rw [show (5:Int).toNat=5 from rfl] at hpu
 have hk1:=ZeG
 have hk2:=ZeH
 generalize powP 4 5=pb at *
 have HPU:=zh hpu;have HK1:=zh hk1;have HK2:=zh hk2;clear hpu hk1 hk2;go_wp2_with fail;refine HPU.out.mono ?_
 rintro e w7 ⟨rfl,hb7⟩;have hL7:=HL6.out.on hb7
 have hQ7:=HQ6.out.on hb7
 obtain ⟨q0,q1,q2,q3,q4,q5,q6⟩:=Z2w hL7
 have hqh:=hQ7.h
 have HL7:=zh hL7;have HQ7:=zh hQ7;have HQH:=zh hqh;clear hL7 hQ7 hqh HL6 HQ6 HPU hb7;go_wp2_with (refine Z0x rfl _ rfl w3.heap.size rfl _ (Z2s _ _) _ HQH.out ?_)
 have hc:=HCK.out hdQ12 (pb:Nat) (.agg (qtC hdQ12 nv)) w7 HL7.out (HQV.out _ _ HQ7.out) Z3h.1 Z3h.2.1 Z3h.2.2
 rw [HK1.out] at hc
 refine hc.mono ?_
 rintro e w8 ⟨rfl,hb8⟩;have hL8:=HL7.out.on hb8
 have hQ8:=HQ7.out.on hb8
 have hal:=(Below.refl w8.heap.size w8).alloc (zn _) (.cells (qtC hdQ12 nv) 32)
 have hO9:=QbK.new (q:=hdQ12) (W:=w8) (nv:=nv) (hQ8.i.up (Nat.le_of_lt hQ8.lt))
 have hL9:=hL8.on hal
 have hQ9:=hQ8.on hal
 have hqh8:=hQ8.h
 have hz8:=hL8.b.size
 have hlt8:=hQ8.lt
 have hL9b:w1.heap.size+2≤w8.heap.size:=by have:=(zs hL8.ha);omega
 have HL9:=zh hL9;have HQ9:=zh hQ9;have HO9:=zh hO9;have HQH8:=zh hqh8;have HL9B:=zh hL9b;clear hL9 hQ9 hO9 hqh8 hL9b HL7 HQ7 HQH hb8 hc hL8 hQ8 hal q0 q1 q2 q3 q4 q5 q6;dsimp only
 go_upto_region 9 with (first | (refine Z0x rfl _ rfl w3.heap.size rfl _ (Z2s _ _) _ HQH8.out ?_) | (refine Z0t rfl _ _ rfl _ _ rfl rfl rfl (Z2s _ _) hone ?_))
 generalize w8.alloc (.cells (qtC hdQ12 nv) 32)=w9 at *
 have t2:w9.cell? ⟨w8.heap.size,2,none⟩=some (.int .i64 40000):=HO9.out.c 2 _ rfl
 have f2:=HO9.out.f 2
 have hO10:=HO9.out.set2 40001
 have hL10:=HL9.out.far ((Below.refl (w1.heap.size+2) w9).setCell (p:=⟨w8.heap.size,2,none⟩) (by show w1.heap.size+2≤w8.heap.size;have:=HL9B.out;omega) (.int .i64 40001))
 have hQ10:=HQ9.out.far ((Below.refl w8.heap.size w9).setCell (p:=⟨w8.heap.size,2,none⟩) (zn _) (.int .i64 40001)) hlt8
 have HO10:=zh hO10;have HL10:=zh hL10;have HQ10:=zh hQ10;clear hO10 hL10 hQ10 HO9 HL9 HQ9;go_upto_region 10 with fail
 generalize w9.setCell ⟨w8.heap.size,2,none⟩ (.int .i64 40001)=w10 at *
 clear t2 f2;obtain ⟨q0,q1,q2,q3,q4,q5,q6⟩:=Z2w HL10.out
 have hoh:=HO10.out.h
 have HOH:=zh hoh;clear hoh;go_wp2_with (refine Z0x rfl _ rfl w8.heap.size rfl _ (Z2s _ _) _ HOH.out ?_)
 have hc:=HCK.out { hdQ12 with total:=40001 } (pb:Nat) (.agg (qtC { hdQ12 with total:=40001 } nv)) w10 HL10.out (HQV2.out _ _ HO10.out) Zcj Z3h.2.1 Z3h.2.2
 rw [HK2.out] at hc
 refine hc.mono ?_
 rintro e w11 ⟨rfl,hb11⟩;have hL11:=HL10.out.on hb11
 have hQ11:=HQ10.out.on hb11
 clear q0 q1 q2 q3 q4 q5 q6;obtain ⟨q0,q1,q2,q3,q4,q5,q6⟩:=Z2w hL11
 have HL11:=zh hL11;have HQ11:=zh hQ11;clear hL11 hQ11 HL10 HQ10 HO10 HOH hb11 hc;go_wp2_with fail;refine (HDG.out w11 HL11.out).mono ?_
 rintro e w12 ⟨hb12,rfl⟩;have hL12:=HL11.out.on hb12
 have hQ12:=HQ11.out.on hb12
 have HL12:=zh hL12;have HQ12:=zh hQ12;clear hL12 hQ12 HL11 HQ11 hb12 q0 q1 q2 q3 q4 q5 q6;simp only [if_true,Option.getD_some,reduceCtorEq,if_false]
 go_wp2_with fail;refine (HDZ.out w12 HL12.out).mono ?_
 rintro e w13 ⟨hb13,rfl⟩;have hL13:=HL12.out.on hb13
 have hQ13:=HQ12.out.on hb13
 obtain ⟨q0,q1,q2,q3,q4,q5,q6⟩:=Z2w hL13
 have hqh13:=hQ13.h
 have hsm:=Zhp
 generalize Z2t.dig=dg at *
 have HL13:=zh hL13;have HQ13:=zh hQ13;have HQH13:=zh hqh13;have HSM:=zh hsm;clear hL13 hQ13 hqh13 hsm HL12 HQ12 hb13;simp only [Bool.false_eq_true,if_false,if_true,Option.getD_none]
 obtain ⟨k0,k1,k2,k3,k4,k5,k6,k7,k8,k9,k10,k11⟩:=HQ13.out.all
 have hI2:Z02 (w13.alloc (.cells #[.int .i64 20000,.int .i64 20000] 3)) (w13.alloc (.cells #[.int .i64 20000,.int .i64 20000] 3)).heap.size (.slice (some ⟨w13.heap.size,0,none⟩) 2 2) [20000,20000]:=(Z4b (W:=w13) 20000 20000).up (by simp)
 have hal:=(Below.refl w13.heap.size w13).alloc (zn _) (.cells #[.int .i64 20000,.int .i64 20000] 3)
 have hQ14:=HQ13.out.on hal
 have hrs:=Ziv hdQ12 ⟨3,60,40000,20000,hdA12,[20000,20000],dg,0,0⟩ (.agg #[.int .i64 hdQ12.ver,.int .i64 hdQ12.time,.int .i64 hdQ12.total,.int .i64 hdQ12.keep,.int .i64 hdQ12.ask.kind,.int .i64 hdQ12.ask.fr,.int .i64 hdQ12.ask.un,.int .i64 hdQ12.ask.pers,nv,.int .u64 (hdQ12.dig:Nat),.int .i64 hdQ12.sE,.int .i64 hdQ12.sS])
  (.agg #[.int .i64 3,.int .i64 60,.int .i64 40000,.int .i64 20000,.int .i64 1,.int .i64 4,.int .i64 6,.int .i64 2,.slice (some ⟨w13.heap.size,0,none⟩) 2 2,.int .u64 (dg:Nat),.int .i64 0,.int .i64 0]) _ (HQV.out _ _ hQ14) ⟨some ⟨w13.heap.size,0,none⟩,2,rfl,hI2⟩ (by show (2:Nat)≤1000000;decide)
 rw [HSM.out] at hrs
 have hend:=HB1.out.trans ((HL13.out.b.trans (hal.mono HL13.out.b.size)).mono HB1.out.size)
 have HRS:=zh hrs;have HEND:=zh hend;clear hrs hend hI2 hal hQ14;go_wp2_with fail;refine HRS.out.mono ?_
 rintro e w14 ⟨rfl,hb14⟩;have hB14:=Z00 HEND.out hb14
 have HB14:=zh hB14;clear hB14;go_wp2_with fail;go_ret
 exact ⟨rfl,HB14.out⟩
end
section
open Go.RowKit Lx Px Qx
attribute [local irreducible] Qx.sigE Qx.sigS Qx.Vr.dig Qx.powP
theorem Zf1 {v:Vr}{a:Qx.Ask}{t s o:Int}{q:Qt}(h:Z5a v a t s o=(q,0)):(∀ x∈q.says,0≤x∧x≤4294967295)∧q.dig<18446744073709551616∧q.nights.length≤60∧q.ver=v.num∧q.time=t∧q.ask=a∧Z0g v.rs a=.ok (q.nights,q.keep)∧q.total=q.nights.sum:=by
 obtain ⟨h1,h2,h3,h4,h5,h6,W,hw,hq⟩:=Z7p h
 obtain ⟨p1,p2,p3,p4,p5,p6⟩:=Z3f hw
 obtain ⟨hub,htv0,htv1,hnu0,hnu1⟩:=Z75 h1
 have hd:=Zb8 v;have ht:0≤t∧t≤1000000000:=by simpa [Z2g] using h3
 obtain ⟨f1,f2,f3,f4,_⟩:=Z1F p5
 have f5:=Z5v p5;have f6:=Z7n p5;obtain ⟨a1,a2,a3,a4,a5,a6,a7,a8⟩:=Z3k h2
 have e:q.says=W.says:=by rw [hq];rfl
 have e1:q.dig=W.dig:=by rw [hq]
 have e2:q.nights=W.nights:=by rw [hq]
 have e3:q.ver=W.ver:=by rw [hq]
 have e4:q.time=W.time:=by rw [hq]
 have e5:q.ask=W.ask:=by rw [hq]
 have e6:q.keep=W.keep:=by rw [hq]
 have e7:q.total=W.total:=by rw [hq]
 rw [e,e1,e2,e3,e4,e5,e6,e7]
 refine ⟨?_,by omega,f5,p1,p2,p3,p5,p6⟩
 clear hq e e1 e2 e3 e4 e5 e6 e7 h hw;intro x hx
 simp only [Qt.says,List.mem_append,List.mem_cons,List.not_mem_nil,or_false] at hx
 rw [← p4] at hd
 rcases hx with (hx | hx) | hx
 · rcases hx with rfl | rfl | rfl | rfl | rfl | rfl | rfl | rfl | rfl
   all_goals (try rw [p3]);omega
 · have:=f6 x hx;omega
 · rcases hx with rfl | rfl
   all_goals omega
namespace Qx
def Qt.chg (q:Qt)(k:Int)(at0:Nat)(b:Int):Qt :=
 if k=0 then { q with nights:=q.nights.set at0 (q.nights.getD at0 0+b) }
 else if k=1 then { q with total:=q.total+b }
 else if k=2 then { q with keep:=q.keep+b }
 else if k=3 then { q with ver:=q.ver+b }
 else { q with dig:=(((q.dig:Int)+b) % 18446744073709551616).toNat }
end Qx
theorem Zhq (q:Qt)(k:Int)(at0:Nat)(b:Int):(q.chg k at0 b).ask=q.ask∧(q.chg k at0 b).time=q.time:=by
 unfold Qt.chg
 split
 · exact ⟨rfl,rfl⟩
 · split
   · exact ⟨rfl,rfl⟩
   · split
     · exact ⟨rfl,rfl⟩
     · split <;> exact ⟨rfl,rfl⟩
theorem Zhr {q:Qt}{k:Int}{at0:Nat}{b:Int}(ha:at0<q.nights.length)(hb:b≠0)(h1 : -2147483648≤b)(h2:b≤2147483647)(_hd:q.dig<18446744073709551616):(q.chg k at0 b).same q=false:=by
 rw [← Bool.not_eq_true,Qt.same_iff]
 unfold Qt.chg
 split
 · rintro ⟨_,_,_,_,_,h,_⟩
   have h':q.nights.set at0 (q.nights.getD at0 0+b)=q.nights:=h
   have h3:=congrArg (fun l=>l.getD at0 0) h'
   simp only [List.getD_eq_getElem?_getD,List.getElem?_set,ha,if_true,List.getElem?_eq_getElem ha,Option.getD_some] at h3
   omega
 · split
   · rintro ⟨_,_,h,_⟩
     have h':q.total+b=q.total:=h
     omega
   · split
     · rintro ⟨_,_,_,h,_⟩
       have h':q.keep+b=q.keep:=h
       omega
     · split
       · rintro ⟨h,_⟩
         have h':q.ver+b=q.ver:=h
         omega
       · rintro ⟨_,_,_,_,_,_,h⟩
         have h':(((q.dig:Int)+b) % 18446744073709551616).toNat=q.dig:=h
         omega
theorem Zhs {q:Qt}{k:Int}{at0:Nat}{b:Int}(hs:∀ x∈q.says,0≤x∧x≤4294967295)(hd:q.dig<18446744073709551616)(hn:q.nights.length≤60)(ha:at0<q.nights.length)(h1 : -2147483648≤b)(h2:b≤2147483647) :
 (∀ x∈(q.chg k at0 b).says,-9223372036854775808≤x∧x≤9223372036854775807)∧(q.chg k at0 b).dig<18446744073709551616∧(q.chg k at0 b).nights.length≤60:=by
 have s1:=hs q.ver (by simp [Qt.says])
 have s2:=hs q.time (by simp [Qt.says])
 have s3:=hs q.total (by simp [Qt.says])
 have s4:=hs q.keep (by simp [Qt.says])
 have s5:=hs q.ask.kind (by simp [Qt.says])
 have s6:=hs q.ask.fr (by simp [Qt.says])
 have s7:=hs q.ask.un (by simp [Qt.says])
 have s8:=hs q.ask.pers (by simp [Qt.says])
 have s9:∀ x∈q.nights,0≤x∧x≤4294967295:=fun x hx=>hs x (by simp [Qt.says,hx])
 have key:∀ (Q:Qt),Q.ask=q.ask→Q.time=q.time→(-9223372036854775808≤Q.ver∧Q.ver≤9223372036854775807)→(-9223372036854775808≤Q.total∧Q.total≤9223372036854775807)→(-9223372036854775808≤Q.keep∧Q.keep≤9223372036854775807)→(∀ x∈Q.nights,-9223372036854775808≤x∧x≤9223372036854775807)→Q.dig<18446744073709551616→Q.nights.length≤60 →
  (∀ x∈Q.says,-9223372036854775808≤x∧x≤9223372036854775807)∧Q.dig<18446744073709551616∧Q.nights.length≤60:=by
  intro Q e1 e2 r1 r2 r3 r4 r5 r6
  refine ⟨?_,r5,r6⟩
  intro x hx
  simp only [Qt.says,e1,e2,List.mem_append,List.mem_cons,List.not_mem_nil,or_false] at hx
  rcases hx with (hx | hx) | hx
  · rcases hx with rfl | rfl | rfl | rfl | rfl | rfl | rfl | rfl | rfl
    all_goals omega
  · exact r4 x hx
  · rcases hx with rfl | rfl
    all_goals omega
 have s9':∀ x∈q.nights,-9223372036854775808≤x∧x≤9223372036854775807:=fun x hx=>by have:=s9 x hx;omega
 obtain ⟨e1,e2⟩:=Zhq q k at0 b
 refine key _ e1 e2 ?_ ?_ ?_ ?_ ?_ ?_
 all_goals (clear key e1 e2;unfold Qt.chg;repeat' split)
 all_goals (try dsimp only)
 all_goals (try omega)
 all_goals (try exact s9')
 · intro x hx
   rcases List.mem_or_eq_of_mem_set hx with hx | rfl
   · exact s9' x hx
   · have:q.nights.getD at0 0∈q.nights:=by
      rw [List.getD_eq_getElem?_getD,List.getElem?_eq_getElem ha];exact List.getElem_mem ha
     have:=s9 _ this
     omega
 · rw [List.length_set];exact hn
namespace Qx
def Vr.nxt (v:Vr):Vr:=⟨1+v.num % 1000000,v.time,v.rs⟩
end Qx
theorem Zmc {v:Vr}(h:v.okB=true):v.nxt.okB=true∧v.nxt.num≠v.num:=by
 obtain ⟨hub,htv0,htv1,hnu0,hnu1⟩:=Z75 h
 have h':=h
 unfold Vr.okB Vr.nxt at *
 simp only [Bool.and_eq_true,decide_eq_true_eq] at h ⊢
 obtain ⟨⟨⟨⟨_,_⟩,a⟩,b⟩,c⟩:=h
 exact ⟨⟨⟨⟨⟨by omega,by omega⟩,a⟩,b⟩,c⟩,by omega⟩
end
section
open Go.RowKit Lx Px Qx
attribute [local irreducible] Qx.sigE Qx.sigS Qx.Vr.dig Qx.powP
theorem QbK.set1 {p:Nat}{q:Qt}{nv:Value}{W:World}(h:QbK p q nv W)(x:Int):QbK p { q with time:=x } nv (W.setCell ⟨p,1,none⟩ (.int .i64 x)):=by
 have h':=h.h
 refine ⟨?_,h.i.on ((Below.refl p W).setCell (p:=⟨p,1,none⟩) (zn _) _)⟩
 unfold qtC at h'
 simp [World.setCell,Array.getElem?_modify,h',qtC]
end
end Go.Proofs.YtnepkoepbapgeaaGreatDoor
