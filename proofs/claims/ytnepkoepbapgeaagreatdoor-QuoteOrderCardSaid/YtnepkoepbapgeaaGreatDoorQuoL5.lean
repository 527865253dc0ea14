/-
  Walks: QuoteAgain.
-/
import Derived.Test.YtnepkoepbapgeaaGreatDoorQuoL4
import Derived.Test.YtnepkoepbapgeaaGreatDoorQuoLaw5
namespace Go.Proofs.YtnepkoepbapgeaaGreatDoor
set_option maxRecDepth 100000
open Go.RowKit Lx Px Qx
attribute [local irreducible] Qx.sigE Qx.sigS Qx.Vr.dig Qx.powP
theorem QbK.set1 {p : Nat} {q : Qt} {nv : Value} {W : World} (h : QbK p q nv W) (x : Int) : QbK p { q with time:=x } nv (W.setCell ⟨p,1,none⟩ (.int .i64 x)):=by
 have h':=h.h
 refine ⟨?_,h.i.on ((Below.refl p W).setCell (p:=⟨p,1,none⟩) (zn _) _)⟩
 unfold qtC at h'
 simp [World.setCell,Array.getElem?_modify,h',qtC]
theorem QbK.set9 {p : Nat} {q : Qt} {nv : Value} {W : World} (h : QbK p q nv W) (x : Nat) : QbK p { q with dig:=x } nv (W.setCell ⟨p,9,none⟩ (.int .u64 (x : Nat))):=by
 have h':=h.h
 refine ⟨?_,h.i.on ((Below.refl p W).setCell (p:=⟨p,9,none⟩) (zn _) _)⟩
 unfold qtC at h'
 simp [World.setCell,Array.getElem?_modify,h',qtC]
def qtA (q : Qt) (nv : Value) : Value:=.agg #[.int .i64 q.ver,.int .i64 q.time,.int .i64 q.total,.int .i64 q.keep,.int .i64 q.ask.kind,.int .i64 q.ask.fr,.int .i64 q.ask.un,.int .i64 q.ask.pers,nv,.int .u64 (q.dig : Nat),.int .i64 q.sE,.int .i64 q.sS]
set_option maxHeartbeats 16000000 in
theorem Zkx (v : Vr) (a : Qx.Ask) (l1 l2 s o : Int) (V : Value) (w : World) (hV : VrV w w.heap.size V v) (hl1 : 0 ≤ l1∧l1 ≤ 4294967295) (hl2 : 0 ≤ l2∧l2 ≤ 4294967295) (ht : Tabs w.heap.size w) (hM : Mx w w.heap.size) :
 Calls Tryz.prog 5 #[V,askV a,.int .u32 l1,.int .u32 l2,.int .i64 s,.int .i64 o] w fun e w'=>e = .returned (.bool true)∧Below w.heap.size w w':=by
 obtain ⟨A,c,rfl,hR⟩:=hV
 have hB0:=LwB.new w v (.slice A v.rs.length c) a hR
 have hhd:=fun W (h : LwB w v (.slice A v.rs.length c) a W)=>Z4C W (Z0H ht h.b) (Zee hM h.b)
 have hus:=fun W (h : LwB w v (.slice A v.rs.length c) a W)=>Z54 v a s _ W h.ver
 have hmk:=fun t s o W (h : LwB w v (.slice A v.rs.length c) a W)=>Z3t v a t s o _ W h.ver (Z0H ht h.b)
 have hsc:=zh fun W=>Z5i o W
 unfold vrV
 simp only [askV] at *
 obtain ⟨q0,q1,q2,q3,q4,q5,q6⟩:=hB0.cells
 have HB0:=zh hB0
 have HHD:=zh hhd
 have HUS:=zh hus
 have HMK:=zh hmk
 have HT:=zh ht
 have HM:=zh hM
 have HR:=zh hR
 clear hB0 hhd hus hmk ht hM hR
 go_enter Tryz.func5,Tryz.ntmps5
 go_wp2_with fail
 refine (HHD.out _ HB0.out).mono ?_
 rintro e w2 ⟨rfl,hb2⟩
 have hB2:=HB0.out.on hb2
 obtain ⟨q0,q1,q2,q3,q4,q5,q6⟩:=hB2.cells
 have HB2:=zh hB2
 clear hB2
 clear HB0 hb2 HHD
 go_wp2_with fail
 refine (HUS.out _ HB2.out).mono ?_
 rintro e w3 ⟨⟨b,rfl,hb⟩,hb3⟩
 have hB3:=HB2.out.on hb3
 clear q0 q1 q2 q3 q4 q5 q6
 obtain ⟨q0,q1,q2,q3,q4,q5,q6⟩:=hB3.cells
 have HB3:=zh hB3
 clear hB3
 clear HB2 hb3 HUS
 cases b with
 | false =>
  go_wp2_with fail
  go_ret
  exact ⟨rfl,HB3.out.b⟩
 | true =>
  obtain ⟨h1,h2,h3⟩:=hb rfl
  clear hb
  obtain ⟨hub,htv0,htv1,hnu0,hnu1⟩:=Z3A h1
  have htm : Z0y v.time = true:=by simp [Z0y]; omega
  go_wp2_with fail
  refine (hsc.out _).mono ?_
  rintro e w' ⟨rfl,rfl⟩
  cases h4 : secB o with
  | false =>
   go_wp2_with fail
   go_ret
   exact ⟨rfl,HB3.out.b⟩
  | true =>
   obtain ⟨T1,hT1⟩ : ∃ T,min 1000000000 (v.time + l1) = T:=⟨_,rfl⟩
   obtain ⟨T2,hT2⟩ : ∃ T,min 1000000000 (v.time + l2) = T:=⟨_,rfl⟩
   have g1 : v.time ≤ T1∧T1 ≤ 1000000000:=by omega
   have g2 : v.time ≤ T2∧T2 ≤ 1000000000:=by omega
   have k1 : Z0y T1 = true:=by simp [Z0y]; omega
   have k2 : Z0y T2 = true:=by simp [Z0y]; omega
   have hw : IntKind.i64.wrap (v.time + l1) = v.time + l1:=IntWalk.i64_in _ (by omega)
   have hw2 : IntKind.i64.wrap l1 = l1:=IntWalk.i64_in _ (by omega)
   have hw3 : IntKind.i64.wrap (v.time + l2) = v.time + l2:=IntWalk.i64_in _ (by omega)
   have hw4 : IntKind.i64.wrap l2 = l2:=IntWalk.i64_in _ (by omega)
   obtain ⟨Q1,Q2,er,hm1,hm2,hsm,hln⟩:=Zif (o:=7) (o':=8) h1 h2 k1 k2 h3 h4 (by decide) (by decide) g1.1 g2.1
   have d0 : (er != er) = false:=by simp
   have HM1:=zh hm1
   have HM2:=zh hm2
   have HSM:=zh hsm
   clear hm1 hm2 hsm
   clear k1 k2 h4
   go_wp2_with fail
   have hm:=HMK.out T1 s 7 w3 HB3.out
   rw [HM1.out] at hm
   refine hm.mono ?_
   rintro e w4 ⟨QV,rfl,hq,hb4⟩
   obtain ⟨A4,c4,rfl,hI4⟩:=Z1i hq
   have hone4:=Z0s Q1 A4 Q1.nights.length c4
   have hal:=(Below.refl w4.heap.size w4).alloc (zn _) (.cells (qtC Q1 (.slice A4 Q1.nights.length c4)) 32)
   have hX:=(HB3.out.on hb4).on hal
   have hY:=QbK.new (q:=Q1) hI4
   clear q0 q1 q2 q3 q4 q5 q6
   obtain ⟨q0,q1,q2,q3,q4,q5,q6⟩:=hX.cells
   have HB5:=zh hX
   have Q1B:=zh hY
   clear hX hY
   clear HB3 hb4 hal hm hq hI4
   dsimp only
   go_upto_region 5 with (refine Z06 rfl _ _ rfl _ _ rfl rfl rfl (Z0F _ _) hone4 ?_)
   generalize w4.alloc (.cells (qtC Q1 (.slice A4 Q1.nights.length c4)) 32) = w5 at *
   go_wp2_with fail
   have hm:=HMK.out T2 o 8 w5 HB5.out
   rw [HM2.out] at hm
   refine hm.mono ?_
   rintro e w6 ⟨QV,rfl,hq,hb6⟩
   obtain ⟨A6,c6,rfl,hI6⟩:=Z1i hq
   have hone6:=Z0s Q2 A6 Q2.nights.length c6
   have hal:=(Below.refl w6.heap.size w6).alloc (zn _) (.cells (qtC Q2 (.slice A6 Q2.nights.length c6)) 32)
   have hX:=(HB5.out.on hb6).on hal
   have hY:=QbK.new (q:=Q2) hI6
   have hP7:=(Q1B.out.on hb6).on hal
   have hlt7 : w4.heap.size < w6.heap.size:=Nat.lt_of_lt_of_le Q1B.out.lt hb6.size
   have hfr : w.heap.size + 2 ≤ w6.heap.size:=by have:=(Array.getElem?_eq_some_iff.1 (HB5.out.on hb6).ha).1; omega
   clear q0 q1 q2 q3 q4 q5 q6
   obtain ⟨q0,q1,q2,q3,q4,q5,q6⟩:=hX.cells
   have HB7:=zh hX
   have Q2B:=zh hY
   clear hX hY
   clear HB5 hb6 hal hm hq hI6
   dsimp only
   go_upto_region 8 with (refine Z06 rfl _ _ rfl _ _ rfl rfl rfl (Z0F _ _) hone6 ?_)
   generalize w6.alloc (.cells (qtC Q2 (.slice A6 Q2.nights.length c6)) 32) = w7 at *
   have f1:=Q2B.out.f 1
   have p1 : w7.cell? ⟨w4.heap.size,1,none⟩ = some (.int .i64 Q1.time):=hP7.c 1 _ rfl
   have m1 : w7.cell? ⟨w6.heap.size,1,none⟩ = some (.int .i64 Q2.time):=Q2B.out.c 1 _ rfl
   go_upto_region 9 with fail
   have hQ8:=Q2B.out.set1 Q1.time
   have hP8:=hP7.far ((Below.refl w6.heap.size w7).setCell (p:=⟨w6.heap.size,1,none⟩) (zn _) (.int .i64 Q1.time)) hlt7
   have hB8:=HB7.out.far ((Below.refl (w.heap.size + 2) w7).setCell (p:=⟨w6.heap.size,1,none⟩) hfr (.int .i64 Q1.time))
   generalize w7.setCell ⟨w6.heap.size,1,none⟩ (.int .i64 Q1.time) = w8 at *
   obtain ⟨p0,p1,p2,p3,p4,p5,p6,p7,p8,p9,p10,p11⟩:=hP8.all
   obtain ⟨m0,m1,m2,m3,m4,m5,m6,m7,m8,m9,m10,m11⟩:=hQ8.all
   have hrs:=Z6f Q1 { Q2 with time:=Q1.time } (qtA Q1 (.slice A4 Q1.nights.length c4)) (qtA { Q2 with time:=Q1.time } (.slice A6 Q2.nights.length c6)) w8 hP8.v hQ8.v (by omega)
   rw [HSM.out] at hrs
   unfold qtA at hrs
   dsimp only at m0 m1 m2 m3 m4 m5 m6 m7 m8 m9 m10 m11 hrs
   have HRS:=zh hrs
   have HB8:=zh hB8
   clear hrs hB8
   clear hP7 HB7 Q2B Q1B hP8 hQ8 q0 q1 q2 q3 q4 q5 q6 f1
   go_wp2_with fail
   refine HRS.out.mono ?_
   rintro e w9 ⟨rfl,hb9⟩
   have hB9:=HB8.out.on hb9
   have HB9:=zh hB9
   clear hB9
   go_wp2_with fail
   go_ret
   exact ⟨rfl,HB9.out.b⟩
end Go.Proofs.YtnepkoepbapgeaaGreatDoor
