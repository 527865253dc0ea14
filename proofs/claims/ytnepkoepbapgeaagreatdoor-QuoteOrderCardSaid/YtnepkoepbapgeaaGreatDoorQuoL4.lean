/-
  Walks: QuoteHonest.
-/
import Derived.Test.YtnepkoepbapgeaaGreatDoorQuoHd
import Derived.Test.YtnepkoepbapgeaaGreatDoorQuoPla
namespace Go.Proofs.YtnepkoepbapgeaaGreatDoor
set_option maxRecDepth 100000
open Go.RowKit Lx Px Qx
attribute [local irreducible] Qx.sigE Qx.sigS Qx.Vr.dig Qx.powP
theorem Zfy {v : Vr} {a : Qx.Ask} {t s o : Int} {q : Qt} (h : Z1v v a t s o = (q,0)) : (∀ x ∈ q.says,-9223372036854775808 ≤ x∧x ≤ 9223372036854775807)∧q.dig < 18446744073709551616∧q.nights.length ≤ 60:=by
 obtain ⟨h1,h2,h3,h4,h5,h6,W,hw,hq⟩:=Z4b h
 obtain ⟨p1,p2,p3,p4,p5,p6⟩:=Z4w hw
 obtain ⟨hub,htv0,htv1,hnu0,hnu1⟩:=Z3A h1
 have hd:=Z9k v
 have hw2 : (⟨v.num,t,W.nights.sum,W.keep,a,W.nights,v.dig,0,0⟩ : Qt) = W:=by
  have:=Z3B (t:=t) p5
  rw [hw] at this
  injection this with this
  exact this.symm
 have ht : 0 ≤ t∧t ≤ 1000000000:=by simpa [Z0y] using h3
 have hr:=Zef hub (Z5x p5) p5 ht ⟨hnu0,hnu1⟩ hd hw2
 have hl:=Z3E p5
 rw [hq]
 refine ⟨hr,?_,hl⟩
 show W.dig < _
 rw [p4]
 exact hd
theorem Zku {v : Vr} {a : Qx.Ask} {t s o e : Int} (h1 : v.okB = true) (h2 : a.okB = true) (h3 : Z0y t = true) (h4 : secB s = true) (h5 : secB o = true) (h6 : v.time ≤ t) (hp : Z0c v.rs a = .error e) : Z1v v a t s o = (.zero,e):=by
 rw [Z6y h1 h2 h3 h4 h5 h6,Z60 hp]
theorem Zkv {v : Vr} {a : Qx.Ask} {t s o kp : Int} {ns : List Int} (h1 : v.okB = true) (h2 : a.okB = true) (h3 : Z0y t = true) (h4 : secB s = true) (h5 : secB o = true) (h6 : v.time ≤ t) (hp : Z0c v.rs a = .ok (ns,kp)) :
 ∃ E S,Z1v v a t s o = (⟨v.num,t,ns.sum,kp,a,ns,v.dig,E,S⟩,0):=by
 rw [Z6y h1 h2 h3 h4 h5 h6,Z3B hp]
 exact ⟨_,_,rfl⟩
set_option maxHeartbeats 16000000 in
theorem Zkw (v : Vr) (a : Qx.Ask) (lt s o : Int) (V : Value) (w : World) (hV : VrV w w.heap.size V v) (hlt : 0 ≤ lt∧lt ≤ 4294967295) (ht : Tabs w.heap.size w) (hM : Mx w w.heap.size) :
 Calls Tryz.prog 4 #[V,askV a,.int .u32 lt,.int .i64 s,.int .i64 o] w fun e w'=>e = .returned (.bool true)∧Below w.heap.size w w':=by
 obtain ⟨A,c,rfl,hR⟩:=hV
 have hB0:=LwB.new w v (.slice A v.rs.length c) a hR
 have hhd:=fun W (h : LwB w v (.slice A v.rs.length c) a W)=>Z4C W (Z0H ht h.b) (Zee hM h.b)
 have hus:=fun W (h : LwB w v (.slice A v.rs.length c) a W)=>Z54 v a s _ W h.ver
 have hmk:=fun t W (h : LwB w v (.slice A v.rs.length c) a W)=>Z3t v a t s o _ W h.ver (Z0H ht h.b)
 have hck:=fun q p U W (h : LwB w v (.slice A v.rs.length c) a W) hU hr hd hn=>Z9j v q p _ U W h.ver hU hr hd hn (Z0H ht h.b)
 have hpr:=fun W (h : LwB w v (.slice A v.rs.length c) a W)=>ZbD v.rs (.slice A v.rs.length c) a W (h.hR.up h.b.size)
 have hsc:=fun W=>Z5i o W
 unfold vrV
 simp only [askV] at hus hmk hpr ⊢
 obtain ⟨q0,q1,q2,q3,q4,q5,q6⟩:=hB0.cells
 have HB0:=zh hB0
 have HHD:=zh hhd
 have HUS:=zh hus
 have HMK:=zh hmk
 have HCK:=zh hck
 have HPR:=zh hpr
 have HSC:=zh hsc
 have HT:=zh ht
 have HM:=zh hM
 have HR:=zh hR
 clear hB0 hhd hus hmk hck hpr hsc ht hM hR
 go_enter Tryz.func4,Tryz.ntmps4
 go_wp2_with fail
 refine (HHD.out _ HB0.out).mono ?_
 rintro e w2 ⟨rfl,hb2⟩
 have hB2:=HB0.out.on hb2
 obtain ⟨q0,q1,q2,q3,q4,q5,q6⟩:=hB2.cells
 have HB2:=zh hB2
 clear hB2
 clear HB0 hb2 HHD
 go_wp2_with fail
 refine (HUS.out _ HB2.out).mono ?_
 rintro e w3 ⟨⟨b,rfl,hb⟩,hb3⟩
 have hB3:=HB2.out.on hb3
 clear q0 q1 q2 q3 q4 q5 q6
 obtain ⟨q0,q1,q2,q3,q4,q5,q6⟩:=hB3.cells
 have HB3:=zh hB3
 clear hB3
 clear HB2 hb3 HUS
 cases b with
 | false =>
  go_wp2_with fail
  go_ret
  exact ⟨rfl,HB3.out.b⟩
 | true =>
  obtain ⟨h1,h2,h3⟩:=hb rfl
  clear hb
  go_wp2_with fail
  refine (HSC.out _).mono ?_
  rintro e w' ⟨rfl,rfl⟩
  cases h4 : secB o with
  | false =>
   go_wp2_with fail
   go_ret
   exact ⟨rfl,HB3.out.b⟩
  | true =>
   obtain ⟨hub,htv0,htv1,hnu0,hnu1⟩:=Z3A h1
   obtain ⟨T,hT⟩ : ∃ T,min 1000000000 (v.time + lt) = T:=⟨_,rfl⟩
   have hT0 : v.time ≤ T∧T ≤ 1000000000:=by omega
   have htT : Z0y T = true:=by simp [Z0y]; omega
   have hw : IntKind.i64.wrap (v.time + lt) = v.time + lt:=IntWalk.i64_in _ (by omega)
   have hw2 : IntKind.i64.wrap lt = lt:=IntWalk.i64_in _ (by omega)
   go_wp2_with fail
   have hm:=HMK.out T w3 HB3.out
   cases hX : Z0c v.rs a with
   | error er =>
    rw [Zku h1 h2 htT h3 h4 hT0.1 hX] at hm
    obtain ⟨e0,_,_⟩:=Z63 hX
    have d5 : (er != 0) = true:=by simpa using e0
    refine hm.mono ?_
    rintro e w4 ⟨QV,rfl,hq,hb4⟩
    obtain ⟨A1,c1,rfl,hI1⟩:=Z1i hq
    have hone:=Z0s Qt.zero A1 Qt.zero.nights.length c1
    have hal:=(Below.refl w4.heap.size w4).alloc (zn _) (.cells (qtC Qt.zero (.slice A1 Qt.zero.nights.length c1)) 32)
    have hB5:=(HB3.out.on hb4).on hal
    have hQ5:=QbK.new (q:=Qt.zero) hI1
    clear q0 q1 q2 q3 q4 q5 q6
    obtain ⟨q0,q1,q2,q3,q4,q5,q6⟩:=hB5.cells
    have hp5:=HPR.out _ hB5
    rw [hX] at hp5
    have HB5:=zh hB5
    have HQ5:=zh hQ5
    have HP5:=zh hp5
    clear hB5 hQ5 hp5
    clear HB3 hb4 hal hm hq hI1
    dsimp only
    go_upto_region 6 with (refine Z06 rfl _ _ rfl _ _ rfl rfl rfl (Z0F _ _) hone ?_)
    generalize w4.alloc (.cells (qtC Qt.zero (.slice A1 Qt.zero.nights.length c1)) 32) = w5 at *
    go_wp2_with fail
    refine HP5.out.mono ?_
    rintro e w6 ⟨hb6,rfl⟩
    have hB6:=HB5.out.on hb6
    have hQ6:=HQ5.out.on hb6
    obtain ⟨k0,k1,k2,k3,k4,k5,k6,k7,k8,k9,k10,k11⟩:=hQ6.all
    have hsq:=Zgj Qt.zero Qt.zero (.agg #[.int .i64 Qt.zero.ver,.int .i64 Qt.zero.time,.int .i64 Qt.zero.total,.int .i64 Qt.zero.keep,.int .i64 Qt.zero.ask.kind,.int .i64 Qt.zero.ask.fr,.int .i64 Qt.zero.ask.un,.int .i64 Qt.zero.ask.pers,.slice A1 Qt.zero.nights.length c1,.int .u64 (Qt.zero.dig : Nat),.int .i64 Qt.zero.sE,.int .i64 Qt.zero.sS])
     (.agg #[.int .i64 0,.int .i64 0,.int .i64 0,.int .i64 0,.int .i64 0,.int .i64 0,.int .i64 0,.int .i64 0,.slice none 0 0,.int .u64 0,.int .i64 0,.int .i64 0]) w6 hQ6.v ⟨none,0,rfl,Z04.nil _ _ _⟩ (by decide)
    rw [show (Qt.zero.same Qt.zero && (decide (Qt.zero.sE = Qt.zero.sE) && decide (Qt.zero.sS = Qt.zero.sS))) = true by decide] at hsq
    have HB6:=zh hB6
    have HQ6:=zh hQ6
    have HSQ:=zh hsq
    clear hB6 hQ6 hsq
    clear HB5 HQ5 HP5 hb6 q0 q1 q2 q3 q4 q5 q6
    go_wp2_with fail
    refine HSQ.out.mono ?_
    rintro e w7 ⟨rfl,hb7⟩
    have hB7:=HB6.out.on hb7
    have HB7:=zh hB7
    clear hB7
    go_wp2_with fail
    go_ret
    exact ⟨rfl,HB7.out.b⟩
   | ok p =>
    obtain ⟨ns,kp⟩:=p
    obtain ⟨E,S,hmq⟩:=Zkv h1 h2 htT h3 h4 hT0.1 hX
    obtain ⟨Q,hQ⟩ : ∃ Q : Qt,(⟨v.num,T,ns.sum,kp,a,ns,v.dig,E,S⟩ : Qt) = Q:=⟨_,rfl⟩
    rw [hQ] at hmq
    rw [hmq] at hm
    obtain ⟨rg1,rg2,rg3⟩:=Zfy hmq
    have hcm:=Z9u hmq
    have hme:=ZfG h1 h2 h3 h4
    clear hQ
    refine hm.mono ?_
    rintro e w4 ⟨QV,rfl,hq,hb4⟩
    obtain ⟨A1,c1,rfl,hI1⟩:=Z1i hq
    have hone:=Z0s Q A1 Q.nights.length c1
    have hal:=(Below.refl w4.heap.size w4).alloc (zn _) (.cells (qtC Q (.slice A1 Q.nights.length c1)) 32)
    have hB5:=(HB3.out.on hb4).on hal
    have hQ5:=QbK.new (q:=Q) hI1
    clear q0 q1 q2 q3 q4 q5 q6
    obtain ⟨q0,q1,q2,q3,q4,q5,q6⟩:=hB5.cells
    have hp5:=HPR.out _ hB5
    rw [hX] at hp5
    have HB5:=zh hB5
    have HQ5:=zh hQ5
    have HP5:=zh hp5
    have RG1:=zh rg1
    have HCM:=zh hcm
    have HME:=zh hme
    clear hB5 hQ5 hp5 rg1 hcm hme
    clear HB3 hb4 hal hm hq hI1
    dsimp only
    go_upto_region 6 with (refine Z06 rfl _ _ rfl _ _ rfl rfl rfl (Z0F _ _) hone ?_)
    generalize w4.alloc (.cells (qtC Q (.slice A1 Q.nights.length c1)) 32) = w5 at *
    go_wp2_with fail
    refine HP5.out.mono ?_
    rintro e w6 ⟨hb6,A2,rfl,_,_⟩
    have hB6:=HB5.out.on hb6
    have hQ6:=HQ5.out.on hb6
    have hpu:=Z9H s w6 h3
    generalize powP 4 s.toNat = pb at *
    have HB6:=zh hB6
    have HQ6:=zh hQ6
    have HPU:=zh hpu
    clear hB6 hQ6 hpu
    clear HB5 HQ5 HP5 hb6 q0 q1 q2 q3 q4 q5 q6
    go_wp2_with fail
    refine HPU.out.mono ?_
    rintro e w7 ⟨rfl,hb7⟩
    have hB7:=HB6.out.on hb7
    have hQ7:=HQ6.out.on hb7
    have hqh:=hQ7.h
    obtain ⟨q0,q1,q2,q3,q4,q5,q6⟩:=hB7.cells
    have HB7:=zh hB7
    have HQ7:=zh hQ7
    have HQH:=zh hqh
    clear hB7 hQ7 hqh
    clear HB6 HQ6 HPU hb7
    go_wp2_with (refine Z0g rfl _ rfl w4.heap.size rfl _ (Z0F _ _) _ HQH.out ?_)
    have hc:=HCK.out Q (pb : Nat) _ w7 HB7.out HQ7.out.v RG1.out rg2 (by omega)
    rw [HCM.out] at hc
    refine hc.mono ?_
    rintro e w8 ⟨rfl,hb8⟩
    have hB8:=HB7.out.on hb8
    clear q0 q1 q2 q3 q4 q5 q6
    obtain ⟨q0,q1,q2,q3,q4,q5,q6⟩:=hB8.cells
    have hw1 : IntKind.i64.wrap (v.time - 1) = v.time - 1:=IntWalk.i64_in _ (by omega)
    have hm:=HMK.out (v.time - 1) w8 hB8
    rw [HME.out] at hm
    have HB8:=zh hB8
    have HM8:=zh hm
    clear hB8 hm
    clear HB7 HQ7 HQH hb8 hc
    dsimp only
    go_wp2_with fail
    refine HM8.out.mono ?_
    rintro e w9 ⟨QV,rfl,hq,hb9⟩
    obtain ⟨A3,c3,rfl,_⟩:=Z1i hq
    have hone3:=Z0s Qt.zero A3 Qt.zero.nights.length c3
    have hal:=(Below.refl w9.heap.size w9).alloc (zn _) (.cells (qtC Qt.zero (.slice A3 Qt.zero.nights.length c3)) 32)
    have hB10:=(HB8.out.on hb9).on hal
    clear q0 q1 q2 q3 q4 q5 q6
    obtain ⟨q0,q1,q2,q3,q4,q5,q6⟩:=hB10.cells
    have HB10:=zh hB10
    clear hB10
    clear HB8 hb9 hal hq HM8
    dsimp only
    by_cases h0 : v.time = 0
    · have d0 : (v.time == 0) = true:=by simpa using h0
      rw [if_pos h0]
      go_upto_region 14 with (refine Z06 rfl _ _ rfl _ _ rfl rfl rfl (Z0F _ _) hone3 ?_)
      go_wp2_with fail
      go_ret
      exact ⟨rfl,HB10.out.b⟩
    · rw [if_neg h0]
      go_upto_region 14 with (refine Z06 rfl _ _ rfl _ _ rfl rfl rfl (Z0F _ _) hone3 ?_)
      go_wp2_with fail
      go_ret
      exact ⟨rfl,HB10.out.b⟩
end Go.Proofs.YtnepkoepbapgeaaGreatDoor
