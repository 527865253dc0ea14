/-
  Walks: QuoteSums.
-/
import Derived.Test.YtnepkoepbapgeaaGreatDoorQuoL5
import Derived.Test.YtnepkoepbapgeaaGreatDoorQuoNgt
namespace Go.Proofs.YtnepkoepbapgeaaGreatDoor
set_option maxRecDepth 100000
open Go.RowKit Lx Px Qx
attribute [local irreducible] Qx.sigE Qx.sigS Qx.Vr.dig Qx.powP
set_option maxHeartbeats 16000000 in
theorem Zky (v : Vr) (a : Qx.Ask) (s : Int) (V : Value) (w : World) (hV : VrV w w.heap.size V v) (ht : Tabs w.heap.size w) (hM : Mx w w.heap.size) :
 Calls Tryz.prog 8 #[V,askV a,.int .i64 s] w fun e w'=>e = .returned (.bool true)∧Below w.heap.size w w':=by
 obtain ⟨A,c,rfl,hR⟩:=hV
 have hB0:=LwB.new w v (.slice A v.rs.length c) a hR
 have hhd:=fun W (h : LwB w v (.slice A v.rs.length c) a W)=>Z4C W (Z0H ht h.b) (Zee hM h.b)
 have hus:=fun W (h : LwB w v (.slice A v.rs.length c) a W)=>Z54 v a s _ W h.ver
 have hmk:=fun t s o W (h : LwB w v (.slice A v.rs.length c) a W)=>Z3t v a t s o _ W h.ver (Z0H ht h.b)
 have hng:=zh fun n c' r W (h : LwB w v (.slice A v.rs.length c) a W)=>Zih v.rs (.slice A v.rs.length c) a n c' r W (h.hR.up h.b.size)
 unfold vrV
 simp only [askV] at *
 obtain ⟨q0,q1,q2,q3,q4,q5,q6⟩:=hB0.cells
 have HB0:=zh hB0
 have HHD:=zh hhd
 have HUS:=zh hus
 have HMK:=zh hmk
 have HT:=zh ht
 have HM:=zh hM
 have HR:=zh hR
 clear hB0 hhd hus hmk ht hM hR
 go_enter Tryz.func8,Tryz.ntmps8
 go_wp2_with fail
 refine (HHD.out _ HB0.out).mono ?_
 rintro e w2 ⟨rfl,hb2⟩
 have hB2:=HB0.out.on hb2
 obtain ⟨q0,q1,q2,q3,q4,q5,q6⟩:=hB2.cells
 have HB2:=zh hB2
 clear hB2
 clear HB0 hb2 HHD
 go_wp2_with fail
 refine (HUS.out _ HB2.out).mono ?_
 rintro e w3 ⟨⟨b,rfl,hb⟩,hb3⟩
 have hB3:=HB2.out.on hb3
 clear q0 q1 q2 q3 q4 q5 q6
 obtain ⟨q0,q1,q2,q3,q4,q5,q6⟩:=hB3.cells
 have HB3:=zh hB3
 clear hB3
 clear HB2 hb3 HUS
 cases b with
 | false =>
  go_wp2_with fail
  go_ret
  exact ⟨rfl,HB3.out.b⟩
 | true =>
  obtain ⟨h1,h2,h3⟩:=hb rfl
  clear hb
  obtain ⟨hub,htv0,htv1,hnu0,hnu1⟩:=Z3A h1
  have htm : Z0y v.time = true:=by simp [Z0y]; omega
  rcases hX : Z1v v a v.time s 7 with ⟨Q,er⟩
  have hX:=zh hX
  go_wp2_with fail
  have hm:=HMK.out v.time s 7 w3 HB3.out
  rw [hX.out] at hm
  refine hm.mono ?_
  rintro e w4 ⟨QV,rfl,hq,hb4⟩
  obtain ⟨A4,c4,rfl,hI4⟩:=Z1i hq
  have hone4:=Z0s Q A4 Q.nights.length c4
  have hal:=(Below.refl w4.heap.size w4).alloc (zn _) (.cells (qtC Q (.slice A4 Q.nights.length c4)) 32)
  have hX:=(HB3.out.on hb4).on hal
  have hY:=QbK.new (q:=Q) hI4
  clear q0 q1 q2 q3 q4 q5 q6
  obtain ⟨q0,q1,q2,q3,q4,q5,q6⟩:=hX.cells
  have HB5:=zh hX
  have QB:=zh hY
  clear hX hY
  clear HB3 hb4 hal hm hq hI4
  dsimp only
  go_upto_region 5 with (refine Z06 rfl _ _ rfl _ _ rfl rfl rfl (Z0F _ _) hone4 ?_)
  generalize hw5 : w4.alloc (.cells (qtC Q (.slice A4 Q.nights.length c4)) 32) = w5 at *
  clear hw5
  by_cases he : er = 0
  · subst he
    obtain ⟨_,hd,hn60,e1,e2,e3,hpr,e4⟩:=Z9q hX.out
    obtain ⟨f1,f2,f3,f4,f5⟩:=Z25 hpr
    have f6:=Z5y hpr
    obtain ⟨z1,z2,z3,z4,_⟩:=Z36 h2
    obtain ⟨ver,time,total,keep,ask,ns,dig,sE,sS⟩:=Q
    dsimp only at *
    replace e3:=e3.symm
    subst e1 e2 e3 e4
    have HF5:=zh f5
    have HF6:=zh f6
    clear f5 f6 hpr hX
    obtain ⟨k0,k1,k2,k3,k4,k5,k6,k7,k8,k9,k10,k11⟩:=QB.out.all
    dsimp only at k0 k1 k2 k3 k4 k5 k6 k7 k8 k9 k10 k11
    have hw1 : IntKind.i64.wrap (a.un - a.fr) = a.un - a.fr:=IntWalk.i64_in _ (by omega)
    have d1 : ((ns.length : Int) != a.un - a.fr) = false:=by rw [f1]; simp
    have d2 : decide (keep < 0) = false:=by simpa using f2
    have d3 : decide (keep > ns.sum) = false:=by simpa using f3
    go_wp2_with fail
    go_loopw [7,10,59] (fun up sm i wr=>∃ k : Nat,k ≤ ns.length∧up = .bool true∧sm = .int .i64 (ns.take k).sum∧i = .int .i64 k∧LwB w v (.slice A v.rs.length c) a wr∧QbK w4.heap.size ⟨v.num,v.time,ns.sum,keep,a,ns,dig,sE,sS⟩ (.slice A4 ns.length c4) wr) (fun _ _ i _=>ns.length - (intOf i).toNat)
    case atStart=>exact ⟨0,Nat.zero_le _,rfl,by simp,rfl,HB5.out,QB.out⟩
    case round =>
     clear k0 k1 k2 k3 k4 k5 k6 k7 k8 k9 k10 k11 q0 q1 q2 q3 q4 q5 q6 HB5 QB
     obtain ⟨k,hk,rfl,rfl,rfl,hBr,hQr⟩:=hrel
     obtain ⟨k0,k1,k2,k3,k4,k5,k6,k7,k8,k9,k10,k11⟩:=hQr.all
     dsimp only at k0 k1 k2 k3 k4 k5 k6 k7 k8 k9 k10 k11
     obtain ⟨q0,q1,q2,q3,q4,q5,q6⟩:=hBr.cells
     by_cases hlt : k < ns.length
     · obtain ⟨g,o,rfl,hg,hcc⟩:=Z4r hQr.i (by intro e; dsimp only at e; rw [e] at hlt; simp at hlt)
       have ck : wr.cell? ⟨g,o + k,none⟩ = some (.int .i64 ns[k]):=hcc k hlt
       obtain ⟨r,hr⟩:=HF5.out k hlt
       have hc:=hng.out (a.fr + k) ns[k] r wr hBr hub h2 (by omega) (by omega) hr
       have hs:=Zek ns k hlt
       obtain ⟨s1,s2⟩:=ZbE (fun x hx=>(HF6.out x hx).1) f4 k
       obtain ⟨z5,z6⟩:=HF6.out ns[k] (List.getElem_mem hlt)
       have dl : decide ((k : Int) < (ns.length : Int)) = true:=by simpa using hlt
       have hid:=r.id
       clear hcc
       generalize ns[k] = z at *
       generalize r.id = ri at *
       have dz : (z == z) = true:=by simp
       have HC:=zh hc
       have HBR:=zh hBr
       have HQR:=zh hQr
       have HS:=zh hs
       clear hc hBr hQr hs
       clear hr
       go_wp2_with fail
       refine HC.out.mono ?_
       rintro e w6 ⟨rfl,hb6⟩
       have hB6:=HBR.out.on hb6
       have hQ6:=HQR.out.on hb6
       have HB6:=zh hB6
       have HQ6:=zh hQ6
       clear hB6 hQ6
       clear HBR HQR HC hb6 k0 k1 k2 k3 k4 k5 k6 k7 k8 k9 k10 k11 q0 q1 q2 q3 q4 q5 q6 ck
       go_wp2_with fail
       go_roundw
       case rel=>exact ⟨k + 1,by omega,rfl,by rw [HS.out],by go_num,HB6.out,HQ6.out⟩
       case measure=>simp [intOf]; omega
     · have hke : k = ns.length:=by omega
       subst hke
       have dl : decide ((ns.length : Int) < (ns.length : Int)) = false:=by simp
       rw [List.take_length]
       have HBR:=zh hBr
       have HQR:=zh hQr
       clear hBr hQr
       go_wp2_with fail
       go_ret
       exact ⟨rfl,HBR.out.b⟩
  · have de : (er != 0) = true:=by simpa using he
    go_wp2_with fail
    go_ret
    exact ⟨rfl,HB5.out.b⟩
end Go.Proofs.YtnepkoepbapgeaaGreatDoor
