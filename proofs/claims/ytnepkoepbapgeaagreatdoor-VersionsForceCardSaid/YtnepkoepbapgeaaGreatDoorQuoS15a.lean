/-
  Walks of the reference of package versions: Few, FewRates; SameVersion and Same for equal lists.
-/
import Derived.Test.YtnepkoepbapgeaaGreatDoorQuoVs1
import Derived.Test.YtnepkoepbapgeaaGreatDoorQuoApp2
import Derived.Test.YtnepkoepbapgeaaGreatDoorParW13
namespace Go.Proofs.YtnepkoepbapgeaaGreatDoor
set_option maxRecDepth 100000
open Go.RowKit Lx Px Qx
set_option maxHeartbeats 4000000 in
theorem Zp5 (l:List Vr)(v:Value)(w:World)(hv:VssV w w.heap.size v l):Calls Tryz.prog 32 #[v] w fun e w'=>(∃ b,e=.returned (.bool b))∧Below w.heap.size w w':=by
 obtain ⟨A,c,rfl,_⟩:=id hv
 have HV:=zh hv;clear hv;go_enter Tryz.func32,Tryz.ntmps32
 go_wp2_with fail;go_loopw [3] (fun i wr=>∃ k:Nat,k≤l.length∧i=.int .i64 k∧Below w.heap.size w wr∧k≤110) (fun i _=>l.length - (intOf i).toNat)
 case atStart=>exact ⟨0,by omega,rfl,Below.refl _ _,by omega⟩
 case round =>
  obtain ⟨k,hk,rfl,hb,hk2⟩:=hrel
  by_cases hlt:k<l.length
  · have dk:decide ((k:Int)<(l.length:Int))=true:=by simpa using hlt
    by_cases h110:k<110
    · have d2:decide ((k:Int)<(110:Int))=true:=by simp;omega
      obtain ⟨g,o,RA,rc,rfl,hg,hR,c0,c1,c2⟩:=Z1y (HV.out.on hb) hlt
      have i2:(k:Int)<(l.length:Int):=by omega
      have hcl:=Zh9 l[k] _ wr (Zdi hR hb.size)
      generalize l[k].num=num at *
      generalize l[k].time=time at *
      generalize l[k].rs.length=rl at *
      have HCL:=zh hcl;have HB:=zh hb;clear hcl hb hR;go_wp2_with fail;refine HCL.out.mono ?_
      rintro e w3 ⟨⟨b,rfl⟩,hb3⟩
      have hB3:=Z00 HB.out hb3
      have HB3:=zh hB3;clear hB3 hb3 HCL HB c0 c1 c2;cases b with
      | false =>
       go_wp2_with fail;go_ret
       exact ⟨⟨_,rfl⟩,HB3.out⟩
      | true =>
       go_wp2_with fail;go_roundw
       case rel=>exact ⟨k+1,by omega,by go_num,HB3.out,by omega⟩
       case measure=>simp [intOf];omega
    · have d2:decide ((k:Int)<(110:Int))=false:=by simp;omega
      have HB:=zh hb;clear hb;go_wp2_with fail;go_ret
      exact ⟨⟨_,rfl⟩,HB.out⟩
  · have hke:k=l.length:=by omega
    subst hke;have dk:decide ((l.length:Int)<(l.length:Int))=false:=by simp
    have HB:=zh hb;clear hb;go_wp2_with fail;go_ret
    exact ⟨⟨_,rfl⟩,HB.out⟩
theorem Z7C (rs:List Rt)(v:Value)(w:World)(hv:RtsV w w.heap.size v rs):Calls Tryz.prog 33 #[v] w fun e w'=>(∃ b,e=.returned (.bool b))∧Below w.heap.size w w':=by
 obtain ⟨A,c,rfl,_⟩:=id hv
 have hcl:=Zap rs _ w hv
 obtain ⟨b2,d2⟩:∃ b,decide ((rs.length:Int)≤20)=b:=⟨_,rfl⟩
 have HCL:=zh hcl;clear hcl hv;go_enter Tryz.func33,Tryz.ntmps33
 go_wp2_with fail;refine (HCL.out).mono ?_
 rintro e w2 ⟨⟨b,rfl⟩,hb2⟩
 have HB2:=zh hb2;clear hb2;cases b
 · go_wp2_with fail
   go_ret
   exact ⟨⟨_,rfl⟩,HB2.out⟩
 · go_wp2_with fail
   go_ret
   exact ⟨⟨_,rfl⟩,HB2.out⟩
theorem Zeq (v:Vr)(V U:Value)(w:World)(hV:VrV w w.heap.size V v)(hU:VrV w w.heap.size U v)(hsm:∀ r∈v.rs,Zb1 r)(hlen:v.rs.length≤1000000)(hs:Zdy v.rs v.rs) :
 Calls Tryz.prog 38 #[V,U] w fun e w'=>e=.returned (.bool true)∧Below w.heap.size w w':=by
 obtain ⟨A,c,rfl,hR⟩:=hV
 obtain ⟨A2,c2,rfl,hR2⟩:=hU
 have hb:=((Below.refl w.heap.size w).alloc (zn _) (.cells #[.int .i64 v.num,.int .i64 v.time,.slice A v.rs.length c] 24)).alloc (by simp) (.cells #[.int .i64 v.num,.int .i64 v.time,.slice A2 v.rs.length c2] 24)
 have hx:=za w (.cells #[.int .i64 v.num,.int .i64 v.time,.slice A v.rs.length c] 24)
 have hx:=Z0C hx (.cells #[.int .i64 v.num,.int .i64 v.time,.slice A2 v.rs.length c2] 24)
 have hy:=za (w.alloc (.cells #[.int .i64 v.num,.int .i64 v.time,.slice A v.rs.length c] 24)) (.cells #[.int .i64 v.num,.int .i64 v.time,.slice A2 v.rs.length c2] 24)
 rw [World.size_alloc] at hy
 have hcl:=Z9u v.rs v.rs _ _ _ w.heap.size (hR.on hb) (hR2.on hb) hb.size hsm hlen hs
 unfold vrV
 have HB:=zh hb;have HX:=zh hx;have HY:=zh hy;have HCL:=zh hcl;clear hb hx hy hcl hR hR2 hs hsm;go_enter Tryz.func38,Tryz.ntmps38
 go_upto_region 1 with fail
 generalize (w.alloc (.cells #[.int .i64 v.num,.int .i64 v.time,.slice A v.rs.length c] 24)).alloc (.cells #[.int .i64 v.num,.int .i64 v.time,.slice A2 v.rs.length c2] 24)=w1 at *
 have kx:=fun i u (hu:(#[.int .i64 v.num,.int .i64 v.time,.slice A v.rs.length c]:Array Value)[i]?=some u)=>(show w1.cell? ⟨w.heap.size,i,none⟩=some u by rw [zc HX.out,hu])
 have ky:=fun i u (hu:(#[.int .i64 v.num,.int .i64 v.time,.slice A2 v.rs.length c2]:Array Value)[i]?=some u)=>(show w1.cell? ⟨w.heap.size+1,i,none⟩=some u by rw [zc HY.out,hu])
 have a0:=kx 0 _ rfl
 have a1:=kx 1 _ rfl
 have a2:=kx 2 _ rfl
 have b0:=ky 0 _ rfl
 have b1:=ky 1 _ rfl
 have b2:=ky 2 _ rfl
 clear kx ky HX HY hlen;generalize v.num=num at *
 generalize v.time=time at *
 have e1:decide (num=num)=true:=by simp
 go_wp2_with fail;refine HCL.out.mono ?_
 rintro e w2 ⟨rfl,hb2⟩;have hB2:=Z00 HB.out hb2
 have HB2:=zh hB2;clear hB2 hb2 HB HCL a0 a1 a2 b0 b1 b2;go_wp2_with fail;go_ret
 exact ⟨rfl,HB2.out⟩
end Go.Proofs.YtnepkoepbapgeaaGreatDoor
