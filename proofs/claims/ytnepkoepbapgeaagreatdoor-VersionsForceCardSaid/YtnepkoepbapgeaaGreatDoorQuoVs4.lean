/-
  Walks: package versions: Honour.
-/
import Derived.Test.YtnepkoepbapgeaaGreatDoorQuoVs2
import Derived.Test.YtnepkoepbapgeaaGreatDoorQuoVer
import Derived.BigQuiet
import Derived.StillTailTactics
namespace Go.Proofs.YtnepkoepbapgeaaGreatDoor
set_option maxRecDepth 100000
open Go.RowKit Lx Px Qx Go.Sort
attribute [local irreducible] Qx.Vr.dig Qx.powP
theorem ZeA (q:Qt)(nv:Value)(p:Nat)(x:Vr)(X:Value)(w:World)(hX:VrV w w.heap.size X x)(hq:QbK p q nv w) :
 Calls Tryz.prog 80 #[X,.pointer (some ⟨p,0,none⟩)] w fun e w'=>e=.returned (.bool (decide (x.num=q.ver)))∧Below w.heap.size w w':=by
 obtain ⟨A,c,rfl,hR⟩:=hX
 have hB0:=VxB.new hR
 have hb:=(Below.refl w.heap.size w).alloc (zn _) (.cells #[.int .i64 x.num,.int .i64 x.time,.slice A x.rs.length c] 24)
 have hq2:(w.alloc (.cells #[.int .i64 x.num,.int .i64 x.time,.slice A x.rs.length c] 24)).cell? ⟨p,0,none⟩=some (.int .i64 q.ver):=(hq.on hb).c 0 _ rfl
 obtain ⟨q0,q1,q2⟩:=hB0.cells
 have hd:decide (x.num=q.ver)=(x.num==q.ver):=by rw [Bool.eq_iff_iff];simp
 rw [hd]
 unfold vrV
 have HB:=zh hb;clear hb hB0 hR hq hd;go_enter Tryz.func80,Tryz.ntmps80
 go_wp2_with fail;go_ret
 exact ⟨rfl,HB.out⟩
def HonP (x:Int × Int × Int)(w:World)(e:Ending)(w':World):Prop:=e=.returned (.tuple #[.int .i64 x.1,.int .i64 x.2.1,.int .i64 x.2.2])∧Below w.heap.size w w'
theorem Zs8 {l:List Vr}{q:Qt}{p:Int}(h:¬ (vsB l=true∧memB p=true)):honV l q p=(0,0,1):=by unfold honV;rw [if_pos h]
theorem Zpe {l:List Vr}{q:Qt}{p:Int}(h1:vsB l=true)(h2:memB p=true)(h:numI l q.ver<0):honV l q p=(0,0,4):=by
 unfold honV
 rw [if_neg (by simp [h1,h2])]
 split
 · rfl
 · rw [if_pos h]
theorem ZaA {l:List Vr}{q:Qt}{p:Int}(h1:vsB l=true)(h2:memB p=true){i:Nat}(hi:i<l.length)(h:numI l q.ver=i):honV l q p=if (Z18 l[i] q p).1=true then (if inF l q.time=i then (q.total,q.keep,0) else (0,0,6)) else (0,0,9):=by
 unfold honV
 rw [if_neg (by simp [h1,h2]),h]
 simp only [Int.toNat_natCast,List.getElem?_eq_getElem hi]
 rw [if_neg (by omega)]
theorem Zm6 {v:Vr}{q:Qt}{p:Int}(h1:v.okB=true)(h2:memB p=true):(Z18 v q p).2=0:=by
 unfold Z18
 rw [h1,h2]
 simp only [Bool.and_self,if_true]
 split
 · split <;> rfl
 · rfl
set_option maxHeartbeats 16000000 in
theorem Z2m (l:List Vr)(q:Qt)(p:Int)(v U:Value)(w:World)(hv:VssV w w.heap.size v l)(hU:QtV w w.heap.size U q)(hll:l.length≤1000)(hr:∀ x∈q.says,-9223372036854775808≤x∧x≤9223372036854775807)(hqd:q.dig<18446744073709551616)(hqn:q.nights.length≤50000)(ht:Tabs w.heap.size w) :
 Calls Tryz.prog 42 #[v,U,.int .i64 p] w (HonP (honV l q p) w):=by
 obtain ⟨A1,c1,rfl,hI⟩:=Z4F hU
 have hmf:∀ (fn:Fn) (first cap:Array Value) (w:World),(Instr.makeFunc fn first cap).run Tryz.prog w=.ok (.func fn first cap) w:=fun _ _ _ _=>rfl
 have hal:=(Below.refl w.heap.size w).alloc (zn _) (.cells (qtC q (.slice A1 q.nights.length c1)) 32)
 have hQ1:=QbK.new (q:=q) hI
 have hva:=fun W (hb:Below w.heap.size w W)=>Z1A l v W ((hv.on hb).up hb.size) hll (Z05 ht hb)
 have hif:=fun W (hb:Below w.heap.size w W)=>Z9q l q.time v W ((hv.on hb).up hb.size) hll
 have hme:=fun W=>Z7r p W
 have hla:=fun W (hb:Below w.heap.size w W) (hQ:QbK w.heap.size q (.slice A1 q.nights.length c1) W)=>Zgm l (fun x=>decide (x.num=q.ver)) 80 ⟨w.heap.size,0,none⟩ v W ((hv.on hb).up hb.size) hll (fun x X W' hX hbW=>ZeA q (.slice A1 q.nights.length c1) w.heap.size x X W' hX (hQ.on hbW)) (fun _ _=>rfl)
 have hck:=fun x X W (hb:Below w.heap.size w W) (hX:VrV W W.heap.size X x) (hQ:QbK w.heap.size q (.slice A1 q.nights.length c1) W)=>Zh1 x q p X _ W hX hQ.v hr hqd hqn (Z05 ht hb)
 have hnum:Hid (numI l q.ver=Z1C (fun x=>decide (x.num=q.ver)) l):=rfl
 rw [← hnum.out] at hla
 have hrg:=Z2k (fun x:Vr=>decide (x.num=q.ver)) l
 rw [← hnum.out] at hrg
 obtain ⟨M,hM⟩:∃ M,honV l q p=M:=⟨_,rfl⟩
 have hbad:=fun h=>hM.symm.trans (@Zs8 l q p h)
 have hnone:=fun h1 h2 h=>hM.symm.trans (@Zpe l q p h1 h2 h)
 have hhat:=fun h1 h2 i hi h=>hM.symm.trans (@ZaA l q p h1 h2 i hi h)
 rw [hM]
 obtain ⟨A,c,rfl,_⟩:=id hv
 obtain ⟨k0,k1,k2,k3,k4,k5,k6,k7,k8,k9,k10,k11⟩:=hQ1.all
 have hone:=Z0F q A1 q.nights.length c1
 have HV:=zh hv;have HB1:=zh hal;have HQ1:=zh hQ1;have HVA:=zh hva;have HIF:=zh hif;have HME:=zh hme;have HLA:=zh hla;have HCK:=zh hck;have HBAD:=zh hbad;have HNONE:=zh hnone;have HHAT:=zh hhat;have HRG:=zh hrg;clear hv hal hQ1 hva hif hme hla hck hbad hnone hhat hrg ht hU hI hr hM hnum;go_enter Tryz.func42,Tryz.ntmps42
 go_wp2_with fail;generalize w.alloc (.cells (qtC q (.slice A1 q.nights.length c1)) 32)=w1 at *
 refine (HVA.out _ HB1.out).mono ?_
 rintro e w2 ⟨rfl,hb2⟩;have hB2:=Z00 HB1.out hb2
 have hQ2:=HQ1.out.on hb2
 have HB2:=zh hB2;have HQ2:=zh hQ2;clear hB2 hQ2 hb2 HVA HB1 HQ1 k0 k1 k2 k3 k4 k5 k6 k7 k8 k9 k10 k11;cases h1:vsB l with
 | false =>
  have hl:=HBAD.out (fun h=>by rw [h1] at h;cases h.1)
  subst hl;go_wp2_with fail;refine bodyPost_ret (v:=.tuple #[.int .i64 0,.int .i64 0,.int .i64 1]) (by simp [results,Tryz.results42,go_sem]) rfl ?_
  exact ⟨rfl,HB2.out⟩
 | true =>
  go_wp2_with fail;refine (HME.out _).mono ?_
  rintro e w3 ⟨rfl,hb3⟩;have hB3:=Z00 HB2.out hb3
  have hQ3:=HQ2.out.on hb3
  have HB3:=zh hB3;have HQ3:=zh hQ3;clear hB3 hQ3 hb3 HME HB2 HQ2;cases h2:memB p with
  | false =>
   have hl:=HBAD.out (fun h=>by rw [h2] at h;cases h.2)
   subst hl;go_wp2_with fail;refine bodyPost_ret (v:=.tuple #[.int .i64 0,.int .i64 0,.int .i64 1]) (by simp [results,Tryz.results42,go_sem]) rfl ?_
   exact ⟨rfl,HB3.out⟩
  | true =>
   have hnone:=HNONE.out h1 h2
   have hhat:=HHAT.out h1 h2
   have hokl:=(Z09.1 h1).1
   have HNO:=zh hnone;have HAT:=zh hhat;have HOK:=zh hokl;clear hnone hhat hokl HBAD HNONE HHAT;go_wp2_with fail;refine (HLA.out _ HB3.out HQ3.out).mono ?_
   rintro e w4 ⟨rfl,hb4⟩;have hB4:=Z00 HB3.out hb4
   have hQ4:=HQ3.out.on hb4
   have HB4:=zh hB4;have HQ4:=zh hQ4;clear hB4 hQ4 hb4 HLA HB3 HQ3;generalize numI l q.ver=I at *
   by_cases h4:I<0
   · have hl:=HNO.out h4
     subst hl;have d4:decide (I<0)=true:=by simpa using h4
     go_wp2_with fail;refine bodyPost_ret (v:=.tuple #[.int .i64 0,.int .i64 0,.int .i64 4]) (by simp [results,Tryz.results42,go_sem]) rfl ?_
     exact ⟨rfl,HB4.out⟩
   · have d4:decide (I<0)=false:=by simpa using h4
     obtain ⟨i,rfl⟩:=Int.eq_ofNat_of_zero_le (show 0≤I by omega)
     have hrg:=HRG.out
     have hi:i<l.length:=by have:=hrg.2;omega
     have hi0:(0:Int)≤(i:Int):=by omega
     have hi1:(i:Int)<(l.length:Int):=by omega
     have hm:=HAT.out i hi rfl
     have hok:=(HOK.out i hi hi).1
     obtain ⟨g,o,RA,rc,rfl,hg,hR,x0,x1,x2⟩:=Z1y (HV.out.on HB4.out) hi
     have hck:=fun W (hb:Below w.heap.size w W) (hX:VrV W W.heap.size (.agg #[.int .i64 l[i].num,.int .i64 l[i].time,.slice RA l[i].rs.length rc]) l[i]) (hQ:QbK w.heap.size q (.slice A1 q.nights.length c1) W)=>HCK.out l[i] _ W hb hX hQ
     rw [Zm6 hok h2] at hck
     generalize (Z18 l[i] q p).1=b at *
     generalize l[i]=x at *
     clear hrg h4;have hcq:∀ d os,Calls Tryz.prog 19 #[.agg #[.int .i64 x.num,.int .i64 x.time,.slice RA x.rs.length rc],.agg (qtC q (.slice A1 q.nights.length c1)),.int .i64 p] (grow (redrawn w4 d) os) fun e w''=>e=.returned (.tuple #[.bool b,.int .i64 0])∧∃ p:Regrown,w''=grow (redrawn w4 p.d) p.os:=fun d os =>
      Calls.regrown_of (hck _ (Z00 HB4.out (below_regrown w4 d os)) ((Zdi hR HB4.out.size).on (below_regrown w4 d os) |>.up (below_regrown w4 d os).size) (HQ4.out.on (below_regrown w4 d os)))
     unfold qtC at hcq
     obtain ⟨k0,k1,k2,k3,k4,k5,k6,k7,k8,k9,k10,k11⟩:=HQ4.out.all
     have e0:=cell_regrown x0;have e1:=cell_regrown x1;have e2:=cell_regrown x2;have j0:=cell_regrown k0;have j1:=cell_regrown k1;have j2:=cell_regrown k2;have j3:=cell_regrown k3;have j4:=cell_regrown k4;have j5:=cell_regrown k5;have j6:=cell_regrown k6;have j7:=cell_regrown k7;have j8:=cell_regrown k8;have j9:=cell_regrown k9;have j10:=cell_regrown k10;have j11:=cell_regrown k11;have HMM:=zh hm;clear hm hck hok hR;go_wp2_with fail;refine wp_region_quiet_below (by kernel_rfl) (by kernel_rfl) ?_
     repeat (first | go_big_quiet_step (exact hcq _ _) | quiet_step (exact hcq _ _))
     refine wpQuiet_nil ?_
     intro _ hw'
     obtain ⟨⟨dq,osq⟩,hw''⟩:=hw'
     subst hw'';have hb6:=below_regrown w4 dq osq
     have hB6:=Z00 HB4.out hb6
     have hQ6:=HQ4.out.on hb6
     generalize grow (redrawn w4 dq) osq=w6 at *
     have HB6:=zh hB6;have HQ6:=zh hQ6;clear hB6 hQ6 hb6 hcq HB4 HQ4 e0 e1 e2 j0 j1 j2 j3 j4 j5 j6 j7 j8 j9 j10 j11 x0 x1 x2 k0 k1 k2 k3 k4 k5 k6 k7 k8 k9 k10 k11;cases b with
     | false =>
      have hl:M=(0,0,9):=HMM.out
      subst hl;go_wp2_with fail;refine bodyPost_ret (v:=.tuple #[.int .i64 0,.int .i64 0,.int .i64 9]) (by simp [results,Tryz.results42,go_sem]) rfl ?_
      exact ⟨rfl,HB6.out⟩
     | true =>
      have HM2:Hid (M=if inF l q.time=i then (q.total,q.keep,0) else (0,0,6)):=HMM.out
      clear HMM;have t1:=HQ6.out.c 1 (.int .i64 q.time) rfl
      go_wp2_with fail;refine (HIF.out _ HB6.out).mono ?_
      rintro e w7 ⟨rfl,hb7⟩;have hB7:=Z00 HB6.out hb7
      have hQ7:=HQ6.out.on hb7
      have t2:=hQ7.c 2 (.int .i64 q.total) rfl
      have t3:=hQ7.c 3 (.int .i64 q.keep) rfl
      have HB7:=zh hB7;have HQ7:=zh hQ7;clear hB7 hQ7 hb7 HB6 HQ6 t1;by_cases h5:inF l q.time=i
      · have hl:=HM2.out.trans (if_pos h5)
        subst hl;have d5:(inF l q.time != (i:Int))=false:=by rw [h5];simp
        generalize inF l q.time=J at *
        clear h5 HM2;go_wp2_with fail;go_quiet (fail)
        go_wp2_with fail;refine bodyPost_ret (v:=.tuple #[.int .i64 q.total,.int .i64 q.keep,.int .i64 0]) (by simp [results,Tryz.results42,go_sem]) rfl ?_
        exact ⟨rfl,Z0q HB7.out _⟩
      · have hl:=HM2.out.trans (if_neg h5)
        subst hl;have d5:(inF l q.time != (i:Int))=true:=by simpa using h5
        generalize inF l q.time=J at *
        clear h5 HM2;go_wp2_with fail;refine bodyPost_ret (v:=.tuple #[.int .i64 0,.int .i64 0,.int .i64 6]) (by simp [results,Tryz.results42,go_sem]) rfl ?_
        exact ⟨rfl,HB7.out⟩
end Go.Proofs.YtnepkoepbapgeaaGreatDoor
