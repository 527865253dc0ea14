/-
  VersionsOthers: the walk.
-/
import Derived.Test.YtnepkoepbapgeaaGreatDoorQuoHe2
import Derived.Test.YtnepkoepbapgeaaGreatDoorQuoLaw8
import Derived.Test.YtnepkoepbapgeaaGreatDoorQuoApp2
import Derived.Test.YtnepkoepbapgeaaGreatDoorQuoAkb
namespace Go.Proofs.YtnepkoepbapgeaaGreatDoor
set_option maxRecDepth 100000
open Go.RowKit Lx Px Qx Go.Sort
attribute [local irreducible] Qx.Vr.dig Qx.powP Qx.sigE Qx.sigS
theorem Zhi {q:Qt}{y:Int}(h:∀ x∈q.says,0≤x∧x≤4294967295)(hy : -32768≤y∧y≤32767):∀ x∈({ q with total:=q.total+y }:Qt).says,-9223372036854775808≤x∧x≤9223372036854775807:=by
 intro x hx
 simp only [Qt.says,List.cons_append,List.nil_append] at h hx
 simp only [List.forall_mem_cons] at h
 simp only [List.mem_cons] at hx
 obtain ⟨h1,h2,h3,h4,h5,h6,h7,h8,h9,h10⟩:=h
 rcases hx with rfl | rfl | rfl | rfl | rfl | rfl | rfl | rfl | rfl | hx
 all_goals first | omega | (have:=h10 x hx;omega)
set_option maxHeartbeats 16000000 in
theorem Zk0 (l:List Vr)(a:Qx.Ask)(t s m4 m5:Int)(V:Value)(w:World)(hv:VssV w w.heap.size V l)(hm4:0≤m4∧m4≤255)(hm5 : -32768≤m5∧m5≤32767)(ht:Tabs w.heap.size w)(hM:Mx w w.heap.size) :
 Calls Tryz.prog 13 #[V,askV a,.int .i64 t,.int .i64 s,.int .u8 m4,.int .i16 m5] w fun e w'=>e=.returned (.bool true)∧Below w.heap.size w w':=by
 obtain ⟨A,c,rfl,_⟩:=id hv
 have hvw:=fun W (hb:Below w.heap.size w W)=>(hv.on hb).up hb.size
 have hB0:=(Below.refl w.heap.size w).alloc (zn _) (.cells #[.int .i64 a.kind,.int .i64 a.fr,.int .i64 a.un,.int .i64 a.pers] 26)
 have hA0:AkB w.heap.size a (w.alloc (.cells #[.int .i64 a.kind,.int .i64 a.fr,.int .i64 a.un,.int .i64 a.pers] 26)):=⟨za _ _⟩
 unfold askV
 have HV:=zh hvw;have HT:=zh ht;have HM:=zh hM;have HB0:=zh hB0;have HA0:=zh hA0;clear hvw ht hM hB0 hA0 hv;go_enter Tryz.func13,Tryz.ntmps13
 go_upto_region 1 with fail
 generalize w.alloc (.cells #[.int .i64 a.kind,.int .i64 a.fr,.int .i64 a.un,.int .i64 a.pers] 26)=w0 at *
 go_wp2_with fail;refine (Z56 w0 (Z05 HT.out HB0.out) (Zgj HM.out HB0.out)).mono ?_
 rintro e w1 ⟨rfl,hb1⟩;have hB1:=Z00 HB0.out hb1
 have hA1:=HA0.out.on hb1
 have HB1:=zh hB1;have HA1:=zh hA1;clear hB1 hA1 HB0 HA0 hb1;go_wp2_with fail;refine (Z3s l _ w1 (HV.out w1 HB1.out)).mono ?_
 rintro e w2 ⟨⟨b,rfl,hb⟩,hb2⟩
 have hB2:=Z00 HB1.out hb2
 have hA2:=HA1.out.on hb2
 obtain ⟨q0,q1,q2,q3⟩:=hA2.c
 have HB2:=zh hB2;have HA2:=zh hA2;clear hB2 hA2 hb2 HB1 HA1;cases b with
 | false =>
  clear hb;go_wp2_with fail;go_ret
  exact ⟨rfl,HB2.out⟩
 | true =>
  obtain ⟨hl10,hvs⟩:=hb rfl
  have HVS:=zh hvs;clear hvs hb;have hra:=Zfk a w2
  unfold askV at hra
  have HRA:=zh hra;clear hra;go_wp2_with fail;refine HRA.out.mono ?_
  rintro e w3 ⟨rfl,hb3⟩;have hB3:=Z00 HB2.out hb3
  have hA3:=HA2.out.on hb3
  have HB3:=zh hB3;have HA3:=zh hA3;clear hB3 hA3 HRA HB2 HA2 hb3 q0 q1 q2 q3;obtain ⟨ba,hba⟩:∃ b,a.okB=b:=⟨_,rfl⟩
  rw [hba]
  cases ba with
  | false =>
   clear hba;go_wp2_with fail;go_ret
   exact ⟨rfl,HB3.out⟩
  | true =>
  go_wp2_with fail;refine (Z4B t w3).mono ?_
  rintro e w' ⟨rfl,rfl⟩;obtain ⟨bt,hbt⟩:∃ b,Z0D t=b:=⟨_,rfl⟩
  rw [hbt]
  cases bt with
  | false =>
   clear hbt;go_wp2_with fail;go_ret
   exact ⟨rfl,HB3.out⟩
  | true =>
  go_wp2_with fail;refine (Z9c s w3).mono ?_
  rintro e w' ⟨rfl,rfl⟩;obtain ⟨bs,hbs⟩:∃ b,secB s=b:=⟨_,rfl⟩
  rw [hbs]
  cases bs with
  | false =>
   clear hbs;go_wp2_with fail;go_ret
   exact ⟨rfl,HB3.out⟩
  | true =>
  have HBA:=zh hba;have HBT:=zh hbt;have HBS:=zh hbs;clear hba hbt hbs;by_cases hl0:l.length=0
  · have d0:((l.length:Int)==0)=true:=beq_iff_eq.2 (by omega)
    rw [hl0] at d0 ⊢
    clear hl0 d0;go_wp2_with fail;go_ret
    exact ⟨rfl,HB3.out⟩
  · have d0:((l.length:Int)==0)=false:=beq_eq_false_iff_ne.2 (by omega)
    obtain ⟨k,hk⟩:∃ k:Nat,m4.toNat % l.length=k:=⟨_,rfl⟩
    have hkl:k<l.length:=by rw [← hk];exact Nat.mod_lt _ (by omega)
    obtain ⟨mN,rfl⟩:=Int.eq_ofNat_of_zero_le hm4.1
    rw [Int.toNat_natCast] at hk
    have hrem2:(mN:Int).tmod (l.length:Int)=(k:Int):=by rw [Int.tmod_eq_emod_of_nonneg (by omega),← hk];simp
    have hrem:((mN:Int) % (l.length:Int))=(k:Int):=by rw [← hk];simp
    have hwm:IntKind.i64.wrap (mN:Int)=mN:=IntWalk.i64_in _ (by omega)
    have hi0:(0:Int)≤(k:Int):=by omega
    have hi1:(k:Int)<(l.length:Int):=by omega
    have hz0:¬ (l.length:Int)=0:=by omega
    clear hk hl0;obtain ⟨g,o,RA,rc,rfl,hg,hR,c0,c1,c2⟩:=Z1y (HV.out w3 HB3.out) hkl
    have hX4:VxB w3.heap.size l[k] (.slice RA l[k].rs.length rc) (w3.alloc (.cells #[.int .i64 l[k].num,.int .i64 l[k].time,.slice RA l[k].rs.length rc] 24)):=VxB.new hR
    have hC4:=(Below.refl w3.heap.size w3).alloc (zn _) (.cells #[.int .i64 l[k].num,.int .i64 l[k].time,.slice RA l[k].rs.length rc] 24)
    have hB4:=Z00 HB3.out hC4
    have hA4:=HA3.out.on hC4
    have HX4:=zh hX4;have HB4:=zh hB4;have HA4:=zh hA4;clear hX4 hB4 hA4 HB3 HA3 hC4 hR;go_upto_region 5 with (refine Z0b rfl _ _ rfl _ _ rfl rfl rfl rfl rfl ?_)

    generalize w3.alloc (.cells #[.int .i64 l[k].num,.int .i64 l[k].time,.slice RA l[k].rs.length rc] 24)=w4 at *
    clear c0 c1 c2 hrem hrem2 hwm hi0 hi1 hz0;obtain ⟨x,b,e1,hc1⟩:∃ x b,atV l t=(x,b,0)∧vrSm x:=Zcz (Z09.1 HVS.out) HBT.out
    have hc:=Z5x l t _ w4 (HV.out w4 HB4.out) (by omega) (Z05 HT.out HB4.out)
    rw [e1] at hc
    have HC:=zh hc;have E1:=zh e1;clear hc e1 hc1;go_wp2_with fail;refine HC.out.mono ?_
    rintro e w5 ⟨YV,rfl,hY,hb5⟩;obtain ⟨A6,c6,rfl,hR6⟩:=hY
    rw [show vrV x (.slice A6 x.rs.length c6)=.agg #[.int .i64 x.num,.int .i64 x.time,.slice A6 x.rs.length c6] from rfl]
    have hC6:=(Below.refl w5.heap.size w5).alloc (zn _) (.cells #[.int .i64 x.num,.int .i64 x.time,.slice A6 x.rs.length c6] 24)
    have hY6:VxB w5.heap.size x (.slice A6 x.rs.length c6) (w5.alloc (.cells #[.int .i64 x.num,.int .i64 x.time,.slice A6 x.rs.length c6] 24)):=VxB.new hR6
    have hX6:=(HX4.out.on hb5).on hC6
    have hA6:=(HA4.out.on hb5).on hC6
    have hB6:=Z00 (Z00 HB4.out hb5) hC6
    have HX6:=zh hX6;have HY6:=zh hY6;have HA6:=zh hA6;have HB6:=zh hB6;clear hX6 hY6 hA6 hB6 HC HB4 HX4 HA4 hb5 hR6 hC6;dsimp only
    go_upto_region 6 with (refine Z0b rfl _ _ rfl _ _ rfl rfl rfl rfl rfl ?_)
    generalize w5.alloc (.cells #[.int .i64 x.num,.int .i64 x.time,.slice A6 x.rs.length c6] 24)=w6 at *
    have hpu:=Z7s s w6 HBS.out
    have HPU:=zh hpu;clear hpu;go_wp2_with fail;refine HPU.out.mono ?_
    rintro e w7 ⟨rfl,hb7⟩;have hX7:=HX6.out.on hb7
    have hY7:=HY6.out.on hb7
    have hA7:=HA6.out.on hb7
    have hB7:=Z00 HB6.out hb7
    obtain ⟨x0,x1,x2⟩:=hX7.cells
    obtain ⟨q0,q1,q2,q3⟩:=hA7.c
    rcases hmq:Z3x l[k] a t s 7 with ⟨Q,er⟩
    have hc:=Z6k l[k] a t s 7 _ w7 hX7.v (Z05 HT.out hB7)
    rw [hmq] at hc
    unfold askV at hc
    have HC:=zh hc;have HMQ:=zh hmq;have HX7:=zh hX7;have HY7:=zh hY7;have HA7:=zh hA7;have HB7:=zh hB7;clear hc hmq hX7 hY7 hA7 hB7 HPU hb7 HX6 HY6 HA6 HB6;go_wp2_with fail;refine HC.out.mono ?_
    rintro e w8 ⟨QV,rfl,hq,hb8⟩;obtain ⟨AQ,cQ,rfl,hI⟩:=Z4F hq
    clear hq;obtain ⟨nv,hnv⟩:∃ nv,(Value.slice AQ Q.nights.length cQ)=nv:=⟨_,rfl⟩
    have hone:(qtC Q nv).all (·.oneCell')=true:=by rw [← hnv];exact Z0F _ _ _ _
    have hqv:∀ W p,QbK p Q nv W→QtV W W.heap.size (.agg (qtC Q nv)) Q:=by rw [← hnv];exact fun W p h=>h.v
    have hqz:∀ W p y,QbK p { Q with total:=y } nv W→QtV W W.heap.size (.agg (qtC { Q with total:=y } nv)) { Q with total:=y }:=by rw [← hnv];exact fun W p y h=>h.v
    rw [hnv] at hI ⊢
    clear hnv;have hC9:=(Below.refl w8.heap.size w8).alloc (zn _) (.cells (qtC Q nv) 32)
    have hQ9:=QbK.new (q:=Q) hI
    have hX8:=HX7.out.on hb8
    have hY8:=HY7.out.on hb8
    have hX9:=hX8.on hC9
    have hY9:=hY8.on hC9
    have hB8:=Z00 HB7.out hb8
    have hB9:=Z00 hB8 hC9
    have hltX:=hX8.lt
    have hltY:=hY8.lt
    have hltB:=hB8.size
    have HQV:=zh hqv;have HQZ:=zh hqz;have HQ9:=zh hQ9;have HX9:=zh hX9;have HY9:=zh hY9;have HB9:=zh hB9;clear hqv hqz hQ9 hX9 hY9 hB9 HC HX7 HY7 HA7 HB7 hb8 hI hC9 hX8 hY8 hB8 x0 x1 x2 q0 q1 q2 q3;dsimp only
    go_upto_region 10 with (refine Z19 rfl _ _ rfl _ _ rfl rfl rfl (Z28 _ _) hone ?_)
    generalize w8.alloc (.cells (qtC Q nv) 32)=w9 at *
    by_cases he:er=0
    · subst he
      obtain ⟨x',b',e2,hoth⟩:=others (Z09.1 HVS.out) hkl HBT.out HMQ.out
      obtain ⟨e3,e4,e5⟩:x=x'∧b=b'∧True:=by
       have h:=E1.out.symm.trans e2
       injection h with h1 h2
       injection h2 with h2 _
       exact ⟨h1,h2,trivial⟩
      subst e3 e4;clear e2 e5;obtain ⟨hsm,hdg,hn60,hmk⟩:=Za7 HMQ.out
      clear hmk;have hsr:∀ y∈Q.says,-9223372036854775808≤y∧y≤9223372036854775807:=fun y hy=>by have:=hsm y hy;omega
      have ht32:=hsm Q.total (by simp [Qt.says])
      generalize powP 4 s.toNat=pb at *
      have hqh:=HQ9.out.h
      have hsr2:=Zhi hsm hm5
      have hc:=Z2m l Q (pb:Nat) _ (.agg (qtC Q nv)) w9 (HV.out w9 HB9.out) (HQV.out _ _ HQ9.out) (by omega) hsr hdg (by omega) (Z05 HT.out HB9.out)
      unfold HonP at hc
      rcases hr0:honV l Q (pb:Nat) with ⟨o1,o2,o3⟩
      rw [hr0] at hc hoth
      have HC:=zh hc;have HQH:=zh hqh;have HOTH:=zh hoth;have HSR2:=zh hsr2;have HR0:=zh hr0;clear hc hqh hoth hsr2 hr0 hsr hsm;go_wp2_with (refine Z0f rfl _ rfl w8.heap.size rfl _ (Z28 _ _) _ HQH.out ?_)
      refine HC.out.mono ?_
      rintro e w10 ⟨rfl,hb10⟩;dsimp only
      clear HC HQH;have hB10:=Z00 HB9.out hb10
      have hX10:=HX9.out.on hb10
      have hY10:=HY9.out.on hb10
      have hQ10:=HQ9.out.on hb10
      obtain ⟨x0,x1,x2⟩:=hX10.cells
      obtain ⟨y0,y1,y2⟩:=hY10.cells
      have HB10:=zh hB10;have HX10:=zh hX10;have HY10:=zh hY10;have HQ10:=zh hQ10;clear hB10 hX10 hY10 hQ10 HB9 HX9 HY9 HQ9 hb10;rcases HOTH.out with ⟨hno,hs⟩ | ⟨hb',hn,hs,hq2⟩
      · obtain ⟨rfl,rfl,rfl⟩:o1=0∧o2=0∧o3=6:=by
         injection hs with h1 h2
         injection h2 with h2 h3
         exact ⟨h1,h2,h3⟩
        clear HOTH hs;cases b with
        | false =>
         clear hno;go_wp2_with fail;go_ret
         exact ⟨rfl,HB10.out⟩
        | true =>
         have hne:x.num≠l[k].num:=by
          rcases hno with h | h
          · cases h
          · exact h
         have dn:(x.num != l[k].num)=true:=by simpa using hne
         clear hno hne;generalize x.num=n1 at *
         generalize l[k].num=n2 at *
         go_wp2_with fail;go_ret
         exact ⟨rfl,HB10.out⟩
      · obtain ⟨rfl,rfl,rfl⟩:o1=Q.total∧o2=Q.keep∧o3=0:=by
         injection hs with h1 h2
         injection h2 with h2 h3
         exact ⟨h1,h2,h3⟩
        subst hb';have dn:(x.num != l[k].num)=false:=by rw [hn];simp
        have t2:w10.cell? ⟨w8.heap.size,2,none⟩=some (.int .i64 Q.total):=HQ10.out.c 2 _ rfl
        have f2:=HQ10.out.f 2
        have wm:IntKind.i64.wrap m5=m5:=IntWalk.i64_in _ (by omega)
        have wt:IntKind.i64.wrap (Q.total+m5)=Q.total+m5:=IntWalk.i64_in _ (by omega)
        have hbs:=(Below.refl w8.heap.size w10).setCell (p:=⟨w8.heap.size,2,none⟩) (zn _) (.int .i64 (Q.total+m5))
        have hQ11:=HQ10.out.set2 (Q.total+m5)
        have hB11:=HB10.out.trans (hbs.mono hltB)
        have h2:∃ p1 p2 p3,honV l { Q with total:=Q.total+m5 } (pb:Nat)=(p1,p2,p3)∧((m5=0∧p3=0)∨(m5≠0∧p3=9)):=by
         by_cases h0:m5=0
         · subst h0
           refine ⟨Q.total,Q.keep,0,?_,.inl ⟨rfl,rfl⟩⟩
           rw [Int.add_zero]
           exact HR0.out
         · exact ⟨0,0,9,hq2 _ h0,.inr ⟨h0,rfl⟩⟩
        obtain ⟨p1,p2,p3,h2,h3⟩:=h2
        have hc:=fun W hv hu ht=>Z2m l { Q with total:=Q.total+m5 } (pb:Nat) (.slice (some ⟨g,o,none⟩) l.length c) (.agg (qtC { Q with total:=Q.total+m5 } nv)) W hv hu (by omega) HSR2.out hdg (show Q.nights.length≤50000 by omega) ht
        rw [h2] at hc
        unfold HonP at hc
        have HQ11:=zh hQ11;have HB11:=zh hB11;have HC:=zh hc;have H3:=zh h3;clear hQ11 hB11 hc h3 hbs HB10 HQ10 HX10 HY10 HOTH hs hq2 h2;generalize x.num=n1 at *
        generalize l[k].num=n2 at *
        go_upto_region 16 with fail
        generalize w10.setCell ⟨w8.heap.size,2,none⟩ (.int .i64 (Q.total+m5))=w11 at *
        clear t2 f2 x0 x1 x2 y0 y1 y2;have hqh:=HQ11.out.h
        have HQH:=zh hqh;clear hqh;go_wp2_with (refine Z0f rfl _ rfl w8.heap.size rfl _ (Z28 _ _) _ HQH.out ?_)
        refine (HC.out w11 (HV.out w11 HB11.out) (HQZ.out _ _ _ HQ11.out) (Z05 HT.out HB11.out)).mono ?_
        rintro e w12 ⟨rfl,hb12⟩;have hB12:=Z00 HB11.out hb12
        have HB12:=zh hB12;clear hB12 HB11 HQ11 HQH HC hb12;rcases H3.out with ⟨rfl,rfl⟩ | ⟨h0,rfl⟩
        · go_wp2_with fail
          go_ret
          exact ⟨rfl,HB12.out⟩
        · have d0:(m5==0)=false:=by simpa using h0
          have d1:(m5 != 0)=true:=by simpa using h0
          go_wp2_with fail;go_ret
          exact ⟨rfl,HB12.out⟩
    · have de:(er != 0)=true:=by simpa using he
      clear he;go_wp2_with fail;go_ret
      exact ⟨rfl,HB9.out⟩
end Go.Proofs.YtnepkoepbapgeaaGreatDoor
