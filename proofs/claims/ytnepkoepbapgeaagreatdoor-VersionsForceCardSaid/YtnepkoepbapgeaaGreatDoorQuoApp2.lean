/-
  Several texts in one: PrtCan, QuoR12b, QuoApp2.
-/
import Derived.Test.YtnepkoepbapgeaaGreatDoorLexPlain8
import Derived.Deep.RegionWith
import Derived.Test.YtnepkoepbapgeaaGreatDoorQuoR12a
import Derived.Test.YtnepkoepbapgeaaGreatDoorQuoTyp4
import Derived.Laws.AppendOwnNone
import Derived.Test.YtnepkoepbapgeaaGreatDoorParMem
namespace Go.Proofs.YtnepkoepbapgeaaGreatDoor
set_option maxHeartbeats 4000000
set_option maxRecDepth 100000
section
open Go.RowKit Lx Px
theorem Zqp (r:Rt)(wv pv:Value)(w:World)(B:Nat)(hwv:FoV w B wv r.wl)(hpv:FoV w B pv r.pl)(hBw:B≤w.heap.size) :
 Calls Tryz.prog 88 #[rtV r wv pv] w fun e w'=>e=.returned (.bool r.can)∧Below w.heap.size w w':=by
 have hwv':=hwv
 have hpv':=hpv
 obtain ⟨WA,wc,rfl,hq1⟩:=hwv'
 obtain ⟨PA,pc,rfl,hq2⟩:=hpv'
 have HWV:=zh hwv;have HPV:=zh hpv;clear hwv hpv hq1 hq2;obtain ⟨id,lv,kd,fr,un,ls,mo,ar,kn,kq,wo,wn,wl,po,pn,pl⟩:=r
 suffices hall:∀ c:Bool,c=Rt.can ⟨id,lv,kd,fr,un,ls,mo,ar,kn,kq,wo,wn,wl,po,pn,pl⟩→Calls Tryz.prog 88 #[.agg #[.int .i64 id,.int .i64 lv,.int .i64 kd,.int .i64 fr,.int .i64 un,.int .i64 ls,.int .i64 mo,.int .i64 ar,.int .i64 kn,.int .i64 kq,.int .i64 wo,.int .i64 wn,.slice WA (flen wl) wc,.int .i64 po,.int .i64 pn,.slice PA (flen pl) pc]] w (fun e w'=>e=.returned (.bool c)∧Below w.heap.size w w') from hall _ rfl
 intro c hc
 have hwv:FoV w B (.slice WA (flen wl) wc) wl:=HWV.out
 have hpv:FoV w B (.slice PA (flen pl) pc) pl:=HPV.out
 clear HWV HPV;have HWV:=zh hwv;have HPV:=zh hpv;have hres:c=(([id,lv,kd,fr,un,ls,mo,ar].all numB&&(ratB kn kq&&(100 % kq==0))&&numB (100 / kq*kn)&&(Z0i wo wn wl&&Z0i po pn pl))):=by rw [hc];rfl
 simp only [List.all_cons,List.all_nil,Bool.and_true] at hres
 have HRES:=zh hres;clear hres hc hwv hpv;have hb0:=(Below.refl w.heap.size w).alloc (zn _) (.cells #[.int .i64 id,.int .i64 lv,.int .i64 kd,.int .i64 fr,.int .i64 un,.int .i64 ls,.int .i64 mo,.int .i64 ar,.int .i64 kn,.int .i64 kq,.int .i64 wo,.int .i64 wn,.slice WA (flen wl) wc,.int .i64 po,.int .i64 pn,.slice PA (flen pl) pc] 65)
 have hx0:=za w (.cells #[.int .i64 id,.int .i64 lv,.int .i64 kd,.int .i64 fr,.int .i64 un,.int .i64 ls,.int .i64 mo,.int .i64 ar,.int .i64 kn,.int .i64 kq,.int .i64 wo,.int .i64 wn,.slice WA (flen wl) wc,.int .i64 po,.int .i64 pn,.slice PA (flen pl) pc] 65)
 have H0:Hid (Z3h w #[.int .i64 id,.int .i64 lv,.int .i64 kd,.int .i64 fr,.int .i64 un,.int .i64 ls,.int .i64 mo,.int .i64 ar,.int .i64 kn,.int .i64 kq,.int .i64 wo,.int .i64 wn,.slice WA (flen wl) wc,.int .i64 po,.int .i64 pn,.slice PA (flen pl) pc] (w.alloc (.cells #[.int .i64 id,.int .i64 lv,.int .i64 kd,.int .i64 fr,.int .i64 un,.int .i64 ls,.int .i64 mo,.int .i64 ar,.int .i64 kn,.int .i64 kq,.int .i64 wo,.int .i64 wn,.slice WA (flen wl) wc,.int .i64 po,.int .i64 pn,.slice PA (flen pl) pc] 65))):=⟨hx0,hb0⟩
 clear hb0 hx0;go_enter Tryz.func88,Tryz.ntmps88
 go_wp2_with fail;refine (Z1i id _).mono ?_
 rintro e w' ⟨rfl,rfl⟩;cases h0:numB id with
 | false =>
  have hr:=HRES.out
  simp only [h0,Bool.false_and] at hr
  have HR2:=zh hr;clear hr h0;go_wp2_with fail;go_ret
  rw [HR2.out]
  exact ⟨rfl,H0.out.2⟩
 | true =>
  go_wp2_with fail;refine (Z1i lv _).mono ?_
  rintro e w' ⟨rfl,rfl⟩;cases h1:numB lv with
  | false =>
   have hr:=HRES.out
   simp only [h0,h1,Bool.false_and,Bool.true_and] at hr
   have HR2:=zh hr;clear hr h0 h1;go_wp2_with fail;go_ret
   rw [HR2.out]
   exact ⟨rfl,H0.out.2⟩
  | true =>
   go_wp2_with fail;refine (Z1i kd _).mono ?_
   rintro e w' ⟨rfl,rfl⟩;cases h2:numB kd with
   | false =>
    have hr:=HRES.out
    simp only [h0,h1,h2,Bool.false_and,Bool.true_and] at hr
    have HR2:=zh hr;clear hr h0 h1 h2;go_wp2_with fail;go_ret
    rw [HR2.out]
    exact ⟨rfl,H0.out.2⟩
   | true =>
    go_wp2_with fail;refine (Z1i fr _).mono ?_
    rintro e w' ⟨rfl,rfl⟩;cases h3:numB fr with
    | false =>
     have hr:=HRES.out
     simp only [h0,h1,h2,h3,Bool.false_and,Bool.true_and] at hr
     have HR2:=zh hr;clear hr h0 h1 h2 h3;go_wp2_with fail;go_ret
     rw [HR2.out]
     exact ⟨rfl,H0.out.2⟩
    | true =>
     go_wp2_with fail;refine (Z1i un _).mono ?_
     rintro e w' ⟨rfl,rfl⟩;cases h4:numB un with
     | false =>
      have hr:=HRES.out
      simp only [h0,h1,h2,h3,h4,Bool.false_and,Bool.true_and] at hr
      have HR2:=zh hr;clear hr h0 h1 h2 h3 h4;go_wp2_with fail;go_ret
      rw [HR2.out]
      exact ⟨rfl,H0.out.2⟩
     | true =>
      go_wp2_with fail;refine (Z1i ls _).mono ?_
      rintro e w' ⟨rfl,rfl⟩;cases h5:numB ls with
      | false =>
       have hr:=HRES.out
       simp only [h0,h1,h2,h3,h4,h5,Bool.false_and,Bool.true_and] at hr
       have HR2:=zh hr;clear hr h0 h1 h2 h3 h4 h5;go_wp2_with fail;go_ret
       rw [HR2.out]
       exact ⟨rfl,H0.out.2⟩
      | true =>
       go_wp2_with fail;refine (Z1i mo _).mono ?_
       rintro e w' ⟨rfl,rfl⟩;cases h6:numB mo with
       | false =>
        have hr:=HRES.out
        simp only [h0,h1,h2,h3,h4,h5,h6,Bool.false_and,Bool.true_and] at hr
        have HR2:=zh hr;clear hr h0 h1 h2 h3 h4 h5 h6;go_wp2_with fail;go_ret
        rw [HR2.out]
        exact ⟨rfl,H0.out.2⟩
       | true =>
        go_wp2_with fail;refine (Z1i ar _).mono ?_
        rintro e w' ⟨rfl,rfl⟩;cases h7:numB ar with
        | false =>
         have hr:=HRES.out
         simp only [h0,h1,h2,h3,h4,h5,h6,h7,Bool.false_and,Bool.true_and] at hr
         have HR2:=zh hr;clear hr h0 h1 h2 h3 h4 h5 h6 h7;go_wp2_with fail;go_ret
         rw [HR2.out]
         exact ⟨rfl,H0.out.2⟩
        | true =>
         go_wp2_with fail;have hr:=HRES.out
         simp only [h0,h1,h2,h3,h4,h5,h6,h7,Bool.true_and] at hr
         have HR2:=zh hr;clear hr HRES h0 h1 h2 h3 h4 h5 h6 h7;generalize w.alloc (.cells #[.int .i64 id,.int .i64 lv,.int .i64 kd,.int .i64 fr,.int .i64 un,.int .i64 ls,.int .i64 mo,.int .i64 ar,.int .i64 kn,.int .i64 kq,.int .i64 wo,.int .i64 wn,.slice WA (flen wl) wc,.int .i64 po,.int .i64 pn,.slice PA (flen pl) pc] 65)=W1 at *
         have c8:W1.cell? ⟨w.heap.size,8,none⟩=some (.int .i64 kn):=H0.out.cell 8 _ rfl
         have c9:W1.cell? ⟨w.heap.size,9,none⟩=some (.int .i64 kq):=H0.out.cell 9 _ rfl
         have hrt:=fun W=>Z6c kn kq W
         cases hrat:ratB kn kq with
         | false =>
          rw [hrat] at hrt
          have hr:=HR2.out
          rw [hrat] at hr
          simp only [Bool.false_and] at hr
          have HR3:=zh hr;have HRT:=zh hrt;clear hr hrt hrat HR2;go_cut [73] from 3 (fun s73 wx=>s73=.bool true∧Z3h w #[.int .i64 id,.int .i64 lv,.int .i64 kd,.int .i64 fr,.int .i64 un,.int .i64 ls,.int .i64 mo,.int .i64 ar,.int .i64 kn,.int .i64 kq,.int .i64 wo,.int .i64 wn,.slice WA (flen wl) wc,.int .i64 po,.int .i64 pn,.slice PA (flen pl) pc] wx)
          case first =>
           first | go_region_with ((go_at_call 126;refine (HRT.out _).mono ?_;rintro e w2 ⟨rfl,hb2⟩;have H2:=zh (H0.out.on (((Below.refl _ _).drew).trans hb2));clear hb2)) | fail
           all_goals go_wp2_with fail
           all_goals go_meet
           all_goals exact ⟨rfl,H2.out⟩
          case rest =>
           obtain ⟨rfl,h2⟩:=hcut
           have H2:=zh h2;clear h2;go_wp2_with fail;go_ret
           rw [HR3.out]
           exact ⟨rfl,H2.out.2⟩
         | true =>
          rw [hrat] at hrt
          have hq:=Z9B hrat;have hr:=HR2.out
          rw [hrat] at hr
          simp only [Bool.true_and] at hr
          have HR3:=zh hr;have HRT:=zh hrt;clear hr hrt hrat HR2;obtain ⟨h1,h2,h3,h4⟩:=hq
          have hqz:¬ kq=0:=by omega
          by_cases hmod:100 % kq=0
          · have hmb:(100 % kq != 0)=false:=by simpa using hmod
            have hmt:((100:Int).tmod kq != 0)=false:=by rw [Int.tmod_eq_emod_of_nonneg (by omega)];exact hmb
            have hq0:0≤100 / kq∧100 / kq≤100:=⟨Int.ediv_nonneg (by omega) (by omega),Int.ediv_le_self _ (by omega)⟩
            obtain ⟨q,hq⟩:∃ q,q=100 / kq:=⟨_,rfl⟩
            obtain ⟨pc2,hp⟩:∃ p,p=q*kn:=⟨_,rfl⟩
            have hpb : -100000000000≤pc2∧pc2≤100000000000:=by
             rw [hp,hq]
             have a1:=Z5y (x:=100 / kq) (y:=kn) (a:=100) (b:=1000000000) hq0.1 hq0.2 h3 h4 (by omega)
             omega
            rw [← hq] at hq0
            have e1:(100:Int).tdiv kq=q:=by rw [Int.tdiv_eq_ediv_of_nonneg (by omega),hq]
            have e2:(100:Int) / kq=q:=hq.symm
            have e3:IntKind.i64.wrap q=q:=IntWalk.i64_in _ (by omega)
            have e4:IntKind.i64.wrap (kn*q)=pc2:=by rw [Int.mul_comm,← hp];exact IntWalk.i64_in _ (by omega)
            have hr:=HR3.out
            rw [hmod,← hq,← hp] at hr
            simp only [beq_self_eq_true,Bool.true_and] at hr
            have HR4:=zh hr;have hnum:=fun W=>Z1i pc2 W
            have HNUM:=zh hnum;clear hr hmod hq hp HR3 hnum;obtain ⟨hq1,hq2⟩:=hq0
            obtain ⟨hp1,hp2⟩:=hpb
            have hz1:w.heap.size<W1.heap.size:=(zs H0.out.1)
            cases hnp:numB pc2 with
            | false =>
             have hr:=HR4.out
             rw [hnp] at hr
             simp only [Bool.false_and] at hr
             have HR5:=zh hr;have HNP:=zh hnp;clear hr hnp HR4;go_region_held3 (fun w'=>w'.cell? ⟨w.heap.size,8,none⟩=some (.int .i64 kn)∧w'.cell? ⟨w.heap.size,9,none⟩=some (.int .i64 kq)) (first | with_reducible exact ⟨c8,c9⟩ | with_reducible exact ⟨y8,y9⟩ | go_keep)
              (first
               | (go_at_call 126;refine (HRT.out _).mono ?_;rintro e w2 ⟨rfl,hb2⟩;have h2':=H0.out.on (((Below.refl _ _).drew).trans hb2);have y8:=h2'.cell 8 (.int .i64 kn) rfl;have y9:=h2'.cell 9 (.int .i64 kq) rfl;have H2:=zh h2';clear hb2 h2')
               | (go_at_call 125;refine (HNUM.out _).mono ?_;rintro e w3 ⟨rfl,rfl⟩;rw [HNP.out]))
             all_goals go_wp2_with fail
             all_goals go_ret
             all_goals rw [HR5.out]
             all_goals exact ⟨rfl,H2.out.2⟩
            | true =>
             have hr:=HR4.out
             rw [hnp] at hr
             simp only [Bool.true_and] at hr
             have HR5:=zh hr;have HNP:=zh hnp;clear hr hnp HR4;go_region_held3 (fun w'=>w'.cell? ⟨w.heap.size,8,none⟩=some (.int .i64 kn)∧w'.cell? ⟨w.heap.size,9,none⟩=some (.int .i64 kq)) (first | with_reducible exact ⟨c8,c9⟩ | with_reducible exact ⟨y8,y9⟩ | go_keep)
              (first
               | (go_at_call 126;refine (HRT.out _).mono ?_;rintro e w2 ⟨rfl,hb2⟩;have h2':=H0.out.on (((Below.refl _ _).drew).trans hb2);have y8:=h2'.cell 8 (.int .i64 kn) rfl;have y9:=h2'.cell 9 (.int .i64 kq) rfl;have H2:=zh h2';clear hb2 h2')
               | (go_at_call 125;refine (HNUM.out _).mono ?_;rintro e w3 ⟨rfl,rfl⟩;rw [HNP.out]))
             clear y8 y9 c8 c9;have hs2:=H2.out.2.size
             have c10:w2.cell? ⟨w.heap.size,10,none⟩=some (.int .i64 wo):=H2.out.cell 10 _ rfl
             have c11:w2.cell? ⟨w.heap.size,11,none⟩=some (.int .i64 wn):=H2.out.cell 11 _ rfl
             have c12:w2.cell? ⟨w.heap.size,12,none⟩=some (.slice WA (flen wl) wc):=H2.out.cell 12 _ rfl
             go_wp2_with fail;refine (Z55 wo wn wl (.slice WA (flen wl) wc) _ ((HWV.out.on (H2.out.2.mono hBw)).up (by omega))).mono ?_
             rintro e w4 ⟨rfl,hb4⟩;have H4:=zh (H2.out.on hb4)
             clear hb4 c10 c11 c12;cases hvw:Z0i wo wn wl with
             | false =>
              have hr:=HR5.out
              rw [hvw] at hr
              simp only [Bool.false_and] at hr
              have HR6:=zh hr;clear hr hvw;go_wp2_with fail;go_ret
              rw [HR6.out]
              exact ⟨rfl,H4.out.2⟩
             | true =>
              have hr:=HR5.out
              rw [hvw] at hr
              simp only [Bool.true_and] at hr
              have HR6:=zh hr;have hs4:=H4.out.2.size
              have c13:w4.cell? ⟨w.heap.size,13,none⟩=some (.int .i64 po):=H4.out.cell 13 _ rfl
              have c14:w4.cell? ⟨w.heap.size,14,none⟩=some (.int .i64 pn):=H4.out.cell 14 _ rfl
              have c15:w4.cell? ⟨w.heap.size,15,none⟩=some (.slice PA (flen pl) pc):=H4.out.cell 15 _ rfl
              clear hr hvw;go_wp2_with fail;refine (Z55 po pn pl (.slice PA (flen pl) pc) _ ((HPV.out.on (H4.out.2.mono hBw)).up (by omega))).mono ?_
              rintro e w5 ⟨rfl,hb5⟩;have H5:=zh (H4.out.on hb5)
              clear hb5 c13 c14 c15;go_wp2_with fail;go_ret
              rw [HR6.out]
              exact ⟨rfl,H5.out.2⟩
          · have hmb:(100 % kq != 0)=true:=by simpa using hmod
            have hmt:((100:Int).tmod kq != 0)=true:=by rw [Int.tmod_eq_emod_of_nonneg (by omega)];exact hmb
            have hmc:((100:Int) % kq==0)=false:=by simpa using hmod
            have hr:=HR3.out
            rw [hmc] at hr
            simp only [Bool.false_and] at hr
            have HR4:=zh hr;clear hr hmc hmod;go_cut [73] from 3 (fun s73 wx=>s73=.bool true∧Z3h w #[.int .i64 id,.int .i64 lv,.int .i64 kd,.int .i64 fr,.int .i64 un,.int .i64 ls,.int .i64 mo,.int .i64 ar,.int .i64 kn,.int .i64 kq,.int .i64 wo,.int .i64 wn,.slice WA (flen wl) wc,.int .i64 po,.int .i64 pn,.slice PA (flen pl) pc] wx)
            case first =>
             first | go_region_with ((go_at_call 126;refine (HRT.out _).mono ?_;rintro e w2 ⟨rfl,hb2⟩;have h2':=H0.out.on (((Below.refl _ _).drew).trans hb2);have y8:=h2'.cell 8 (.int .i64 kn) rfl;have y9:=h2'.cell 9 (.int .i64 kq) rfl;have H2:=zh h2';clear hb2 h2')) | fail
             all_goals go_wp2_with fail
             all_goals go_meet
             all_goals exact ⟨rfl,H2.out⟩
            case rest =>
             obtain ⟨rfl,h2⟩:=hcut
             have H2:=zh h2;clear h2;go_wp2_with fail;go_ret
             rw [HR4.out]
             exact ⟨rfl,H2.out.2⟩
end
section
open Go.RowKit Lx Px Qx
theorem Zcv (n lo hi:Int)(w:World):Calls Tryz.prog 81 #[.int .i64 n,.int .i64 lo,.int .i64 hi] w fun e w'=>e=.returned (.bool (Z1q n lo hi))∧w=w':=by
 unfold Z1q
 obtain ⟨b1,h1⟩:∃ b,decide (lo≤n)=b:=⟨_,rfl⟩
 obtain ⟨b2,h2⟩:∃ b,decide (n≤hi)=b:=⟨_,rfl⟩
 rw [h1,h2]
 cases b1 <;> cases b2
 all_goals
  go_enter Tryz.func81,Tryz.ntmps81
  go_wp2_with fail;go_ret
  exact ⟨rfl,rfl⟩
theorem Zfk (a:Qx.Ask)(w:World):Calls Tryz.prog 46 #[askV a] w fun e w'=>e=.returned (.bool a.okB)∧Below w.heap.size w w':=by
 obtain ⟨kd,fr,un,ps⟩:=a
 have hb:=(Below.refl w.heap.size w).alloc (zn _) (.cells #[.int .i64 kd,.int .i64 fr,.int .i64 un,.int .i64 ps] 26)
 have hk:=fun W=>Zcv kd 1 20 W
 have hp:=fun W=>Zcv ps 1 8 W
 have hk':Z1q kd 1 20=(decide (1≤kd)&&decide (kd≤20)):=rfl
 have hp':Z1q ps 1 8=(decide (1≤ps)&&decide (ps≤8)):=rfl
 have hE:(⟨kd,fr,un,ps⟩:Qx.Ask).okB=((decide (0≤fr)&&decide (fr<un)&&decide (un≤366)&&decide (un - fr≤60))&&Z1q kd 1 20&&Z1q ps 1 8):=by
  rw [hk',hp'];simp only [Ask.okB,Bool.and_assoc]
 rw [hE]
 generalize Z1q kd 1 20=b1 at *
 generalize Z1q ps 1 8=b2 at *
 clear hk' hp' hE;dsimp only [askV]
 by_cases h1:0≤fr
 · have d1:decide (0≤fr)=true:=by simpa using h1
   have d1':decide (fr≥0)=true:=d1
   by_cases h2:fr<un
   · have d2:decide (fr<un)=true:=by simpa using h2
     by_cases h3:un≤366
     · have d3:decide (un≤366)=true:=by simpa using h3
       have hw:IntKind.i64.wrap (un - fr)=un - fr:=IntWalk.i64_in _ (by omega)
       obtain ⟨b4,d4⟩:∃ b,decide (un - fr≤60)=b:=⟨_,rfl⟩
       rw [d1,d2,d3,d4]
       have HK:=zh hk;have HP:=zh hp;have HB:=zh hb;clear hk hp hb;cases b4
       · go_enter Tryz.func46,Tryz.ntmps46
         go_wp2_with fail;go_ret
         exact ⟨rfl,HB.out⟩
       · cases b1
         · go_enter Tryz.func46,Tryz.ntmps46
           go_wp2_with fail;refine (HK.out _).mono ?_
           rintro e w' ⟨rfl,rfl⟩;go_wp2_with fail;go_ret
           exact ⟨rfl,HB.out⟩
         · go_enter Tryz.func46,Tryz.ntmps46
           go_wp2_with fail;refine (HK.out _).mono ?_
           rintro e w' ⟨rfl,rfl⟩;go_wp2_with fail;refine (HP.out _).mono ?_
           rintro e w' ⟨rfl,rfl⟩;go_wp2_with fail;go_ret
           exact ⟨by simp,HB.out⟩
     · have d3:decide (un≤366)=false:=by simpa using h3
       rw [d1,d2,d3]
       have HB:=zh hb;clear hb hk hp;go_enter Tryz.func46,Tryz.ntmps46
       go_wp2_with fail;go_ret
       exact ⟨rfl,HB.out⟩
   · have d2:decide (fr<un)=false:=by simpa using h2
     rw [d1,d2]
     have HB:=zh hb;clear hb hk hp;go_enter Tryz.func46,Tryz.ntmps46
     go_wp2_with fail;go_ret
     exact ⟨rfl,HB.out⟩
 · have d1:decide (0≤fr)=false:=by simpa using h1
   have d1':decide (fr≥0)=false:=d1
   rw [d1]
   have HB:=zh hb;clear hb hk hp;go_enter Tryz.func46,Tryz.ntmps46
   go_wp2_with fail;go_ret
   exact ⟨rfl,HB.out⟩
theorem Zh9 (v:Vr)(V:Value)(w:World)(hV:VrV w w.heap.size V v):Calls Tryz.prog 15 #[V] w fun e w'=>(∃ b,e=.returned (.bool b))∧Below w.heap.size w w':=by
 obtain ⟨A,c,rfl,hR⟩:=hV
 have hb:=(Below.refl w.heap.size w).alloc (zn _) (.cells #[.int .i64 v.num,.int .i64 v.time,.slice A v.rs.length c] 24)
 have hx:=za w (.cells #[.int .i64 v.num,.int .i64 v.time,.slice A v.rs.length c] 24)
 have hcl:=Zap v.rs (.slice A v.rs.length c) _ ((hR.on hb).up hb.size)
 unfold vrV
 have HB:=zh hb;have HX:=zh hx;have HCL:=zh hcl;have HR:=zh hR;clear hb hx hcl hR;go_enter Tryz.func15,Tryz.ntmps15
 go_wp2_with fail;generalize w.alloc (.cells #[.int .i64 v.num,.int .i64 v.time,.slice A v.rs.length c] 24)=w1 at *
 refine HCL.out.mono ?_
 rintro e w2 ⟨⟨b,rfl⟩,hb2⟩
 have hx2:=(hb2.block _ (zs HX.out)).trans HX.out
 have hB2:=Z00 HB.out hb2
 have c2:w2.cell? ⟨w.heap.size,2,none⟩=some (.slice A v.rs.length c):=by rw [zc hx2];rfl
 obtain ⟨b2,d2⟩:∃ b,decide ((v.rs.length:Int)≤20)=b:=⟨_,rfl⟩
 have HB2:=zh hB2;clear hB2 hb2 hx2 HB HX HCL;cases b
 · go_wp2_with fail
   go_ret
   exact ⟨⟨_,rfl⟩,HB2.out⟩
 · go_wp2_with fail
   go_ret
   exact ⟨⟨_,rfl⟩,HB2.out⟩
theorem Zqq {v:Vr}(h1:1≤v.num)(h2:v.num≤1000000)(h3:Z0D v.time=true)(h4:useB v.rs=true):v.okB=v.rs.all Rt.can:=by
 unfold Vr.okB;rw [h3,h4];simp [h1,h2]
theorem ok_not {v:Vr}(h:¬ (1≤v.num∧v.num≤1000000∧Z0D v.time=true∧useB v.rs=true)):v.okB=false:=by
 unfold Vr.okB
 rw [← Bool.not_eq_true]
 intro hc
 simp only [Bool.and_eq_true,decide_eq_true_eq] at hc
 exact h ⟨hc.1.1.1.1,hc.1.1.1.2,hc.1.1.2,hc.1.2⟩
theorem Zha {l:List Rt}{k:Nat}(hk:k<l.length)(h:l[k].can=false):l.all Rt.can=false:=by
 rw [← Bool.not_eq_true,List.all_eq_true]
 intro hc
 rw [hc _ (List.getElem_mem hk)] at h
 cases h
theorem Ze4 {l:List Rt}(h:∀ k (hk:k<l.length),l[k].can=true):l.all Rt.can=true:=by
 rw [List.all_eq_true]
 intro r hr
 obtain ⟨k,hk,rfl⟩:=List.getElem_of_mem hr
 exact h k hk
theorem Zcw (v:Vr)(V:Value)(w:World)(hV:VrV w w.heap.size V v):Calls Tryz.prog 52 #[V] w fun e w'=>e=.returned (.bool v.okB)∧Below w.heap.size w w':=by
 obtain ⟨A,c,rfl,hR⟩:=hV
 have hb:=(Below.refl w.heap.size w).alloc (zn _) (.cells #[.int .i64 v.num,.int .i64 v.time,.slice A v.rs.length c] 24)
 have hx:=za w (.cells #[.int .i64 v.num,.int .i64 v.time,.slice A v.rs.length c] 24)
 have hcl:=Zd6 v.rs (.slice A v.rs.length c) _ ((hR.on hb).up hb.size)
 have htm:=fun W=>Z4B v.time W
 have hlast:=@Zqq v
 have hnot:=@ok_not v
 have hlen:useB v.rs=true→v.rs.length≤100:=fun h=>((Z31 _).1 h).1
 unfold vrV
 obtain ⟨R,hRR⟩:∃ R,v.okB=R:=⟨_,rfl⟩
 rw [hRR] at hlast hnot ⊢
 clear hRR;generalize Z0D v.time=bt at *
 generalize useB v.rs=bu at *
 by_cases h1:1≤v.num
 · have d1:decide (v.num<1)=false:=by simp;omega
   by_cases h2:v.num≤1000000
   · have d2:decide (v.num > 1000000)=false:=by simp;omega
     cases bt with
     | false =>
      have hr:=hnot (fun h=>by simp at h)
      subst hr;have HB:=zh hb;have HTM:=zh htm;clear hb htm hlast hnot hcl hx;go_enter Tryz.func52,Tryz.ntmps52
      go_wp2_with fail;refine (HTM.out _).mono ?_
      rintro e w' ⟨rfl,rfl⟩;go_wp2_with fail;go_ret
      exact ⟨rfl,HB.out⟩
     | true =>
      cases bu with
      | false =>
       have hr:=hnot (fun h=>by simp at h)
       subst hr;have HB:=zh hb;have HTM:=zh htm;have HCL:=zh hcl;clear hb htm hcl hlast hnot hx;go_enter Tryz.func52,Tryz.ntmps52
       go_wp2_with fail;refine (HTM.out _).mono ?_
       rintro e w' ⟨rfl,rfl⟩;go_wp2_with fail;refine (HCL.out).mono ?_
       rintro e w2 ⟨rfl,hb2⟩;go_wp2_with fail;go_ret
       exact ⟨rfl,Z00 HB.out hb2⟩
      | true =>
       have hr:=hlast h1 h2 rfl rfl
       have hl100:=hlen rfl;have HB:=zh hb;have HTM:=zh htm;have HCL:=zh hcl;have HX:=zh hx;have HR:=zh hR;have HRR:=zh hr;clear hb htm hcl hx hR hr hlast hnot;go_enter Tryz.func52,Tryz.ntmps52
       go_wp2_with fail;refine (HTM.out _).mono ?_
       rintro e w' ⟨rfl,rfl⟩;go_wp2_with fail;generalize w.alloc (.cells #[.int .i64 v.num,.int .i64 v.time,.slice A v.rs.length c] 24)=w1 at *
       refine HCL.out.mono ?_
       rintro e w2 ⟨rfl,hb2⟩;have hx2:=(hb2.block _ (zs HX.out)).trans HX.out
       have hB2:=Z00 HB.out hb2
       have HB2:=zh hB2;have HX2:=zh hx2;clear hB2 hx2 hb2 HB HX HCL HTM;go_wp2_with fail;go_loopw [3] (fun i wr=>∃ k:Nat,k≤v.rs.length∧i=.int .i64 k∧Below w.heap.size w wr∧wr.heap[w.heap.size]?=some (.cells #[.int .i64 v.num,.int .i64 v.time,.slice A v.rs.length c] 24 (0,0))∧∀ j (hj:j<v.rs.length),j<k→v.rs[j].can=true) (fun i _=>v.rs.length - (intOf i).toNat)
       case atStart=>exact ⟨0,by omega,rfl,HB2.out,HX2.out,fun j _ h=>absurd h (by omega)⟩
       case round =>
        obtain ⟨k,hk,rfl,hbr,hxr,hcan⟩:=hrel
        have c2:wr.cell? ⟨w.heap.size,2,none⟩=some (.slice A v.rs.length c):=by rw [zc hxr];rfl
        by_cases hlt:k<v.rs.length
        · obtain ⟨g,o,WA,PA,wk,pc,rfl,hgl,f1,f2,hc⟩:=Z9d (HR.out.on hbr) hlt
          have hno:=@Zha v.rs k hlt
          have hst:v.rs[k].can=true→∀ j (hj:j<v.rs.length),j<k+1→v.rs[j].can=true:=by
           intro h j hj hjk
           by_cases he:j=k
           · subst he;exact h
           · exact hcan j hj (by omega)
          have hcall:=Zqp v.rs[k] (.slice WA (flen v.rs[k].wl) wk) (.slice PA (flen v.rs[k].pl) pc) wr wr.heap.size (f1.up hbr.size) (f2.up hbr.size) (zn _)
          rw [rtV] at hcall
          generalize v.rs[k].can=b at *
          generalize v.rs[k]=r at *
          have HC:=zh (Zd7 hc)
          have dk:decide ((k:Int)<(v.rs.length:Int))=true:=by simpa using hlt
          have i2:(k:Int)<(v.rs.length:Int):=by omega
          have HCALL:=zh hcall;have HNO:=zh hno;have HST:=zh hst;have HBR:=zh hbr;have HXR:=zh hxr;have HCAN:=zh hcan;clear hcall hno hst hbr hxr hcan hc f1 f2;go_wp2_with (with_reducible refine Z3v rfl _ rfl g (o+k*16) rfl _ rfl HC.out ?_)
          refine HCALL.out.mono ?_
          rintro e w3 ⟨rfl,hb3⟩;have hx3:=(hb3.block _ (zs HXR.out)).trans HXR.out
          have hB3:=Z00 HBR.out hb3
          have HB3:=zh hB3;have HX3:=zh hx3;clear hB3 hx3 hb3 HBR HXR HCALL c2 HC;cases b with
          | false =>
           have hr:=HRR.out
           rw [HNO.out rfl] at hr
           subst hr;go_wp2_with fail;go_ret
           exact ⟨rfl,HB3.out⟩
          | true =>
           have hs:=HST.out rfl
           have HS:=zh hs;clear hs;go_wp2_with fail;go_roundw
           case rel=>exact ⟨k+1,by omega,by go_num,HB3.out,HX3.out,HS.out⟩
           case measure=>simp [intOf];omega
        · have hke:k=v.rs.length:=by omega
          subst hke;have dk:decide ((v.rs.length:Int)<(v.rs.length:Int))=false:=by simp
          have hr:=HRR.out
          rw [Ze4 (fun j hj=>hcan j hj hj)] at hr
          subst hr;have HBR:=zh hbr;clear hbr hcan hxr;go_wp2_with fail;go_ret
          exact ⟨rfl,HBR.out⟩
   · have d2:decide (v.num > 1000000)=true:=by simp;omega
     have hr:=hnot (fun h=>by omega)
     subst hr;have HB:=zh hb;clear hb hlast hnot hcl hx htm;go_enter Tryz.func52,Tryz.ntmps52
     go_wp2_with fail;go_ret
     exact ⟨rfl,HB.out⟩
 · have d1:decide (v.num<1)=true:=by simp;omega
   have hr:=hnot (fun h=>by omega)
   subst hr;have HB:=zh hb;clear hb hlast hnot hcl hx htm;go_enter Tryz.func52,Tryz.ntmps52
   go_wp2_with fail;go_ret
   exact ⟨rfl,HB.out⟩
end
section
open Go.RowKit Lx Px Qx
def IntB (w:World)(p:Nat)(x:Int):Prop:=w.heap[p]?=some (.cells #[.int .i64 x] 3 (0,0))
theorem IntB.lt {w:World}{p:Nat}{x:Int}(h:IntB w p x):p<w.heap.size:=(zs h)
theorem IntB.on {w w':World}{p:Nat}{x:Int}(h:IntB w p x)(hb:Below w.heap.size w w'):IntB w' p x:=(hb.block p h.lt).trans h
theorem IntB.c {w:World}{p:Nat}{x:Int}(h:IntB w p x):w.cell? ⟨p,0,none⟩=some (.int .i64 x):=by rw [zc h];rfl
theorem IntB.fr {w:World}{p:Nat}{x:Int}(h:IntB w p x):w.frozen? ⟨p,0,none⟩=false:=by have h':w.heap[p]?=_:=h;simp [World.frozen?,h']
theorem IntB.set {w:World}{p:Nat}{x:Int}(h:IntB w p x)(y:Int):IntB (w.setCell ⟨p,0,none⟩ (.int .i64 y)) p y:=by
 have h':w.heap[p]?=_:=h
 simp [IntB,World.setCell,Array.getElem?_modify,h']
theorem IntB.new (w:World)(x:Int):IntB (w.alloc (.cells #[.int .i64 x] 3)) w.heap.size x:=za w _
theorem IntB.but {w w':World}{p q:Nat}{x:Int}(h:IntB w p x)(hb:But q w w')(hn:p≠q):IntB w' p x:=(hb.block p h.lt hn).trans h
theorem Zhb {w:World}{b o:Nat}{l:List Int}(h:∀ i (h:i<l.length),w.cell? ⟨b,o+i,none⟩=some (.int .i64 l[i]))(j:Nat)(u:Value)(hu:(l.map (.int .i64))[j]?=some u):w.cell? ((⟨b,o,none⟩:Addr).add j)=some u:=by
 rw [List.getElem?_map,Option.map_eq_some_iff] at hu
 obtain ⟨x,hx,rfl⟩:=hu
 obtain ⟨hj,rfl⟩:=List.getElem?_eq_some_iff.1 hx
 have:=h j hj
 unfold Addr.add
 split
 · rename_i h0;subst h0;exact this
 · exact this
theorem Z8F {w:World}{base n:Nat}{e:TypeId}{v:Value}{l:List Int}(h:w.ownsRow base e 1 v n (l.map (.int .i64)))(hn:n=l.length):∃ A c,v=.slice A l.length c∧l.length≤c:=by
 subst hn;rcases h.2 with ⟨hv,h0⟩ | ⟨g,cap,cur,hv,_,_,hc,_⟩
 · exact ⟨none,0,by rw [hv,h0],by omega⟩
 · exact ⟨_,cap,hv,hc⟩
theorem Z4s {w:World}{ops:Array Oper}{rest:List Oper}{o:Oper}{a:Act}{Q:Exit→Act→World→Prop}(hgd:o.guard=none)(s x:Operand)
 (ho:o.op=.call { callee:=.builtin .append,args:=#[s,x],argTypes:=#[27,27] })
 (base B:Nat) (v:Value) (ts:List Int) (hs:a.eval s=v) (hown:w.ownsRow base 3 1 v ts.length (ts.map (.int .i64)))
 (A:Option Addr) (m c:Nat) (l:List Int) (hx:a.eval x=.slice A m c) (hu:Z07 w B (.slice A m c) l) (hn:ts.length+l.length≤1000000) (hbase:base≤w.heap.size)
 (h:∀ v' w',w'.ownsRow base 3 1 v' (ts++l).length ((ts++l).map (.int .i64))→w.grownBy w' v.ownBlock→wpList Tryz.prog ops Q rest (a.put o.dst v') w'):wpList Tryz.prog ops Q (o::rest) a w:=by
 obtain ⟨i0,hi,hz0,hz1,hz2⟩:=info_parts Tryz.infoInt
 obtain ⟨A',c',e,hA⟩:=hu
 injection e with e1 e2 e3
 subst e1 e2 e3;by_cases hl:l=[]
 · subst hl
   have hfc:(Builtin.firstCells 1 0 (.slice A 0 c)).run Tryz.prog w=.ok #[] w:=by
    cases A with
    | none=>exact run_firstCells_none _ _ _ _ _
    | some p=>exact run_firstCells_some (P:=Tryz.prog) w 1 0 p 0 c [] rfl (fun j v h=>by simp at h)
   have hrun:(Builtin.append_ #[27,27] o.type #[v,.slice A 0 c]).run Tryz.prog w=.ok v w:=by
    rcases hown.2 with ⟨rfl,hn0⟩ | ⟨g,cap,cur,rfl,_,_,hnc,_⟩
    · simp [Builtin.append_,run_underlying Tryz.underlying27,sizeOf,typeInfo,hi,hz1,Builtin.lenOf,hfc]
    · simp [Builtin.append_,run_underlying Tryz.underlying27,sizeOf,typeInfo,hi,hz1,Builtin.lenOf,hfc,hnc,storeCells]
   refine wpList_plain hgd fun K hK=>?_
   unfold Oper.wp
   simp [execOp,ho,resolve,invoke,builtin,hs,hx,hrun,Result.andThen]
   refine hK _ _ (h v w (by simpa using hown) ⟨rfl,rfl,rfl,zn _,fun _ _ _=>rfl⟩)
 · obtain ⟨b,o',rfl,_,hr⟩:=hA hl
   refine wpList_append_own w hgd s x 27 ho base 3 i0 _ 1 8 Tryz.underlying27 hi hz0 hz1 hz2 rfl (by decide) v ts.length _ hs hown ⟨b,o',none⟩ l.length c (l.map (.int .i64)) hx (by simp) (Zhb hr) ?_ (by unfold maxLen;omega) (by omega) hbase ?_
   · intro u hu
     obtain ⟨x,_,rfl⟩:=List.mem_map.1 hu
     rfl
   · intro v' w' h1 h2 _
     refine h v' w' ?_ h2
     rw [List.length_append,List.map_append]
     exact h1
end
end Go.Proofs.YtnepkoepbapgeaaGreatDoor
