/-
  Walks: package versions: isRight, Valid, last, inForce.
-/
import Derived.Test.YtnepkoepbapgeaaGreatDoorQuoDgt
import Derived.Test.YtnepkoepbapgeaaGreatDoorQuoVer
import Derived.Lib.QuietBelow
import Derived.BigQuiet
namespace Go.Proofs.YtnepkoepbapgeaaGreatDoor
set_option maxHeartbeats 4000000
set_option maxRecDepth 100000
open Go.RowKit Lx Px Qx Go.Sort
attribute [local irreducible] Qx.Vr.dig
structure VxB (p:Nat) (v:Vr) (rv:Value) (W:World):Prop where
 h:W.heap[p]?=some (.cells #[.int .i64 v.num,.int .i64 v.time,rv] 24 (0,0))
 r:RtsV W p rv v.rs
theorem VxB.lt {p:Nat}{v:Vr}{rv:Value}{W:World}(h:VxB p v rv W):p<W.heap.size:=(zs h.h)
theorem VxB.on {p:Nat}{v:Vr}{rv:Value}{W W':World}(h:VxB p v rv W)(hb:Below W.heap.size W W'):VxB p v rv W':=⟨(hb.block _ h.lt).trans h.h,h.r.on (hb.mono (Nat.le_of_lt h.lt))⟩
theorem VxB.far {p B:Nat}{v:Vr}{rv:Value}{W W':World}(h:VxB p v rv W)(hb:Below B W W')(hp:p<B):VxB p v rv W':=⟨(hb.block _ hp).trans h.h,h.r.on (hb.mono (Nat.le_of_lt hp))⟩
theorem VxB.new {v:Vr}{rv:Value}{W:World}(h:RtsV W W.heap.size rv v.rs):VxB W.heap.size v rv (W.alloc (.cells #[.int .i64 v.num,.int .i64 v.time,rv] 24)) :=
 ⟨za W _,h.on ((Below.refl W.heap.size W).alloc (zn _) _)⟩
theorem VxB.cells {p:Nat}{v:Vr}{rv:Value}{W:World}(h:VxB p v rv W):W.cell? ⟨p,0,none⟩=some (.int .i64 v.num)∧W.cell? ⟨p,1,none⟩=some (.int .i64 v.time)∧W.cell? ⟨p,2,none⟩=some rv :=
 ⟨by rw [zc h.h];rfl,by rw [zc h.h];rfl,by rw [zc h.h];rfl⟩
theorem VxB.v {p:Nat}{v:Vr}{A:Option Addr}{c:Nat}{W:World}(h:VxB p v (.slice A v.rs.length c) W):VrV W W.heap.size (.agg #[.int .i64 v.num,.int .i64 v.time,.slice A v.rs.length c]) v:=⟨A,c,rfl,h.r.up (Nat.le_of_lt h.lt)⟩
theorem Z9p (v:Vr)(V:Value)(w:World)(hV:VrV w w.heap.size V v)(ht:Tabs w.heap.size w) :
 Calls Tryz.prog 77 #[V] w fun e w'=>e=.returned (.bool v.okB)∧Below w.heap.size w w':=by
 obtain ⟨A,c,rfl,hR⟩:=hV
 have hb:=(Below.refl w.heap.size w).alloc (zn _) (.cells #[.int .i64 v.num,.int .i64 v.time,.slice A v.rs.length c] 24)
 have hB0:=VxB.new hR
 have hdg:=Z7e v _ _ hB0.v (Z05 ht hb)
 obtain ⟨q0,q1,q2⟩:=hB0.cells
 unfold vrV
 have HB:=zh hb;have HDG:=zh hdg;clear hb hdg hB0;go_enter Tryz.func77,Tryz.ntmps77
 go_wp2_with fail;generalize w.alloc (.cells #[.int .i64 v.num,.int .i64 v.time,.slice A v.rs.length c] 24)=w1 at *
 refine HDG.out.mono ?_
 rintro e w2 ⟨hb2,rfl⟩;have hB2:=Z00 HB.out hb2
 have HB2:=zh hB2;clear hB2 HB hb2 HDG;cases hk:v.okB with
 | false =>
  simp only [Bool.false_eq_true,if_false,Option.getD_none,if_true]
  go_wp2_with fail;go_ret
  rw [hk]
  exact ⟨rfl,HB2.out⟩
 | true =>
  simp only [if_true,Option.getD_some,reduceCtorEq,if_false]
  go_wp2_with fail;go_ret
  rw [hk]
  exact ⟨rfl,HB2.out⟩
def VaK (w:World)(p:Nat)(v:Vr)(rv:Value)(W:World):Prop:=VxB p v rv W∧Below w.heap.size w W
theorem VaK.on {w:World}{p:Nat}{v:Vr}{rv:Value}{W W':World}(h:VaK w p v rv W)(hb:Below W.heap.size W W'):VaK w p v rv W':=⟨h.1.on hb,Z00 h.2 hb⟩
theorem VaK.drew {w:World}{p:Nat}{v:Vr}{rv:Value}{W:World}(h:VaK w p v rv W):VaK w p v rv W.drew:=h.on (Below.refl _ _).drew
theorem Zdi {w:World}{B:Nat}{RA:Option Addr}{rc:Nat}{v:Vr}(h:RtsV w B (.slice RA v.rs.length rc) v.rs)(hB:B≤w.heap.size):VrV w w.heap.size (.agg #[.int .i64 v.num,.int .i64 v.time,.slice RA v.rs.length rc]) v:=⟨RA,rc,rfl,h.up hB⟩
theorem ZpH {l:List Vr}{k:Nat}(hk:k<l.length)(h:¬ (l[k].okB=true∧∀ (_:0<k),l[k - 1].num<l[k].num∧l[k - 1].time≤l[k].time)):vsB l=false:=Z4G.2 fun hc=>h (hc.1 k hk hk)
theorem Z1A (l:List Vr)(v:Value)(w:World)(hv:VssV w w.heap.size v l)(hll:l.length≤1000)(ht:Tabs w.heap.size w) :
 Calls Tryz.prog 36 #[v] w fun e w'=>e=.returned (.bool (vsB l))∧Below w.heap.size w w':=by
 obtain ⟨A,c,rfl,_⟩:=id hv
 have hir:=fun x X W (h:VrV W W.heap.size X x) (hb:Below w.heap.size w W)=>Z9p x X W h (Z05 ht hb)
 have hB0:=Below.refl w.heap.size w
 have HV:=zh hv;have HIR:=zh hir;have HB0:=zh hB0;clear hv hir hB0 ht;go_enter Tryz.func36,Tryz.ntmps36
 go_wp2_with fail;go_loopw [7] (fun i wr=>∃ k:Nat,k≤l.length∧i=.int .i64 k∧VsK l k∧Below w.heap.size w wr) (fun i _=>l.length - (intOf i).toNat)
 case atStart=>exact ⟨0,Nat.zero_le _,rfl,VsK.zero l,HB0.out⟩
 case round =>
  clear HB0;obtain ⟨k,hk,rfl,hvk,hbw⟩:=hrel
  by_cases hlt:k<l.length
  · obtain ⟨g,o,RA,rc,rfl,hg,hR,c0,c1,c2⟩:=Z1y (HV.out.on hbw) hlt
    have dl:decide ((k:Int)<(l.length:Int))=true:=by simpa using hlt
    have hX:=VxB.new (v:=l[k]) (hR.up hbw.size)
    have hal:=hbw.alloc hbw.size (.cells #[.int .i64 l[k].num,.int .i64 l[k].time,.slice RA l[k].rs.length rc] 24)
    have hno:=@ZpH l k hlt
    have hsc:=fun h1 h2=>hvk.succ hlt h1 h2
    have hprev:∀ (_:0<k),∃ n t,n=l[k - 1].num∧t=l[k - 1].time∧wr.cell? ⟨g,o+(k - 1)*3,none⟩=some (.int .i64 n)∧wr.cell? ⟨g,o+(k - 1)*3+1,none⟩=some (.int .i64 t):=fun h0=>by
     obtain ⟨g',o',RA',rc',e',_,_,d0,d1,_⟩:=Z1y (HV.out.on hbw) (k:=k - 1) (by omega)
     injection e' with e'
     injection e' with e1 e2
     subst e1 e2;exact ⟨_,_,rfl,rfl,d0,d1⟩
    rcases hx:l[k] with ⟨num,time,xs⟩
    rw [hx] at hR c0 c1 c2 hX hal hno hsc
    dsimp only at hR c0 c1 c2 hX hal hno hsc
    have hK0:VaK w wr.heap.size ⟨num,time,xs⟩ (.slice RA xs.length rc) (wr.alloc (.cells #[.int .i64 num,.int .i64 time,.slice RA xs.length rc] 24)):=⟨hX,hal⟩
    obtain ⟨b,hb⟩:∃ b,(⟨num,time,xs⟩:Vr).okB=b:=⟨_,rfl⟩
    have hirc:∀ W,VaK w wr.heap.size ⟨num,time,xs⟩ (.slice RA xs.length rc) W→Calls Tryz.prog 77 #[.agg #[.int .i64 num,.int .i64 time,.slice RA xs.length rc]] W fun e w'=>e=.returned (.bool b)∧Below W.heap.size W w':=fun W h=>by
     have:=HIR.out _ _ W h.1.v h.2
     rw [hb] at this
     exact this
    have HIRC:=zh hirc;have HK0:=zh hK0;have HBW:=zh hbw;clear hirc hK0 hbw hX hal hR hvk;by_cases h0:0<k
    · obtain ⟨m,rfl⟩:∃ m,k=m+1:=⟨k - 1,by omega⟩
      obtain ⟨pn,pt,e1,e2,d0,d1⟩:=hprev h0
      simp only [Nat.add_sub_cancel] at e1 e2 d0 d1 hno hsc
      simp only [← e1,← e2] at hno hsc
      clear hprev hx e1 e2;have hms:∀ W',VaK w wr.heap.size ⟨num,time,xs⟩ (.slice RA xs.length rc) W'→W'.cell? ⟨wr.heap.size,0,none⟩=some (.int .i64 num)∧W'.cell? ⟨wr.heap.size,1,none⟩=some (.int .i64 time)∧W'.cell? ⟨wr.heap.size,2,none⟩=some (.slice RA xs.length rc)∧W'.cell? ⟨g,o+m*3,none⟩=some (.int .i64 pn)∧W'.cell? ⟨g,o+m*3+1,none⟩=some (.int .i64 pt)∧VaK w wr.heap.size ⟨num,time,xs⟩ (.slice RA xs.length rc) W':=fun W' h=>by
       obtain ⟨a0,a1,a2⟩:=h.1.cells
       have hbb:=h.2
       refine ⟨a0,a1,a2,?_,?_,h⟩
       · exact (hbb.cell (p:=⟨g,o+m*3,none⟩) hg).trans ((HBW.out.cell (p:=⟨g,o+m*3,none⟩) hg).symm.trans d0)
       · exact (hbb.cell (p:=⟨g,o+m*3+1,none⟩) hg).trans ((HBW.out.cell (p:=⟨g,o+m*3+1,none⟩) hg).symm.trans d1)
      have dz:decide (((m+1:Nat):Int) > 0)=true:=by simp
      have hw1:(((m+1:Nat):Int) - 1)=(m:Int):=by omega
      have hlm:m<l.length:=by omega
      have hi0:(0:Int)≤(m:Int):=by omega
      have hi1:(m:Int)<(l.length:Int):=by omega
      have HMS:=zh hms;have HNO:=zh hno;have HSC:=zh hsc;clear hms hno hsc d0 d1;cases b with
      | false =>
       go_wp2_with fail;have hk0:=HK0.out
       generalize wr.alloc (.cells #[.int .i64 num,.int .i64 time,.slice RA xs.length rc] 24)=w4 at *
       obtain ⟨z0,z1,z2,z3,z4,_⟩:=HMS.out _ hk0
       have y0:=cell_regrown z0;have y1:=cell_regrown z1;have y2:=cell_regrown z2;have y3:=cell_regrown z3;have y4:=cell_regrown z4;have hcq:=fun d os=>Calls.regrown_of (HIRC.out _ (hk0.on (below_regrown w4 d os)))
       clear hk0;refine wp_region_quiet_below (by kernel_rfl) (by kernel_rfl) ?_
       repeat (first | go_big_quiet_step (exact hcq _ _) | quiet_step (exact hcq _ _))
       refine wpQuiet_nil ?_
       intro _ hw'
       obtain ⟨⟨dq,osq⟩,hw''⟩:=hw'
       subst hw'';have hA:=HK0.out.on (below_regrown w4 dq osq)
       generalize grow (redrawn w4 dq) osq=w5 at *
       clear hcq y0 z0 y1 z1 y2 z2 y3 z3 y4 z4;have HLF:=zh (HNO.out (fun h=>by rw [hb] at h;cases h.1))
       have HAA:=zh hA;clear hA;go_wp2_with fail;go_ret
       rw [HLF.out]
       exact ⟨rfl,HAA.out.2⟩
      | true =>
       by_cases hn:num≤pn
       · have dn:decide (num≤pn)=true:=by simpa using hn
         go_wp2_with fail;have hk0:=HK0.out
         generalize wr.alloc (.cells #[.int .i64 num,.int .i64 time,.slice RA xs.length rc] 24)=w4 at *
         obtain ⟨z0,z1,z2,z3,z4,_⟩:=HMS.out _ hk0
         have y0:=cell_regrown z0;have y1:=cell_regrown z1;have y2:=cell_regrown z2;have y3:=cell_regrown z3;have y4:=cell_regrown z4;have hcq:=fun d os=>Calls.regrown_of (HIRC.out _ (hk0.on (below_regrown w4 d os)))
         clear hk0;refine wp_region_quiet_below (by kernel_rfl) (by kernel_rfl) ?_
         repeat (first | go_big_quiet_step (exact hcq _ _) | quiet_step (exact hcq _ _))
         refine wpQuiet_nil ?_
         intro _ hw'
         obtain ⟨⟨dq,osq⟩,hw''⟩:=hw'
         subst hw'';have hA:=HK0.out.on (below_regrown w4 dq osq)
         generalize grow (redrawn w4 dq) osq=w5 at *
         clear hcq y0 z0 y1 z1 y2 z2 y3 z3 y4 z4;have HLF:=zh (HNO.out (fun h=>by have:=(h.2 (by omega)).1;omega))
         have HAA:=zh hA;clear hA;go_wp2_with fail;go_ret
         rw [HLF.out]
         exact ⟨rfl,HAA.out.2⟩
       · have dn:decide (num≤pn)=false:=by simpa using hn
         by_cases ht:time<pt
         · have dt:decide (time<pt)=true:=by simpa using ht
           go_wp2_with fail;have hk0:=HK0.out
           generalize wr.alloc (.cells #[.int .i64 num,.int .i64 time,.slice RA xs.length rc] 24)=w4 at *
           obtain ⟨z0,z1,z2,z3,z4,_⟩:=HMS.out _ hk0
           have y0:=cell_regrown z0;have y1:=cell_regrown z1;have y2:=cell_regrown z2;have y3:=cell_regrown z3;have y4:=cell_regrown z4;have hcq:=fun d os=>Calls.regrown_of (HIRC.out _ (hk0.on (below_regrown w4 d os)))
           clear hk0;refine wp_region_quiet_below (by kernel_rfl) (by kernel_rfl) ?_
           repeat (first | go_big_quiet_step (exact hcq _ _) | quiet_step (exact hcq _ _))
           refine wpQuiet_nil ?_
           intro _ hw'
           obtain ⟨⟨dq,osq⟩,hw''⟩:=hw'
           subst hw'';have hA:=HK0.out.on (below_regrown w4 dq osq)
           generalize grow (redrawn w4 dq) osq=w5 at *
           clear hcq y0 z0 y1 z1 y2 z2 y3 z3 y4 z4;have HLF:=zh (HNO.out (fun h=>by have:=(h.2 (by omega)).2;omega))
           have HAA:=zh hA;clear hA;go_wp2_with fail;go_ret
           rw [HLF.out]
           exact ⟨rfl,HAA.out.2⟩
         · have dt:decide (time<pt)=false:=by simpa using ht
           go_wp2_with fail;have hk0:=HK0.out
           generalize wr.alloc (.cells #[.int .i64 num,.int .i64 time,.slice RA xs.length rc] 24)=w4 at *
           obtain ⟨z0,z1,z2,z3,z4,_⟩:=HMS.out _ hk0
           have y0:=cell_regrown z0;have y1:=cell_regrown z1;have y2:=cell_regrown z2;have y3:=cell_regrown z3;have y4:=cell_regrown z4;have hcq:=fun d os=>Calls.regrown_of (HIRC.out _ (hk0.on (below_regrown w4 d os)))
           clear hk0;refine wp_region_quiet_below (by kernel_rfl) (by kernel_rfl) ?_
           repeat (first | go_big_quiet_step (exact hcq _ _) | quiet_step (exact hcq _ _))
           refine wpQuiet_nil ?_
           intro _ hw'
           obtain ⟨⟨dq,osq⟩,hw''⟩:=hw'
           subst hw'';have hA:=HK0.out.on (below_regrown w4 dq osq)
           generalize grow (redrawn w4 dq) osq=w5 at *
           clear hcq y0 z0 y1 z1 y2 z2 y3 z3 y4 z4;have HAA:=zh hA;clear hA;go_wp2_with fail;go_roundw
           case rel=>exact ⟨_,by omega,by go_num,HSC.out hb (fun _=>⟨by omega,by omega⟩),HAA.out.2⟩
           case measure=>simp [intOf];omega
    · have hk0:k=0:=by omega
      subst hk0;have hms:∀ W',VaK w wr.heap.size ⟨num,time,xs⟩ (.slice RA xs.length rc) W'→W'.cell? ⟨wr.heap.size,0,none⟩=some (.int .i64 num)∧W'.cell? ⟨wr.heap.size,1,none⟩=some (.int .i64 time)∧W'.cell? ⟨wr.heap.size,2,none⟩=some (.slice RA xs.length rc)∧VaK w wr.heap.size ⟨num,time,xs⟩ (.slice RA xs.length rc) W':=fun W' h=>by
       obtain ⟨a0,a1,a2⟩:=h.1.cells
       exact ⟨a0,a1,a2,h⟩
      have dz:decide (((0:Nat):Int) > 0)=false:=by decide
      simp only [Nat.zero_mul,Nat.add_zero] at c0 c1 c2
      clear hprev hx;have HMS:=zh hms;have HNO:=zh hno;have HSC:=zh hsc;clear hms hno hsc;cases b with
      | false =>
       go_wp2_with fail;have hk0:=HK0.out
       generalize wr.alloc (.cells #[.int .i64 num,.int .i64 time,.slice RA xs.length rc] 24)=w4 at *
       obtain ⟨z0,z1,z2,_⟩:=HMS.out _ hk0
       have y0:=cell_regrown z0;have y1:=cell_regrown z1;have y2:=cell_regrown z2;have hcq:=fun d os=>Calls.regrown_of (HIRC.out _ (hk0.on (below_regrown w4 d os)))
       clear hk0;refine wp_region_quiet_below (by kernel_rfl) (by kernel_rfl) ?_
       repeat (first | go_big_quiet_step (exact hcq _ _) | quiet_step (exact hcq _ _))
       refine wpQuiet_nil ?_
       intro _ hw'
       obtain ⟨⟨dq,osq⟩,hw''⟩:=hw'
       subst hw'';have hA:=HK0.out.on (below_regrown w4 dq osq)
       generalize grow (redrawn w4 dq) osq=w5 at *
       clear hcq y0 z0 y1 z1 y2 z2;have HLF:=zh (HNO.out (fun h=>by rw [hb] at h;cases h.1))
       have HAA:=zh hA;clear hA;go_wp2_with fail;go_ret
       rw [HLF.out]
       exact ⟨rfl,HAA.out.2⟩
      | true =>
       go_wp2_with fail;have hk0:=HK0.out
       generalize wr.alloc (.cells #[.int .i64 num,.int .i64 time,.slice RA xs.length rc] 24)=w4 at *
       obtain ⟨z0,z1,z2,_⟩:=HMS.out _ hk0
       have y0:=cell_regrown z0;have y1:=cell_regrown z1;have y2:=cell_regrown z2;have hcq:=fun d os=>Calls.regrown_of (HIRC.out _ (hk0.on (below_regrown w4 d os)))
       clear hk0;refine wp_region_quiet_below (by kernel_rfl) (by kernel_rfl) ?_
       repeat (first | go_big_quiet_step (exact hcq _ _) | quiet_step (exact hcq _ _))
       refine wpQuiet_nil ?_
       intro _ hw'
       obtain ⟨⟨dq,osq⟩,hw''⟩:=hw'
       subst hw'';have hA:=HK0.out.on (below_regrown w4 dq osq)
       generalize grow (redrawn w4 dq) osq=w5 at *
       clear hcq y0 z0 y1 z1 y2 z2;have HAA:=zh hA;clear hA;go_wp2_with fail;go_roundw
       case rel=>exact ⟨_,by omega,by go_num,HSC.out hb (fun h=>absurd h (by omega)),HAA.out.2⟩
       case measure=>simp [intOf];omega
  · have hke:k=l.length:=by omega
    subst hke;have dl:decide ((l.length:Int)<(l.length:Int))=false:=by simp
    have hend:decide ((l.length:Int)≤100)=vsB l:=by
     by_cases h:l.length≤100
     · rw [Z09.2 ⟨hvk,h⟩];simp;omega
     · rw [Z4G.2 fun hc=>h hc.2];simp;omega
    have HBW:=zh hbw;have HVK:=zh hvk;have HEND:=zh hend;clear hbw hvk hend;go_wp2_with fail;go_ret
    rw [← HEND.out]
    exact ⟨rfl,HBW.out⟩
def Tells (F:FuncId)(q:Addr)(p:Vr→Bool)(w:World):Prop:=∀ (x:Vr) (X:Value) (W:World),VrV W W.heap.size X x→Below w.heap.size w W→Calls Tryz.prog F #[X,.pointer (some q)] W fun e w'=>e=.returned (.bool (p x))∧Below W.heap.size W w'
def Zbw (p:Vr→Bool)(l:List Vr)(k:Nat):Prop:=∀ j (h:j<l.length),k≤j→p l[j]=false
theorem Zgm (l:List Vr)(p:Vr→Bool)(F:FuncId)(q:Addr)(v:Value)(w:World)(hv:VssV w w.heap.size v l)(hll:l.length≤1000)(hF:Tells F q p w)(hg:∀ args w,(callFunc F args).run Tryz.prog w=.ok (.enter F args) w) :
 Calls Tryz.prog 79 #[v,.func (.func F) #[] #[.pointer (some q)]] w fun e w'=>e=.returned (.int .i64 (Z1C p l))∧Below w.heap.size w w':=by
 obtain ⟨A,c,rfl,_⟩:=id hv
 have hB0:=Below.refl w.heap.size w
 obtain ⟨L,hL⟩:∃ L,Z1C p l=L:=⟨_,rfl⟩
 have hend:Zbw p l 0→L = -1:=fun h=>by rw [← hL];exact Z7q p l (fun j hj=>h j hj (Nat.zero_le _))
 have hat:=fun m hm h h2=>hL.symm.trans (Z5h p l m hm h h2)
 rw [hL]
 have HV:=zh hv;have HF:=zh hF;have HB0:=zh hB0;have HEND:=zh hend;have HAT:=zh hat;clear hv hF hB0 hend hat hL;go_enter Tryz.func79,Tryz.ntmps79
 go_wp2_with fail;go_loopw [5] (fun i wr=>∃ k:Nat,k≤l.length∧i=.int .i64 ((k:Int) - 1)∧Zbw p l k∧Below w.heap.size w wr) (fun i _=>(intOf i+1).toNat)
 case atStart=>exact ⟨l.length,zn _,by go_num,fun j hj h=>absurd hj (by omega),HB0.out⟩
 case round =>
  clear HB0;obtain ⟨k,hk,rfl,hvk,hbw⟩:=hrel
  by_cases h0:0<k
  · obtain ⟨m,rfl⟩:∃ m,k=m+1:=⟨k - 1,by omega⟩
    have hm:m<l.length:=by omega
    obtain ⟨g,o,RA,rc,rfl,hg',hR,c0,c1,c2⟩:=Z1y (HV.out.on hbw) hm
    have hc:=HF.out l[m] (.agg #[.int .i64 l[m].num,.int .i64 l[m].time,.slice RA l[m].rs.length rc]) wr (Zdi hR hbw.size) hbw
    have e1:(((m+1:Nat):Int) - 1)=(m:Int):=by omega
    rw [e1]
    have dl:decide ((m:Int)≥0)=true:=by simp
    have hyes:=fun h=>HAT.out m hm h (fun j hj hij=>hvk j hj (by omega))
    have hno:p l[m]=false→Zbw p l m:=fun h j hj hmj=>by
     by_cases e:j=m
     · subst e;exact h
     · exact hvk j hj (by omega)
    obtain ⟨b,hb⟩:∃ b,p l[m]=b:=⟨_,rfl⟩
    rw [hb] at hc hyes hno
    generalize l[m]=x at *
    have HC:=zh hc;have HYES:=zh hyes;have HNO:=zh hno;have HBW:=zh hbw;clear hc hyes hno hbw hvk hR hb e1;go_wp2_with fail;refine HC.out.mono ?_
    rintro e w2 ⟨rfl,hb2⟩;have hB2:=Z00 HBW.out hb2
    have HB2:=zh hB2;clear hB2 hb2 HC HBW c0 c1 c2;cases b with
    | false =>
     go_wp2_with fail;go_roundw
     case rel=>exact ⟨m,by omega,by go_num,HNO.out trivial,HB2.out⟩
     case measure=>simp [intOf]
    | true =>
     have hl:=HYES.out rfl
     subst hl;go_wp2_with fail;go_ret
     exact ⟨rfl,HB2.out⟩
  · have hk0:k=0:=by omega
    subst hk0;have hl:=HEND.out hvk
    subst hl;have e1:(((0:Nat):Int) - 1) = -1:=by omega
    rw [e1]
    have dl:decide ((-1:Int)≥0)=false:=by decide
    have HBW:=zh hbw;clear hbw hvk e1;go_wp2_with fail;go_ret
    exact ⟨rfl,HBW.out⟩
theorem Zi3 (t:Int)(q:Nat)(x:Vr)(X:Value)(w:World)(hX:VrV w w.heap.size X x)(hq:w.cell? ⟨q,0,none⟩=some (.int .i64 t)) :
 Calls Tryz.prog 115 #[X,.pointer (some ⟨q,0,none⟩)] w fun e w'=>e=.returned (.bool (decide (x.time≤t)))∧Below w.heap.size w w':=by
 obtain ⟨A,c,rfl,hR⟩:=hX
 have hB0:=VxB.new hR
 have hb:=(Below.refl w.heap.size w).alloc (zn _) (.cells #[.int .i64 x.num,.int .i64 x.time,.slice A x.rs.length c] 24)
 have hlt:=World.block_lt_of_cell? _ _ hq
 have hq2:=(hb.cell (p:=⟨q,0,none⟩) hlt).trans hq
 obtain ⟨q0,q1,q2⟩:=hB0.cells
 unfold vrV
 have HB:=zh hb;clear hb hB0 hR hq;go_enter Tryz.func115,Tryz.ntmps115
 go_wp2_with fail;go_ret
 exact ⟨rfl,HB.out⟩
theorem Z9q (l:List Vr)(t:Int)(v:Value)(w:World)(hv:VssV w w.heap.size v l)(hll:l.length≤1000) :
 Calls Tryz.prog 75 #[v,.int .i64 t] w fun e w'=>e=.returned (.int .i64 (inF l t))∧Below w.heap.size w w':=by
 have hmf:∀ (fn:Fn) (first cap:Array Value) (w:World),(Instr.makeFunc fn first cap).run Tryz.prog w=.ok (.func fn first cap) w:=fun _ _ _ _=>rfl
 have hb:=(Below.refl w.heap.size w).alloc (zn _) (.cells #[.int .i64 t] 3)
 have hx:=za w (.cells #[.int .i64 t] 3)
 have hla:=Zgm l (fun x=>decide (x.time≤t)) 115 ⟨w.heap.size,0,none⟩ v _ ((hv.on hb).up hb.size) hll (fun x X W hX hbW=>Zi3 t w.heap.size x X W hX (by rw [zc ((hbW.block _ (by simp)).trans hx)];rfl)) (fun _ _=>rfl)
 obtain ⟨A,c,rfl,_⟩:=id hv
 have hd:Hid (inF l t=Z1C (fun x=>decide (x.time≤t)) l):=rfl
 rw [hd.out]
 have HB:=zh hb;have HLA:=zh hla;clear hb hla hx;go_enter Tryz.func75,Tryz.ntmps75
 go_wp2_with fail;generalize w.alloc (.cells #[.int .i64 t] 3)=w1 at *
 refine HLA.out.mono ?_
 rintro e w2 ⟨rfl,hb2⟩;have hB2:=Z00 HB.out hb2
 have HB2:=zh hB2;clear hB2;go_wp2_with fail;go_ret
 exact ⟨rfl,HB2.out⟩
end Go.Proofs.YtnepkoepbapgeaaGreatDoor
