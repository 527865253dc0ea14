/-
  Walks of the reference of package versions: Valid; Same of equal lists; usable. (made by gen_s15b.py)
-/
import Derived.Test.YtnepkoepbapgeaaGreatDoorQuoS15a
import Derived.Lib.QuietBelow
import Derived.BigQuiet
namespace Go.Proofs.YtnepkoepbapgeaaGreatDoor
set_option maxRecDepth 100000
open Go.RowKit Lx Px Qx Go.Sort
set_option maxHeartbeats 4000000 in
theorem Zda (l:List Vr)(v:Value)(w:World)(hv:VssV w w.heap.size v l)(hll:l.length≤1000000) :
 Calls Tryz.prog 37 #[v] w fun e w'=>e=.returned (.bool (vsB l))∧Below w.heap.size w w':=by
 obtain ⟨A,c,rfl,_⟩:=id hv
 have hB0:=Below.refl w.heap.size w
 have HV:=zh hv;have HB0:=zh hB0;clear hv hB0;go_enter Tryz.func37,Tryz.ntmps37
 go_wp2_with fail;go_loopw [3] (fun i wr=>∃ k:Nat,k≤l.length∧i=.int .i64 k∧VsK l k∧Below w.heap.size w wr∧k≤100) (fun i _=>l.length - (intOf i).toNat)
 case atStart=>exact ⟨0,Nat.zero_le _,rfl,VsK.zero l,HB0.out,by omega⟩
 case round =>
  clear HB0;obtain ⟨k,hk,rfl,hvk,hbw,hk2⟩:=hrel
  by_cases hlt:k<l.length
  · obtain ⟨g,o,RA,rc,rfl,hg,hR,c0,c1,c2⟩:=Z1y (HV.out.on hbw) hlt
    have dl:decide ((k:Int)<(l.length:Int))=true:=by simpa using hlt
    have i1:(k:Int)<(l.length:Int):=by omega
    have hir:=fun W (hb:Below wr.heap.size wr W)=>Zcw l[k] _ W (Zdi (hR.on (hb.mono hbw.size)) (Nat.le_trans hbw.size hb.size))
    have hno:=@ZpH l k hlt
    have hsc:=fun h1 h2=>hvk.succ hlt h1 h2
    have hprev:∀ (_:0<k),∃ n t,n=l[k - 1].num∧t=l[k - 1].time∧wr.cell? ⟨g,o+(k - 1)*3,none⟩=some (.int .i64 n)∧wr.cell? ⟨g,o+(k - 1)*3+1,none⟩=some (.int .i64 t):=fun h0=>by
     obtain ⟨g',o',RA',rc',e',_,_,d0,d1,_⟩:=Z1y (HV.out.on hbw) (k:=k - 1) (by omega)
     injection e' with e'
     injection e' with e1 e2
     subst e1 e2;exact ⟨_,_,rfl,rfl,d0,d1⟩
    rcases hx:l[k] with ⟨num,time,xs⟩
    rw [hx] at hR c0 c1 c2 hno hsc hir
    dsimp only at hR c0 c1 c2 hno hsc hir
    obtain ⟨b,hb⟩:∃ b,(⟨num,time,xs⟩:Vr).okB=b:=⟨_,rfl⟩
    rw [hb] at hir
    have HIR:=zh hir;have HBW:=zh hbw;clear hir hbw hR hvk;by_cases h100:k=100
    · subst h100
      have dg:decide (((100:Nat):Int)≥(100:Int))=true:=by decide
      have HLF:Hid (vsB l=false):=zh (Z4G.2 fun hc=>by have:=hc.2;omega)
      clear hprev hno hsc hx;go_wp2_with fail;have yc0:=cell_regrown c0;have yc1:=cell_regrown c1;have yc2:=cell_regrown c2;have hcq:=fun d os=>Calls.regrown_of (HIR.out _ (below_regrown wr d os))
      refine wp_region_quiet_below (by kernel_rfl) (by kernel_rfl) ?_
      repeat (first | go_big_quiet_step (exact hcq _ _) | quiet_step (exact hcq _ _))
      refine wpQuiet_nil ?_
      intro _ hw'
      obtain ⟨⟨dq,osq⟩,hw''⟩:=hw'
      subst hw'';have hA:=Z00 HBW.out (below_regrown wr dq osq)
      generalize grow (redrawn wr dq) osq=w5 at *
      clear hcq HBW yc0 c0 yc1 c1 yc2 c2;have HAA:=zh hA;clear hA;go_wp2_with fail;go_ret
      rw [HLF.out]
      exact ⟨rfl,HAA.out⟩
    have dg:decide ((k:Int)≥(100:Int))=false:=by simp;omega
    have dg':decide ((100:Int)≤(k:Int))=false:=by simp;omega
    by_cases h0:0<k
    · obtain ⟨m,rfl⟩:∃ m,k=m+1:=⟨k - 1,by omega⟩
      obtain ⟨pn,pt,e1,e2,d0,d1⟩:=hprev h0
      simp only [Nat.add_sub_cancel] at e1 e2 d0 d1 hno hsc
      simp only [← e1,← e2] at hno hsc
      clear hprev hx e1 e2;have dz:decide (((m+1:Nat):Int) > 0)=true:=by simp
      have dg2:decide ((100:Int)≤(m:Int)+1)=false:=by simp;omega
      have dl2:decide ((m:Int)+1<(l.length:Int))=true:=by simp;omega
      have hw1:(((m+1:Nat):Int) - 1)=(m:Int):=by omega
      have hlm:m<l.length:=by omega
      have hi0:(0:Int)≤(m:Int):=by omega
      have hi1:(m:Int)<(l.length:Int):=by omega
      have HNO:=zh hno;have HSC:=zh hsc;clear hno hsc;cases b with
      | false =>
       go_wp2_with fail;have yc0:=cell_regrown c0;have yc1:=cell_regrown c1;have yc2:=cell_regrown c2;have yd0:=cell_regrown d0;have yd1:=cell_regrown d1;have hcq:=fun d os=>Calls.regrown_of (HIR.out _ (below_regrown wr d os))
       refine wp_region_quiet_below (by kernel_rfl) (by kernel_rfl) ?_
       repeat (first | go_big_quiet_step (exact hcq _ _) | quiet_step (exact hcq _ _))
       refine wpQuiet_nil ?_
       intro _ hw'
       obtain ⟨⟨dq,osq⟩,hw''⟩:=hw'
       subst hw'';have hA:=Z00 HBW.out (below_regrown wr dq osq)
       generalize grow (redrawn wr dq) osq=w5 at *
       clear hcq HBW yc0 c0 yc1 c1 yc2 c2 yd0 d0 yd1 d1;have HLF:=zh (HNO.out (fun h=>by rw [hb] at h;cases h.1))
       have HAA:=zh hA;clear hA;go_wp2_with fail;go_ret
       rw [HLF.out]
       exact ⟨rfl,HAA.out⟩
      | true =>
       by_cases hn:num≤pn
       · have dn:decide (num≤pn)=true:=by simpa using hn
         go_wp2_with fail;have yc0:=cell_regrown c0;have yc1:=cell_regrown c1;have yc2:=cell_regrown c2;have yd0:=cell_regrown d0;have yd1:=cell_regrown d1;have hcq:=fun d os=>Calls.regrown_of (HIR.out _ (below_regrown wr d os))
         refine wp_region_quiet_below (by kernel_rfl) (by kernel_rfl) ?_
         repeat (first | go_big_quiet_step (exact hcq _ _) | quiet_step (exact hcq _ _))
         refine wpQuiet_nil ?_
         intro _ hw'
         obtain ⟨⟨dq,osq⟩,hw''⟩:=hw'
         subst hw'';have hA:=Z00 HBW.out (below_regrown wr dq osq)
         generalize grow (redrawn wr dq) osq=w5 at *
         clear hcq HBW yc0 c0 yc1 c1 yc2 c2 yd0 d0 yd1 d1;have HLF:=zh (HNO.out (fun h=>by have:=(h.2 (by omega)).1;omega))
         have HAA:=zh hA;clear hA;go_wp2_with fail;go_ret
         rw [HLF.out]
         exact ⟨rfl,HAA.out⟩
       · have dn:decide (num≤pn)=false:=by simpa using hn
         by_cases ht:time<pt
         · have dt:decide (time<pt)=true:=by simpa using ht
           go_wp2_with fail;have yc0:=cell_regrown c0;have yc1:=cell_regrown c1;have yc2:=cell_regrown c2;have yd0:=cell_regrown d0;have yd1:=cell_regrown d1;have hcq:=fun d os=>Calls.regrown_of (HIR.out _ (below_regrown wr d os))
           refine wp_region_quiet_below (by kernel_rfl) (by kernel_rfl) ?_
           repeat (first | go_big_quiet_step (exact hcq _ _) | quiet_step (exact hcq _ _))
           refine wpQuiet_nil ?_
           intro _ hw'
           obtain ⟨⟨dq,osq⟩,hw''⟩:=hw'
           subst hw'';have hA:=Z00 HBW.out (below_regrown wr dq osq)
           generalize grow (redrawn wr dq) osq=w5 at *
           clear hcq HBW yc0 c0 yc1 c1 yc2 c2 yd0 d0 yd1 d1;have HLF:=zh (HNO.out (fun h=>by have:=(h.2 (by omega)).2;omega))
           have HAA:=zh hA;clear hA;go_wp2_with fail;go_ret
           rw [HLF.out]
           exact ⟨rfl,HAA.out⟩
         · have dt:decide (time<pt)=false:=by simpa using ht
           go_wp2_with fail;have yc0:=cell_regrown c0;have yc1:=cell_regrown c1;have yc2:=cell_regrown c2;have yd0:=cell_regrown d0;have yd1:=cell_regrown d1;have hcq:=fun d os=>Calls.regrown_of (HIR.out _ (below_regrown wr d os))
           refine wp_region_quiet_below (by kernel_rfl) (by kernel_rfl) ?_
           repeat (first | go_big_quiet_step (exact hcq _ _) | quiet_step (exact hcq _ _))
           refine wpQuiet_nil ?_
           intro _ hw'
           obtain ⟨⟨dq,osq⟩,hw''⟩:=hw'
           subst hw'';have hA:=Z00 HBW.out (below_regrown wr dq osq)
           generalize grow (redrawn wr dq) osq=w5 at *
           clear hcq HBW yc0 c0 yc1 c1 yc2 c2 yd0 d0 yd1 d1;have HAA:=zh hA;clear hA;go_wp2_with fail;go_roundw
           case rel=>exact ⟨_,by omega,by go_num,HSC.out hb (fun _=>⟨by omega,by omega⟩),HAA.out,by omega⟩
           case measure=>simp [intOf];omega
    · have hk0:k=0:=by omega
      subst hk0;have dz:decide (((0:Nat):Int) > 0)=false:=by decide
      simp only [Nat.zero_mul,Nat.add_zero] at c0 c1 c2
      clear hprev hx;have HNO:=zh hno;have HSC:=zh hsc;clear hno hsc;cases b with
      | false =>
       go_wp2_with fail;have yc0:=cell_regrown c0;have yc1:=cell_regrown c1;have yc2:=cell_regrown c2;have hcq:=fun d os=>Calls.regrown_of (HIR.out _ (below_regrown wr d os))
       refine wp_region_quiet_below (by kernel_rfl) (by kernel_rfl) ?_
       repeat (first | go_big_quiet_step (exact hcq _ _) | quiet_step (exact hcq _ _))
       refine wpQuiet_nil ?_
       intro _ hw'
       obtain ⟨⟨dq,osq⟩,hw''⟩:=hw'
       subst hw'';have hA:=Z00 HBW.out (below_regrown wr dq osq)
       generalize grow (redrawn wr dq) osq=w5 at *
       clear hcq HBW yc0 c0 yc1 c1 yc2 c2;have HLF:=zh (HNO.out (fun h=>by rw [hb] at h;cases h.1))
       have HAA:=zh hA;clear hA;go_wp2_with fail;go_ret
       rw [HLF.out]
       exact ⟨rfl,HAA.out⟩
      | true =>
       go_wp2_with fail;have yc0:=cell_regrown c0;have yc1:=cell_regrown c1;have yc2:=cell_regrown c2;have hcq:=fun d os=>Calls.regrown_of (HIR.out _ (below_regrown wr d os))
       refine wp_region_quiet_below (by kernel_rfl) (by kernel_rfl) ?_
       repeat (first | go_big_quiet_step (exact hcq _ _) | quiet_step (exact hcq _ _))
       refine wpQuiet_nil ?_
       intro _ hw'
       obtain ⟨⟨dq,osq⟩,hw''⟩:=hw'
       subst hw'';have hA:=Z00 HBW.out (below_regrown wr dq osq)
       generalize grow (redrawn wr dq) osq=w5 at *
       clear hcq HBW yc0 c0 yc1 c1 yc2 c2;have HAA:=zh hA;clear hA;go_wp2_with fail;go_roundw
       case rel=>exact ⟨_,by omega,by go_num,HSC.out hb (fun h=>absurd h (by omega)),HAA.out,by omega⟩
       case measure=>simp [intOf];omega
  · have hke:k=l.length:=by omega
    subst hke;have dl:decide ((l.length:Int)<(l.length:Int))=false:=by simp
    have hend:vsB l=true:=Z09.2 ⟨hvk,hk2⟩
    have HBW:=zh hbw;have HVK:=zh hvk;have HEND:=zh hend;clear hbw hvk hend;go_wp2_with fail;go_ret
    rw [HEND.out]
    exact ⟨rfl,HBW.out⟩
end Go.Proofs.YtnepkoepbapgeaaGreatDoor
