/-
  Walks of the reference of package versions: Same of equal lists; usable of the statements.
-/
import Derived.Test.YtnepkoepbapgeaaGreatDoorQuoS15b
import Derived.Test.YtnepkoepbapgeaaGreatDoorPrtRead
namespace Go.Proofs.YtnepkoepbapgeaaGreatDoor
set_option maxRecDepth 100000
open Go.RowKit Lx Px Qx Go.Sort
def vrSm (x:Vr):Prop:=(∀ r∈x.rs,Zb1 r)∧x.rs.length≤1000000
theorem Zg8 (a:Int × Int)(f:Fo):Z6e a a f f=true:=by
 have:=(Zja f f).2 rfl
 simp [Z6e,this]
theorem Zkz (r:Rt):Ziv r r:=⟨rfl,rfl,rfl,rfl,rfl,rfl,rfl,rfl,rfl,rfl,Zg8 _ _,Zg8 _ _⟩
theorem ZhE (l:List Rt):Zdy l l:=⟨rfl,fun _ _ _=>Zkz _⟩
theorem ok_sm {x:Vr}(h:x.okB=true):vrSm x:=by
 unfold Vr.okB at h
 simp only [Bool.and_eq_true,decide_eq_true_eq] at h
 obtain ⟨h1,h2,_⟩:=(Z31 _).1 h.1.2
 refine ⟨fun r hr=>?_,by omega⟩
 have h3:=h2 r hr
 have hf:Z3H r=true:=by
  unfold Z14 at h3
  split at h3
  · assumption
  · cases h3
 unfold Z3H at hf
 simp only [Bool.and_eq_true] at hf
 have a:=(Z2c hf.1.2).2.2
 have b:=(Z2c hf.2).2.2
 exact ⟨by omega,by omega⟩
theorem Zer:vrSm ⟨0,0,[]⟩:=⟨fun r h=>(by cases h),by decide⟩
theorem Zp6 {l:List Vr}(h:vsB l=true):∀ x∈l,vrSm x:=fun x hx=>by
 obtain ⟨k,hk,rfl⟩:=List.getElem_of_mem hx
 exact ok_sm ((Z09.1 h).1 k hk hk).1
theorem Z1z (v:Vr)(V U:Value)(w:World)(hV:VrV w w.heap.size V v)(hU:VrV w w.heap.size U v)(h:vrSm v) :
 Calls Tryz.prog 38 #[V,U] w fun e w'=>e=.returned (.bool true)∧Below w.heap.size w w':=Zeq v V U w hV hU h.1 h.2 (ZhE _)
set_option maxHeartbeats 4000000 in
theorem ZkA (l:List Vr)(V U:Value)(w:World)(hV:VssV w w.heap.size V l)(hU:VssV w w.heap.size U l)(hs:∀ x∈l,vrSm x)(hll:l.length≤1000000) :
 Calls Tryz.prog 41 #[V,U] w fun e w'=>e=.returned (.bool true)∧Below w.heap.size w w':=by
 obtain ⟨A,c,rfl,_⟩:=id hV
 obtain ⟨A2,c2,rfl,_⟩:=id hU
 have d0:((l.length:Int) != (l.length:Int))=false:=by simp
 have hB0:=Below.refl w.heap.size w
 have HV:=zh hV;have HU:=zh hU;have HB0:=zh hB0;have HS:=zh hs;clear hV hU hB0 hs;go_enter Tryz.func41,Tryz.ntmps41
 go_wp2_with fail;go_loopw [5] (fun i wr=>∃ k:Nat,k≤l.length∧i=.int .i64 k∧Below w.heap.size w wr) (fun i _=>l.length - (intOf i).toNat)
 case atStart=>exact ⟨0,Nat.zero_le _,rfl,HB0.out⟩
 case round =>
  clear HB0 d0;obtain ⟨k,hk,rfl,hbw⟩:=hrel
  by_cases hlt:k<l.length
  · obtain ⟨g,o,RA,rc,rfl,hg,hR,c0,c1,c2⟩:=Z1y (HV.out.on hbw) hlt
    obtain ⟨g',o',RA',rc',rfl,hg',hR',d0,d1,d2⟩:=Z1y (HU.out.on hbw) hlt
    have dl:decide ((k:Int)<(l.length:Int))=true:=by simpa using hlt
    have i1:(k:Int)<(l.length:Int):=by omega
    have hir:=fun W (hb:Below wr.heap.size wr W)=>Z1z l[k] _ _ W (Zdi (hR.on (hb.mono hbw.size)) (Nat.le_trans hbw.size hb.size)) (Zdi (hR'.on (hb.mono hbw.size)) (Nat.le_trans hbw.size hb.size)) (HS.out _ (List.getElem_mem hlt))
    generalize l[k].num=num at *
    generalize l[k].time=time at *
    generalize l[k].rs.length=rl at *
    have HIR:=zh hir;have HBW:=zh hbw;clear hir hbw hR hR';go_wp2_with fail;have yc0:=cell_regrown c0;have yc1:=cell_regrown c1;have yc2:=cell_regrown c2;have yd0:=cell_regrown d0;have yd1:=cell_regrown d1;have yd2:=cell_regrown d2;have hcq:=fun d os=>Calls.regrown_of (HIR.out _ (below_regrown wr d os))
    refine wp_region_quiet_below (by kernel_rfl) (by kernel_rfl) ?_
    repeat (first | go_big_quiet_step (exact hcq _ _) | quiet_step (exact hcq _ _))
    refine wpQuiet_nil ?_
    intro _ hw'
    obtain ⟨⟨dq,osq⟩,hw''⟩:=hw'
    subst hw'';have hA:=Z00 HBW.out (below_regrown wr dq osq)
    generalize grow (redrawn wr dq) osq=w5 at *
    clear hcq HBW yc0 yc1 yc2 yd0 yd1 yd2 c0 c1 c2 d0 d1 d2;have HAA:=zh hA;clear hA;go_wp2_with fail;go_roundw
    case rel=>exact ⟨k+1,by omega,by go_num,HAA.out⟩
    case measure=>simp [intOf];omega
  · have hke:k=l.length:=by omega
    subst hke;have dl:decide ((l.length:Int)<(l.length:Int))=false:=by simp
    have HBW:=zh hbw;clear hbw;go_wp2_with fail;go_ret
    exact ⟨rfl,HBW.out⟩
theorem Z3s (l:List Vr)(v:Value)(w:World)(hv:VssV w w.heap.size v l) :
 Calls Tryz.prog 44 #[v] w fun e w'=>(∃ b,e=.returned (.bool b)∧(b=true→l.length≤10∧vsB l=true))∧Below w.heap.size w w':=by
 obtain ⟨A,c,rfl,_⟩:=id hv
 by_cases hl:l.length≤10
 · have d:decide ((l.length:Int)≤(10:Int))=true:=by simp;omega
   have hfe:=fun W (hb:Below w.heap.size w W)=>Zp5 l _ W ((hv.on hb).up hb.size)
   have hva:=fun W (hb:Below w.heap.size w W)=>Zda l _ W ((hv.on hb).up hb.size) (by omega)
   have hB0:=Below.refl w.heap.size w
   have HV:=zh hv;have HFE:=zh hfe;have HVA:=zh hva;have HB0:=zh hB0;have HL:=zh hl;clear hv hfe hva hB0 hl;go_enter Tryz.func44,Tryz.ntmps44
   go_wp2_with fail;refine (HFE.out w HB0.out).mono ?_
   rintro e w1 ⟨⟨b,rfl⟩,hb1⟩
   have HB1:=zh hb1;clear hb1;cases b with
   | false =>
    go_wp2_with fail;go_ret
    exact ⟨⟨_,rfl,fun h=>by cases h⟩,HB1.out⟩
   | true =>
    go_wp2_with fail;refine (HVA.out w1 HB1.out).mono ?_
    rintro e w2 ⟨rfl,hb2⟩;have hB2:=Z00 HB1.out hb2
    have HB2:=zh hB2;clear hB2 hb2 HVA HFE HB1;obtain ⟨b,hb⟩:∃ b,vsB l=b:=⟨_,rfl⟩
    rw [hb]
    have HBB:=zh hb;clear hb;go_wp2_with fail;go_ret
    exact ⟨⟨_,rfl,fun h=>⟨HL.out,by rw [HBB.out];exact h⟩⟩,HB2.out⟩
 · have d:decide ((l.length:Int)≤(10:Int))=false:=by simp;omega
   have hB0:=Below.refl w.heap.size w
   have HV:=zh hv;have HB0:=zh hB0;have HL:=zh hl;clear hv hB0 hl;go_enter Tryz.func44,Tryz.ntmps44
   go_wp2_with fail;go_ret
   exact ⟨⟨_,rfl,fun h=>by cases h⟩,HB0.out⟩
end Go.Proofs.YtnepkoepbapgeaaGreatDoor
