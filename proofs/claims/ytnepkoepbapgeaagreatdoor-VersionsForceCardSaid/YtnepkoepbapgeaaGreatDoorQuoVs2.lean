/-
  Several texts in one: QuoHe0, QuoVs2.
-/
import Derived.Test.YtnepkoepbapgeaaGreatDoorQuoVer
import Derived.Test.YtnepkoepbapgeaaGreatDoorQuoVs1
import Derived.Test.YtnepkoepbapgeaaGreatDoorQuoUse
import Derived.Test.YtnepkoepbapgeaaGreatDoorQuoIs
namespace Go.Proofs.YtnepkoepbapgeaaGreatDoor
set_option maxRecDepth 100000
section
open Go.RowKit Lx Px Qx
theorem Zdj (w:World)(hM:Mx w w.heap.size):Calls Tryz.prog 74 #[.string ⟨#[49,48,48,46,48,48]⟩] w fun e w'=>Below w.heap.size w w'∧∃ A c,e=.returned (.slice A 1 c)∧RtsV w' w'.heap.size (.slice A 1 c) [Z4e.rt]:=by
 have key:∀ s e w1,bl s=Zjd→SrcP w (srcO (bl s)) e w1→SrcP w (.ok [Z4e]) e w1:=fun s e w1 h1 h2=>by rw [h1,Zje] at h2;exact h2
 have HM:=zh hM;have KEY:=zh key;clear hM key;go_enter Tryz.func74,Tryz.ntmps74
 go_wp2_with fail;refine (Z4m _ _ HM.out).mono ?_
 intro e w1 hh
 obtain ⟨hb1,A,c,rfl,hR⟩:=KEY.out _ _ _ (by kernel_rfl) hh
 clear hh;have HB1:=zh hb1;have HR:=zh hR;clear hb1 hR;dsimp only [List.length_cons,List.length_nil,Nat.reduceAdd]
 go_wp2_with fail;go_ret
 exact ⟨HB1.out,A,c,rfl,HR.out⟩
theorem Z7E (w:World)(hM:Mx w w.heap.size):Calls Tryz.prog 74 #[.string ⟨#[57,48,46,48,48]⟩] w fun e w'=>Below w.heap.size w w'∧∃ A c,e=.returned (.slice A 1 c)∧RtsV w' w'.heap.size (.slice A 1 c) [Z3F.rt]:=by
 have key:∀ s e w1,bl s=Zjh→SrcP w (srcO (bl s)) e w1→SrcP w (.ok [Z3F]) e w1:=fun s e w1 h1 h2=>by rw [h1,Zji] at h2;exact h2
 have HM:=zh hM;have KEY:=zh key;clear hM key;go_enter Tryz.func74,Tryz.ntmps74
 go_wp2_with fail;refine (Z4m _ _ HM.out).mono ?_
 intro e w1 hh
 obtain ⟨hb1,A,c,rfl,hR⟩:=KEY.out _ _ _ (by kernel_rfl) hh
 clear hh;have HB1:=zh hb1;have HR:=zh hR;clear hb1 hR;dsimp only [List.length_cons,List.length_nil,Nat.reduceAdd]
 go_wp2_with fail;go_ret
 exact ⟨HB1.out,A,c,rfl,HR.out⟩
end
section
open Go.RowKit Lx Px Qx
attribute [local irreducible] Qx.Vr.dig
namespace Qx
def Vr.zero:Vr:=⟨0,0,[]⟩
noncomputable def atV (l:List Vr) (t:Int):Vr × Bool × Int :=
 if vsB l&&Z0D t then (if inF l t<0 then (.zero,false,0) else (l.getD (inF l t).toNat .zero,true,0)) else (.zero,false,1)
end Qx
def AtP (x:Vr × Bool × Int)(w:World)(e:Ending)(w':World):Prop:=∃ V,e=.returned (.tuple #[V,.bool x.2.1,.int .i64 x.2.2])∧VrV w' w'.heap.size V x.1∧Below w.heap.size w w'
theorem Zm4 {W:World}{p:Nat}{v:Vr}{rv:Value}{b:Bool}{er:Int}(h:VxB p v rv W):∀ (tmps:Array Value),tmps[4]?.getD undef=.pointer (some ⟨p,0,none⟩)→tmps[5]?.getD undef=.bool b→tmps[6]?.getD undef=.int .i64 er →
 (results Tryz.f34 tmps).run Tryz.prog W=.ok (.tuple #[.agg #[.int .i64 v.num,.int .i64 v.time,rv],.bool b,.int .i64 er]) W:=by
 intro tmps t4 t5 t6
 obtain ⟨k0,k1,k2⟩:=h.cells
 simp [results,Tryz.results34,go_sem,t4,t5,t6,k0,k1,k2]
theorem VxB.fr {p:Nat}{v:Vr}{rv:Value}{W:World}(h:VxB p v rv W)(i:Nat):W.frozen? ⟨p,i,none⟩=false:=by have:=h.h;simp [World.frozen?,this]
def put3 (W:World)(p:Nat)(n t:Int)(rv:Value):World:=((W.setCell ⟨p,0,none⟩ (.int .i64 n)).setCell ⟨p,1,none⟩ (.int .i64 t)).setCell ⟨p,2,none⟩ rv
theorem Z5i {B p:Nat}{w W:World}(h:Below B w W)(hp:B≤p)(n t:Int)(rv:Value):Below B w (put3 W p n t rv) :=
 ((h.setCell (p:=⟨p,0,none⟩) hp _).setCell (p:=⟨p,1,none⟩) hp _).setCell (p:=⟨p,2,none⟩) hp _
theorem VxB.put3 {p:Nat}{v:Vr}{rv:Value}{W:World}(h:VxB p v rv W)(x:Vr){rx:Value}(hx:RtsV W p rx x.rs):VxB p x rx (put3 W p x.num x.time rx):=by
 refine ⟨?_,hx.on (Z5i (Below.refl p W) (zn _) _ _ _)⟩
 have h':=h.h
 unfold Go.Proofs.YtnepkoepbapgeaaGreatDoor.put3
 simp [World.setCell,Array.getElem?_modify,h']
theorem atV_no {l:List Vr}{t:Int}(h:¬ (vsB l=true∧Z0D t=true)):atV l t=(.zero,false,1):=by
 unfold atV
 rw [if_neg]
 simpa using h
set_option maxHeartbeats 4000000 in
theorem Z5x (l:List Vr)(t:Int)(v:Value)(w:World)(hv:VssV w w.heap.size v l)(hll:l.length≤1000)(ht:Tabs w.heap.size w) :
 Calls Tryz.prog 34 #[v,.int .i64 t] w (AtP (atV l t) w):=by
 have hb:=(Below.refl w.heap.size w).alloc (zn _) (.cells #[.int .i64 0,.int .i64 0,.slice none 0 0] 24)
 have hx:VxB w.heap.size Vr.zero (.slice none 0 0) (w.alloc (.cells #[.int .i64 0,.int .i64 0,.slice none 0 0] 24)):=VxB.new (v:=Vr.zero) (RtsV.nil _ _)
 have hva:=fun W (hb:Below w.heap.size w W)=>Z1A l v W ((hv.on hb).up hb.size) hll (Z05 ht hb)
 have hif:=fun W (hb:Below w.heap.size w W)=>Z9q l t v W ((hv.on hb).up hb.size) hll
 obtain ⟨A,c,rfl,_⟩:=id hv
 obtain ⟨X,hX⟩:∃ X,atV l t=X:=⟨_,rfl⟩
 have hno:=fun h=>hX.symm.trans (@atV_no l t h)
 have hyes:vsB l=true→Z0D t=true→X=if inF l t<0 then (.zero,false,0) else (l.getD (inF l t).toNat .zero,true,0):=fun h1 h2=>by rw [← hX];unfold atV;rw [h1,h2];rfl
 have hrg:=Z2k (fun x:Vr=>decide (x.time≤t)) l
 have hd:inF l t=Z1C (fun x:Vr=>decide (x.time≤t)) l:=rfl
 rw [← hd] at hrg
 rw [hX]
 have hz:∀ W,VxB w.heap.size Vr.zero (.slice none 0 0) W→VxB w.heap.size Vr.zero (.slice none 0 0) (put3 W w.heap.size 0 0 (.slice none 0 0)):=fun W h=>h.put3 Vr.zero (RtsV.nil _ _)
 have HV:=zh hv;have HB:=zh hb;have HX:=zh hx;have HVA:=zh hva;have HIF:=zh hif;have HNO:=zh hno;have HYES:=zh hyes;have HZ:=zh hz;clear hv hb hx hva hif hno hyes hz ht hX hd;generalize inF l t=I at *
 go_enter Tryz.func34,Tryz.ntmps34
 go_wp2_with fail;generalize w.alloc (.cells #[.int .i64 0,.int .i64 0,.slice none 0 0] 24)=w1 at *
 refine (HVA.out _ HB.out).mono ?_
 rintro e w2 ⟨rfl,hb2⟩;have hB2:=Z00 HB.out hb2
 have hX2:=HX.out.on hb2
 obtain ⟨y0,y1,y2⟩:=hX2.cells
 have y3:=hX2.fr 0
 have y4:=hX2.fr 1
 have y5:=hX2.fr 2
 dsimp only [Vr.zero] at y0 y1
 have hZ2:=HZ.out _ hX2
 have hbz:=Z5i hB2 (zn _) 0 0 (.slice none 0 0)
 have hres:=fun b er=>Zm4 (b:=b) (er:=er) hZ2
 unfold put3 at hZ2 hbz hres
 have HB2:=zh hB2;have HX2:=zh hX2;have HZ2:=zh hZ2;have HBZ:=zh hbz;have HRES:=zh hres;clear hB2 hX2 hZ2 hbz hres hb2 HVA HB HX;cases h1:vsB l with
 | false =>
  have hl:=HNO.out (fun h=>by rw [h1] at h;cases h.1)
  subst hl;go_wp2_with fail;refine bodyPost_ret (v:=.tuple #[.agg #[.int .i64 0,.int .i64 0,.slice none 0 0],.bool false,.int .i64 1]) (HRES.out _ _ _ rfl rfl rfl) rfl ?_
  exact ⟨_,rfl,⟨none,0,rfl,RtsV.nil _ _⟩,HBZ.out⟩
 | true =>
  by_cases h2:t<0
  · have d2:decide (t<0)=true:=by simpa using h2
    have hl:=HNO.out (fun h=>by have:=h.2;simp [Z0D] at this;omega)
    subst hl;go_wp2_with fail;refine bodyPost_ret (v:=.tuple #[.agg #[.int .i64 0,.int .i64 0,.slice none 0 0],.bool false,.int .i64 1]) (HRES.out _ _ _ rfl rfl rfl) rfl ?_
    exact ⟨_,rfl,⟨none,0,rfl,RtsV.nil _ _⟩,HBZ.out⟩
  · have d2:decide (t<0)=false:=by simpa using h2
    by_cases h3:t > 1000000000
    · have d3:decide (t > 1000000000)=true:=by simpa using h3
      have hl:=HNO.out (fun h=>by have:=h.2;simp [Z0D] at this;omega)
      subst hl;go_wp2_with fail;refine bodyPost_ret (v:=.tuple #[.agg #[.int .i64 0,.int .i64 0,.slice none 0 0],.bool false,.int .i64 1]) (HRES.out _ _ _ rfl rfl rfl) rfl ?_
      exact ⟨_,rfl,⟨none,0,rfl,RtsV.nil _ _⟩,HBZ.out⟩
    · have d3:decide (t > 1000000000)=false:=by simpa using h3
      have HLI:=zh (HYES.out h1 (by simp [Z0D];omega))
      clear HYES HNO HBZ HZ2 HRES;go_wp2_with fail;refine (HIF.out _ HB2.out).mono ?_
      rintro e w3 ⟨rfl,hb3⟩;have hB3:=Z00 HB2.out hb3
      have hX3:=HX2.out.on hb3
      obtain ⟨y0,y1,y2⟩:=hX3.cells
      have y3:=hX3.fr 0
      have y4:=hX3.fr 1
      have y5:=hX3.fr 2
      dsimp only [Vr.zero] at y0 y1
      clear HB2 HX2 HIF;by_cases h4:I<0
      · have hl:=HLI.out
        clear HLI;rw [if_pos h4] at hl
        subst hl;have d4:decide (I<0)=true:=by simpa using h4
        have hZ3:=HZ.out _ hX3
        have hbz:=Z5i hB3 (zn _) 0 0 (.slice none 0 0)
        have hres:=fun b er=>Zm4 (b:=b) (er:=er) hZ3
        unfold put3 at hZ3 hbz hres
        have HB3:=zh hB3;have HX3:=zh hX3;have HZ3:=zh hZ3;have HBZ:=zh hbz;have HRES:=zh hres;clear hB3 hX3 hZ3 hbz hres hb3;go_wp2_with fail;refine bodyPost_ret (v:=.tuple #[.agg #[.int .i64 0,.int .i64 0,.slice none 0 0],.bool false,.int .i64 0]) (HRES.out _ _ _ rfl rfl rfl) rfl ?_
        exact ⟨_,rfl,⟨none,0,rfl,RtsV.nil _ _⟩,HBZ.out⟩
      · have hl:=HLI.out
        clear HLI;rw [if_neg h4] at hl
        have d4:decide (I<0)=false:=by simpa using h4
        obtain ⟨i,rfl⟩:=Int.eq_ofNat_of_zero_le (show 0≤I by omega)
        have hi:i<l.length:=by have:=hrg.2;omega
        have hg0:l.getD ((i:Int)).toNat Vr.zero=l[i]:=by simp [List.getD_eq_getElem?_getD,List.getElem?_eq_getElem hi]
        rw [hg0] at hl
        subst hl;obtain ⟨g,o,RA,rc,rfl,hg,hR,c0,c1,c2⟩:=Z1y (HV.out.on hB3) hi
        have hZ3:=hX3.put3 l[i] hR
        have hbz:=Z5i hB3 (zn _) l[i].num l[i].time (.slice RA l[i].rs.length rc)
        generalize l[i]=x at *
        have hres:=fun b er=>Zm4 (b:=b) (er:=er) hZ3
        unfold put3 at hZ3 hbz hres
        have HB3:=zh hB3;have HX3:=zh hX3;have HZ3:=zh hZ3;have HBZ:=zh hbz;have HRES:=zh hres;have HRG:=zh hrg;clear hB3 hX3 hZ3 hbz hres hrg hb3 hR hg0;go_wp2_with fail;refine bodyPost_ret (v:=.tuple #[.agg #[.int .i64 x.num,.int .i64 x.time,.slice RA x.rs.length rc],.bool true,.int .i64 0]) (HRES.out _ _ _ rfl rfl rfl) rfl ?_
        exact ⟨_,rfl,HZ3.out.v,HBZ.out⟩
end
end Go.Proofs.YtnepkoepbapgeaaGreatDoor
