/-
  Walks: QuoteChanged.
-/
import Derived.Test.YtnepkoepbapgeaaGreatDoorQuoL5
import Derived.Test.YtnepkoepbapgeaaGreatDoorQuoR12d
import Derived.Deep.CutRange
import Derived.Deep.DeepCutAuto
import Derived.Deep.CutBlock
namespace Go.Proofs.YtnepkoepbapgeaaGreatDoor
set_option maxRecDepth 100000
open Go.RowKit Lx Px Qx
attribute [local irreducible] Qx.sigE Qx.sigS Qx.Vr.dig Qx.powP
theorem Z7A {W:World}{p:Nat}{O:Qt}{ov:Value}(h:W.heap[p]?=some (.cells (qtC O ov) 32 (0,0))):W.cell? ⟨p,0,none⟩=some (.int .i64 O.ver)∧W.cell? ⟨p,1,none⟩=some (.int .i64 O.time)∧W.cell? ⟨p,2,none⟩=some (.int .i64 O.total)∧W.cell? ⟨p,3,none⟩=some (.int .i64 O.keep)∧W.cell? ⟨p,4,none⟩=some (.int .i64 O.ask.kind)∧W.cell? ⟨p,5,none⟩=some (.int .i64 O.ask.fr) ∧
 W.cell? ⟨p,6,none⟩=some (.int .i64 O.ask.un)∧W.cell? ⟨p,7,none⟩=some (.int .i64 O.ask.pers)∧W.cell? ⟨p,8,none⟩=some ov∧W.cell? ⟨p,9,none⟩=some (.int .u64 (O.dig:Nat))∧W.cell? ⟨p,10,none⟩=some (.int .i64 O.sE)∧W.cell? ⟨p,11,none⟩=some (.int .i64 O.sS):=by
 have k:=fun i u (hu:(qtC O ov)[i]?=some u)=>(show W.cell? ⟨p,i,none⟩=some u by rw [zc h,hu])
 exact ⟨k 0 _ rfl,k 1 _ rfl,k 2 _ rfl,k 3 _ rfl,k 4 _ rfl,k 5 _ rfl,k 6 _ rfl,k 7 _ rfl,k 8 _ rfl,k 9 _ rfl,k 10 _ rfl,k 11 _ rfl⟩
theorem Znc (q:Qt)(k:Int)(at0:Nat)(b:Int):(q.chg k at0 b).nights.length=q.nights.length:=by
 unfold Qt.chg
 split
 · exact List.length_set
 · repeat' split
   all_goals rfl
structure ChB (w:World) (v:Vr) (rv:Value) (a:Qx.Ask) (p:Nat) (Q:Qt) (nv:Value) (r:Nat) (O:Qt) (ov:Value) (W:World):Prop where
 l:LwB w v rv a W
 q:QbK p Q nv W
 o:W.heap[r]?=some (.cells (qtC O ov) 32 (0,0))
 n:W.ownsRow (r+1) 3 1 ov O.nights.length (O.nights.map (.int .i64))
 z:w.heap.size+2≤p
 y:p<r
theorem ChB.lt {w:World}{v:Vr}{rv nv ov:Value}{a:Qx.Ask}{p r:Nat}{Q O:Qt}{W:World}(h:ChB w v rv a p Q nv r O ov W):r<W.heap.size:=(zs h.o)
theorem ChB.on {w:World}{v:Vr}{rv nv ov:Value}{a:Qx.Ask}{p r:Nat}{Q O:Qt}{W W':World}(h:ChB w v rv a p Q nv r O ov W)(hb:Below W.heap.size W W'):ChB w v rv a p Q nv r O ov W' :=
 ⟨h.l.on hb,h.q.on hb,(hb.block _ h.lt).trans h.o,Z2e h.n (fun k _ hk=>hb.block k hk),h.z,h.y⟩
theorem ChB.c {w:World}{v:Vr}{rv nv ov:Value}{a:Qx.Ask}{p r:Nat}{Q O:Qt}{W:World}(h:ChB w v rv a p Q nv r O ov W)(i:Nat)(u:Value)(hu:(qtC O ov)[i]?=some u):W.cell? ⟨r,i,none⟩=some u:=by rw [zc h.o,hu]
theorem ChB.f {w:World}{v:Vr}{rv nv ov:Value}{a:Qx.Ask}{p r:Nat}{Q O:Qt}{W:World}(h:ChB w v rv a p Q nv r O ov W)(i:Nat):W.frozen? ⟨r,i,none⟩=false:=by have:=h.o;simp [World.frozen?,this]
theorem ChB.v {w:World}{v:Vr}{rv nv ov:Value}{a:Qx.Ask}{p r:Nat}{Q O:Qt}{W:World}(h:ChB w v rv a p Q nv r O ov W):QtV W W.heap.size (.agg (qtC O ov)) O:=by
 obtain ⟨A,c,rfl,_⟩:=Z3m h.n rfl
 exact ⟨A,c,rfl,Z02.own h.n rfl⟩
theorem ChB.on2 {w:World}{v:Vr}{rv nv ov:Value}{a:Qx.Ask}{p r x:Nat}{Q O:Qt}{W W':World}(h:ChB w v rv a p Q nv r O ov W)(hS:r<x)(hb:Below x W W')(hx:∀ g,ov.ownBlock=some g→g<x):ChB w v rv a p Q nv r O ov W':=by
 have hz:=h.z
 have hy:=h.y
 refine ⟨h.l.far (hb.mono (by omega)),h.q.far hb (by omega),(hb.block _ hS).trans h.o,?_,h.z,h.y⟩
 refine ⟨h.n.1,?_⟩
 rcases h.n.2 with hn | ⟨g,cap,cur,rfl,hg,hgg,rest⟩
 · exact .inl hn
 · exact .inr ⟨g,cap,cur,rfl,hg,(hb.block g (hx g rfl)).trans hgg,rest⟩
theorem ChB.set {w:World}{v:Vr}{rv nv ov:Value}{a:Qx.Ask}{p r:Nat}{Q O O':Qt}{W:World}(h:ChB w v rv a p Q nv r O ov W)(i:Nat)(x:Value)(ho:(qtC O ov).setIfInBounds i x=qtC O' ov)(hn:O'.nights=O.nights):ChB w v rv a p Q nv r O' ov (W.setCell ⟨r,i,none⟩ x):=by
 have hb:=(Below.refl r W).setCell (p:=⟨r,i,none⟩) (zn _) x
 have hz:=h.z
 have hy:=h.y
 refine ⟨h.l.far (hb.mono (by omega)),h.q.far hb h.y,?_,?_,h.z,h.y⟩
 · have h':=h.o
   rw [← ho]
   simp [World.setCell,Array.getElem?_modify,h']
 · rw [hn]
   refine Z2e h.n (fun k hk _=>?_)
   unfold World.setCell
   rw [Array.getElem?_modify,if_neg (by show r≠k;omega)]
theorem ChB.setn {w:World}{v:Vr}{rv nv:Value}{a:Qx.Ask}{p r g c:Nat}{Q O:Qt}{W:World}(h:ChB w v rv a p Q nv r O (.slice (some ⟨g,0,none⟩) O.nights.length c) W)(k:Nat)(_:k<O.nights.length)(x:Int) :
 ChB w v rv a p Q nv r { O with nights:=O.nights.set k x } (.slice (some ⟨g,0,none⟩) O.nights.length c) (W.setCell ⟨g,k,none⟩ (.int .i64 x)):=by
 have hg:=h.n.lt g rfl
 have hz:=h.z
 have hy:=h.y
 have hb:=(Below.refl (r+1) W).setCell (p:=⟨g,k,none⟩) hg.1 (.int .i64 x)
 refine ⟨h.l.far (hb.mono (by omega)),h.q.far hb (by omega),?_,?_,h.z,h.y⟩
 · have h':=h.o
   unfold World.setCell
   rw [Array.getElem?_modify,if_neg (by show g≠r;omega),h']
   simp [qtC]
 · obtain ⟨hl,hr⟩:=h.n
   refine ⟨by simp,.inr ?_⟩
   rcases hr with ⟨hv,h0⟩ | ⟨g',cap,cur,hv,hg1,hgg,hc1,hc2,hsz,hpre⟩
   · cases hv
   · injection hv with hv1 _ hv3
     injection hv1 with hv1
     injection hv1 with hv1
     subst hv1 hv3;refine ⟨g,c,cur.setIfInBounds k (.int .i64 x),by simp,hg1,?_,by simpa using hc1,hc2,by simpa using hsz,?_⟩
     · simp [World.setCell,Array.getElem?_modify,hgg]
     · show (cur.setIfInBounds k (.int .i64 x)).toList.take ((O.nights.set k x).length*1)=(O.nights.set k x).map (.int .i64)
       rw [Array.toList_setIfInBounds,List.take_set,List.length_set,hpre,List.map_set]
theorem ChB.night {w:World}{v:Vr}{rv nv:Value}{a:Qx.Ask}{p r g c:Nat}{Q O:Qt}{W:World}(h:ChB w v rv a p Q nv r O (.slice (some ⟨g,0,none⟩) O.nights.length c) W)(k:Nat)(hk:k<O.nights.length):W.cell? ⟨g,k,none⟩=some (.int .i64 O.nights[k])∧W.frozen? ⟨g,k,none⟩=false:=by
 refine ⟨?_,?_⟩
 · rw [h.n.cellAt k (by omega)]
   simp [List.getElem?_eq_getElem hk]
 · obtain ⟨_,hr⟩:=h.n
   rcases hr with ⟨hv,h0⟩ | ⟨g',cap,cur,hv,hg1,hgg,_⟩
   · cases hv
   · injection hv with hv1 _ hv3
     injection hv1 with hv1
     injection hv1 with hv1
     subst hv1;simp [World.frozen?,hgg]
set_option maxHeartbeats 16000000 in
theorem Zk8 (v:Vr)(a:Qx.Ask)(s m3 m4 b:Int)(V:Value)(w:World)(hV:VrV w w.heap.size V v)(hm3:0≤m3∧m3≤255)(hm4:0≤m4∧m4≤255)(hb : -2147483648≤b∧b≤2147483647)(ht:Tabs w.heap.size w)(hM:Mx w w.heap.size) :
 Calls Tryz.prog 6 #[V,askV a,.int .i64 s,.int .u8 m3,.int .u8 m4,.int .i32 b] w fun e w'=>e=.returned (.bool true)∧Below w.heap.size w w':=by
 obtain ⟨A,c,rfl,hR⟩:=hV
 have hB0:=LwB.new w v (.slice A v.rs.length c) a hR
 have hhd:=fun W (h:LwB w v (.slice A v.rs.length c) a W)=>Zf0 W (Z1y ht h.b) (qmx_up hM h.b)
 have hus:=fun W (h:LwB w v (.slice A v.rs.length c) a W)=>Zfv v a s _ W h.ver
 have hmk:=fun t s o W (h:LwB w v (.slice A v.rs.length c) a W)=>Zb9 v a t s o _ W h.ver (Z1y ht h.b)
 have hck:=fun x X q p U W (h:LwB w v (.slice A v.rs.length c) a W) hX hU hr hd hn=>Z8B x q p X U W hX hU hr hd hn (Z1y ht h.b)
 have hsn:=fun l U W (h:LwB w v (.slice A v.rs.length c) a W) h1 h2 h3=>Z6u s 9 U l W.heap.size W h1 h2 h3 (Z1y ht h.b)
 have hck:=zh hck;have hsn:=zh hsn;unfold vrV
 simp only [askV] at *
 obtain ⟨q0,q1,q2,q3,q4,q5,q6⟩:=hB0.cells
 have HB0:=zh hB0;have HHD:=zh hhd;have HUS:=zh hus;have HMK:=zh hmk;have HT:=zh ht;have HM:=zh hM;have HR:=zh hR;clear hB0 hhd hus hmk ht hM hR;go_enter Tryz.func6,Tryz.ntmps6
 go_wp2_with fail;refine (HHD.out _ HB0.out).mono ?_
 rintro e w2 ⟨rfl,hb2⟩;have hB2:=HB0.out.on hb2
 obtain ⟨q0,q1,q2,q3,q4,q5,q6⟩:=hB2.cells
 have HB2:=zh hB2;clear hB2 HB0 hb2 HHD;go_wp2_with fail;refine (HUS.out _ HB2.out).mono ?_
 rintro e w3 ⟨⟨b1,rfl,hb1⟩,hb3⟩
 have hB3:=HB2.out.on hb3
 clear q0 q1 q2 q3 q4 q5 q6;obtain ⟨q0,q1,q2,q3,q4,q5,q6⟩:=hB3.cells
 have HB3:=zh hB3;clear hB3 HB2 hb3 HUS;cases b1 with
 | false =>
  go_wp2_with fail;go_ret
  exact ⟨rfl,HB3.out.b⟩
 | true =>
  obtain ⟨h1,h2,h3⟩:=hb1 rfl
  clear hb1;obtain ⟨hub,htv0,htv1,hnu0,hnu1⟩:=Z75 h1
  have htm:Z2g v.time=true:=by simp [Z2g];omega
  by_cases hb0:b=0
  · have d0:(b==0)=true:=by simpa using hb0
    clear hb0;go_wp2_with fail;go_ret
    exact ⟨rfl,HB3.out.b⟩
  have d0:(b==0)=false:=by simpa using hb0
  rcases hX:Z5a v a v.time s 7 with ⟨Q,er⟩
  have hX:=zh hX;go_wp2_with fail;have hm:=HMK.out v.time s 7 w3 HB3.out
  rw [hX.out] at hm
  refine hm.mono ?_
  rintro e w4 ⟨QV,rfl,hq,hb4⟩;obtain ⟨A4,c4,rfl,hI4⟩:=Z7y hq
  have hzz0:w.heap.size+2≤w4.heap.size:=by have:=(Array.getElem?_eq_some_iff.1 (HB3.out.on hb4).ha).1;omega
  have hone4:=Z0A Q A4 Q.nights.length c4
  have hal:=(Below.refl w4.heap.size w4).alloc (zn _) (.cells (qtC Q (.slice A4 Q.nights.length c4)) 32)
  have hX:=(HB3.out.on hb4).on hal
  have hY:=QbK.new (q:=Q) hI4
  clear q0 q1 q2 q3 q4 q5 q6;obtain ⟨q0,q1,q2,q3,q4,q5,q6⟩:=hX.cells
  have HB5:=zh hX;have QB:=zh hY;clear hX hY HB3 hb4 hal hm hq hI4;dsimp only
  go_upto_region 5 with (refine Z0t rfl _ _ rfl _ _ rfl rfl rfl (Z2s _ _) hone4 ?_)
  generalize w4.alloc (.cells (qtC Q (.slice A4 Q.nights.length c4)) 32)=w5 at *
  have hpu:=Z9a s w5 h3
  have hmem:=ZcA s.toNat (ZcB s.toNat)
  generalize powP 4 s.toNat=pb at *
  have HPU:=zh hpu;clear hpu;go_wp2_with fail;refine HPU.out.mono ?_
  rintro e w6 ⟨rfl,hb6⟩;have hB6:=HB5.out.on hb6
  have hQ6:=QB.out.on hb6
  clear q0 q1 q2 q3 q4 q5 q6;obtain ⟨q0,q1,q2,q3,q4,q5,q6⟩:=hB6.cells
  have HB6:=zh hB6;have HQ6:=zh hQ6;clear hB6 hQ6 HB5 QB HPU hb6;by_cases he:er=0
  · subst he
    have hzz:w.heap.size+2≤w4.heap.size:=hzz0
    obtain ⟨hsm,hdg,hn60,e1,e2,e3,hpr,e4⟩:=Zf1 hX.out
    obtain ⟨f1,_,_,_,_⟩:=Z1F hpr
    obtain ⟨z1,z2,z3,z4,_⟩:=Z3k h2
    have hnp:0<Q.nights.length:=by omega
    have E1:=zh e1;have E2:=zh e2;have E3:=zh e3;clear e1 e2 e3 e4;obtain ⟨k0,k1,k2,k3,k4,k5,k6,k7,k8,k9,k10,k11⟩:=HQ6.out.all
    have dn:((Q.nights.length:Int)==0)=false:=by simp;intro h;rw [h] at hnp;simp at hnp
    have hone6:=Z0A Q A4 Q.nights.length c4
    have hal:=(Below.refl w6.heap.size w6).alloc (zn _) (.cells (qtC Q (.slice A4 Q.nights.length c4)) 32)
    have hB7:=HB6.out.on hal
    have hQ7:=HQ6.out.on hal
    have ho7:=za w6 (.cells (qtC Q (.slice A4 Q.nights.length c4)) 32)
    have hlt7:w4.heap.size<w6.heap.size:=HQ6.out.lt
    have HB7:=zh hB7;have HQ7:=zh hQ7;have HO7:=zh ho7;have HSM:=zh hsm;clear hB7 hQ7 ho7 hsm hpr f1 hal;go_upto_region 11 with (refine Z0t rfl _ _ rfl _ _ rfl rfl rfl (Z2s _ _) hone6 ?_)
    clear HB6 HQ6 k0 k1 k2 k3 k4 k5 k6 k7 k8 k9 k10 k11 q0 q1 q2 q3 q4 q5 q6;generalize w6.alloc (.cells (qtC Q (.slice A4 Q.nights.length c4)) 32)=w7 at *
    obtain ⟨k0,k1,k2,k3,k4,k5,k6,k7,k8,k9,k10,k11⟩:=HQ7.out.all
    have j8:w7.cell? ⟨w6.heap.size,8,none⟩=some (.slice A4 Q.nights.length c4):=by rw [zc HO7.out];rfl
    have hlt67:w6.heap.size<w7.heap.size:=(zs HO7.out)
    have hown:(w7.alloc (.cells #[] 3)).ownsRow (w6.heap.size+1) 3 1 (.slice (some ⟨w7.heap.size,0,none⟩) 0 0) ([]:List Int).length (([]:List Int).map (.int .i64)):=World.ownsRow_lit w7 #[] 0 (by omega) (by unfold maxLen;omega) rfl
    have hI7:Z02 w7 w4.heap.size (.slice A4 Q.nights.length c4) Q.nights:=HQ7.out.i
    have hal7:=(Below.refl w7.heap.size w7).alloc (zn _) (.cells #[] 3)
    have hI8:=hI7.on (hal7.mono (by omega))
    have hx8:=(hal7.block _ hlt67).trans HO7.out
    have hB8:=HB7.out.on hal7
    have hQ8:=HQ7.out.on hal7
    have hz8:w7.heap.size<(w7.alloc (.cells #[] 3)).heap.size:=by simp
    have i8:(w7.alloc (.cells #[] 3)).cell? ⟨w4.heap.size,8,none⟩=some (.slice A4 Q.nights.length c4):=hQ8.c 8 _ rfl
    have HOWN:=zh hown;have HI8:=zh hI8;have HX8:=zh hx8;have HB8:=zh hB8;have HQ8:=zh hQ8;clear hown hI8 hx8 hB8 hQ8;go_upto_region 12 with (at_builtin;refine Z16 rfl _ _ rfl (w6.heap.size+1) w4.heap.size (.slice (some ⟨w7.heap.size,0,none⟩) 0 0) [] rfl HOWN.out A4 Q.nights.length c4 Q.nights rfl HI8.out (by simp only [List.length_nil];omega) (by simp;omega) ?_;intro ov w9 hown9 hgrow9;rw [List.nil_append] at hown9;obtain ⟨Ao,co,rfl,hco⟩:=Z3m hown9 rfl;have hx9:=(hgrow9.block w6.heap.size (by simp <;> omega) (by intro e;have e:=Option.some.inj e;dsimp only at e;omega)).trans HX8.out;have x8:w9.cell? ⟨w6.heap.size,8,none⟩=some (.slice A4 Q.nights.length c4):=(by rw [zc hx9] <;> rfl);have x8f:w9.frozen? ⟨w6.heap.size,8,none⟩=false:=by simp [World.frozen?,hx9])
    have hb9:Below (w6.heap.size+1) (w7.alloc (.cells #[] 3)) w9:=(Below.refl _ _).grown hgrow9 (by simp <;> omega) (fun g e=>by have e:=Option.some.inj e;dsimp only at e;omega)
    have hC9:ChB w v (.slice A v.rs.length c) a w4.heap.size Q (.slice A4 Q.nights.length c4) w6.heap.size Q (.slice Ao Q.nights.length co) (w9.setCell ⟨w6.heap.size,8,none⟩ (.slice Ao Q.nights.length co)):=by
     have hs:=(Below.refl w6.heap.size w9).setCell (p:=⟨w6.heap.size,8,none⟩) (zn _) (.slice Ao Q.nights.length co)
     refine ⟨(HB8.out.far (hb9.mono (by omega))).far (hs.mono (by omega)),(HQ8.out.far hb9 (by omega)).far hs hlt7,?_,?_,hzz,hlt7⟩
     · unfold qtC at hx9
       simp [World.setCell,Array.getElem?_modify,hx9,qtC]
     · refine Z2e hown9 (fun k hk _=>?_)
       unfold World.setCell
       rw [Array.getElem?_modify,if_neg (by show w6.heap.size≠k;omega)]
    have HC9:=zh hC9;clear hC9 hown9 hgrow9 hx9 hb9 x8 x8f i8 HOWN HI8 HX8 HB8 HQ8 HB7 HQ7 HO7 k0 k1 k2 k3 k4 k5 k6 k7 k8 k9 k10 k11 j8 hal7 hI7 hz8;generalize w9.setCell ⟨w6.heap.size,8,none⟩ (.slice Ao Q.nights.length co)=w10 at *
    go_upto_block 0 with fail
    have hkk:m3 % 5=0∨m3 % 5=1∨m3 % 5=2∨m3 % 5=3∨m3 % 5=4:=by omega
    have hnl:(Q.nights.length:Int)≤60:=by omega
    have hs9:∀ x∈Q.nights,0≤x∧x≤4294967295:=fun x hx=>HSM.out x (by simp [Qt.says,hx])
    have s3:=HSM.out Q.total (by simp [Qt.says])
    have s4:=HSM.out Q.keep (by simp [Qt.says])
    have s1:=HSM.out Q.ver (by simp [Qt.says])
    have HKK:=zh hkk;have HS9:=zh hs9;clear hkk hs9;obtain ⟨g,hAo,hge⟩:∃ g,Ao=some ⟨g,0,none⟩∧w6.heap.size+1≤g:=by
     rcases HC9.out.n.2 with ⟨_,h0⟩ | ⟨g,cap,cur,hv,hg1,_⟩
     · omega
     · injection hv with hv1 _ _
       exact ⟨g,hv1,hg1⟩
    subst hAo;go_cut [12,74] from 75 to 123 (fun sl s74 wx=>sl=.bool false∧ChB w v (.slice A v.rs.length c) a w4.heap.size Q (.slice A4 Q.nights.length c4) w6.heap.size (Q.chg (m3 % 5) (m4.toNat % Q.nights.length) b) (.slice (some ⟨g,0,none⟩) Q.nights.length co) wx)
    case first =>
     rcases HKK.out with hk | hk | hk | hk | hk
     · obtain ⟨mN,rfl⟩:=Int.eq_ofNat_of_zero_le hm4.1
       have htn:((mN:Nat):Int).toNat=mN:=Int.toNat_natCast mN
       obtain ⟨kk,hkk⟩:∃ kk,mN % Q.nights.length=kk:=⟨_,rfl⟩
       have HKQ:Hid (((mN:Int)).toNat % Q.nights.length=kk):=zh (by rw [Int.toNat_natCast];exact hkk)
       have hklt:kk<Q.nights.length:=by rw [← hkk];exact Nat.mod_lt _ hnp
       have hrem:((mN:Int) % (Q.nights.length:Int))=(kk:Int):=by rw [← hkk];simp
       have hrem2:(mN:Int).tmod (Q.nights.length:Int)=(kk:Int):=by rw [Int.tmod_eq_emod_of_nonneg (by omega)];exact hrem
       have hwm:IntKind.i64.wrap (mN:Int)=mN:=IntWalk.i64_in _ (by omega)
       have hi0:(0:Int)≤(kk:Int):=by omega
       have hi1:(kk:Int)<(Q.nights.length:Int):=by omega
       have hz0:¬ (Q.nights.length:Int)=0:=by omega
       obtain ⟨n1,n2⟩:=HC9.out.night kk hklt
       have j8:w10.cell? ⟨w6.heap.size,8,none⟩=some (.slice (some ⟨g,0,none⟩) Q.nights.length co):=HC9.out.c 8 _ rfl
       have i8:w10.cell? ⟨w4.heap.size,8,none⟩=some (.slice A4 Q.nights.length c4):=HC9.out.q.c 8 _ rfl
       have hx:=HS9.out Q.nights[kk] (List.getElem_mem hklt)
       have hC:=HC9.out.setn kk hklt (Q.nights[kk]+b)
       have HTN:=zh htn;clear htn;have hchg:Q.chg (m3 % 5) kk b={ Q with nights:=Q.nights.set kk (Q.nights[kk]+b) }:=by
        rw [hk];unfold Qt.chg;rw [if_pos rfl];simp [List.getElem?_eq_getElem hklt]
       rw [← hchg] at hC
       have hw1:IntKind.i64.wrap (Q.nights[kk]+b)=Q.nights[kk]+b:=IntWalk.i64_in _ (by omega)
       have hw2:IntKind.i64.wrap b=b:=IntWalk.i64_in _ (by omega)
       clear hchg;generalize Q.nights[kk]=y at *
       have HCC:=zh hC;clear hC;rw [hk]
       clear HC9 hkk hk;go_wp2_with fail;go_region
       have hCd:=HCC.out.on (Below.refl _ _).drew
       have HCD:=zh hCd;clear hCd HCC;go_wp2_with fail;go_meet
       case rel =>
        refine ⟨rfl,?_⟩
        have e:=HKQ.out
        rw [e]
        exact HCD.out
     · have j2:w10.cell? ⟨w6.heap.size,2,none⟩=some (.int .i64 Q.total):=HC9.out.c 2 _ rfl
       have f2:=HC9.out.f 2
       have hw1:IntKind.i64.wrap (Q.total+b)=Q.total+b:=IntWalk.i64_in _ (by omega)
       have hw2:IntKind.i64.wrap b=b:=IntWalk.i64_in _ (by omega)
       have hC:=HC9.out.set (O':=Q.chg 1 (m4.toNat % Q.nights.length) b) 2 (.int .i64 (Q.total+b)) rfl rfl
       rw [← hk] at hC
       have HCC:=zh hC;clear hC;rw [hk]
       clear HC9 hk;go_wp2_with fail;go_meet
       case rel=>exact ⟨rfl,HCC.out⟩
     · have j3:w10.cell? ⟨w6.heap.size,3,none⟩=some (.int .i64 Q.keep):=HC9.out.c 3 _ rfl
       have f3:=HC9.out.f 3
       have hw1:IntKind.i64.wrap (Q.keep+b)=Q.keep+b:=IntWalk.i64_in _ (by omega)
       have hw2:IntKind.i64.wrap b=b:=IntWalk.i64_in _ (by omega)
       have hC:=HC9.out.set (O':=Q.chg 2 (m4.toNat % Q.nights.length) b) 3 (.int .i64 (Q.keep+b)) rfl rfl
       rw [← hk] at hC
       have HCC:=zh hC;clear hC;rw [hk]
       clear HC9 hk;go_wp2_with fail;go_meet
       case rel=>exact ⟨rfl,HCC.out⟩
     · have j0:w10.cell? ⟨w6.heap.size,0,none⟩=some (.int .i64 Q.ver):=HC9.out.c 0 _ rfl
       have f0:=HC9.out.f 0
       have hw1:IntKind.i64.wrap (Q.ver+b)=Q.ver+b:=IntWalk.i64_in _ (by omega)
       have hw2:IntKind.i64.wrap b=b:=IntWalk.i64_in _ (by omega)
       have hC:=HC9.out.set (O':=Q.chg 3 (m4.toNat % Q.nights.length) b) 0 (.int .i64 (Q.ver+b)) rfl rfl
       rw [← hk] at hC
       have HCC:=zh hC;clear hC;rw [hk]
       clear HC9 hk;go_wp2_with fail;go_meet
       case rel=>exact ⟨rfl,HCC.out⟩
     · have j9:w10.cell? ⟨w6.heap.size,9,none⟩=some (.int .u64 (Q.dig:Nat)):=HC9.out.c 9 _ rfl
       have f9:=HC9.out.f 9
       have hc0:(0:Int)≤((Q.dig:Int)+b) % 18446744073709551616:=by omega
       obtain ⟨dg,hdgg⟩:=Int.eq_ofNat_of_zero_le hc0
       have hC:=HC9.out.set (O':=Q.chg 4 (m4.toNat % Q.nights.length) b) 9 (.int .u64 (dg:Nat)) (by simp [Qt.chg,qtC,hdgg]) rfl
       rw [← hk] at hC
       have hw2:IntKind.i64.wrap b=b:=IntWalk.i64_in _ (by omega)
       have hw3:IntKind.u64.wrap ((Q.dig:Int)+IntKind.u64.wrap b)=(dg:Int):=by rw [IntKind.wrap_u64,IntKind.wrap_u64];omega
       have HCC:=zh hC;clear hC HC9;go_wp2_with fail;go_meet
       case rel=>exact ⟨rfl,HCC.out⟩
    case rest =>
     obtain ⟨rfl,hcut⟩:=hcut
     have hat:m4.toNat % Q.nights.length<Q.nights.length:=Nat.mod_lt _ hnp
     obtain ⟨ho1,ho2⟩:=Zhq Q (m3 % 5) (m4.toNat % Q.nights.length) b
     have ho3:=Zhr (k:=m3 % 5) hat hb0 hb.1 hb.2 hdg
     obtain ⟨ho4,ho5,ho6⟩:=Zhs (k:=m3 % 5) HSM.out hdg hn60 hat hb.1 hb.2
     have hln:=Znc Q (m3 % 5) (m4.toNat % Q.nights.length) b
     have hcut2:ChB w v (.slice A v.rs.length c) a w4.heap.size Q (.slice A4 Q.nights.length c4) w6.heap.size (Q.chg (m3 % 5) (m4.toNat % Q.nights.length) b) (.slice (some ⟨g,0,none⟩) (Q.chg (m3 % 5) (m4.toNat % Q.nights.length) b).nights.length co) wc:=by rw [hln];exact hcut
     clear hcut;have hcut:=hcut2
     clear hcut2;generalize Q.chg (m3 % 5) (m4.toNat % Q.nights.length) b=O at *
     have hx:=Z56 hX.out ho1 ho2 ho3 hmem
     have hy:=fun E S=>Z56 (x:={ O with sE:=E,sS:=S }) hX.out ho1 ho2 ho3 hmem
     have hz:=Zf6 hX.out (Zmc h1).1 (Zmc h1).2 hmem
     obtain ⟨ov,hov⟩:∃ ov,Value.slice (some ⟨g,0,none⟩) O.nights.length co=ov:=⟨_,rfl⟩
     have hone9:(qtC O ov).all (·.oneCell')=true:=by rw [← hov];exact Z0A O _ _ _
     have hqv:∀ W,Z02 W W.heap.size (.slice (some ⟨g,0,none⟩) O.nights.length co) O.nights→QtV W W.heap.size (.agg (qtC O ov)) O:=fun W h=>⟨_,_,by rw [← hov];rfl,h⟩
     have hqv2:∀ W E S,Z02 W W.heap.size (.slice (some ⟨g,0,none⟩) O.nights.length co) O.nights→QtV W W.heap.size (.agg (qtC { O with sE:=E,sS:=S } ov)) { O with sE:=E,sS:=S }:=fun W E S h=>⟨_,_,by rw [← hov];rfl,h⟩
     have hovg:∀ x,ov.ownBlock=some x→x<wc.heap.size:=fun x e=>by
      have:=hcut.n.lt x (by rw [hov];exact e)
      exact this.2
     rw [hov] at hcut
     have hov1:ov.oneCell'=true:=by rw [← hov];rfl
     have hcv:∀ W,ChB w v (.slice A v.rs.length c) a w4.heap.size Q (.slice A4 Q.nights.length c4) w6.heap.size O ov W→Z02 W W.heap.size (.slice (some ⟨g,0,none⟩) O.nights.length co) O.nights:=fun W h=>by
      have:=h.n
      rw [← hov] at this
      exact Z02.own this rfl
     have hal:=(Below.refl wc.heap.size wc).alloc (zn _) (.cells (qtC O ov) 32)
     have hC11:=hcut.on hal
     have hS11:=za wc (.cells (qtC O ov) 32)
     have hrc:=hcut.lt
     obtain ⟨k0,k1,k2,k3,k4,k5,k6,k7,k8,k9,k10,k11⟩:=Z7A hcut.o
     obtain ⟨q0,q1,q2,q3,q4,q5,q6⟩:=hcut.l.cells
     have HC10:=zh hcut;have HC11:=zh hC11;have HS11:=zh hS11;have HXC:=zh hx;have HYC:=zh hy;have HZC:=zh hz;have HQV:=zh hqv;have HQV2:=zh hqv2;have HCV:=zh hcv;have HO4:=zh ho4;clear hcut hC11 hS11 hx hy hz hqv hqv2 hcv ho4 hal hov hln hat ho1 ho2 ho3 HKK HS9 s1 s3 s4;go_upto_region 24 with (refine Z0t rfl _ _ rfl _ _ rfl rfl rfl (Z2s _ _) hone9 ?_)
     generalize wc.alloc (.cells (qtC O ov) 32)=w11 at *
     clear HC10 k0 k1 k2 k3 k4 k5 k6 k7 k8 k9 k10 k11 q0 q1 q2 q3 q4 q5 q6;obtain ⟨k0,k1,k2,k3,k4,k5,k6,k7,k8,k9,k10,k11⟩:=Z7A HC11.out.o
     have hsy:=Zi7 O (.agg (qtC O ov)) w11 (HQV.out _ (HCV.out _ HC11.out)) ho5 (by omega)
     unfold qtC at hsy
     have HSY:=zh hsy;clear hsy;go_wp2_with fail;refine HSY.out.mono ?_
     rintro e w12 ⟨sr,rfl,hsr,hb12⟩;have hC12:=HC11.out.on hb12
     have hz11:wc.heap.size<w11.heap.size:=(zs HS11.out)
     have hS12:=(hb12.block _ hz11).trans HS11.out
     have hsl:O.says.length≤100000:=by simp [Qt.says];omega
     have hsg:=hsn.out O.says sr w12 hC12.l hsr hsl HO4.out
     have hse:∃ E S,Zfx s 9 O.says=.tuple #[.agg #[.int .i64 E,.int .i64 S],.int .i64 0]:=by
      unfold Zfx
      rw [h3]
      exact ⟨_,_,rfl⟩
     obtain ⟨E,S,hse⟩:=hse
     rw [hse] at hsg
     have HC12:=zh hC12;have HS12:=zh hS12;have HSG:=zh hsg;clear hC12 hS12 hsg hse hb12 HSY HC11 HS11 k0 k1 k2 k3 k4 k5 k6 k7 k8 k9 k10 k11;go_wp2_with fail;refine HSG.out.mono ?_
     rintro e w13 ⟨rfl,hb13⟩;have hC13:=HC12.out.on hb13
     have hz12:wc.heap.size<w12.heap.size:=(zs HS12.out)
     have hS13:=(hb13.block _ hz12).trans HS12.out
     have hz13:wc.heap.size<w13.heap.size:=(zs hS13)
     obtain ⟨_,_,_,_,_,_,_,_,_,_,s10,s11⟩:=Z7A hS13
     have f10:w13.frozen? ⟨wc.heap.size,10,none⟩=false:=by simp [World.frozen?,hS13]
     have f11:w13.frozen? ⟨wc.heap.size,11,none⟩=false:=by simp [World.frozen?,hS13]
     have HC13:=zh hC13;have HS13:=zh hS13;clear hC13 hS13 hb13 HSG HC12 HS12;go_upto_region 25 with fail
     have hC14:=HC13.out.on2 (hS:=hrc) ((Below.refl wc.heap.size w13).setCell (p:=⟨wc.heap.size,10,none⟩) (zn _) (.int .i64 E) |>.setCell (p:=⟨wc.heap.size,11,none⟩) (zn _) (.int .i64 S)) hovg
     have hS14:((w13.setCell ⟨wc.heap.size,10,none⟩ (.int .i64 E)).setCell ⟨wc.heap.size,11,none⟩ (.int .i64 S)).heap[wc.heap.size]?=some (.cells (qtC { O with sE:=E,sS:=S } ov) 32 (0,0)):=by
      have h':=HS13.out
      unfold qtC at h' ⊢
      simp [World.setCell,Array.getElem?_modify,h']
     have HC14:=zh hC14;have HS14:=zh hS14;clear hC14 hS14 HC13 HS13 s10 s11 f10 f11;generalize (w13.setCell ⟨wc.heap.size,10,none⟩ (.int .i64 E)).setCell ⟨wc.heap.size,11,none⟩ (.int .i64 S)=w14 at *
     have hz14:wc.heap.size<w14.heap.size:=(zs HS14.out)
     obtain ⟨q0,q1,q2,q3,q4,q5,q6⟩:=HC14.out.l.cells
     have hal2:=(Below.refl w14.heap.size w14).alloc (zn _) (.cells #[.int .i64 v.num,.int .i64 v.time,.slice A v.rs.length c] 24)
     have hC15:=HC14.out.on hal2
     have hS15:=(hal2.block _ hz14).trans HS14.out
     have hN15:=za w14 (.cells #[.int .i64 v.num,.int .i64 v.time,.slice A v.rs.length c] 24)
     have HC15:=zh hC15;have HS15:=zh hS15;have HN15:=zh hN15;clear hC15 hS15 hN15 hal2;go_upto_region 26 with fail
     generalize w14.alloc (.cells #[.int .i64 v.num,.int .i64 v.time,.slice A v.rs.length c] 24)=w15 at *
     clear q0 q1 q2 q3 q4 q5 q6 HC14 HS14;have hz15:w14.heap.size<w15.heap.size:=(zs HN15.out)
     obtain ⟨q0,q1,q2,q3,q4,q5,q6⟩:=HC15.out.l.cells
     have n0:w15.cell? ⟨w14.heap.size,0,none⟩=some (.int .i64 v.num):=by rw [zc HN15.out];rfl
     have nf:w15.frozen? ⟨w14.heap.size,0,none⟩=false:=by have:=HN15.out;simp [World.frozen?,this]
     have hwn:IntKind.i64.wrap (1+v.num % 1000000)=1+v.num % 1000000:=IntWalk.i64_in _ (by omega)
     have hvt:v.num.tmod 1000000=v.num % 1000000:=Int.tmod_eq_emod_of_nonneg (by omega)
     have hv0:0≤v.num:=by omega
     go_upto_region 27 with fail
     have hC16:=HC15.out.on2 (x:=w14.heap.size) (by omega) ((Below.refl w14.heap.size w15).setCell (p:=⟨w14.heap.size,0,none⟩) (zn _) (.int .i64 (1+v.num % 1000000))) (fun g e=>by have:=hovg g e;omega)
     have hS16:(w15.setCell ⟨w14.heap.size,0,none⟩ (.int .i64 (1+v.num % 1000000))).heap[wc.heap.size]?=some (.cells (qtC { O with sE:=E,sS:=S } ov) 32 (0,0)):=by
      unfold World.setCell
      rw [Array.getElem?_modify,if_neg (by show w14.heap.size≠wc.heap.size;omega)]
      exact HS15.out
     have hN16:(w15.setCell ⟨w14.heap.size,0,none⟩ (.int .i64 (1+v.num % 1000000))).heap[w14.heap.size]?=some (.cells #[.int .i64 (1+v.num % 1000000),.int .i64 v.time,.slice A v.rs.length c] 24 (0,0)):=by
      have h':=HN15.out
      simp [World.setCell,Array.getElem?_modify,h']
     have HC16:=zh hC16;have HS16:=zh hS16;have HN16:=zh hN16;clear hC16 hS16 hN16 n0 nf HC15 HS15 HN15 q0 q1 q2 q3 q4 q5 q6;generalize w15.setCell ⟨w14.heap.size,0,none⟩ (.int .i64 (1+v.num % 1000000))=w16 at *
     obtain ⟨q0,q1,q2,q3,q4,q5,q6⟩:=HC16.out.l.cells
     obtain ⟨k0,k1,k2,k3,k4,k5,k6,k7,k8,k9,k10,k11⟩:=Z7A HC16.out.o
     have hc:=hck.out v _ O pb _ w16 HC16.out.l HC16.out.l.ver (HQV.out _ (HCV.out _ HC16.out)) HO4.out ho5 (by omega)
     rw [HXC.out] at hc
     unfold qtC at hc
     have HC:=zh hc;clear hc;go_wp2_with fail;refine HC.out.mono ?_
     rintro e w17 ⟨rfl,hb17⟩;have hC17:=HC16.out.on hb17
     have hS17:=(hb17.block _ (zs HS16.out)).trans HS16.out
     have hN17:=(hb17.block _ (zs HN16.out)).trans HN16.out
     have HC17:=zh hC17;have HS17:=zh hS17;have HN17:=zh hN17;clear hC17 hS17 hN17 HC hb17 HC16 HS16 HN16 q0 q1 q2 q3 q4 q5 q6 k0 k1 k2 k3 k4 k5 k6 k7 k8 k9 k10 k11;obtain ⟨q0,q1,q2,q3,q4,q5,q6⟩:=HC17.out.l.cells
     obtain ⟨k0,k1,k2,k3,k4,k5,k6,k7,k8,k9,k10,k11⟩:=Z7A HS17.out
     have hc:=hck.out v _ { O with sE:=E,sS:=S } pb _ w17 HC17.out.l HC17.out.l.ver (HQV2.out _ E S (HCV.out _ HC17.out)) HO4.out ho5 (by show O.nights.length≤50000;omega)
     rw [HYC.out E S] at hc
     unfold qtC at hc
     have HC:=zh hc;clear hc;go_wp2_with fail;refine HC.out.mono ?_
     rintro e w18 ⟨rfl,hb18⟩;have hC18:=HC17.out.on hb18
     have hN18:=(hb18.block _ (zs HN17.out)).trans HN17.out
     have HC18:=zh hC18;have HN18:=zh hN18;clear hC18 hN18 HC hb18 HC17 HS17 HN17 q0 q1 q2 q3 q4 q5 q6 k0 k1 k2 k3 k4 k5 k6 k7 k8 k9 k10 k11;have kn:=fun i u (hu:(#[.int .i64 (1+v.num % 1000000),.int .i64 v.time,.slice A v.rs.length c]:Array Value)[i]?=some u)=>(show w18.cell? ⟨w14.heap.size,i,none⟩=some u by rw [zc HN18.out,hu])
     have n0:=kn 0 _ rfl
     have n1:=kn 1 _ rfl
     have n2:=kn 2 _ rfl
     clear kn;obtain ⟨k0,k1,k2,k3,k4,k5,k6,k7,k8,k9,k10,k11⟩:=HC18.out.q.all
     have hc:=hck.out v.nxt (.agg #[.int .i64 (1+v.num % 1000000),.int .i64 v.time,.slice A v.rs.length c]) Q pb _ w18 HC18.out.l ⟨A,c,rfl,HC18.out.l.hR.up HC18.out.l.b.size⟩ HC18.out.q.v (fun x hx=>by have:=HSM.out x hx;omega) hdg (by omega)
     rw [HZC.out] at hc
     unfold qtC at hc
     have HC:=zh hc;clear hc;go_wp2_with fail;refine HC.out.mono ?_
     rintro e w19 ⟨rfl,hb19⟩;have hC19:=HC18.out.on hb19
     clear HC hb19 HC18 HN18 k0 k1 k2 k3 k4 k5 k6 k7 k8 k9 k10 k11 n0 n1 n2;go_wp2_with fail;go_ret
     exact ⟨rfl,hC19.l.b⟩
  · have de:(er != 0)=true:=by simpa using he
    go_wp2_with fail;go_ret
    exact ⟨rfl,HB6.out.b⟩
end Go.Proofs.YtnepkoepbapgeaaGreatDoor
