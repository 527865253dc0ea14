/-
  Walks: QuoteOrder.
-/
import Derived.Test.YtnepkoepbapgeaaGreatDoorQuoL5
import Derived.Test.YtnepkoepbapgeaaGreatDoorQuoRts
import Derived.Test.YtnepkoepbapgeaaGreatDoorQuoR10d
import Derived.BigRegion
import Derived.Deep.RegionLaw
import Derived.Deep.AppendLies
namespace Go.Proofs.YtnepkoepbapgeaaGreatDoor
set_option maxRecDepth 100000
open Go.RowKit Lx Px Qx
attribute [local irreducible] Qx.sigE Qx.sigS Qx.Vr.dig Qx.powP
structure Bor (w : World) (p : Nat) (v : Vr) (rv : Value) (a : Qx.Ask) (ms : List Rm) (bv : Value) (W : World) : Prop where
 l : LwB w v rv a W
 m : RmsV W w.heap.size rv ms
 h : W.heap[p]? = some (.cells #[.int .i64 v.num,.int .i64 v.time,bv] 24 (0,0))
 z : w.heap.size + 2 ≤ p
theorem Bor.lt {w : World} {p : Nat} {v : Vr} {rv bv : Value} {a : Qx.Ask} {ms : List Rm} {W : World} (h : Bor w p v rv a ms bv W) : p < W.heap.size:=(zs h.h)
theorem Bor.on {w : World} {p : Nat} {v : Vr} {rv bv : Value} {a : Qx.Ask} {ms : List Rm} {W W' : World} (h : Bor w p v rv a ms bv W) (hb : Below (p + 1) W W') : Bor w p v rv a ms bv W' :=
 ⟨h.l.far (hb.mono (by have:=h.z; omega)),h.m.keepS (fun b hl=>hb.block b (by have:=h.z; omega)),(hb.block p (by omega)).trans h.h,h.z⟩
theorem Bor.set {w : World} {p : Nat} {v : Vr} {rv bv : Value} {a : Qx.Ask} {ms : List Rm} {W : World} (h : Bor w p v rv a ms bv W) (x : Value) : Bor w p v rv a ms x (W.setCell ⟨p,2,none⟩ x):=by
 have hb:=(Below.refl p W).setCell (p:=⟨p,2,none⟩) (zn _) x
 refine ⟨h.l.far (hb.mono h.z),h.m.keepS (fun b hl=>hb.block b (by have:=h.z; omega)),?_,h.z⟩
 have h':=h.h
 simp [World.setCell,Array.getElem?_modify,h']
theorem Bor.c {w : World} {p : Nat} {v : Vr} {rv bv : Value} {a : Qx.Ask} {ms : List Rm} {W : World} (h : Bor w p v rv a ms bv W) : W.cell? ⟨p,2,none⟩ = some bv∧W.frozen? ⟨p,2,none⟩ = false:=by
 have h':=h.h
 exact ⟨by rw [zc h']; rfl,by simp [World.frozen?,h']⟩
theorem Zkz {ms : List Rm} {k j : Nat} (h : k + (j + 1) = ms.length) : ms.reverse.take (k + 1) = ms.reverse.take k ++ [ms[j]'(by omega)]:=by
 have hk : k < ms.reverse.length:=by rw [List.length_reverse]; omega
 rw [List.take_succ_eq_append_getElem hk,List.getElem_reverse]
 congr 3
 omega
theorem Zan {W : World} {p i k : Nat} {x : Value} (h : k ≠ p) : (W.setCell ⟨p,i,none⟩ x).heap[k]? = W.heap[k]?:=by
 unfold World.setCell
 rw [Array.getElem?_modify,if_neg (fun e=>h e.symm)]
theorem Bor.cells {w : World} {p : Nat} {v : Vr} {rv bv : Value} {a : Qx.Ask} {ms : List Rm} {W : World} (h : Bor w p v rv a ms bv W) : W.cell? ⟨p,0,none⟩ = some (.int .i64 v.num)∧W.cell? ⟨p,1,none⟩ = some (.int .i64 v.time)∧W.cell? ⟨p,2,none⟩ = some bv:=by
 have h':=h.h
 exact ⟨by rw [zc h']; rfl,by rw [zc h']; rfl,by rw [zc h']; rfl⟩
theorem Zp4 {w : World} {p : Nat} {v : Vr} {rv bv : Value} {a : Qx.Ask} {ms : List Rm} {W : World} (h : Bor w p v rv a ms bv W) {lo k : Nat} (hk : k = ms.length) (hown : W.ownsRow lo 65 16 bv k (Z1r (ms.reverse.take k))) : RtsV W W.heap.size bv (ms.map (·.r)).reverse:=by
 subst hk
 rw [List.take_of_length_le (by rw [List.length_reverse]; omega)] at hown
 have:=Zgb hown (by rw [List.length_reverse]) (fun m hm=>?_)
 · rwa [List.map_reverse] at this
 · rw [List.mem_reverse] at hm
   obtain ⟨i,hi,rfl⟩:=List.getElem_of_mem hm
   obtain ⟨A,c,rfl,_⟩:=id h.m
   obtain ⟨g,o,_,_,_,f1,f2⟩:=Z9y h.m hi
   have hB:=h.l.b.size
   exact ⟨f1.up hB,f2.up hB⟩
set_option maxHeartbeats 16000000 in
theorem ZkA (v : Vr) (a : Qx.Ask) (s : Int) (V : Value) (w : World) (hV : VrV w w.heap.size V v) (ht : Tabs w.heap.size w) (hM : Mx w w.heap.size) :
 Calls Tryz.prog 7 #[V,askV a,.int .i64 s] w fun e w'=>e = .returned (.bool true)∧Below w.heap.size w w':=by
 obtain ⟨A,c,rfl,hR⟩:=hV
 have hB0:=LwB.new w v (.slice A v.rs.length c) a hR
 have hhd:=fun W (h : LwB w v (.slice A v.rs.length c) a W)=>Z4C W (Z0H ht h.b) (Zee hM h.b)
 have hus:=fun W (h : LwB w v (.slice A v.rs.length c) a W)=>Z54 v a s _ W h.ver
 have hmk:=fun t s o W (h : LwB w v (.slice A v.rs.length c) a W)=>Z3t v a t s o _ W h.ver (Z0H ht h.b)
 unfold vrV
 simp only [askV] at *
 obtain ⟨q0,q1,q2,q3,q4,q5,q6⟩:=hB0.cells
 have HB0:=zh hB0
 have HHD:=zh hhd
 have HUS:=zh hus
 have HMK:=zh hmk
 have HT:=zh ht
 have HM:=zh hM
 have HR:=zh hR
 clear hB0 hhd hus hmk ht hM hR
 go_enter Tryz.func7,Tryz.ntmps7
 go_wp2_with fail
 refine (HHD.out _ HB0.out).mono ?_
 rintro e w2 ⟨rfl,hb2⟩
 have hB2:=HB0.out.on hb2
 obtain ⟨q0,q1,q2,q3,q4,q5,q6⟩:=hB2.cells
 have HB2:=zh hB2
 clear hB2
 clear HB0 hb2 HHD
 go_wp2_with fail
 refine (HUS.out _ HB2.out).mono ?_
 rintro e w3 ⟨⟨b,rfl,hb⟩,hb3⟩
 have hB3:=HB2.out.on hb3
 clear q0 q1 q2 q3 q4 q5 q6
 obtain ⟨q0,q1,q2,q3,q4,q5,q6⟩:=hB3.cells
 have HB3:=zh hB3
 clear hB3
 clear HB2 hb3 HUS
 cases b with
 | false =>
  go_wp2_with fail
  go_ret
  exact ⟨rfl,HB3.out.b⟩
 | true =>
  obtain ⟨h1,h2,h3⟩:=hb rfl
  clear hb
  obtain ⟨hub,htv0,htv1,hnu0,hnu1⟩:=Z3A h1
  have htm : Z0y v.time = true:=by simp [Z0y]; omega
  obtain ⟨ms,hms,hmv⟩:=ZiD HR.out
  have hml : ms.length = v.rs.length:=by rw [← hms,List.length_map]
  obtain ⟨u1,u2,u3⟩:=(Z1m _).1 hub
  have hL4:=HB3.out.on ((Below.refl w3.heap.size w3).alloc (zn _) (.cells #[.int .i64 v.num,.int .i64 v.time,.slice A v.rs.length c] 24))
  have hz3 : w.heap.size + 2 ≤ w3.heap.size:=by have:=(zs HB3.out.ha); omega
  have hX0 : Bor w w3.heap.size v (.slice A v.rs.length c) a ms (.slice A v.rs.length c) (w3.alloc (.cells #[.int .i64 v.num,.int .i64 v.time,.slice A v.rs.length c] 24)) :=
   ⟨hL4,hmv.keepS (fun b hl=>hL4.b.block b hl),za w3 _,hz3⟩
  have hnl : (v.rs.length : Int) ≤ 100:=by omega
  have HX0:=zh hX0
  have HMS:=zh hms
  clear hX0 hms
  clear hL4 hmv u2 u3
  go_upto_region 5 with fail
  generalize w3.alloc (.cells #[.int .i64 v.num,.int .i64 v.time,.slice A v.rs.length c] 24) = w4 at *
  obtain ⟨y0,y1⟩:=HX0.out.c
  go_upto_region 6 with fail
  have hX1:=HX0.out.set (.slice none 0 0)
  clear y0 y1 HX0 q0 q1 q2 q3 q4 q5 q6
  generalize w4.setCell ⟨w3.heap.size,2,none⟩ (.slice none 0 0) = w5 at *
  obtain ⟨q0,q1,q2,q3,q4,q5,q6⟩:=hX1.l.cells
  have HX1:=zh hX1
  clear hX1
  go_wp2_with fail
  go_loopw [9] (fun i wr=>∃ (k m : Nat) (bv : Value),k + m = ms.length∧i = .int .i64 ((m : Int) - 1)∧Bor w w3.heap.size v (.slice A v.rs.length c) a ms bv wr∧wr.ownsRow (w3.heap.size + 1) 65 16 bv k (Z1r (ms.reverse.take k))) (fun i _=>(intOf i + 1).toNat)
  case atStart=>exact ⟨0,ms.length,.slice none 0 0,by omega,by rw [hml],HX1.out,World.ownsRow_nil _ _ _ _⟩
  case round =>
   clear HX1 q0 q1 q2 q3 q4 q5 q6
   obtain ⟨k,m,bv,hkm,rfl,hX,hown⟩:=hrel
   obtain ⟨q0,q1,q2,q3,q4,q5,q6⟩:=hX.l.cells
   by_cases h0 : 0 < m
   · obtain ⟨j,rfl⟩ : ∃ j,m = j + 1:=⟨m - 1,by omega⟩
     have hj : j < ms.length:=by omega
     obtain ⟨g,o,rfl,hg,hc,f1,f2⟩:=Z9y hX.m hj
     have e1 : (((j + 1 : Nat) : Int) - 1) = (j : Int):=by omega
     rw [e1]
     have dl : decide ((j : Int) ≥ 0) = true:=by simp
     have hi0 : (0 : Int) ≤ (j : Int):=by omega
     have hi1 : (j : Int) < (v.rs.length : Int):=by omega
     have htk:=Zkz hkm
     rcases hmj : ms[j] with ⟨r,wv,pv⟩
     rw [hmj] at hc f1 f2 htk
     dsimp only [Rm.cells,Z3m] at hc f1 f2
     have hone : ∀ u ∈ [.int .i64 r.id,.int .i64 r.lv,.int .i64 r.kd,.int .i64 r.fr,.int .i64 r.un,.int .i64 r.ls,.int .i64 r.mo,.int .i64 r.ar,.int .i64 r.kn,.int .i64 r.kq,.int .i64 r.wo,.int .i64 r.wn,wv,.int .i64 r.po,.int .i64 r.pn,pv],u.oneCell' = true:=by
      obtain ⟨_,_,e1,_⟩:=f1
      obtain ⟨_,_,e2,_⟩:=f2
      exact Zc9 ⟨r,wv,pv⟩ (by rw [e1]; rfl) (by rw [e2]; rfl)
     obtain ⟨i0,hI,hZ0,hZ1,hZ2⟩:=info_parts Tryz.infoRate
     have hms2 : ∀ W,Bor w w3.heap.size v (.slice (some ⟨g,o,none⟩) v.rs.length c) a ms bv W → W.cell? ⟨w.heap.size,2,none⟩ = some (.slice (some ⟨g,o,none⟩) v.rs.length c)∧W.cell? ⟨g,o + j * 16,none⟩ = some (.int .i64 r.id)∧W.cell? ⟨g,o + j * 16 + 1,none⟩ = some (.int .i64 r.lv)∧W.cell? ⟨g,o + j * 16 + 2,none⟩ = some (.int .i64 r.kd)∧W.cell? ⟨g,o + j * 16 + 3,none⟩ = some (.int .i64 r.fr)∧W.cell? ⟨g,o + j * 16 + 4,none⟩ = some (.int .i64 r.un)∧W.cell? ⟨g,o + j * 16 + 5,none⟩ = some (.int .i64 r.ls)∧W.cell? ⟨g,o + j * 16 + 6,none⟩ = some (.int .i64 r.mo)∧W.cell? ⟨g,o + j * 16 + 7,none⟩ = some (.int .i64 r.ar)∧W.cell? ⟨g,o + j * 16 + 8,none⟩ = some (.int .i64 r.kn)∧W.cell? ⟨g,o + j * 16 + 9,none⟩ = some (.int .i64 r.kq)∧W.cell? ⟨g,o + j * 16 + 10,none⟩ = some (.int .i64 r.wo)∧W.cell? ⟨g,o + j * 16 + 11,none⟩ = some (.int .i64 r.wn)∧W.cell? ⟨g,o + j * 16 + 12,none⟩ = some wv∧W.cell? ⟨g,o + j * 16 + 13,none⟩ = some (.int .i64 r.po)∧W.cell? ⟨g,o + j * 16 + 14,none⟩ = some (.int .i64 r.pn)∧W.cell? ⟨g,o + j * 16 + 15,none⟩ = some pv:=fun W h=>by
      obtain ⟨g',o',e,_,hc',_,_⟩:=Z9y h.m hj
      injection e with e
      injection e with e1 e2
      subst e1 e2
      rw [hmj] at hc'
      obtain ⟨_,_,z2,_⟩:=h.l.cells
      exact ⟨z2,hc' 0 _ rfl,hc' 1 _ rfl,hc' 2 _ rfl,hc' 3 _ rfl,hc' 4 _ rfl,hc' 5 _ rfl,hc' 6 _ rfl,hc' 7 _ rfl,hc' 8 _ rfl,hc' 9 _ rfl,hc' 10 _ rfl,hc' 11 _ rfl,hc' 12 _ rfl,hc' 13 _ rfl,hc' 14 _ rfl,hc' 15 _ rfl⟩
     have hlw:=hX.lt
     have hXD:=hX.on (Below.refl _ _).drew
     have hXA : ∀ o',Bor w w3.heap.size v (.slice (some ⟨g,o,none⟩) v.rs.length c) a ms bv (wr.alloc o').drew:=fun o'=>hX.on (((Below.refl _ wr).alloc hlw o').drew)
     have y0:=hX.c.1
     have yne : w3.heap.size ≠ wr.heap.size:=by omega
     have yne2:=hX.on (Below.refl _ _)
     have y0A : ∀ o',(wr.alloc o').drew.cell? ⟨w3.heap.size,2,none⟩ = some bv:=fun o'=>(hXA o').c.1
     clear yne2
     have hownA : ∀ o',(wr.alloc o').drew.ownsRow (w3.heap.size + 1) 65 16 bv k (Z1r (ms.reverse.take k)):=fun o'=>Z3g hown (fun x _ h=>Below.heap_alloc wr o' _ h)
     have hob : ∀ x,bv.ownBlock = some x → w3.heap.size + 1 ≤ x:=fun x e=>(hown.lt x e).1
     have HX:=zh hX
     have HMS2:=zh hms2
     have HXD:=zh hXD
     have HXA:=zh hXA
     have HOWNA:=zh hownA
     have HOB:=zh hob
     have HTK:=zh htk
     have HONE:=zh hone
     have HI:=zh hI
     have HZ0:=zh hZ0
     have HZ1:=zh hZ1
     have HZ2:=zh hZ2
     clear hX hms2 hXD hXA hownA hob htk hone hI hZ0 hZ1 hZ2
     clear hown hc hmj e1 f1 f2
     go_upto_region 9 with fail
     obtain ⟨z0,z1,z2,z3,z4,z5,z6,z7,z8,z9,z10,z11,z12,z13,z14,z15,z16⟩:=HMS2.out _ HX.out
     have hne1 : w.heap.size ≠ wr.heap.size:=by omega
     have hne2 : g ≠ wr.heap.size:=by omega
     go_region_law
      ((refine step_append_lies _ (by rfl) (.tmp 32) (.tmp 38) 22 (by rfl) (w3.heap.size + 1) 65 i0 _ 16 160 Tryz.underlying22 HI.out HZ0.out HZ1.out HZ2.out (by rfl) (by decide) bv k (Z1r (ms.reverse.take k)) (by rfl) (HOWNA.out _) ⟨wr.heap.size,0,none⟩ 1 1 [.int .i64 r.id,.int .i64 r.lv,.int .i64 r.kd,.int .i64 r.fr,.int .i64 r.un,.int .i64 r.ls,.int .i64 r.mo,.int .i64 r.ar,.int .i64 r.kn,.int .i64 r.kq,.int .i64 r.wo,.int .i64 r.wn,wv,.int .i64 r.po,.int .i64 r.pn,pv] (by rfl) (by rfl) (World.news_of_block (za wr _)) HONE.out (by omega) (by unfold maxLen; omega) (by omega) (by simp; omega) (wr.heap.size + 1) (by simp) ?_; intro g2 cap w6 hown6 hgrow6 hg6 hlt6; have hX6:=(HXA.out _).on ((Below.refl (w3.heap.size + 1) _).grown hgrow6 (by simp; omega) (fun x e=>HOB.out x e)); have y2:=hX6.c.1; have y3:=hX6.c.2))
     all_goals
      have hX7:=hX6.set (.slice (some ⟨g2,0,none⟩) (k + 1) cap)
      have hown7 : (w6.setCell ⟨w3.heap.size,2,none⟩ (.slice (some ⟨g2,0,none⟩) (k + 1) cap)).ownsRow (w3.heap.size + 1) 65 16 (.slice (some ⟨g2,0,none⟩) (k + 1) cap) (k + 1) (Z1r (ms.reverse.take (k + 1))):=by
       rw [HTK.out,Z77]
       exact Z3g hown6 (fun x h _=>Zan (by omega))
      have HX7:=zh hX7
      have HOWN7:=zh hown7
      clear hX7 hown7
      clear hX6 hown6 hgrow6 hg6 hlt6 y2 y3
      generalize w6.setCell ⟨w3.heap.size,2,none⟩ (.slice (some ⟨g2,0,none⟩) (k + 1) cap) = w7 at *
      go_wp2_with fail
      go_roundw
      case rel =>
       first
        | exact ⟨k + 1,j,_,by omega,by go_num,HX7.out,HOWN7.out⟩
        | exact ⟨_,_,_,_,_,_,_,_,_,_,_,_,_,_,_,_,_,_,_,_,_,_,_,⟨k + 1,j,_,by omega,by go_num,HX7.out,HOWN7.out⟩,rfl⟩
      case measure=>simp [intOf]
   · have hm0 : m = 0:=by omega
     subst hm0
     have hkn : k = ms.length:=by omega
     have hRV:=Zp4 hX hkn hown
     rw [HMS.out] at hRV
     obtain ⟨AV,cV,hbv,_⟩:=id hRV
     rw [List.length_reverse] at hbv
     subst hbv
     have e1 : (((0 : Nat) : Int) - 1) = -1:=by omega
     rw [e1]
     have dl : decide ((-1 : Int) ≥ 0) = false:=by decide
     obtain ⟨Q1,Q2,er1,er2,hm1,hm2,hcase⟩:=Zig (o:=7) h1 h2 htm h3 (by decide) (Int.le_refl _)
     have hmk2 : ∀ W,Below wr.heap.size wr W → Calls Tryz.prog 16 #[.agg #[.int .i64 v.num,.int .i64 v.time,.slice AV v.rs.length cV],.agg #[.int .i64 a.kind,.int .i64 a.fr,.int .i64 a.un,.int .i64 a.pers],.int .i64 v.time,.int .i64 s,.int .i64 7] W (MkP (Z1v v.rev a v.time s 7) W):=fun W hb =>
      Z3t v.rev a v.time s 7 _ W ⟨AV,cV,by simp [vrV,Vr.rev],by have:=(hRV.on hb).up hb.size; simpa [Vr.rev] using this⟩ (Z0H HT.out (Z00 hX.l.b hb))
     have HX:=zh hX
     have HM1:=zh hm1
     have HM2:=zh hm2
     have HCASE:=zh hcase
     have HMK2:=zh hmk2
     clear hX hm1 hm2 hcase hmk2
     clear hown hRV e1 hkn
     go_wp2_with fail
     have hm:=HMK.out v.time s 7 wr HX.out.l
     rw [HM1.out] at hm
     refine hm.mono ?_
     rintro e w4' ⟨QV,rfl,hq,hb4⟩
     obtain ⟨A4,c4,rfl,hI4⟩:=Z1i hq
     have hone4:=Z0s Q1 A4 Q1.nights.length c4
     have hal:=(Below.refl w4'.heap.size w4').alloc (zn _) (.cells (qtC Q1 (.slice A4 Q1.nights.length c4)) 32)
     have hbb:=hb4.trans (hal.mono hb4.size)
     have hplt:=HX.out.lt
     have hX8:=HX.out.on (hbb.mono hplt)
     have hY:=QbK.new (q:=Q1) hI4
     clear q0 q1 q2 q3 q4 q5 q6
     obtain ⟨q0,q1,q2,q3,q4,q5,q6⟩:=hX8.l.cells
     obtain ⟨y0,y1,y2⟩:=hX8.cells
     have HX8:=zh hX8
     have Q1B:=zh hY
     have HBB:=zh hbb
     clear hX8 hY hbb
     clear hb4 hal hm hq hI4
     dsimp only
     go_upto_region 11 with (refine Z06 rfl _ _ rfl _ _ rfl rfl rfl (Z0F _ _) hone4 ?_)
     generalize w4'.alloc (.cells (qtC Q1 (.slice A4 Q1.nights.length c4)) 32) = w8 at *
     go_wp2_with fail
     have hm:=HMK2.out w8 HBB.out
     rw [HM2.out] at hm
     refine hm.mono ?_
     rintro e w9 ⟨QV,rfl,hq,hb9⟩
     obtain ⟨A6,c6,rfl,hI6⟩:=Z1i hq
     have hone6:=Z0s Q2 A6 Q2.nights.length c6
     have hal:=(Below.refl w9.heap.size w9).alloc (zn _) (.cells (qtC Q2 (.slice A6 Q2.nights.length c6)) 32)
     have hL10:=(HX8.out.l.on hb9).on hal
     have hP10:=(Q1B.out.on hb9).on hal
     have hlt10 : w4'.heap.size < w9.heap.size:=Nat.lt_of_lt_of_le Q1B.out.lt hb9.size
     have hfr : w.heap.size + 2 ≤ w9.heap.size:=by have:=(Array.getElem?_eq_some_iff.1 (HX8.out.l.on hb9).ha).1; omega
     have hY:=QbK.new (q:=Q2) hI6
     clear q0 q1 q2 q3 q4 q5 q6 y0 y1 y2
     have HL10:=zh hL10
     have HP10:=zh hP10
     have Q2B:=zh hY
     clear hL10 hP10 hY
     clear hb9 hal hm hq hI6 HX8 Q1B HX
     dsimp only
     go_upto_region 12 with (refine Z06 rfl _ _ rfl _ _ rfl rfl rfl (Z0F _ _) hone6 ?_)
     generalize w9.alloc (.cells (qtC Q2 (.slice A6 Q2.nights.length c6)) 32) = w10 at *
     rcases HCASE.out with ⟨rfl,rfl,hsm,hln⟩ | ⟨x1,x2⟩
     · clear HCASE
       have f9:=Q2B.out.f 9
       have p9 : w10.cell? ⟨w4'.heap.size,9,none⟩ = some (.int .u64 (Q1.dig : Nat)):=HP10.out.c 9 _ rfl
       have m9 : w10.cell? ⟨w9.heap.size,9,none⟩ = some (.int .u64 (Q2.dig : Nat)):=Q2B.out.c 9 _ rfl
       have HSM:=zh hsm
       clear hsm
       go_upto_region 15 with fail
       have hQ8:=Q2B.out.set9 Q1.dig
       have hP8:=HP10.out.far ((Below.refl w9.heap.size w10).setCell (p:=⟨w9.heap.size,9,none⟩) (zn _) (.int .u64 (Q1.dig : Nat))) hlt10
       have hB8:=HL10.out.far ((Below.refl (w.heap.size + 2) w10).setCell (p:=⟨w9.heap.size,9,none⟩) hfr (.int .u64 (Q1.dig : Nat)))
       generalize w10.setCell ⟨w9.heap.size,9,none⟩ (.int .u64 (Q1.dig : Nat)) = w11 at *
       clear p9 m9 f9
       obtain ⟨p0,p1,p2,p3,p4,p5,p6,p7,p8,p9,p10,p11⟩:=hP8.all
       obtain ⟨m0,m1,m2,m3,m4,m5,m6,m7,m8,m9,m10,m11⟩:=hQ8.all
       have hrs:=Z6f Q1 { Q2 with dig:=Q1.dig } (qtA Q1 (.slice A4 Q1.nights.length c4)) (qtA { Q2 with dig:=Q1.dig } (.slice A6 Q2.nights.length c6)) w11 hP8.v hQ8.v (by omega)
       rw [HSM.out] at hrs
       unfold qtA at hrs
       dsimp only at m0 m1 m2 m3 m4 m5 m6 m7 m8 m9 m10 m11 hrs
       have HRS:=zh hrs
       have HB8:=zh hB8
       clear hrs hB8
       clear hP8 hQ8 HL10 HP10 Q2B
       go_wp2_with fail
       refine HRS.out.mono ?_
       rintro e w12 ⟨rfl,hb12⟩
       have hB9:=HB8.out.on hb12
       have HB9:=zh hB9
       clear hB9
       go_wp2_with fail
       go_ret
       exact ⟨rfl,HB9.out.b⟩
     · clear HCASE
       have d1 : (er1 != 0) = true:=by simpa using x1
       have d2 : (er2 != 0) = true:=by simpa using x2
       go_wp2_with fail
       go_ret
       exact ⟨rfl,HL10.out.b⟩
end Go.Proofs.YtnepkoepbapgeaaGreatDoor
