/-
  Walks: the function value of package rate: the value of an expression, or an error.
-/
import Derived.Test.YtnepkoepbapgeaaGreatDoorQuoVal
import Derived.Test.YtnepkoepbapgeaaGreatDoorQuoR10a
namespace Go.Proofs.YtnepkoepbapgeaaGreatDoor
set_option maxHeartbeats 8000000
set_option maxRecDepth 100000
open Go.RowKit Lx Px Qx
theorem Ziy (op n:Int)(l:Fo)(ih:∀ k,k<flen l→ValC (getF l k).1 (getF l k).2):ValC (op,n) l:=by
 by_cases h1:op=1
 · exact Zix op n l (.inl h1)
 · by_cases h2:op=2
   · exact Zix op n l (.inr h2)
   · by_cases h3:op=3
     · subst h3;exact Zph n l
     · exact val_op op n l ih h1 h2 h3
theorem Zpi (f:Fo):∀ k,k<flen f→ValC (getF f k).1 (getF f k).2:=by
 induction f with
 | nil=>intro k h;simp [flen] at h
 | node b o a l r ihl ihr =>
  intro k h
  cases k with
  | zero=>exact Ziy a.1 a.2 l ihl
  | succ k=>exact ihr k (by simp [flen] at h;omega)
theorem Zpj (op n:Int)(l:Fo):ValC (op,n) l:=Ziy op n l (Zpi l)
def RvB (w:World)(x y e:Int)(wx:World):Prop :=
 wx.heap[w.heap.size+2]?=some (.cells #[.int .i64 x,.int .i64 y] 60 (0,0))∧wx.heap[w.heap.size+3]?=some (.cells #[.int .i64 e] 35 (0,0))∧Below w.heap.size w wx
theorem RvB.on {w wx wy:World}{x y e:Int}(h:RvB w x y e wx)(hb:Below wx.heap.size wx wy):RvB w x y e wy :=
 ⟨(hb.block _ (zs h.1)).trans h.1,(hb.block _ (zs h.2.1)).trans h.2.1,Z00 h.2.2 hb⟩
theorem ZkC {w:World}{b:Nat}{x y:Value}{ty:TypeId}(h:w.heap[b]?=some (.cells #[x,y] ty (0,0)))(u v:Value):((w.setCell ⟨b,0,none⟩ u).setCell ⟨b,1,none⟩ v).heap[b]?=some (.cells #[u,v] ty (0,0)):=by
 simp [World.setCell,Array.getElem?_modify,h]
theorem RvB.setR {w wx:World}{x y e:Int}(h:RvB w x y e wx)(x' y':Int):RvB w x' y' e ((wx.setCell ⟨w.heap.size+2,0,none⟩ (.int .i64 x')).setCell ⟨w.heap.size+2,1,none⟩ (.int .i64 y')):=by
 refine ⟨ZkC h.1 _ _,?_,?_⟩
 · rw [Below.heap_setCell _ _ _ _ (by show w.heap.size+3≠w.heap.size+2;omega),Below.heap_setCell _ _ _ _ (by show w.heap.size+3≠w.heap.size+2;omega)]
   exact h.2.1
 · exact (h.2.2.setCell (p:=⟨w.heap.size+2,0,none⟩) (by show w.heap.size≤w.heap.size+2;omega) _).setCell (p:=⟨w.heap.size+2,1,none⟩) (by show w.heap.size≤w.heap.size+2;omega) _
theorem RvB.setE {w wx:World}{x y e:Int}(h:RvB w x y e wx)(e':Int):RvB w x y e' (wx.setCell ⟨w.heap.size+3,0,none⟩ (.int .i64 e')):=by
 refine ⟨?_,Z5E h.2.1 _,h.2.2.setCell (p:=⟨w.heap.size+3,0,none⟩) (by show w.heap.size≤w.heap.size+3;omega) _⟩
 rw [Below.heap_setCell _ _ _ _ (by show w.heap.size+2≠w.heap.size+3;omega)]
 exact h.1
theorem RvB.facts {w W:World}{x y e:Int}(h:RvB w x y e W):W.cell? ⟨w.heap.size+2,0,none⟩=some (.int .i64 x)∧W.cell? ⟨w.heap.size+2,1,none⟩=some (.int .i64 y)∧W.cell? ⟨w.heap.size+3,0,none⟩=some (.int .i64 e)∧W.frozen? ⟨w.heap.size+2,0,none⟩=false∧W.frozen? ⟨w.heap.size+2,1,none⟩=false∧W.frozen? ⟨w.heap.size+3,0,none⟩=false:=by
 obtain ⟨k1,k2,_⟩:=h
 refine ⟨by rw [zc k1];rfl,by rw [zc k1];rfl,by rw [zc k2];rfl,by simp [World.frozen?,k1],by simp [World.frozen?,k1],by simp [World.frozen?,k2]⟩
theorem Z0f (w wx:World)(x y e k:Int)(h:RvB w x y e wx) :
 CallsD Tryz.prog 147 #[.pointer (some ⟨w.heap.size+1+1,0,none⟩),.pointer (some ⟨w.heap.size+1+1+1,0,none⟩)] (.panicking [Zf3 k]) wx fun en u' w' =>
  en=.returned (.tuple #[])∧u'=.panicking [{ Zf3 k with recovered:=true }]∧RvB w 0 0 k w':=by
 refine callsD_of_wpS Tryz.func147 rfl fun c₀ cs hu=>?_
 unfold Zf3 at hu ⊢
 apply wpS_seq
 apply wpS_region
 simp [wpOpsS,go_sem,recoverD,hu,Tryz.ntmps147,Exit.thenS]
 refine Z4v (fun a' w'=>a'.defers=[]∧RvB w 0 0 k w') ?_ ?_
 · have htm:∀ V:Value,(#[Value.pointer (some ⟨w.heap.size+1+1,0,none⟩),Value.pointer (some ⟨w.heap.size+1+1+1,0,none⟩)]++(Array.replicate 12 undef).setIfInBounds 3 V)=#[Value.pointer (some ⟨w.heap.size+1+1,0,none⟩),Value.pointer (some ⟨w.heap.size+1+1+1,0,none⟩),undef,undef,undef,V,undef,undef,undef,undef,undef,undef,undef,undef]:=fun _=>by kernel_rfl
   rw [htm]
   have hta:∀ w:World,(Instr.typeAssert (.iface 202 (.agg #[.int .i64 k])) 20 202 true).run Tryz.prog w=.ok (.tuple #[.agg #[.int .i64 k],.bool true]) w:=fun _=>by kernel_rfl
   have ha:=(Below.refl wx.heap.size wx).alloc (zn _) (.cells #[.int .i64 k] 202)
   have h2:=h.on ha
   have hn:=za wx (.cells #[.int .i64 k] 202)
   have hbf:w.heap.size+3<wx.heap.size:=(zs h.2.1)
   have H2:=zh h2;have HN:=zh hn;clear h2 hn hu htm h ha;go_upto_region 7 with fail
   clear hta;obtain ⟨f1,f2,f3,f4,f5,f6⟩:=H2.out.facts
   have n0:=Z0m HN.out
   generalize wx.alloc (.cells #[.int .i64 k] 202)=W at *
   generalize wx.heap.size=bf at *
   have hS1:=(H2.out.setR 0 0).setE k
   have hS2:=(H2.out.setE k).setR 0 0
   have HS1:=zh hS1;have HS2:=zh hS2;clear hS1 hS2 H2 HN;go_region
   all_goals
    go_wp2_with fail;first | exact HS1.out | exact HS2.out | exact HS1.out.on (Below.refl _ _).drew | exact HS2.out.on (Below.refl _ _).drew
 · rintro a' w' ⟨hd,hS⟩
   cases c₀
   simp_all [bodyPostS,results,Tryz.results147]
theorem Z0F (p q:Addr)(w:World) :
 CallsD Tryz.prog 147 #[.pointer (some p),.pointer (some q)] .returning w fun e u' w'=>e=.returned (.tuple #[])∧u'=.returning∧w'=w:=by
 refine callsD_of_wpS Tryz.func147 rfl fun c₀ cs hu=>?_
 apply wpS_seq
 apply wpS_region
 simp [wpOpsS,go_sem,recoverD,hu,Tryz.ntmps147,Exit.thenS]
 refine Z4v (fun a' w'=>a'.defers=[]∧w'=w) ?_ ?_
 · have htm:∀ V:Value,(#[Value.pointer (some p),Value.pointer (some q)]++(Array.replicate 12 undef).setIfInBounds 3 V)=#[Value.pointer (some p),Value.pointer (some q),undef,undef,undef,V,undef,undef,undef,undef,undef,undef,undef,undef]:=fun _=>by kernel_rfl
   rw [htm]
   clear htm hu;go_wp2_with fail
 · rintro a' w' ⟨hd,rfl⟩
   cases c₀
   simp_all [bodyPostS,results,Tryz.results147]
structure RvL (w:World) (op n:Int) (kv:Value) (vs:Vs) (wx:World):Prop where
 x:wx.heap[w.heap.size]?=some (.cells #[.int .i64 op,.int .i64 n,kv] 63 (0,0))
 v:wx.heap[w.heap.size+1]?=some (.cells #[.int .i64 vs.a,.int .i64 vs.b,.int .i64 vs.c,.int .i64 vs.d] 148 (0,0))
 b:Below w.heap.size w wx
theorem RvL.on {w wx wy:World}{op n:Int}{kv:Value}{vs:Vs}(h:RvL w op n kv vs wx)(hb:Below wx.heap.size wx wy):RvL w op n kv vs wy :=
 ⟨(hb.block _ (zs h.x)).trans h.x,(hb.block _ (zs h.v)).trans h.v,Z00 h.b hb⟩
theorem RvL.set {w wx:World}{op n:Int}{kv:Value}{vs:Vs}(h:RvL w op n kv vs wx)(p:Addr)(hp:w.heap.size+2≤p.block)(u:Value):RvL w op n kv vs (wx.setCell p u) :=
 ⟨(Below.heap_setCell _ _ _ _ (by omega)).trans h.x,(Below.heap_setCell _ _ _ _ (by omega)).trans h.v,h.b.setCell (by omega) _⟩
theorem RvL.drew {w wx:World}{op n:Int}{kv:Value}{vs:Vs}(h:RvL w op n kv vs wx):RvL w op n kv vs wx.drew:=h.on (Below.refl _ _).drew
theorem rv_new (w:World)(op n:Int)(kv:Value)(vs:Vs) :
 RvL w op n kv vs ((((w.alloc (.cells #[.int .i64 op,.int .i64 n,kv] 63)).alloc (.cells #[.int .i64 vs.a,.int .i64 vs.b,.int .i64 vs.c,.int .i64 vs.d] 148)).alloc (.cells #[.int .i64 0,.int .i64 0] 60)).alloc (.cells #[.int .i64 0] 35)) ∧
 RvB w 0 0 0 ((((w.alloc (.cells #[.int .i64 op,.int .i64 n,kv] 63)).alloc (.cells #[.int .i64 vs.a,.int .i64 vs.b,.int .i64 vs.c,.int .i64 vs.d] 148)).alloc (.cells #[.int .i64 0,.int .i64 0] 60)).alloc (.cells #[.int .i64 0] 35)):=by
 have hB:Below w.heap.size w ((((w.alloc (.cells #[.int .i64 op,.int .i64 n,kv] 63)).alloc (.cells #[.int .i64 vs.a,.int .i64 vs.b,.int .i64 vs.c,.int .i64 vs.d] 148)).alloc (.cells #[.int .i64 0,.int .i64 0] 60)).alloc (.cells #[.int .i64 0] 35)) :=
  ((((Below.refl _ _).alloc (zn _) _).alloc (by simp) _).alloc (by simp;omega) _).alloc (by simp;omega) _
 refine ⟨⟨?_,?_,hB⟩,?_,?_,hB⟩
 · rw [Below.heap_alloc _ _ _ (by simp;omega),Below.heap_alloc _ _ _ (by simp;omega),Below.heap_alloc _ _ _ (by simp)]
   exact za w _
 · rw [Below.heap_alloc _ _ _ (by simp),Below.heap_alloc _ _ _ (by simp)]
   have:=za (w.alloc (.cells #[.int .i64 op,.int .i64 n,kv] 63)) (.cells #[.int .i64 vs.a,.int .i64 vs.b,.int .i64 vs.c,.int .i64 vs.d] 148)
   simpa using this
 · rw [Below.heap_alloc _ _ _ (by simp)]
   have:=za ((w.alloc (.cells #[.int .i64 op,.int .i64 n,kv] 63)).alloc (.cells #[.int .i64 vs.a,.int .i64 vs.b,.int .i64 vs.c,.int .i64 vs.d] 148)) (.cells #[.int .i64 0,.int .i64 0] 60)
   simpa using this
 · have:=za (((w.alloc (.cells #[.int .i64 op,.int .i64 n,kv] 63)).alloc (.cells #[.int .i64 vs.a,.int .i64 vs.b,.int .i64 vs.c,.int .i64 vs.d] 148)).alloc (.cells #[.int .i64 0,.int .i64 0] 60)) (.cells #[.int .i64 0] 35)
   simpa using this
theorem Z98 (op n:Int)(l:Fo)(v:Value)(vs:Vs)(w:World)(hv:FoV w w.heap.size v l)(hf:Z05 op n (flen l)=true)(hw:wfF l)(hvs:∀ i,0≤vs.at i∧vs.at i≤1000) :
 Calls Tryz.prog 107 #[.agg #[.int .i64 op,.int .i64 n,v],vsV vs] w (RetV (valE vs (op,n) l) w):=by
 obtain ⟨A,c,rfl,hA⟩:=hv
 have hmf:∀ (fn:Fn) (first cap:Array Value) (w:World),(Instr.makeFunc fn first cap).run Tryz.prog w=.ok (.func fn first cap) w:=fun _ _ _ _=>rfl
 obtain ⟨hL0,hB0⟩:=rv_new w op n (.slice A (flen l) c) vs
 have hval:=fun W v B r h1 h2 h3=>Zpj op n l W v B r vs h1 h2 h3 hf hw hvs
 have hkeep:∀ W,Below w.heap.size w W→FoV W w.heap.size (.slice A (flen l) c) l:=fun W hb=>⟨A,c,rfl,FoAt.keep (fun p hp=>hb.cell hp) l A 0 hA⟩
 generalize hVV:valE vs (op,n) l=V at *
 have L0:=zh hL0;have B0:=zh hB0;have HVAL:=zh hval;have HKP:=zh hkeep;clear hL0 hB0 hval hkeep hA hf hw hvs hVV;dsimp only [vsV]
 go_enter_defers Tryz.func107,Tryz.ntmps107
 go_upto_region 2 with fail
 clear hmf;generalize (((w.alloc (.cells #[.int .i64 op,.int .i64 n,.slice A (flen l) c] 63)).alloc (.cells #[.int .i64 vs.a,.int .i64 vs.b,.int .i64 vs.c,.int .i64 vs.d] 148)).alloc (.cells #[.int .i64 0,.int .i64 0] 60)).alloc (.cells #[.int .i64 0] 35)=W at *
 have HMS:Hid (∀ wx,RvL w op n (.slice A (flen l) c) vs wx→wx.cell? ⟨w.heap.size,0,none⟩=some (.int .i64 op)∧wx.cell? ⟨w.heap.size,1,none⟩=some (.int .i64 n)∧wx.cell? ⟨w.heap.size,2,none⟩=some (.slice A (flen l) c) ∧
  wx.cell? ⟨w.heap.size+1,0,none⟩=some (.int .i64 vs.a)∧wx.cell? ⟨w.heap.size+1,1,none⟩=some (.int .i64 vs.b)∧wx.cell? ⟨w.heap.size+1,2,none⟩=some (.int .i64 vs.c)∧wx.cell? ⟨w.heap.size+1,3,none⟩=some (.int .i64 vs.d)∧RvL w op n (.slice A (flen l) c) vs wx):=fun wx h=>by
  refine ⟨?_,?_,?_,?_,?_,?_,?_,h⟩ <;> first | (rw [zc h.x];rfl) | (rw [zc h.v];rfl)
 refine wp_region_any (by kernel_rfl) ?_
 try (change wpAny _ _ _ _ _ _ _ (World.drew _))
 have L3:=L0.out.drew
 have R3:=zh (B0.out.on (Below.refl _ _).drew)
 obtain ⟨x0,x1,x2,v0,v1,v2,v3,_⟩:=HMS.out _ L3
 clear L0 B0;generalize W.drew=w3 at *
 refine wpAny_ready (rs:=[0,1,3]) (by kernel_rfl) (by simp) ?_
 refine AllReady.cons rfl (fun K hK=>?_) ?_
 · go_simp
   refine hK _ _ ?_
   clear hK K;refine wpAny_ready (rs:=[1,3]) (by kernel_rfl) (by simp) ?_
   refine AllReady.cons rfl (fun K hK=>?_) ?_
   · go_simp
     refine (Z5u _).mono ?_
     rintro e w4 ⟨r,rfl,hO,hr,hb4⟩;have L4:=L3.on hb4
     have R4:=zh (R3.out.on hb4)
     have HO:=zh hO;obtain ⟨x0,x1,x2,v0,v1,v2,v3,_⟩:=HMS.out _ L4
     clear hO hb4 hr;refine hK _ _ ?_
     clear hK K;refine wpAny_ready (rs:=[2,3]) (by kernel_rfl) (by simp) ?_
     refine AllReady.cons rfl (fun K hK=>?_) ?_
     · go_simp
       refine hK _ _ ?_
       clear hK K;refine wpAny_ready (rs:=[3]) (by kernel_rfl) (by simp) ?_
       refine AllReady.cons rfl (fun K hK=>?_) AllReady.nil
       go_simp
       refine hK _ _ ?_
       clear hK K;refine wpAny_ready (rs:=[4]) (by kernel_rfl) (by simp) ?_
       refine AllReady.cons rfl (fun K hK=>?_) AllReady.nil
       go_simp
       refine (HVAL.out w4 (.slice A (flen l) c) w.heap.size r (HKP.out _ L4.b) L4.b.size HO.out).mono ?_
       intro e w5 hh
       obtain ⟨hb5,⟨x1,y1,hx,rfl⟩ | ⟨k,hx,rfl⟩⟩:=hh.parts
       · have HX:=zh hx
         have R5:=R4.out.on hb5
         have hS1:=(R5.setR x1 y1).setE 0
         obtain ⟨f1,f2,f3,f4,f5,f6⟩:=R5.facts
         have HS1:=zh hS1;clear hS1 R5 hx hb5 hh;refine hK _ _ ?_
         clear hK K;refine wpAny_ready (rs:=[5]) (by kernel_rfl) (by simp) ?_
         refine AllReady.cons rfl (fun K hK=>?_) AllReady.nil
         go_simp
         refine hK _ _ ?_
         clear hK K;refine wpAny_ready (rs:=[6]) (by kernel_rfl) (by simp) ?_
         refine AllReady.cons rfl (fun K hK=>?_) AllReady.nil
         go_simp
         refine hK _ _ ?_
         clear hK K;refine wpAny_done (by kernel_rfl) ?_ _
         go_wp2_with fail;refine leaves_cons (f:=147) (args:=#[.pointer (some ⟨w.heap.size+1+1,0,none⟩),.pointer (some ⟨w.heap.size+1+1+1,0,none⟩)]) (by simp) (by simp [go_sem]) ?_
         refine (Z0F _ _ _).mono ?_
         rintro en u' w6 ⟨rfl,rfl,rfl⟩
         obtain ⟨q1,q2,q3,_⟩:=HS1.out.facts
         refine ⟨.tuple #[.agg #[.int .i64 x1,.int .i64 y1],.int .i64 0],by simp [results,Tryz.results107,go_sem,q1,q2,q3],?_⟩
         rw [HX.out]
         exact ⟨rfl,HS1.out.2.2⟩
       · have R5:=R4.out.on hb5
         have HX:=zh hx;clear hx;refine leaves_cons (f:=147) (args:=#[.pointer (some ⟨w.heap.size+1+1,0,none⟩),.pointer (some ⟨w.heap.size+1+1+1,0,none⟩)]) (by simp) (by simp [go_sem]) ?_
         refine (Z0f w w5 0 0 0 k R5).mono ?_
         rintro en u' w6 ⟨rfl,rfl,hR6⟩
         obtain ⟨q1,q2,q3,_⟩:=hR6.facts
         refine ⟨.tuple #[.agg #[.int .i64 0,.int .i64 0],.int .i64 k],by simp [results,Tryz.results107,go_sem,q1,q2,q3],?_⟩
         rw [HX.out]
         exact ⟨rfl,hR6.2.2⟩
     refine AllReady.cons rfl (fun K hK=>?_) AllReady.nil
     go_simp
     refine hK _ _ ?_
     clear hK K;refine wpAny_ready (rs:=[2]) (by kernel_rfl) (by simp) ?_
     refine AllReady.cons rfl (fun K hK=>?_) AllReady.nil
     go_simp
     refine hK _ _ ?_
     clear hK K;refine wpAny_ready (rs:=[4]) (by kernel_rfl) (by simp) ?_
     refine AllReady.cons rfl (fun K hK=>?_) AllReady.nil
     go_simp
     refine (HVAL.out w4 (.slice A (flen l) c) w.heap.size r (HKP.out _ L4.b) L4.b.size HO.out).mono ?_
     intro e w5 hh
     obtain ⟨hb5,⟨x1,y1,hx,rfl⟩ | ⟨k,hx,rfl⟩⟩:=hh.parts
     · have HX:=zh hx
       have R5:=R4.out.on hb5
       have hS1:=(R5.setR x1 y1).setE 0
       obtain ⟨f1,f2,f3,f4,f5,f6⟩:=R5.facts
       have HS1:=zh hS1;clear hS1 R5 hx hb5 hh;refine hK _ _ ?_
       clear hK K;refine wpAny_ready (rs:=[5]) (by kernel_rfl) (by simp) ?_
       refine AllReady.cons rfl (fun K hK=>?_) AllReady.nil
       go_simp
       refine hK _ _ ?_
       clear hK K;refine wpAny_ready (rs:=[6]) (by kernel_rfl) (by simp) ?_
       refine AllReady.cons rfl (fun K hK=>?_) AllReady.nil
       go_simp
       refine hK _ _ ?_
       clear hK K;refine wpAny_done (by kernel_rfl) ?_ _
       go_wp2_with fail;refine leaves_cons (f:=147) (args:=#[.pointer (some ⟨w.heap.size+1+1,0,none⟩),.pointer (some ⟨w.heap.size+1+1+1,0,none⟩)]) (by simp) (by simp [go_sem]) ?_
       refine (Z0F _ _ _).mono ?_
       rintro en u' w6 ⟨rfl,rfl,rfl⟩
       obtain ⟨q1,q2,q3,_⟩:=HS1.out.facts
       refine ⟨.tuple #[.agg #[.int .i64 x1,.int .i64 y1],.int .i64 0],by simp [results,Tryz.results107,go_sem,q1,q2,q3],?_⟩
       rw [HX.out]
       exact ⟨rfl,HS1.out.2.2⟩
     · have R5:=R4.out.on hb5
       have HX:=zh hx;clear hx;refine leaves_cons (f:=147) (args:=#[.pointer (some ⟨w.heap.size+1+1,0,none⟩),.pointer (some ⟨w.heap.size+1+1+1,0,none⟩)]) (by simp) (by simp [go_sem]) ?_
       refine (Z0f w w5 0 0 0 k R5).mono ?_
       rintro en u' w6 ⟨rfl,rfl,hR6⟩
       obtain ⟨q1,q2,q3,_⟩:=hR6.facts
       refine ⟨.tuple #[.agg #[.int .i64 0,.int .i64 0],.int .i64 k],by simp [results,Tryz.results107,go_sem,q1,q2,q3],?_⟩
       rw [HX.out]
       exact ⟨rfl,hR6.2.2⟩
   refine AllReady.cons rfl (fun K hK=>?_) AllReady.nil
   go_simp
   refine hK _ _ ?_
   clear hK K;refine wpAny_ready (rs:=[1]) (by kernel_rfl) (by simp) ?_
   refine AllReady.cons rfl (fun K hK=>?_) AllReady.nil
   go_simp
   refine (Z5u _).mono ?_
   rintro e w4 ⟨r,rfl,hO,hr,hb4⟩;have L4:=L3.on hb4
   have R4:=zh (R3.out.on hb4)
   have HO:=zh hO;obtain ⟨x0,x1,x2,v0,v1,v2,v3,_⟩:=HMS.out _ L4
   clear hO hb4 hr;refine hK _ _ ?_
   clear hK K;refine wpAny_ready (rs:=[2]) (by kernel_rfl) (by simp) ?_
   refine AllReady.cons rfl (fun K hK=>?_) AllReady.nil
   go_simp
   refine hK _ _ ?_
   clear hK K;refine wpAny_ready (rs:=[4]) (by kernel_rfl) (by simp) ?_
   refine AllReady.cons rfl (fun K hK=>?_) AllReady.nil
   go_simp
   refine (HVAL.out w4 (.slice A (flen l) c) w.heap.size r (HKP.out _ L4.b) L4.b.size HO.out).mono ?_
   intro e w5 hh
   obtain ⟨hb5,⟨x1,y1,hx,rfl⟩ | ⟨k,hx,rfl⟩⟩:=hh.parts
   · have HX:=zh hx
     have R5:=R4.out.on hb5
     have hS1:=(R5.setR x1 y1).setE 0
     obtain ⟨f1,f2,f3,f4,f5,f6⟩:=R5.facts
     have HS1:=zh hS1;clear hS1 R5 hx hb5 hh;refine hK _ _ ?_
     clear hK K;refine wpAny_ready (rs:=[5]) (by kernel_rfl) (by simp) ?_
     refine AllReady.cons rfl (fun K hK=>?_) AllReady.nil
     go_simp
     refine hK _ _ ?_
     clear hK K;refine wpAny_ready (rs:=[6]) (by kernel_rfl) (by simp) ?_
     refine AllReady.cons rfl (fun K hK=>?_) AllReady.nil
     go_simp
     refine hK _ _ ?_
     clear hK K;refine wpAny_done (by kernel_rfl) ?_ _
     go_wp2_with fail;refine leaves_cons (f:=147) (args:=#[.pointer (some ⟨w.heap.size+1+1,0,none⟩),.pointer (some ⟨w.heap.size+1+1+1,0,none⟩)]) (by simp) (by simp [go_sem]) ?_
     refine (Z0F _ _ _).mono ?_
     rintro en u' w6 ⟨rfl,rfl,rfl⟩
     obtain ⟨q1,q2,q3,_⟩:=HS1.out.facts
     refine ⟨.tuple #[.agg #[.int .i64 x1,.int .i64 y1],.int .i64 0],by simp [results,Tryz.results107,go_sem,q1,q2,q3],?_⟩
     rw [HX.out]
     exact ⟨rfl,HS1.out.2.2⟩
   · have R5:=R4.out.on hb5
     have HX:=zh hx;clear hx;refine leaves_cons (f:=147) (args:=#[.pointer (some ⟨w.heap.size+1+1,0,none⟩),.pointer (some ⟨w.heap.size+1+1+1,0,none⟩)]) (by simp) (by simp [go_sem]) ?_
     refine (Z0f w w5 0 0 0 k R5).mono ?_
     rintro en u' w6 ⟨rfl,rfl,hR6⟩
     obtain ⟨q1,q2,q3,_⟩:=hR6.facts
     refine ⟨.tuple #[.agg #[.int .i64 0,.int .i64 0],.int .i64 k],by simp [results,Tryz.results107,go_sem,q1,q2,q3],?_⟩
     rw [HX.out]
     exact ⟨rfl,hR6.2.2⟩
 refine AllReady.cons rfl (fun K hK=>?_) ?_
 · go_simp
   refine (Z5u _).mono ?_
   rintro e w4 ⟨r,rfl,hO,hr,hb4⟩;have L4:=L3.on hb4
   have R4:=zh (R3.out.on hb4)
   have HO:=zh hO;obtain ⟨x0,x1,x2,v0,v1,v2,v3,_⟩:=HMS.out _ L4
   clear hO hb4 hr;refine hK _ _ ?_
   clear hK K;refine wpAny_ready (rs:=[0,3]) (by kernel_rfl) (by simp) ?_
   refine AllReady.cons rfl (fun K hK=>?_) ?_
   · go_simp
     refine hK _ _ ?_
     clear hK K;refine wpAny_ready (rs:=[2,3]) (by kernel_rfl) (by simp) ?_
     refine AllReady.cons rfl (fun K hK=>?_) ?_
     · go_simp
       refine hK _ _ ?_
       clear hK K;refine wpAny_ready (rs:=[3]) (by kernel_rfl) (by simp) ?_
       refine AllReady.cons rfl (fun K hK=>?_) AllReady.nil
       go_simp
       refine hK _ _ ?_
       clear hK K;refine wpAny_ready (rs:=[4]) (by kernel_rfl) (by simp) ?_
       refine AllReady.cons rfl (fun K hK=>?_) AllReady.nil
       go_simp
       refine (HVAL.out w4 (.slice A (flen l) c) w.heap.size r (HKP.out _ L4.b) L4.b.size HO.out).mono ?_
       intro e w5 hh
       obtain ⟨hb5,⟨x1,y1,hx,rfl⟩ | ⟨k,hx,rfl⟩⟩:=hh.parts
       · have HX:=zh hx
         have R5:=R4.out.on hb5
         have hS1:=(R5.setR x1 y1).setE 0
         obtain ⟨f1,f2,f3,f4,f5,f6⟩:=R5.facts
         have HS1:=zh hS1;clear hS1 R5 hx hb5 hh;refine hK _ _ ?_
         clear hK K;refine wpAny_ready (rs:=[5]) (by kernel_rfl) (by simp) ?_
         refine AllReady.cons rfl (fun K hK=>?_) AllReady.nil
         go_simp
         refine hK _ _ ?_
         clear hK K;refine wpAny_ready (rs:=[6]) (by kernel_rfl) (by simp) ?_
         refine AllReady.cons rfl (fun K hK=>?_) AllReady.nil
         go_simp
         refine hK _ _ ?_
         clear hK K;refine wpAny_done (by kernel_rfl) ?_ _
         go_wp2_with fail;refine leaves_cons (f:=147) (args:=#[.pointer (some ⟨w.heap.size+1+1,0,none⟩),.pointer (some ⟨w.heap.size+1+1+1,0,none⟩)]) (by simp) (by simp [go_sem]) ?_
         refine (Z0F _ _ _).mono ?_
         rintro en u' w6 ⟨rfl,rfl,rfl⟩
         obtain ⟨q1,q2,q3,_⟩:=HS1.out.facts
         refine ⟨.tuple #[.agg #[.int .i64 x1,.int .i64 y1],.int .i64 0],by simp [results,Tryz.results107,go_sem,q1,q2,q3],?_⟩
         rw [HX.out]
         exact ⟨rfl,HS1.out.2.2⟩
       · have R5:=R4.out.on hb5
         have HX:=zh hx;clear hx;refine leaves_cons (f:=147) (args:=#[.pointer (some ⟨w.heap.size+1+1,0,none⟩),.pointer (some ⟨w.heap.size+1+1+1,0,none⟩)]) (by simp) (by simp [go_sem]) ?_
         refine (Z0f w w5 0 0 0 k R5).mono ?_
         rintro en u' w6 ⟨rfl,rfl,hR6⟩
         obtain ⟨q1,q2,q3,_⟩:=hR6.facts
         refine ⟨.tuple #[.agg #[.int .i64 0,.int .i64 0],.int .i64 k],by simp [results,Tryz.results107,go_sem,q1,q2,q3],?_⟩
         rw [HX.out]
         exact ⟨rfl,hR6.2.2⟩
     refine AllReady.cons rfl (fun K hK=>?_) AllReady.nil
     go_simp
     refine hK _ _ ?_
     clear hK K;refine wpAny_ready (rs:=[2]) (by kernel_rfl) (by simp) ?_
     refine AllReady.cons rfl (fun K hK=>?_) AllReady.nil
     go_simp
     refine hK _ _ ?_
     clear hK K;refine wpAny_ready (rs:=[4]) (by kernel_rfl) (by simp) ?_
     refine AllReady.cons rfl (fun K hK=>?_) AllReady.nil
     go_simp
     refine (HVAL.out w4 (.slice A (flen l) c) w.heap.size r (HKP.out _ L4.b) L4.b.size HO.out).mono ?_
     intro e w5 hh
     obtain ⟨hb5,⟨x1,y1,hx,rfl⟩ | ⟨k,hx,rfl⟩⟩:=hh.parts
     · have HX:=zh hx
       have R5:=R4.out.on hb5
       have hS1:=(R5.setR x1 y1).setE 0
       obtain ⟨f1,f2,f3,f4,f5,f6⟩:=R5.facts
       have HS1:=zh hS1;clear hS1 R5 hx hb5 hh;refine hK _ _ ?_
       clear hK K;refine wpAny_ready (rs:=[5]) (by kernel_rfl) (by simp) ?_
       refine AllReady.cons rfl (fun K hK=>?_) AllReady.nil
       go_simp
       refine hK _ _ ?_
       clear hK K;refine wpAny_ready (rs:=[6]) (by kernel_rfl) (by simp) ?_
       refine AllReady.cons rfl (fun K hK=>?_) AllReady.nil
       go_simp
       refine hK _ _ ?_
       clear hK K;refine wpAny_done (by kernel_rfl) ?_ _
       go_wp2_with fail;refine leaves_cons (f:=147) (args:=#[.pointer (some ⟨w.heap.size+1+1,0,none⟩),.pointer (some ⟨w.heap.size+1+1+1,0,none⟩)]) (by simp) (by simp [go_sem]) ?_
       refine (Z0F _ _ _).mono ?_
       rintro en u' w6 ⟨rfl,rfl,rfl⟩
       obtain ⟨q1,q2,q3,_⟩:=HS1.out.facts
       refine ⟨.tuple #[.agg #[.int .i64 x1,.int .i64 y1],.int .i64 0],by simp [results,Tryz.results107,go_sem,q1,q2,q3],?_⟩
       rw [HX.out]
       exact ⟨rfl,HS1.out.2.2⟩
     · have R5:=R4.out.on hb5
       have HX:=zh hx;clear hx;refine leaves_cons (f:=147) (args:=#[.pointer (some ⟨w.heap.size+1+1,0,none⟩),.pointer (some ⟨w.heap.size+1+1+1,0,none⟩)]) (by simp) (by simp [go_sem]) ?_
       refine (Z0f w w5 0 0 0 k R5).mono ?_
       rintro en u' w6 ⟨rfl,rfl,hR6⟩
       obtain ⟨q1,q2,q3,_⟩:=hR6.facts
       refine ⟨.tuple #[.agg #[.int .i64 0,.int .i64 0],.int .i64 k],by simp [results,Tryz.results107,go_sem,q1,q2,q3],?_⟩
       rw [HX.out]
       exact ⟨rfl,hR6.2.2⟩
   refine AllReady.cons rfl (fun K hK=>?_) AllReady.nil
   go_simp
   refine hK _ _ ?_
   clear hK K;refine wpAny_ready (rs:=[0]) (by kernel_rfl) (by simp) ?_
   refine AllReady.cons rfl (fun K hK=>?_) AllReady.nil
   go_simp
   refine hK _ _ ?_
   clear hK K;refine wpAny_ready (rs:=[2]) (by kernel_rfl) (by simp) ?_
   refine AllReady.cons rfl (fun K hK=>?_) AllReady.nil
   go_simp
   refine hK _ _ ?_
   clear hK K;refine wpAny_ready (rs:=[4]) (by kernel_rfl) (by simp) ?_
   refine AllReady.cons rfl (fun K hK=>?_) AllReady.nil
   go_simp
   refine (HVAL.out w4 (.slice A (flen l) c) w.heap.size r (HKP.out _ L4.b) L4.b.size HO.out).mono ?_
   intro e w5 hh
   obtain ⟨hb5,⟨x1,y1,hx,rfl⟩ | ⟨k,hx,rfl⟩⟩:=hh.parts
   · have HX:=zh hx
     have R5:=R4.out.on hb5
     have hS1:=(R5.setR x1 y1).setE 0
     obtain ⟨f1,f2,f3,f4,f5,f6⟩:=R5.facts
     have HS1:=zh hS1;clear hS1 R5 hx hb5 hh;refine hK _ _ ?_
     clear hK K;refine wpAny_ready (rs:=[5]) (by kernel_rfl) (by simp) ?_
     refine AllReady.cons rfl (fun K hK=>?_) AllReady.nil
     go_simp
     refine hK _ _ ?_
     clear hK K;refine wpAny_ready (rs:=[6]) (by kernel_rfl) (by simp) ?_
     refine AllReady.cons rfl (fun K hK=>?_) AllReady.nil
     go_simp
     refine hK _ _ ?_
     clear hK K;refine wpAny_done (by kernel_rfl) ?_ _
     go_wp2_with fail;refine leaves_cons (f:=147) (args:=#[.pointer (some ⟨w.heap.size+1+1,0,none⟩),.pointer (some ⟨w.heap.size+1+1+1,0,none⟩)]) (by simp) (by simp [go_sem]) ?_
     refine (Z0F _ _ _).mono ?_
     rintro en u' w6 ⟨rfl,rfl,rfl⟩
     obtain ⟨q1,q2,q3,_⟩:=HS1.out.facts
     refine ⟨.tuple #[.agg #[.int .i64 x1,.int .i64 y1],.int .i64 0],by simp [results,Tryz.results107,go_sem,q1,q2,q3],?_⟩
     rw [HX.out]
     exact ⟨rfl,HS1.out.2.2⟩
   · have R5:=R4.out.on hb5
     have HX:=zh hx;clear hx;refine leaves_cons (f:=147) (args:=#[.pointer (some ⟨w.heap.size+1+1,0,none⟩),.pointer (some ⟨w.heap.size+1+1+1,0,none⟩)]) (by simp) (by simp [go_sem]) ?_
     refine (Z0f w w5 0 0 0 k R5).mono ?_
     rintro en u' w6 ⟨rfl,rfl,hR6⟩
     obtain ⟨q1,q2,q3,_⟩:=hR6.facts
     refine ⟨.tuple #[.agg #[.int .i64 0,.int .i64 0],.int .i64 k],by simp [results,Tryz.results107,go_sem,q1,q2,q3],?_⟩
     rw [HX.out]
     exact ⟨rfl,hR6.2.2⟩
 refine AllReady.cons rfl (fun K hK=>?_) AllReady.nil
 go_simp
 refine hK _ _ ?_
 clear hK K;refine wpAny_ready (rs:=[0,1]) (by kernel_rfl) (by simp) ?_
 refine AllReady.cons rfl (fun K hK=>?_) ?_
 · go_simp
   refine hK _ _ ?_
   clear hK K;refine wpAny_ready (rs:=[1]) (by kernel_rfl) (by simp) ?_
   refine AllReady.cons rfl (fun K hK=>?_) AllReady.nil
   go_simp
   refine (Z5u _).mono ?_
   rintro e w4 ⟨r,rfl,hO,hr,hb4⟩;have L4:=L3.on hb4
   have R4:=zh (R3.out.on hb4)
   have HO:=zh hO;obtain ⟨x0,x1,x2,v0,v1,v2,v3,_⟩:=HMS.out _ L4
   clear hO hb4 hr;refine hK _ _ ?_
   clear hK K;refine wpAny_ready (rs:=[2]) (by kernel_rfl) (by simp) ?_
   refine AllReady.cons rfl (fun K hK=>?_) AllReady.nil
   go_simp
   refine hK _ _ ?_
   clear hK K;refine wpAny_ready (rs:=[4]) (by kernel_rfl) (by simp) ?_
   refine AllReady.cons rfl (fun K hK=>?_) AllReady.nil
   go_simp
   refine (HVAL.out w4 (.slice A (flen l) c) w.heap.size r (HKP.out _ L4.b) L4.b.size HO.out).mono ?_
   intro e w5 hh
   obtain ⟨hb5,⟨x1,y1,hx,rfl⟩ | ⟨k,hx,rfl⟩⟩:=hh.parts
   · have HX:=zh hx
     have R5:=R4.out.on hb5
     have hS1:=(R5.setR x1 y1).setE 0
     obtain ⟨f1,f2,f3,f4,f5,f6⟩:=R5.facts
     have HS1:=zh hS1;clear hS1 R5 hx hb5 hh;refine hK _ _ ?_
     clear hK K;refine wpAny_ready (rs:=[5]) (by kernel_rfl) (by simp) ?_
     refine AllReady.cons rfl (fun K hK=>?_) AllReady.nil
     go_simp
     refine hK _ _ ?_
     clear hK K;refine wpAny_ready (rs:=[6]) (by kernel_rfl) (by simp) ?_
     refine AllReady.cons rfl (fun K hK=>?_) AllReady.nil
     go_simp
     refine hK _ _ ?_
     clear hK K;refine wpAny_done (by kernel_rfl) ?_ _
     go_wp2_with fail;refine leaves_cons (f:=147) (args:=#[.pointer (some ⟨w.heap.size+1+1,0,none⟩),.pointer (some ⟨w.heap.size+1+1+1,0,none⟩)]) (by simp) (by simp [go_sem]) ?_
     refine (Z0F _ _ _).mono ?_
     rintro en u' w6 ⟨rfl,rfl,rfl⟩
     obtain ⟨q1,q2,q3,_⟩:=HS1.out.facts
     refine ⟨.tuple #[.agg #[.int .i64 x1,.int .i64 y1],.int .i64 0],by simp [results,Tryz.results107,go_sem,q1,q2,q3],?_⟩
     rw [HX.out]
     exact ⟨rfl,HS1.out.2.2⟩
   · have R5:=R4.out.on hb5
     have HX:=zh hx;clear hx;refine leaves_cons (f:=147) (args:=#[.pointer (some ⟨w.heap.size+1+1,0,none⟩),.pointer (some ⟨w.heap.size+1+1+1,0,none⟩)]) (by simp) (by simp [go_sem]) ?_
     refine (Z0f w w5 0 0 0 k R5).mono ?_
     rintro en u' w6 ⟨rfl,rfl,hR6⟩
     obtain ⟨q1,q2,q3,_⟩:=hR6.facts
     refine ⟨.tuple #[.agg #[.int .i64 0,.int .i64 0],.int .i64 k],by simp [results,Tryz.results107,go_sem,q1,q2,q3],?_⟩
     rw [HX.out]
     exact ⟨rfl,hR6.2.2⟩
 refine AllReady.cons rfl (fun K hK=>?_) AllReady.nil
 go_simp
 refine (Z5u _).mono ?_
 rintro e w4 ⟨r,rfl,hO,hr,hb4⟩;have L4:=L3.on hb4
 have R4:=zh (R3.out.on hb4)
 have HO:=zh hO;obtain ⟨x0,x1,x2,v0,v1,v2,v3,_⟩:=HMS.out _ L4
 clear hO hb4 hr;refine hK _ _ ?_
 clear hK K;refine wpAny_ready (rs:=[0]) (by kernel_rfl) (by simp) ?_
 refine AllReady.cons rfl (fun K hK=>?_) AllReady.nil
 go_simp
 refine hK _ _ ?_
 clear hK K;refine wpAny_ready (rs:=[2]) (by kernel_rfl) (by simp) ?_
 refine AllReady.cons rfl (fun K hK=>?_) AllReady.nil
 go_simp
 refine hK _ _ ?_
 clear hK K;refine wpAny_ready (rs:=[4]) (by kernel_rfl) (by simp) ?_
 refine AllReady.cons rfl (fun K hK=>?_) AllReady.nil
 go_simp
 refine (HVAL.out w4 (.slice A (flen l) c) w.heap.size r (HKP.out _ L4.b) L4.b.size HO.out).mono ?_
 intro e w5 hh
 obtain ⟨hb5,⟨x1,y1,hx,rfl⟩ | ⟨k,hx,rfl⟩⟩:=hh.parts
 · have HX:=zh hx
   have R5:=R4.out.on hb5
   have hS1:=(R5.setR x1 y1).setE 0
   obtain ⟨f1,f2,f3,f4,f5,f6⟩:=R5.facts
   have HS1:=zh hS1;clear hS1 R5 hx hb5 hh;refine hK _ _ ?_
   clear hK K;refine wpAny_ready (rs:=[5]) (by kernel_rfl) (by simp) ?_
   refine AllReady.cons rfl (fun K hK=>?_) AllReady.nil
   go_simp
   refine hK _ _ ?_
   clear hK K;refine wpAny_ready (rs:=[6]) (by kernel_rfl) (by simp) ?_
   refine AllReady.cons rfl (fun K hK=>?_) AllReady.nil
   go_simp
   refine hK _ _ ?_
   clear hK K;refine wpAny_done (by kernel_rfl) ?_ _
   go_wp2_with fail;refine leaves_cons (f:=147) (args:=#[.pointer (some ⟨w.heap.size+1+1,0,none⟩),.pointer (some ⟨w.heap.size+1+1+1,0,none⟩)]) (by simp) (by simp [go_sem]) ?_
   refine (Z0F _ _ _).mono ?_
   rintro en u' w6 ⟨rfl,rfl,rfl⟩
   obtain ⟨q1,q2,q3,_⟩:=HS1.out.facts
   refine ⟨.tuple #[.agg #[.int .i64 x1,.int .i64 y1],.int .i64 0],by simp [results,Tryz.results107,go_sem,q1,q2,q3],?_⟩
   rw [HX.out]
   exact ⟨rfl,HS1.out.2.2⟩
 · have R5:=R4.out.on hb5
   have HX:=zh hx;clear hx;refine leaves_cons (f:=147) (args:=#[.pointer (some ⟨w.heap.size+1+1,0,none⟩),.pointer (some ⟨w.heap.size+1+1+1,0,none⟩)]) (by simp) (by simp [go_sem]) ?_
   refine (Z0f w w5 0 0 0 k R5).mono ?_
   rintro en u' w6 ⟨rfl,rfl,hR6⟩
   obtain ⟨q1,q2,q3,_⟩:=hR6.facts
   refine ⟨.tuple #[.agg #[.int .i64 0,.int .i64 0],.int .i64 k],by simp [results,Tryz.results107,go_sem,q1,q2,q3],?_⟩
   rw [HX.out]
   exact ⟨rfl,hR6.2.2⟩
end Go.Proofs.YtnepkoepbapgeaaGreatDoor
