import Derived.Test.YtkgagcbefagpcaaGreatDoorQuoR10d
namespace Go.Proofs.YtkgagcbefagpcaaGreatDoor
open _root_.Go.Proofs.Tryz
open Value (int slice)
open IntKind (i64)
set_option maxHeartbeats 8000000
set_option maxRecDepth 100000
section
open Go.RowKit Lx Px Qx
theorem Zkg (op n:Int)(l:Fo)(B:∀ k,k<flen l->ValC (getF l k).1 (getF l k).2):ValC (op,n) l:=by
 by_cases h1:op=1
 . exact Zn2 op n l (.inl h1)
 . by_cases h2:op=2
   . exact Zn2 op n l (.inr h2)
   . by_cases h3:op=3
     . subst h3;exact Ztf n l
     . exact val_op op n l B h1 h2 h3
theorem ZrA (f:Fo):∀ k,k<flen f->ValC (getF f k).1 (getF f k).2:=by
 induction f with
 | nil=>intro k h;simp [flen] at h
 | node b o a l r ihl ihr =>
  intro k h;cases k with
  | zero=>exact Zkg a.1 a.2 l ihl
  | succ k=>exact ihr k (by simp [flen] at h;omega)
theorem ZrB (op n:Int)(l:Fo):ValC (op,n) l:=Zkg op n l (ZrA l)
def RvB (w:World)(x y e:Int)(wx:World):Prop := wx.heap[w.heap.size+2]?=some (.cells #[vI x,vI y] 76 (0,0))/\wx.heap[w.heap.size+3]?=some (.cells #[vI e] 37 (0,0))/\Below w.heap.size w wx
theorem RvB.on {w B C:World}{x y e:Int}(h:RvB w x y e B)(hb:Below B.heap.size B C):RvB w x y e C := ⟨(hb.block _ (zF2.1 h.1).1).trans h.1,(hb.block _ (zF2.1 h.2.1).1).trans h.2.1,Z00 h.2.2 hb⟩
theorem Zpp {w:World}{b:Nat}{x y:Value}{B:TypeId}(h:w.heap[b]?=some (.cells #[x,y] B (0,0)))(u v:Value):((w.setCell ⟨b,0,none⟩ u).setCell ⟨b,1,none⟩ v).heap[b]?=some (.cells #[u,v] B (0,0)):=by
 simp [World.setCell,zM,h]
theorem RvB.setR {w B:World}{x y e:Int}(h:RvB w x y e B)(C D:Int):RvB w C D e ((B.setCell ⟨w.heap.size+2,0,none⟩ (vI C)).setCell ⟨w.heap.size+2,1,none⟩ (vI D)):=by
 refine ⟨Zpp h.1 _ _,?_,?_⟩
 . rw [zg _ _ _ _ (by show w.heap.size+3≠w.heap.size+2;omega),zg _ _ _ _ (by show w.heap.size+3≠w.heap.size+2;omega)];exact h.2.1
 . exact (h.2.2.setCell (p:=⟨w.heap.size+2,0,none⟩) (by show w.heap.size<=w.heap.size+2;omega) _).setCell (p:=⟨w.heap.size+2,1,none⟩) (by show w.heap.size<=w.heap.size+2;omega) _
theorem RvB.setE {w B:World}{x y e:Int}(h:RvB w x y e B)(e':Int):RvB w x y e' (B.setCell ⟨w.heap.size+3,0,none⟩ (vI e')):=by
 refine ⟨?_,Z6H h.2.1 _,h.2.2.setCell (p:=⟨w.heap.size+3,0,none⟩) (by show w.heap.size<=w.heap.size+3;omega) _⟩;rw [zg _ _ _ _ (by show w.heap.size+2≠w.heap.size+3;omega)];exact h.1
theorem RvB.facts {w W:World}{x y e:Int}(h:RvB w x y e W):W.cell? ⟨w.heap.size+2,0,none⟩=some (vI x)/\W.cell? ⟨w.heap.size+2,1,none⟩=some (vI y)/\W.cell? ⟨w.heap.size+3,0,none⟩=some (vI e)/\W.frozen? ⟨w.heap.size+2,0,none⟩=false/\W.frozen? ⟨w.heap.size+2,1,none⟩=false/\W.frozen? ⟨w.heap.size+3,0,none⟩=false:=by
 obtain ⟨B,C,_⟩:=h;refine ⟨by rw [zH B];rfl,by rw [zH B];rfl,by rw [zH C];rfl,by simp [World.frozen?,B],by simp [World.frozen?,B],by simp [World.frozen?,C]⟩
theorem Z0m (w B:World)(x y e k:Int)(h:RvB w x y e B) : CallsD prog 175 #[.pointer (some ⟨w.heap.size+1+1,0,none⟩),.pointer (some ⟨w.heap.size+1+1+1,0,none⟩)] (.panicking [Ziv k]) B λen u' w' =>
  en=.returned (.tuple #[])/\u'=.panicking [{ Ziv k with recovered:=true }]/\RvB w 0 0 k w':=by
 refine callsD_of_wpS func175 rfl λc₀ cs hu=>?_;unfold Ziv at hu |-
 apply wpS_seq;apply wpS_region;simp [wpOpsS,go_sem,recoverD,hu,ntmps175,Exit.thenS];refine Z5q (λG w'=>G.defers=[]/\RvB w 0 0 k w') ?_ ?_
 . have J:∀ V:Value,(#[Value.pointer (some ⟨w.heap.size+1+1,0,none⟩),Value.pointer (some ⟨w.heap.size+1+1+1,0,none⟩)]++(Array.replicate 12 undef).setIfInBounds 3 V)=#[Value.pointer (some ⟨w.heap.size+1+1,0,none⟩),Value.pointer (some ⟨w.heap.size+1+1+1,0,none⟩),undef,undef,undef,V,undef,undef,undef,undef,undef,undef,undef,undef]:=λ_=>by kernel_rfl
   rw [J];have L:∀ w:World,(Instr.typeAssert (.iface 230 (.agg #[vI k])) 20 230 true).run prog w=.ok (.tuple #[.agg #[vI k],.bool true]) w:=λ_=>by kernel_rfl
   have I:=(zr B.heap.size B).alloc (zn _) (.cells #[vI k] 230);have T:w.heap.size+3<B.heap.size:=(zF2.1 h.2.1).1;have C:=zh (h.on I);have F:=zh (za B (.cells #[vI k] 230));clear hu J h I;go_upto_region 7 with fail;clear L;obtain ⟨O,d,S,Z,R,Y⟩:=C.o.facts
   have N:=Z0u F.o;generalize B.alloc (.cells #[vI k] 230)=W at *
   generalize B.heap.size=M at *
   have H:=zh ((C.o.setR 0 0).setE k);have D:=zh ((C.o.setE k).setR 0 0);clear C F;go_region
   all_goals go_wp2_with fail;first | exact H.o | exact D.o | exact H.o.on (zr _ _).drew | exact D.o.on (zr _ _).drew
 . rintro G w' ⟨X,U⟩;cases c₀;simp_all [bodyPostS,results,results175]
theorem Z1a (p q:Addr)(w:World) : CallsD prog 175 #[.pointer (some p),.pointer (some q)] .returning w λe u' w'=>e=.returned (.tuple #[])/\u'=.returning/\w'=w:=by
 refine callsD_of_wpS func175 rfl λc₀ cs hu=>?_;apply wpS_seq;apply wpS_region;simp [wpOpsS,go_sem,recoverD,hu,ntmps175,Exit.thenS];refine Z5q (λB w'=>B.defers=[]/\w'=w) ?_ ?_
 . have C:∀ V:Value,(#[Value.pointer (some p),Value.pointer (some q)]++(Array.replicate 12 undef).setIfInBounds 3 V)=#[Value.pointer (some p),Value.pointer (some q),undef,undef,undef,V,undef,undef,undef,undef,undef,undef,undef,undef]:=λ_=>by kernel_rfl
   rw [C];clear C hu;go_wp2_with fail
 . rintro B w' ⟨D,rfl⟩;cases c₀;simp_all [bodyPostS,results,results175]
structure RvL (w:World) (op n:Int) (kv:Value) (vs:Vs) (wx:World):Prop where
 x:wx.heap[w.heap.size]?=some (.cells #[vI op,vI n,kv] 79 (0,0))
 v:wx.heap[w.heap.size+1]?=some (.cells #[vI vs.a,vI vs.b,vI vs.c,vI vs.d] 187 (0,0))
 b:Below w.heap.size w wx
theorem RvL.on {w B F:World}{op n:Int}{D:Value}{C:Vs}(h:RvL w op n D C B)(hb:Below B.heap.size B F):RvL w op n D C F := ⟨(hb.block _ (zF2.1 h.x).1).trans h.x,(hb.block _ (zF2.1 h.v).1).trans h.v,Z00 h.b hb⟩
theorem RvL.drew {w D:World}{op n:Int}{C:Value}{B:Vs}(h:RvL w op n C B D):RvL w op n C B D.drew:=h.on (zr _ _).drew
theorem rv_new (w:World)(op n:Int)(C:Value)(B:Vs) : RvL w op n C B ((((w.alloc (.cells #[vI op,vI n,C] 79)).alloc (.cells #[vI B.a,vI B.b,vI B.c,vI B.d] 187)).alloc (.cells #[vI 0,vI 0] 76)).alloc (.cells #[vI 0] 37)) /\ RvB w 0 0 0 ((((w.alloc (.cells #[vI op,vI n,C] 79)).alloc (.cells #[vI B.a,vI B.b,vI B.c,vI B.d] 187)).alloc (.cells #[vI 0,vI 0] 76)).alloc (.cells #[vI 0] 37)):=by
 have D:Below w.heap.size w ((((w.alloc (.cells #[vI op,vI n,C] 79)).alloc (.cells #[vI B.a,vI B.b,vI B.c,vI B.d] 187)).alloc (.cells #[vI 0,vI 0] 76)).alloc (.cells #[vI 0] 37)) := ((((zr _ _).alloc (zn _) _).alloc (by simp) _).alloc (by simp;omega) _).alloc (by simp;omega) _;refine ⟨⟨?_,?_,D⟩,?_,?_,D⟩
 . rw [Below.heap_alloc _ _ _ (by simp;omega),Below.heap_alloc _ _ _ (by simp;omega),Below.heap_alloc _ _ _ (by simp)];exact za w _
 . rw [Below.heap_alloc _ _ _ (by simp),Below.heap_alloc _ _ _ (by simp)];have:=za (w.alloc (.cells #[vI op,vI n,C] 79)) (.cells #[vI B.a,vI B.b,vI B.c,vI B.d] 187);simpa using this
 . rw [Below.heap_alloc _ _ _ (by simp)];have:=za ((w.alloc (.cells #[vI op,vI n,C] 79)).alloc (.cells #[vI B.a,vI B.b,vI B.c,vI B.d] 187)) (.cells #[vI 0,vI 0] 76);simpa using this
 . have:=za (((w.alloc (.cells #[vI op,vI n,C] 79)).alloc (.cells #[vI B.a,vI B.b,vI B.c,vI B.d] 187)).alloc (.cells #[vI 0,vI 0] 76)) (.cells #[vI 0] 37);simpa using this
theorem Za5 (op n:Int)(l:Fo)(v:Value)(X:Vs)(w:World)(hv:FoV w w.heap.size v l)(hf:Z07 op n (flen l)=true)(hw:wfF l)(bf:∀ i,0<=X.at i/\X.at i<=1000) : Calls prog 131 #[.agg #[vI op,vI n,v],vsV X] w (RetV (valE X (op,n) l) w):=by
 obtain ⟨A,c,rfl,hA⟩:=hv;have bj:∀ (fn:Fn) (first cap:Array Value) (w:World),(Instr.makeFunc fn first cap).run prog w=.ok (.func fn first cap) w:=λ_ _ _ _=>rfl;obtain ⟨bd,be⟩:=rv_new w op n (slice A (flen l) c) X;have bc:=λW v B r h1 h2 h3=>ZrB op n l W v B r X h1 h2 h3 hf hw bf;have bg:∀ W,Below w.heap.size w W->FoV W w.heap.size (slice A (flen l) c) l:=λW hb=>⟨A,c,rfl,FoAt.keep (λp hp=>hb.cell hp) l A 0 hA⟩
 generalize bh:valE X (op,n) l=V at *
 obtain ⟨L0,B0,ba,HKP⟩:=zh4 bd be bc bg;clear bd be bc bg hA hf hw bf bh;dsimp only [vsV];go_enter_defers func131,ntmps131;go_upto_region 2 with fail;clear bj;generalize (((w.alloc (.cells #[vI op,vI n,slice A (flen l) c] 79)).alloc (.cells #[vI X.a,vI X.b,vI X.c,vI X.d] 187)).alloc (.cells #[vI 0,vI 0] 76)).alloc (.cells #[vI 0] 37)=W at *
 have bb:Hid (∀ wx,RvL w op n (slice A (flen l) c) X wx->wx.cell? ⟨w.heap.size,0,none⟩=some (vI op)/\wx.cell? ⟨w.heap.size,1,none⟩=some (vI n)/\wx.cell? ⟨w.heap.size,2,none⟩=some (slice A (flen l) c) /\ wx.cell? ⟨w.heap.size+1,0,none⟩=some (vI X.a)/\wx.cell? ⟨w.heap.size+1,1,none⟩=some (vI X.b)/\wx.cell? ⟨w.heap.size+1,2,none⟩=some (vI X.c)/\wx.cell? ⟨w.heap.size+1,3,none⟩=some (vI X.d)/\RvL w op n (slice A (flen l) c) X wx):=λwx h=>by refine ⟨?_,?_,?_,?_,?_,?_,?_,h⟩ <;> first | (rw [zH h.x];rfl) | (rw [zH h.v];rfl)
 refine wp_region_any (by kernel_rfl) ?_
 try (change wpAny _ _ _ _ _ _ _ (World.drew _))
 have L3:=L0.o.drew;have R3:=zh (B0.o.on (zr _ _).drew);obtain ⟨x0,L,x2,v0,v1,v2,v3,_⟩:=bb.o _ L3;clear L0 B0;generalize W.drew=w3 at *
 refine wpAny_ready (rs:=[0,1,3]) (by kernel_rfl) (by simp) ?_;refine zF rfl (λK hK=>?_) ?_
 . go_simp;refine hK _ _ ?_;clear hK K;refine wpAny_ready (rs:=[1,3]) (by kernel_rfl) (by simp) ?_;refine zF rfl (λK hK=>?_) ?_
   . go_simp;refine (Z70 _).mono ?_;rintro e m ⟨r,rfl,j,y,U⟩;have M:=L3.on U;have T:=zh (R3.o.on U);have q:=zh j;obtain ⟨x0,L,x2,v0,v1,v2,v3,_⟩:=bb.o _ M;clear j U y;refine hK _ _ ?_;clear hK K;refine wpAny_ready (rs:=[2,3]) (by kernel_rfl) (by simp) ?_;refine zF rfl (λK hK=>?_) ?_
     . go_simp;refine hK _ _ ?_;clear hK K;refine wpAny_ready (rs:=[3]) (by kernel_rfl) (by simp) ?_;refine zF rfl (λK hK=>?_) AllReady.nil;go_simp;refine hK _ _ ?_;clear hK K;refine wpAny_ready (rs:=[4]) (by kernel_rfl) (by simp) ?_;refine zF rfl (λK hK=>?_) AllReady.nil;go_simp;refine (ba.o m (slice A (flen l) c) w.heap.size r (HKP.o _ M.b) M.b.size q.o).mono ?_;intro e w5 N;obtain ⟨G,⟨L,O,C,rfl⟩ | ⟨k,C,rfl⟩⟩:=N.parts
       . have I:=zh C;have D:=T.o.on G;obtain ⟨f1,f2,f3,f4,f5,f6⟩:=D.facts;have R:=zh ((D.setR L O).setE 0);clear D C G N;refine hK _ _ ?_;clear hK K;refine wpAny_ready (rs:=[5]) (by kernel_rfl) (by simp) ?_;refine zF rfl (λK hK=>?_) AllReady.nil;go_simp;refine hK _ _ ?_;clear hK K;refine wpAny_ready (rs:=[6]) (by kernel_rfl) (by simp) ?_;refine zF rfl (λK hK=>?_) AllReady.nil;go_simp;refine hK _ _ ?_;clear hK K;refine wpAny_done (by kernel_rfl) ?_ _;go_wp2_with fail;refine leaves_cons (f:=175) (args:=#[.pointer (some ⟨w.heap.size+1+1,0,none⟩),.pointer (some ⟨w.heap.size+1+1+1,0,none⟩)]) (by simp) (by simp [go_sem]) ?_;refine (Z1a _ _ _).mono ?_;rintro Z Y g ⟨rfl,rfl,rfl⟩;obtain ⟨F,J,H,_⟩:=R.o.facts;refine ⟨.tuple #[.agg #[vI L,vI O],vI 0],by simp [results,results131,go_sem,F,J,H],?_⟩;rw [I.o];exact ⟨rfl,R.o.2.2⟩
       . have D:=T.o.on G;have I:=zh C;clear C;refine leaves_cons (f:=175) (args:=#[.pointer (some ⟨w.heap.size+1+1,0,none⟩),.pointer (some ⟨w.heap.size+1+1+1,0,none⟩)]) (by simp) (by simp [go_sem]) ?_;refine (Z0m w w5 0 0 0 k D).mono ?_;rintro Z Y g ⟨rfl,rfl,S⟩;obtain ⟨F,J,H,_⟩:=S.facts;refine ⟨.tuple #[.agg #[vI 0,vI 0],vI k],by simp [results,results131,go_sem,F,J,H],?_⟩;rw [I.o];exact ⟨rfl,S.2.2⟩
     refine zF rfl (λK hK=>?_) AllReady.nil;go_simp;refine hK _ _ ?_;clear hK K;refine wpAny_ready (rs:=[2]) (by kernel_rfl) (by simp) ?_;refine zF rfl (λK hK=>?_) AllReady.nil;go_simp;refine hK _ _ ?_;clear hK K;refine wpAny_ready (rs:=[4]) (by kernel_rfl) (by simp) ?_;refine zF rfl (λK hK=>?_) AllReady.nil;go_simp;refine (ba.o m (slice A (flen l) c) w.heap.size r (HKP.o _ M.b) M.b.size q.o).mono ?_;intro e w5 N;obtain ⟨G,⟨L,O,C,rfl⟩ | ⟨k,C,rfl⟩⟩:=N.parts
     . have I:=zh C;have D:=T.o.on G;obtain ⟨f1,f2,f3,f4,f5,f6⟩:=D.facts;have R:=zh ((D.setR L O).setE 0);clear D C G N;refine hK _ _ ?_;clear hK K;refine wpAny_ready (rs:=[5]) (by kernel_rfl) (by simp) ?_;refine zF rfl (λK hK=>?_) AllReady.nil;go_simp;refine hK _ _ ?_;clear hK K;refine wpAny_ready (rs:=[6]) (by kernel_rfl) (by simp) ?_;refine zF rfl (λK hK=>?_) AllReady.nil;go_simp;refine hK _ _ ?_;clear hK K;refine wpAny_done (by kernel_rfl) ?_ _;go_wp2_with fail;refine leaves_cons (f:=175) (args:=#[.pointer (some ⟨w.heap.size+1+1,0,none⟩),.pointer (some ⟨w.heap.size+1+1+1,0,none⟩)]) (by simp) (by simp [go_sem]) ?_;refine (Z1a _ _ _).mono ?_;rintro Z Y g ⟨rfl,rfl,rfl⟩;obtain ⟨F,J,H,_⟩:=R.o.facts;refine ⟨.tuple #[.agg #[vI L,vI O],vI 0],by simp [results,results131,go_sem,F,J,H],?_⟩;rw [I.o];exact ⟨rfl,R.o.2.2⟩
     . have D:=T.o.on G;have I:=zh C;clear C;refine leaves_cons (f:=175) (args:=#[.pointer (some ⟨w.heap.size+1+1,0,none⟩),.pointer (some ⟨w.heap.size+1+1+1,0,none⟩)]) (by simp) (by simp [go_sem]) ?_;refine (Z0m w w5 0 0 0 k D).mono ?_;rintro Z Y g ⟨rfl,rfl,S⟩;obtain ⟨F,J,H,_⟩:=S.facts;refine ⟨.tuple #[.agg #[vI 0,vI 0],vI k],by simp [results,results131,go_sem,F,J,H],?_⟩;rw [I.o];exact ⟨rfl,S.2.2⟩
   refine zF rfl (λK hK=>?_) AllReady.nil;go_simp;refine hK _ _ ?_;clear hK K;refine wpAny_ready (rs:=[1]) (by kernel_rfl) (by simp) ?_;refine zF rfl (λK hK=>?_) AllReady.nil;go_simp;refine (Z70 _).mono ?_;rintro e m ⟨r,rfl,j,y,U⟩;have M:=L3.on U;have T:=zh (R3.o.on U);have q:=zh j;obtain ⟨x0,L,x2,v0,v1,v2,v3,_⟩:=bb.o _ M;clear j U y;refine hK _ _ ?_;clear hK K;refine wpAny_ready (rs:=[2]) (by kernel_rfl) (by simp) ?_;refine zF rfl (λK hK=>?_) AllReady.nil;go_simp;refine hK _ _ ?_;clear hK K;refine wpAny_ready (rs:=[4]) (by kernel_rfl) (by simp) ?_;refine zF rfl (λK hK=>?_) AllReady.nil;go_simp;refine (ba.o m (slice A (flen l) c) w.heap.size r (HKP.o _ M.b) M.b.size q.o).mono ?_;intro e w5 N;obtain ⟨G,⟨L,O,C,rfl⟩ | ⟨k,C,rfl⟩⟩:=N.parts
   . have I:=zh C;have D:=T.o.on G;obtain ⟨f1,f2,f3,f4,f5,f6⟩:=D.facts;have R:=zh ((D.setR L O).setE 0);clear D C G N;refine hK _ _ ?_;clear hK K;refine wpAny_ready (rs:=[5]) (by kernel_rfl) (by simp) ?_;refine zF rfl (λK hK=>?_) AllReady.nil;go_simp;refine hK _ _ ?_;clear hK K;refine wpAny_ready (rs:=[6]) (by kernel_rfl) (by simp) ?_;refine zF rfl (λK hK=>?_) AllReady.nil;go_simp;refine hK _ _ ?_;clear hK K;refine wpAny_done (by kernel_rfl) ?_ _;go_wp2_with fail;refine leaves_cons (f:=175) (args:=#[.pointer (some ⟨w.heap.size+1+1,0,none⟩),.pointer (some ⟨w.heap.size+1+1+1,0,none⟩)]) (by simp) (by simp [go_sem]) ?_;refine (Z1a _ _ _).mono ?_;rintro Z Y g ⟨rfl,rfl,rfl⟩;obtain ⟨F,J,H,_⟩:=R.o.facts;refine ⟨.tuple #[.agg #[vI L,vI O],vI 0],by simp [results,results131,go_sem,F,J,H],?_⟩;rw [I.o];exact ⟨rfl,R.o.2.2⟩
   . have D:=T.o.on G;have I:=zh C;clear C;refine leaves_cons (f:=175) (args:=#[.pointer (some ⟨w.heap.size+1+1,0,none⟩),.pointer (some ⟨w.heap.size+1+1+1,0,none⟩)]) (by simp) (by simp [go_sem]) ?_;refine (Z0m w w5 0 0 0 k D).mono ?_;rintro Z Y g ⟨rfl,rfl,S⟩;obtain ⟨F,J,H,_⟩:=S.facts;refine ⟨.tuple #[.agg #[vI 0,vI 0],vI k],by simp [results,results131,go_sem,F,J,H],?_⟩;rw [I.o];exact ⟨rfl,S.2.2⟩
 refine zF rfl (λK hK=>?_) ?_
 . go_simp;refine (Z70 _).mono ?_;rintro e m ⟨r,rfl,j,y,U⟩;have M:=L3.on U;have T:=zh (R3.o.on U);have q:=zh j;obtain ⟨x0,L,x2,v0,v1,v2,v3,_⟩:=bb.o _ M;clear j U y;refine hK _ _ ?_;clear hK K;refine wpAny_ready (rs:=[0,3]) (by kernel_rfl) (by simp) ?_;refine zF rfl (λK hK=>?_) ?_
   . go_simp;refine hK _ _ ?_;clear hK K;refine wpAny_ready (rs:=[2,3]) (by kernel_rfl) (by simp) ?_;refine zF rfl (λK hK=>?_) ?_
     . go_simp;refine hK _ _ ?_;clear hK K;refine wpAny_ready (rs:=[3]) (by kernel_rfl) (by simp) ?_;refine zF rfl (λK hK=>?_) AllReady.nil;go_simp;refine hK _ _ ?_;clear hK K;refine wpAny_ready (rs:=[4]) (by kernel_rfl) (by simp) ?_;refine zF rfl (λK hK=>?_) AllReady.nil;go_simp;refine (ba.o m (slice A (flen l) c) w.heap.size r (HKP.o _ M.b) M.b.size q.o).mono ?_;intro e w5 N;obtain ⟨G,⟨L,O,C,rfl⟩ | ⟨k,C,rfl⟩⟩:=N.parts
       . have I:=zh C;have D:=T.o.on G;obtain ⟨f1,f2,f3,f4,f5,f6⟩:=D.facts;have R:=zh ((D.setR L O).setE 0);clear D C G N;refine hK _ _ ?_;clear hK K;refine wpAny_ready (rs:=[5]) (by kernel_rfl) (by simp) ?_;refine zF rfl (λK hK=>?_) AllReady.nil;go_simp;refine hK _ _ ?_;clear hK K;refine wpAny_ready (rs:=[6]) (by kernel_rfl) (by simp) ?_;refine zF rfl (λK hK=>?_) AllReady.nil;go_simp;refine hK _ _ ?_;clear hK K;refine wpAny_done (by kernel_rfl) ?_ _;go_wp2_with fail;refine leaves_cons (f:=175) (args:=#[.pointer (some ⟨w.heap.size+1+1,0,none⟩),.pointer (some ⟨w.heap.size+1+1+1,0,none⟩)]) (by simp) (by simp [go_sem]) ?_;refine (Z1a _ _ _).mono ?_;rintro Z Y g ⟨rfl,rfl,rfl⟩;obtain ⟨F,J,H,_⟩:=R.o.facts;refine ⟨.tuple #[.agg #[vI L,vI O],vI 0],by simp [results,results131,go_sem,F,J,H],?_⟩;rw [I.o];exact ⟨rfl,R.o.2.2⟩
       . have D:=T.o.on G;have I:=zh C;clear C;refine leaves_cons (f:=175) (args:=#[.pointer (some ⟨w.heap.size+1+1,0,none⟩),.pointer (some ⟨w.heap.size+1+1+1,0,none⟩)]) (by simp) (by simp [go_sem]) ?_;refine (Z0m w w5 0 0 0 k D).mono ?_;rintro Z Y g ⟨rfl,rfl,S⟩;obtain ⟨F,J,H,_⟩:=S.facts;refine ⟨.tuple #[.agg #[vI 0,vI 0],vI k],by simp [results,results131,go_sem,F,J,H],?_⟩;rw [I.o];exact ⟨rfl,S.2.2⟩
     refine zF rfl (λK hK=>?_) AllReady.nil;go_simp;refine hK _ _ ?_;clear hK K;refine wpAny_ready (rs:=[2]) (by kernel_rfl) (by simp) ?_;refine zF rfl (λK hK=>?_) AllReady.nil;go_simp;refine hK _ _ ?_;clear hK K;refine wpAny_ready (rs:=[4]) (by kernel_rfl) (by simp) ?_;refine zF rfl (λK hK=>?_) AllReady.nil;go_simp;refine (ba.o m (slice A (flen l) c) w.heap.size r (HKP.o _ M.b) M.b.size q.o).mono ?_;intro e w5 N;obtain ⟨G,⟨L,O,C,rfl⟩ | ⟨k,C,rfl⟩⟩:=N.parts
     . have I:=zh C;have D:=T.o.on G;obtain ⟨f1,f2,f3,f4,f5,f6⟩:=D.facts;have R:=zh ((D.setR L O).setE 0);clear D C G N;refine hK _ _ ?_;clear hK K;refine wpAny_ready (rs:=[5]) (by kernel_rfl) (by simp) ?_;refine zF rfl (λK hK=>?_) AllReady.nil;go_simp;refine hK _ _ ?_;clear hK K;refine wpAny_ready (rs:=[6]) (by kernel_rfl) (by simp) ?_;refine zF rfl (λK hK=>?_) AllReady.nil;go_simp;refine hK _ _ ?_;clear hK K;refine wpAny_done (by kernel_rfl) ?_ _;go_wp2_with fail;refine leaves_cons (f:=175) (args:=#[.pointer (some ⟨w.heap.size+1+1,0,none⟩),.pointer (some ⟨w.heap.size+1+1+1,0,none⟩)]) (by simp) (by simp [go_sem]) ?_;refine (Z1a _ _ _).mono ?_;rintro Z Y g ⟨rfl,rfl,rfl⟩;obtain ⟨F,J,H,_⟩:=R.o.facts;refine ⟨.tuple #[.agg #[vI L,vI O],vI 0],by simp [results,results131,go_sem,F,J,H],?_⟩;rw [I.o];exact ⟨rfl,R.o.2.2⟩
     . have D:=T.o.on G;have I:=zh C;clear C;refine leaves_cons (f:=175) (args:=#[.pointer (some ⟨w.heap.size+1+1,0,none⟩),.pointer (some ⟨w.heap.size+1+1+1,0,none⟩)]) (by simp) (by simp [go_sem]) ?_;refine (Z0m w w5 0 0 0 k D).mono ?_;rintro Z Y g ⟨rfl,rfl,S⟩;obtain ⟨F,J,H,_⟩:=S.facts;refine ⟨.tuple #[.agg #[vI 0,vI 0],vI k],by simp [results,results131,go_sem,F,J,H],?_⟩;rw [I.o];exact ⟨rfl,S.2.2⟩
   refine zF rfl (λK hK=>?_) AllReady.nil;go_simp;refine hK _ _ ?_;clear hK K;refine wpAny_ready (rs:=[0]) (by kernel_rfl) (by simp) ?_;refine zF rfl (λK hK=>?_) AllReady.nil;go_simp;refine hK _ _ ?_;clear hK K;refine wpAny_ready (rs:=[2]) (by kernel_rfl) (by simp) ?_;refine zF rfl (λK hK=>?_) AllReady.nil;go_simp;refine hK _ _ ?_;clear hK K;refine wpAny_ready (rs:=[4]) (by kernel_rfl) (by simp) ?_;refine zF rfl (λK hK=>?_) AllReady.nil;go_simp;refine (ba.o m (slice A (flen l) c) w.heap.size r (HKP.o _ M.b) M.b.size q.o).mono ?_;intro e w5 N;obtain ⟨G,⟨L,O,C,rfl⟩ | ⟨k,C,rfl⟩⟩:=N.parts
   . have I:=zh C;have D:=T.o.on G;obtain ⟨f1,f2,f3,f4,f5,f6⟩:=D.facts;have R:=zh ((D.setR L O).setE 0);clear D C G N;refine hK _ _ ?_;clear hK K;refine wpAny_ready (rs:=[5]) (by kernel_rfl) (by simp) ?_;refine zF rfl (λK hK=>?_) AllReady.nil;go_simp;refine hK _ _ ?_;clear hK K;refine wpAny_ready (rs:=[6]) (by kernel_rfl) (by simp) ?_;refine zF rfl (λK hK=>?_) AllReady.nil;go_simp;refine hK _ _ ?_;clear hK K;refine wpAny_done (by kernel_rfl) ?_ _;go_wp2_with fail;refine leaves_cons (f:=175) (args:=#[.pointer (some ⟨w.heap.size+1+1,0,none⟩),.pointer (some ⟨w.heap.size+1+1+1,0,none⟩)]) (by simp) (by simp [go_sem]) ?_;refine (Z1a _ _ _).mono ?_;rintro Z Y g ⟨rfl,rfl,rfl⟩;obtain ⟨F,J,H,_⟩:=R.o.facts;refine ⟨.tuple #[.agg #[vI L,vI O],vI 0],by simp [results,results131,go_sem,F,J,H],?_⟩;rw [I.o];exact ⟨rfl,R.o.2.2⟩
   . have D:=T.o.on G;have I:=zh C;clear C;refine leaves_cons (f:=175) (args:=#[.pointer (some ⟨w.heap.size+1+1,0,none⟩),.pointer (some ⟨w.heap.size+1+1+1,0,none⟩)]) (by simp) (by simp [go_sem]) ?_;refine (Z0m w w5 0 0 0 k D).mono ?_;rintro Z Y g ⟨rfl,rfl,S⟩;obtain ⟨F,J,H,_⟩:=S.facts;refine ⟨.tuple #[.agg #[vI 0,vI 0],vI k],by simp [results,results131,go_sem,F,J,H],?_⟩;rw [I.o];exact ⟨rfl,S.2.2⟩
 refine zF rfl (λK hK=>?_) AllReady.nil;go_simp;refine hK _ _ ?_;clear hK K;refine wpAny_ready (rs:=[0,1]) (by kernel_rfl) (by simp) ?_;refine zF rfl (λK hK=>?_) ?_
 . go_simp;refine hK _ _ ?_;clear hK K;refine wpAny_ready (rs:=[1]) (by kernel_rfl) (by simp) ?_;refine zF rfl (λK hK=>?_) AllReady.nil;go_simp;refine (Z70 _).mono ?_;rintro e m ⟨r,rfl,j,y,U⟩;have M:=L3.on U;have T:=zh (R3.o.on U);have q:=zh j;obtain ⟨x0,L,x2,v0,v1,v2,v3,_⟩:=bb.o _ M;clear j U y;refine hK _ _ ?_;clear hK K;refine wpAny_ready (rs:=[2]) (by kernel_rfl) (by simp) ?_;refine zF rfl (λK hK=>?_) AllReady.nil;go_simp;refine hK _ _ ?_;clear hK K;refine wpAny_ready (rs:=[4]) (by kernel_rfl) (by simp) ?_;refine zF rfl (λK hK=>?_) AllReady.nil;go_simp;refine (ba.o m (slice A (flen l) c) w.heap.size r (HKP.o _ M.b) M.b.size q.o).mono ?_;intro e w5 N;obtain ⟨G,⟨L,O,C,rfl⟩ | ⟨k,C,rfl⟩⟩:=N.parts
   . have I:=zh C;have D:=T.o.on G;obtain ⟨f1,f2,f3,f4,f5,f6⟩:=D.facts;have R:=zh ((D.setR L O).setE 0);clear D C G N;refine hK _ _ ?_;clear hK K;refine wpAny_ready (rs:=[5]) (by kernel_rfl) (by simp) ?_;refine zF rfl (λK hK=>?_) AllReady.nil;go_simp;refine hK _ _ ?_;clear hK K;refine wpAny_ready (rs:=[6]) (by kernel_rfl) (by simp) ?_;refine zF rfl (λK hK=>?_) AllReady.nil;go_simp;refine hK _ _ ?_;clear hK K;refine wpAny_done (by kernel_rfl) ?_ _;go_wp2_with fail;refine leaves_cons (f:=175) (args:=#[.pointer (some ⟨w.heap.size+1+1,0,none⟩),.pointer (some ⟨w.heap.size+1+1+1,0,none⟩)]) (by simp) (by simp [go_sem]) ?_;refine (Z1a _ _ _).mono ?_;rintro Z Y g ⟨rfl,rfl,rfl⟩;obtain ⟨F,J,H,_⟩:=R.o.facts;refine ⟨.tuple #[.agg #[vI L,vI O],vI 0],by simp [results,results131,go_sem,F,J,H],?_⟩;rw [I.o];exact ⟨rfl,R.o.2.2⟩
   . have D:=T.o.on G;have I:=zh C;clear C;refine leaves_cons (f:=175) (args:=#[.pointer (some ⟨w.heap.size+1+1,0,none⟩),.pointer (some ⟨w.heap.size+1+1+1,0,none⟩)]) (by simp) (by simp [go_sem]) ?_;refine (Z0m w w5 0 0 0 k D).mono ?_;rintro Z Y g ⟨rfl,rfl,S⟩;obtain ⟨F,J,H,_⟩:=S.facts;refine ⟨.tuple #[.agg #[vI 0,vI 0],vI k],by simp [results,results131,go_sem,F,J,H],?_⟩;rw [I.o];exact ⟨rfl,S.2.2⟩
 refine zF rfl (λK hK=>?_) AllReady.nil;go_simp;refine (Z70 _).mono ?_;rintro e m ⟨r,rfl,j,y,U⟩;have M:=L3.on U;have T:=zh (R3.o.on U);have q:=zh j;obtain ⟨x0,L,x2,v0,v1,v2,v3,_⟩:=bb.o _ M;clear j U y;refine hK _ _ ?_;clear hK K;refine wpAny_ready (rs:=[0]) (by kernel_rfl) (by simp) ?_;refine zF rfl (λK hK=>?_) AllReady.nil;go_simp;refine hK _ _ ?_;clear hK K;refine wpAny_ready (rs:=[2]) (by kernel_rfl) (by simp) ?_;refine zF rfl (λK hK=>?_) AllReady.nil;go_simp;refine hK _ _ ?_;clear hK K;refine wpAny_ready (rs:=[4]) (by kernel_rfl) (by simp) ?_;refine zF rfl (λK hK=>?_) AllReady.nil;go_simp;refine (ba.o m (slice A (flen l) c) w.heap.size r (HKP.o _ M.b) M.b.size q.o).mono ?_;intro e w5 N;obtain ⟨G,⟨L,O,C,rfl⟩ | ⟨k,C,rfl⟩⟩:=N.parts
 . have I:=zh C;have D:=T.o.on G;obtain ⟨f1,f2,f3,f4,f5,f6⟩:=D.facts;have R:=zh ((D.setR L O).setE 0);clear D C G N;refine hK _ _ ?_;clear hK K;refine wpAny_ready (rs:=[5]) (by kernel_rfl) (by simp) ?_;refine zF rfl (λK hK=>?_) AllReady.nil;go_simp;refine hK _ _ ?_;clear hK K;refine wpAny_ready (rs:=[6]) (by kernel_rfl) (by simp) ?_;refine zF rfl (λK hK=>?_) AllReady.nil;go_simp;refine hK _ _ ?_;clear hK K;refine wpAny_done (by kernel_rfl) ?_ _;go_wp2_with fail;refine leaves_cons (f:=175) (args:=#[.pointer (some ⟨w.heap.size+1+1,0,none⟩),.pointer (some ⟨w.heap.size+1+1+1,0,none⟩)]) (by simp) (by simp [go_sem]) ?_;refine (Z1a _ _ _).mono ?_;rintro Z Y g ⟨rfl,rfl,rfl⟩;obtain ⟨F,J,H,_⟩:=R.o.facts;refine ⟨.tuple #[.agg #[vI L,vI O],vI 0],by simp [results,results131,go_sem,F,J,H],?_⟩;rw [I.o];exact ⟨rfl,R.o.2.2⟩
 . have D:=T.o.on G;have I:=zh C;clear C;refine leaves_cons (f:=175) (args:=#[.pointer (some ⟨w.heap.size+1+1,0,none⟩),.pointer (some ⟨w.heap.size+1+1+1,0,none⟩)]) (by simp) (by simp [go_sem]) ?_;refine (Z0m w w5 0 0 0 k D).mono ?_;rintro Z Y g ⟨rfl,rfl,S⟩;obtain ⟨F,J,H,_⟩:=S.facts;refine ⟨.tuple #[.agg #[vI 0,vI 0],vI k],by simp [results,results131,go_sem,F,J,H],?_⟩;rw [I.o];exact ⟨rfl,S.2.2⟩
end
section
open Go.RowKit Lx Px Qx
theorem ZfC (n:Int):bits .and .i64 n 1=n % 2:=by
 have B:(BitVec.ofInt 64 1).toNat=2 ^ 1 - 1:=by decide
 have key:(BitVec.ofInt 64 n &&& BitVec.ofInt 64 1).toNat=(n % ((2 ^ 64:Nat):Int)).toNat % 2 ^ 1:=by rw [BitVec.toNat_and,BitVec.toNat_ofInt,B,Nat.and_two_pow_sub_one_eq_mod]
 show IntKind.i64.wrap ((BitVec.ofInt 64 n &&& BitVec.ofInt 64 1).toNat:Nat)=n % 2;rw [key,IntKind.wrap_i64];omega
namespace Qx
theorem ZfD (n d:Int)(J:1<=d):(if n<n.tdiv d*d then n.tdiv d - 1 else n.tdiv d)=n / d:=by
 have I:=Int.emod_nonneg n (show d≠0 by omega);have H:=Int.emod_lt_of_pos n (show 0<d by omega);have O:=Int.mul_ediv_add_emod n d;rcases Int.lt_or_le n 0 with h | h
 . obtain ⟨m,rfl⟩:∃ m,n = -m:=⟨-n,by omega⟩
   have C:(-m).tdiv d = -(m / d):=by rw [Int.neg_tdiv,Int.tdiv_eq_ediv_of_nonneg (by omega)]
   have N:=Int.emod_nonneg m (show d≠0 by omega);have L:=Int.emod_lt_of_pos m (show 0<d by omega);have M:=Int.mul_ediv_add_emod m d;rw [C];generalize m / d=e at *
   generalize m % d=r at *
   generalize (-m) / d=f at *
   generalize (-m) % d=s at *
   have hk:d*(f+e) = -(r+s):=by rw [Int.mul_add];omega
   have D:f+e=0\/f+e = -1:=by
    generalize f+e=k at *
    rcases Int.lt_or_le 0 k with B | B
    . have:=Int.mul_le_mul_of_nonneg_left (show (1:Int)<=k by omega) (show 0<=d by omega);omega
    . rcases Int.lt_or_le k (-1) with F | F
      . have:=Int.mul_le_mul_of_nonneg_left (show k <= -2 by omega) (show 0<=d by omega);omega
      . omega
   have G : -e*d = -(d*e):=by rw [Int.neg_mul,Int.mul_comm]
   rw [G];rcases D with B | B
   . rw [B] at hk;rw [zf (by omega)];omega
   . rw [B] at hk;rw [zp (by omega)];omega
 . have C:n.tdiv d=n / d:=Int.tdiv_eq_ediv_of_nonneg h;rw [C,zf];rw [Int.mul_comm];omega
theorem Zkh (n d:Int)(F:1<=d):(0<=n->0<=n.tdiv d*d/\n.tdiv d*d<=n)/\(n<=0->n<=n.tdiv d*d/\n.tdiv d*d<=0):=by
 have H:=Int.mul_tdiv_add_tmod n d;have G:d*n.tdiv d=n.tdiv d*d:=Int.mul_comm _ _;constructor
 . intro h;have D:=Int.tmod_nonneg d h;have B:0<=n.tdiv d:=Int.tdiv_nonneg h (by omega);have C:=Int.mul_nonneg B (show 0<=d by omega);omega
 . intro h;have D:n.tmod d<=0:=by have:=Int.tmod_nonneg d (show 0 <= -n by omega);rw [Int.neg_tmod] at this;omega
   have B:n.tdiv d<=0:=by have:=Int.tdiv_nonneg (show 0 <= -n by omega) (show 0<=d by omega);rw [Int.neg_tdiv] at this;omega
   have C:=Int.mul_le_mul_of_nonneg_right B (show 0<=d by omega);omega
def upB (b r d:Int):Bool:=decide (d<2*r) || decide (2*r=d)&&decide (b % 2=1)
theorem ZrC (n d:Int):rndE n d=if upB (n / d) (n % d) d then n / d+1 else n / d:=by
 unfold rndE upB;congr 1;simp
end Qx
theorem Zpq (b r d:Int)(w:World)(J:0<=r)(L:r<=1000000):Calls prog 181 #[vI b,vI r,vI d] w λe w'=>e=.returned (.bool (upB b r d))/\w=w':=by
 have hb:=ZfC b;unfold upB;by_cases c1:d<2*r
 . have B:decide (d<2*r)=true:=by simpa using c1
   have H:decide (2*r > d)=true:=by simpa using c1
   rw [B];clear hb;go_enter func181,ntmps181;go_wp2_with fail;go_ret;exact ⟨rfl,rfl⟩
 . have B:decide (d<2*r)=false:=by simpa using c1
   have H:decide (2*r > d)=false:=by simpa using c1
   rw [B];by_cases c2:2*r=d
   . have I:(2*r==d)=true:=by simpa using c2
     have C:decide (2*r=d)=true:=by simpa using c2
     obtain ⟨F,G⟩:∃ x,(b % 2==1)=x:=⟨_,rfl⟩
     have D:decide (b % 2=1)=F:=by rw [<- G];rfl
     rw [C,D];clear D c2;cases F
     all_goals go_enter func181,ntmps181;go_wp2_with fail;go_ret;exact ⟨rfl,rfl⟩
   . have I:(2*r==d)=false:=by simpa using c2
     have C:decide (2*r=d)=false:=by simpa using c2
     rw [C];clear hb;go_enter func181,ntmps181;go_wp2_with fail;go_ret;exact ⟨rfl,rfl⟩
def Zec:Value:=.agg #[.func (.func 181) #[] #[]]
theorem Za6 (n d:Int)(w:World)(Z : -4000000000000000000<=n)(g:n<=4000000000000000000)(L:1<=d)(l:d<=1000000) : Calls prog 135 #[.agg #[vI n,vI d],Zec] w λe w'=>e=.returned (vI (rndE n d))/\Below w.heap.size w w':=by
 have D:=ZfD n d L;obtain ⟨I,G⟩:=Zkh n d L;have N:=Int.emod_nonneg n (show d≠0 by omega);have j:=Int.emod_lt_of_pos n (show 0<d by omega);have F:=Int.mul_ediv_add_emod n d;have m:n - n / d*d=n % d:=by rw [Int.mul_comm];omega
 have B:=λW=>Zpq (n / d) (n % d) d W N (by omega);have hb:Below w.heap.size w ((w.alloc (.cells #[vI n,vI d] 196)).alloc (.cells #[.func (.func 181) #[] #[]] 191)) := ((zr w.heap.size w).alloc (zn _) _).alloc (by simp) _;have R : -4000000000000000000<=n.tdiv d*d/\n.tdiv d*d<=4000000000000000000:=by
  rcases Int.le_total 0 n with h | h
  . have:=I h;omega
  . have:=G h;omega
 have M:(-4000000000000000000<=n.tdiv d/\n.tdiv d<=4000000000000000000):=by have t1:=Int.natAbs_tdiv_le_natAbs n d;omega
 have X : -4000000000000000001<=n / d/\n / d<=4000000000000000000:=by rw [<- D];split <;> omega
 have r : -4000000000001000001<=n / d*d/\n / d*d<=4000000000000000000:=by omega
 have Y:(d==0)=false:=by have:d≠0:=(by omega);simpa using this
 rw [ZrC];obtain ⟨u,C⟩:∃ u,upB (n / d) (n % d) d=u:=⟨_,rfl⟩
 rw [C] at B |-
 unfold Zec;obtain ⟨q,S⟩:∃ q,n.tdiv d=q:=⟨_,rfl⟩
 rw [S] at D R M;by_cases c:n<q*d
 . have T:decide (q*d > n)=true:=by simpa using c
   rw [zp c] at D;generalize n / d=f at *
   generalize n % d=V at *
   obtain ⟨H,J,O,U⟩:=zh4 B hb F C;clear B hb F C I G c;cases u
   all_goals go_enter func135,ntmps135;go_wp2_with fail;refine (H.o _).mono ?_;rintro e w' ⟨rfl,rfl⟩;go_wp2_with fail;go_ret;exact ⟨rfl,J.o⟩
 . have T:decide (q*d > n)=false:=by simpa using c
   rw [zf c] at D;generalize n / d=f at *
   generalize n % d=V at *
   subst D;obtain ⟨H,J,O,U⟩:=zh4 B hb F C;clear B hb F C I G c;cases u
   all_goals go_enter func135,ntmps135;go_wp2_with fail;refine (H.o _).mono ?_;rintro e w' ⟨rfl,rfl⟩;go_wp2_with fail;go_ret;exact ⟨rfl,J.o⟩
theorem Z97 {P:Program}{t k e:TypeId}(F:P.underlying t=some (.map k e))(hk:P.underlying k=some (.int .i64)){w:World}{r:Nat}{L L2:List (Int × Value)}{op:Int}{V:Value}(h:Z3b w r (L++(op,V)::L2))(B:∀ p∈L,p.1≠op) : (Instr.lookup t (.map (some r)) (vI op) true).run P w=.ok (.tuple #[V,.bool true]) w:=by
 have D:w.heap[r]?=some (.map (esOf (L++(op,V)::L2) 0).toArray (L++(op,V)::L2).length):=h;have C:=Z7f op V L L2 0 0 B;have G:(Instr.checkKey (esOf (L++(op,V)::L2) 0).toArray.isEmpty (9999+1) k (vI op)).run P w=.ok () w:=Go.MapKept.run_checkKey hk (by simp [MapKept.IsKey]) _ 9999;simp only [Instr.lookup,Instr.findKey,Sem.run_bind,Sem.run_pure,zy F,zy hk,Go.MapKept.run_getObj_map D,G,C,Result.andThen_ok];rfl
theorem Z7H (w:World):Calls prog 134 #[] w λe w'=>∃ r V1 V2,e=.returned (.map (some r))/\Z3b w' r [(1,V1),(2,V2),(3,Zec)]/\Below w.heap.size w w':=by
 have U:=@run_makeMap prog;have I:=Z3b.new w;have J:Below w.heap.size w (w.alloc (.map #[] 0)):=(zr _ _).alloc (zn _) _;have M:w.heap.size<(w.alloc (.map #[] 0)).heap.size:=by simp
 go_enter func134,ntmps134;go_wp2_with fail;generalize w.alloc (.map #[] 0)=Y at *
 clear U;refine Z0d underlying193 underlying3 I (by simp) ?_;intro S D C;have G:=J.trans (Z08 C (zl M) (zn _));have O:w.heap.size<S.heap.size:=by have:=C.size;omega
 simp only [zn2] at D;clear I J M C;go_wp2_with fail;refine Z0d underlying193 underlying3 D (by simp) ?_;intro T B F;have R:=G.trans (Z08 F (zl O) (zn _));have H:w.heap.size<T.heap.size:=by have:=F.size;omega
 simp only [zn2,zc2] at B;clear D G O F;go_wp2_with fail;refine Z0d underlying193 underlying3 B (by simp) ?_;intro X N L;have V:=R.trans (Z08 L (zl H) (zn _));simp only [zn2,zc2] at N;clear B R H L;go_wp2_with fail;go_ret;exact ⟨_,_,_,rfl,N,V⟩
theorem Zhz (n d:Int)(w:World)(H:ratB n d=true):Calls prog 133 #[.agg #[vI n,vI d],vI 3] w λe w'=>e=.returned (.tuple #[vI (rndE n d),vI 0])/\Below w.heap.size w w':=by
 obtain ⟨r1,y,r3,r4,_⟩:=Z11 H;have O:=RatB.new w n d;have M:=λW=>Z19 n d W;have J:=λW=>Za6 n d W (by omega) (by omega) r1 y;rw [H] at M;have g:Below w.heap.size w (w.alloc (.cells #[vI n,vI d] 76)):=(zr w.heap.size w).alloc (zn _) _;generalize rndE n d=z at *
 unfold Zec at J;obtain ⟨q,HF,R,l⟩:=zh4 M J O g;clear M J O g H;go_enter func133,ntmps133;go_wp2_with fail;refine (Z7H _).mono ?_;rintro e B ⟨r,m,V2,rfl,Y,N⟩;have j:=Z97 underlying193 underlying3 (L:=[(1,m),(2,V2)]) (L2:=[]) Y (by simp);have f:=R.o.on N;have U:=Z00 l.o N;have I:=(zr B.heap.size B).alloc (zn _) (.cells #[.func (.func 181) #[] #[]] 191);have D:=f.on I;have V:(B.alloc (.cells #[.func (.func 181) #[] #[]] 191)).heap[B.heap.size]?=some (.cells #[.func (.func 181) #[] #[]] 191 (0,0)):=za _ _;have c0:=D.c0;have c1:=D.c1;have Z:=zh D;have S:=zh (Z00 U I);have G:=zh V;clear D V Y N f U I R l;unfold Zec at j;go_wp2_with fail;refine (q.o _).mono ?_;rintro e w3 ⟨rfl,C⟩;have F:=Z.o.on C;have n0:=Z0u ((C.block _ (zF2.1 G.o).1).trans G.o);clear c0 c1;have c0:=F.c0;have c1:=F.c1;have T:=zh (Z00 S.o C);clear F C Z S G j;go_wp2_with fail;refine (HF.o _).mono ?_;rintro e w4 ⟨rfl,X⟩;have A:=zh (Z00 T.o X);clear X T;go_wp2_with fail;go_ret2;exact ⟨rfl,A.o⟩
theorem Zki (z:Int)(h:0<=z):(z.natAbs:Int)=z:=by omega
theorem Zkj (m n d:Int)(w:World)(j:0<=m)(bb:m<=1000000000)(J:ratB n d=true)(ba:0<=n)(bd:n<=d):Calls prog 95 #[vI m,.agg #[vI n,vI d],vI 3] w λe w'=>e=.returned (.tuple #[vI (rndE (m*n) d),vI 0])/\Below w.heap.size w w':=by
 obtain ⟨r1,Z,r3,r4,_⟩:=Z11 J;have S:=RatB.new w n d;have O:=λW=>Z19 n d W;have bc:0<=m*n:=Int.mul_nonneg j ba;have H:m*n<=m*d:=Int.mul_le_mul_of_nonneg_left bd j;have T:m*d<=1000000000*1000000:=Int.mul_le_mul bb Z (by omega) (by omega);have bm:m*n<=1000000000000000:=by omega
 obtain ⟨z0,z1⟩:=Z7u (n:=m*n) (d:=d) (m:=m) r1 bc H;have N:=λW=>Za6 (m*n) d W (by omega) (by omega) r1 Z;have F:=λW=>Z6z (rndE (m*n) d) W (by omega) (by omega);rw [J] at O;have A:Below w.heap.size w (w.alloc (.cells #[vI n,vI d] 76)):=(zr w.heap.size w).alloc (zn _) _;generalize rndE (m*n) d=z at *
 rw [Zki z z0] at F;have dz:decide (z > 1000000000)=false:=by simp;omega
 have bj:decide ((1000000000:Int)<z)=false:=by simp;omega
 have bf:decide (m < -1000000000)=false:=by simp;omega
 have bk:decide (m > 1000000000)=false:=by simp;omega
 have bg:decide ((1000000000:Int)<m)=false:=by simp;omega
 unfold Zec at N;obtain ⟨HV,HF,U,HA,HS,be,bh⟩:=zh7 O N S A F H T;clear O N S A F H T J;go_enter func95,ntmps95;go_wp2_with fail;refine (Z7H _).mono ?_;rintro e B ⟨r,V1,V2,rfl,l,R⟩;have hlk:=Z97 underlying193 underlying3 (L:=[(1,V1),(2,V2)]) (L2:=[]) l (by simp);have y:=U.o.on R;have Y:=Z00 HA.o R;have M:=(zr B.heap.size B).alloc (zn _) (.cells #[.func (.func 181) #[] #[]] 191);have C:=y.on M;have f:(B.alloc (.cells #[.func (.func 181) #[] #[]] 191)).heap[B.heap.size]?=some (.cells #[.func (.func 181) #[] #[]] 191 (0,0)):=za _ _;have c0:=C.c0;have c1:=C.c1;have q:=zh C;have V:=zh (Z00 Y M);have I:=zh f;clear C f l R y Y M U HA;unfold Zec at hlk;go_wp2_with fail;refine (HV.o _).mono ?_;rintro e w3 ⟨rfl,D⟩;have G:=q.o.on D;have n0:=Z0u ((D.block _ (zF2.1 I.o).1).trans I.o);clear c0 c1;have c0:=G.c0;have c1:=G.c1;have X:=zh (Z00 V.o D);clear G D q V I hlk;go_wp2_with fail;refine (HF.o _).mono ?_;rintro e w4 ⟨rfl,g⟩;have B5:=zh (Z00 X.o g);clear g X;go_wp2_with fail;refine (HS.o _).mono ?_;rintro e w5 ⟨rfl,rfl⟩;go_wp2_with fail;go_ret2;exact ⟨rfl,B5.o⟩
theorem Zpr (l:List Int)(A:Option Addr)(c:Nat)(w:World)(D:l.length<=c):Calls prog 96 #[slice A l.length c] w λe w'=>e=.returned (slice A l.length l.length)/\w=w':=by
 have C:(0:Int)<=l.length:=by omega
 have B:(l.length:Int)<=c:=by omega
 go_enter func96,ntmps96;go_wp2_with fail;go_ret;exact ⟨rfl,rfl⟩
end
section
open Go.RowKit Lx Px Qx
structure ApB (w:World) (R:Array Value) (a:Qx.Ask) (wx:World):Prop where
 r:wx.heap[w.heap.size]?=some (.cells R 81 (0,0))
 a:wx.heap[w.heap.size+1]?=some (.cells #[vI a.kind,vI a.fr,vI a.un,vI a.pers] 25 (0,0))
 b:Below w.heap.size w wx
theorem ApB.on {w B C:World}{R:Array Value}{a:Qx.Ask}(h:ApB w R a B)(hb:Below B.heap.size B C):ApB w R a C := ⟨(hb.block _ (zF2.1 h.r).1).trans h.r,(hb.block _ (zF2.1 h.a).1).trans h.a,Z00 h.b hb⟩
theorem ApB.drew {w B:World}{R:Array Value}{a:Qx.Ask}(h:ApB w R a B):ApB w R a B.drew:=h.on (zr _ _).drew
theorem ApB.alloc {w B:World}{R:Array Value}{a:Qx.Ask}(h:ApB w R a B)(o:Obj):ApB w R a (B.alloc o):=h.on ((zr _ _).alloc (zn _) _)
theorem ApB.set {w B:World}{R:Array Value}{a:Qx.Ask}(h:ApB w R a B){b:Nat}(hb:w.heap.size+2<=b)(o:Nat)(v:Value):ApB w R a (B.setCell ⟨b,o,none⟩ v) := ⟨(zg _ _ _ _ (by show _≠b;omega)).trans h.r,(zg _ _ _ _ (by show _≠b;omega)).trans h.a,h.b.setCell (p:=⟨b,o,none⟩) (by show _<=b;omega) _⟩
theorem ApB.cell {w B:World}{R:Array Value}{a:Qx.Ask}(h:ApB w R a B)(i:Nat)(v:Value)(C:R[i]?=some v):B.cell? ⟨w.heap.size,i,none⟩=some v:=by rw [zH h.r,C]
theorem ApB.lt {w B:World}{R:Array Value}{a:Qx.Ask}(h:ApB w R a B):w.heap.size+1<B.heap.size:=(zF2.1 h.a).1
theorem ApB.asks {w B:World}{R:Array Value}{a:Qx.Ask}(h:ApB w R a B):B.cell? ⟨w.heap.size+1,0,none⟩=some (vI a.kind)/\B.cell? ⟨w.heap.size+1,1,none⟩=some (vI a.fr)/\B.cell? ⟨w.heap.size+1,2,none⟩=some (vI a.un)/\B.cell? ⟨w.heap.size+1,3,none⟩=some (vI a.pers):=by
 refine ⟨?_,?_,?_,?_⟩ <;> (rw [zH h.a];rfl)
theorem Zed (w:World)(R:Array Value)(a:Qx.Ask):ApB w R a ((w.alloc (.cells R 81)).alloc (.cells #[vI a.kind,vI a.fr,vI a.un,vI a.pers] 25)):=by
 refine ⟨?_,?_,((zr _ _).alloc (zn _) _).alloc (by simp) _⟩
 . rw [Below.heap_alloc _ _ _ (by simp)];exact za w _
 . have:=za (w.alloc (.cells R 81)) (.cells #[vI a.kind,vI a.fr,vI a.un,vI a.pers] 25);simpa using this
theorem Z1w {a:Qx.Ask}(h:a.okB=true):0<=a.fr/\a.fr<a.un/\a.un<=366/\a.un - a.fr<=60/\1<=a.kind/\a.kind<=20/\1<=a.pers/\a.pers<=8:=by
 simp only [Ask.okB,zd,decide_eq_true_eq] at h;obtain ⟨⟨⟨⟨⟨⟨⟨D,C⟩,F⟩,B⟩,I⟩,G⟩,H⟩,J⟩:=h;exact ⟨D,C,F,B,I,G,H,J⟩
theorem Z5j {a:Qx.Ask}{n:Int}(B:a.okB=true)(D:a.fr<=n)(N:n<a.un):∀ i,0<=(Z0t a n).at i/\(Z0t a n).at i<=1000:=by
 obtain ⟨G,F,H,C,L,I,J,M⟩:=Z1w B;have:=Z7p n;intro i;unfold Vs.at Z0t;dsimp only
 repeat' split
 all_goals omega
theorem Z3e {r:Rt}(h:Z49 r=true):1<=r.id/\r.id<=1000000/\0<=r.lv/\r.lv<=100/\1<=r.kd/\r.kd<=20/\1<=r.ar/\r.ar<=127/\0<=r.fr/\r.fr<r.un/\r.un<=366/\ratB r.kn r.kq=true/\0<=r.kn/\r.kn<=r.kq/\1<=r.ls/\r.ls<=r.mo/\r.mo<=60:=by
 simp only [Z49,zd,decide_eq_true_eq] at h;obtain ⟨⟨⟨⟨⟨⟨⟨⟨⟨⟨⟨⟨⟨⟨⟨⟨⟨⟨G,D⟩,J⟩,B⟩,O⟩,L⟩,M⟩,S⟩,T⟩,F⟩,H⟩,U⟩,b4⟩,N⟩,C⟩,R⟩,I⟩,V⟩,c1⟩:=h;exact ⟨G,D,J,B,O,L,M,S,T,F,H,U,b4,N,C,R,I⟩
theorem Zkk (r:Rt)(a:Qx.Ask)(B:Int):Z9p r a B=(decide (r.kd=a.kind)&&Z1d B r.fr (r.un - 1)&&Z1d (a.un - a.fr) r.ls r.mo&&bitB r.ar (wday a.fr).toNat):=by
 have h:decide (B<r.un)=decide (B<=r.un - 1):=by rw [zA];simp;omega
 unfold Z9p Z1d;rw [h];simp only [Bool.and_assoc]
theorem ZqB {V:Qx.V}{X:Int}(h:X=match V with | .ok n _=>if n=1 then 1 else 0 | .no e=>-e)(he:∀ e,V=.no e->e=3\/e=22):(vN V==1)=(X==1)/\vE V=(if X<0 then -X else 0):=by
 cases V with
 | ok n d =>
  dsimp only at h;by_cases h1:n=1
  . rw [zp h1] at h;subst h h1;exact ⟨rfl,rfl⟩
  . rw [zf h1] at h;subst h;exact ⟨by simpa [vN] using h1,rfl⟩
 | no e =>dsimp only at h;rcases he e rfl with rfl | rfl <;> (subst h;exact ⟨rfl,rfl⟩)
def apO (x:Int):Value:=.tuple #[.bool (x==1),vI (if x<0 then -x else 0)]
theorem Zee (r:Rt)(wv pv:Value)(a:Qx.Ask)(C:Int)(w:World)(bI:FoV w w.heap.size wv r.wl)(bu:FoV w w.heap.size pv r.pl)(hr:Z17 r=0)(j:a.okB=true)(h0:a.fr<=C)(h1:C<a.un) : Calls prog 174 #[rtV r wv pv,askV a,vI C] w λe w'=>e=.returned (apO (apR r a C))/\Below w.heap.size w w':=by
 obtain ⟨H,J,rfl,hWA⟩:=bI;obtain ⟨f,g,rfl,_⟩:=bu;have A:=Z12 hr;obtain ⟨f1,f2,f3,f4,f5,f6,f7,f8,f9,g1,g2,_,_,_,g6,g7,g8⟩:=Z3e A;obtain ⟨vw,_⟩:=Z2k A;obtain ⟨bc,bs⟩:=Z4q vw;obtain ⟨a1,a2,a3,a4,a5,a6,a7,a8⟩:=Z1w j;have bh:=Z5j j h0 h1;have hvars:=λW=>Zga a C W j h0 h1;simp only [askV] at hvars;have bj:∀ W,Below w.heap.size w W->FoV W w.heap.size (slice H (flen r.wl) J) r.wl:=λW hb=>⟨H,J,rfl,FoAt.keep (λp hp=>hb.cell hp) r.wl H 0 hWA⟩
 have ba:=λW (hb:Below w.heap.size w W)=>Za5 r.wo r.wn r.wl (slice H (flen r.wl) J) (Z0t a C) W ((bj W hb).up hb.size) bc bs bh;have Y:Z9p r a C=false->apR r a C=0:=λh=>by unfold apR;rw [h];rfl
 have Z:Z9p r a C=true->apR r a C=match valE (Z0t a C) (r.wo,r.wn) r.wl with | .ok n _=>if n=1 then 1 else 0 | .no e=>-e:=λh=>by unfold apR;rw [h];rfl
 rw [Zkk] at Y Z;have be:∀ e,valE (Z0t a C) (r.wo,r.wn) r.wl=.no e->e=3\/e=22:=λe h=>Z3B h;have bd:=λW=>Z9g a.fr W (by omega) (by omega);have hd:=Z7p a.fr;have bf:=Zed w #[vI r.id,vI r.lv,vI r.kd,vI r.fr,vI r.un,vI r.ls,vI r.mo,vI r.ar,vI r.kn,vI r.kq,vI r.wo,vI r.wn,slice H (flen r.wl) J,vI r.po,vI r.pn,slice f (flen r.pl) g] a;obtain ⟨R,F⟩:∃ R:Array Value,R=#[vI r.id,vI r.lv,vI r.kd,vI r.fr,vI r.un,vI r.ls,vI r.mo,vI r.ar,vI r.kn,vI r.kq,vI r.wo,vI r.wn,slice H (flen r.wl) J,vI r.po,vI r.pn,slice f (flen r.pl) g]:=⟨_,rfl⟩
 have r2:R[2]?=some (vI r.kd):=by rw [F];rfl
 have r3:R[3]?=some (vI r.fr):=by rw [F];rfl
 have r4:R[4]?=some (vI r.un):=by rw [F];rfl
 have r5:R[5]?=some (vI r.ls):=by rw [F];rfl
 have r6:R[6]?=some (vI r.mo):=by rw [F];rfl
 have r7:R[7]?=some (vI r.ar):=by rw [F];rfl
 have br:R[10]?=some (vI r.wo):=by rw [F];rfl
 have bb:R[11]?=some (vI r.wn):=by rw [F];rfl
 have bm:R[12]?=some (slice H (flen r.wl) J):=by rw [F];rfl
 have bq:=λW=>Z4i C r.fr (r.un - 1) W;have bk:=λW=>Z4i (a.un - a.fr) r.ls r.mo W;generalize Z1d C r.fr (r.un - 1)=s1 at *
 generalize Z1d (a.un - a.fr) r.ls r.mo=s2 at *
 have bn:bitB r.ar (wday a.fr).toNat=decide (r.ar / 2 ^ (wday a.fr).toNat % 2=1):=rfl;rw [bn] at Y Z;have bz:=ZfC (r.ar / 2 ^ (wday a.fr).toNat);have bg:r.ar / 2 ^ (wday a.fr).toNat % 2=0\/r.ar / 2 ^ (wday a.fr).toNat % 2=1:=by omega
 generalize wday a.fr=dd at *
 generalize r.ar / 2 ^ dd.toNat % 2=z at *
 generalize valE (Z0t a C) (r.wo,r.wn) r.wl=V at *
 generalize apR r a C=X at *
 obtain ⟨bE,bH,G,O,bx,bB,bD,bt,bp,bF,bv,bC,bA⟩:=zh13 hvars ba Y Z be bd bq bk bf bg br bb bm;clear hvars ba Y Z be bd bq bk bf bg br bb bm hWA A vw bc bs bh bj bn;dsimp only [rtV,askV];go_enter func174,ntmps174;go_upto_region 1 with fail;generalize (w.alloc (.cells #[vI r.id,vI r.lv,vI r.kd,vI r.fr,vI r.un,vI r.ls,vI r.mo,vI r.ar,vI r.kn,vI r.kq,vI r.wo,vI r.wn,slice H (flen r.wl) J,vI r.po,vI r.pn,slice f (flen r.pl) g] 81)).alloc (.cells #[vI a.kind,vI a.fr,vI a.un,vI a.pers] 25)=W at *
 have D:Hid (ApB w R a W):=by rw [F];exact bp.o
 clear bp F;obtain ⟨m,q,l,d⟩:=D.o.asks;have e2:=D.o.cell 2 _ r2;have e3:=D.o.cell 3 _ r3;have e4:=D.o.cell 4 _ r4;have e5:=D.o.cell 5 _ r5;have e6:=D.o.cell 6 _ r6;have e7:=D.o.cell 7 _ r7;clear r2 r3 r4 r5 r6 r7;go_wp2_with fail;refine (bB.o _).mono ?_;rintro e w' ⟨rfl,rfl⟩;go_wp2_with fail;refine (bD.o _).mono ?_;rintro e w' ⟨rfl,rfl⟩;by_cases hk:r.kd=a.kind
 . have dk:(r.kd != a.kind)=false:=by simpa using hk
   have U:decide (r.kd=a.kind)=true:=by simpa using hk
   rw [U] at G O;clear hk U;cases s1
   . have N:=G.o rfl;subst N;clear G O;go_wp2_with fail;go_ret2;exact ⟨rfl,D.o.b⟩
   . go_wp2_with fail;refine (bt.o _).mono ?_;rintro e w' ⟨rfl,rfl⟩;cases s2
     . have N:=G.o rfl;subst N;clear G O;go_wp2_with fail;go_ret2;exact ⟨rfl,D.o.b⟩
     . rcases bF.o with B | B
       . subst B;have N:=G.o rfl;subst N;clear G O;go_wp2_with fail;go_ret2;exact ⟨rfl,D.o.b⟩
       . subst B;have HX:=zh (O.o rfl);clear G O;go_upto_region 5 with fail;clear e2 e3 e4 e5 e6 e7 m q l d bz;have I:Hid (∀ wx,ApB w R a wx->wx.cell? ⟨w.heap.size,10,none⟩=some (vI r.wo)/\wx.cell? ⟨w.heap.size,11,none⟩=some (vI r.wn)/\wx.cell? ⟨w.heap.size,12,none⟩=some (slice H (flen r.wl) J)/\wx.cell? ⟨w.heap.size+1,0,none⟩=some (vI a.kind)/\wx.cell? ⟨w.heap.size+1,1,none⟩=some (vI a.fr)/\wx.cell? ⟨w.heap.size+1,2,none⟩=some (vI a.un)/\wx.cell? ⟨w.heap.size+1,3,none⟩=some (vI a.pers)/\ApB w R a wx):=λwx h=>by obtain ⟨m,q,l,d⟩:=h.asks;exact ⟨h.cell 10 _ bv.o,h.cell 11 _ bC.o,h.cell 12 _ bA.o,m,q,l,d,h⟩
         have bJ:w.heap.size+1<W.heap.size:=D.o.lt;go_region_held3 (λw'=>w'.cell? ⟨w.heap.size,10,none⟩=some (vI r.wo)/\w'.cell? ⟨w.heap.size,11,none⟩=some (vI r.wn)/\w'.cell? ⟨w.heap.size,12,none⟩=some (slice H (flen r.wl) J)/\w'.cell? ⟨w.heap.size+1,0,none⟩=some (vI a.kind)/\w'.cell? ⟨w.heap.size+1,1,none⟩=some (vI a.fr)/\w'.cell? ⟨w.heap.size+1,2,none⟩=some (vI a.un)/\w'.cell? ⟨w.heap.size+1,3,none⟩=some (vI a.pers)/\ApB w R a w') (first | (with_reducible exact I.o _ D.o.drew) | (with_reducible exact I.o _ (D.o.alloc _).drew) | (with_reducible exact I.o _ M) | (with_reducible exact I.o _ S) | (with_reducible exact I.o _ (M.alloc _)) | (with_reducible exact I.o _ (S.alloc _)) | (exact I.o _ ((‹_/\_/\_/\_/\_/\_/\_/\ApB w R a _›).2.2.2.2.2.2.2.alloc _)) | (exact I.o _ ((M.set (b:=W.heap.size) (by omega) 0 _).set (b:=W.heap.size) (by omega) 1 _)) | (exact I.o _ ((M.set (b:=w5.heap.size) (by have:=S.lt;omega) 0 _).set (b:=w5.heap.size) (by have:=S.lt;omega) 1 _)) | fail) (first
           | (go_at_call 132;have L:=(‹_/\_/\_/\_/\_/\_/\_/\ApB w R a _›).2.2.2.2.2.2.2;refine (bE.o _).mono ?_;rintro e w5 ⟨rfl,y⟩;have S:=L.on y;try (have B:=(y.block W.heap.size (by simp [go_sem])).trans (za W (.cells #[vI 0,vI 0] 76));have bG:Hid (RatB w5 W.heap.size 0 0):=B;clear B);clear y L)
           | (go_at_call 131;have L:=(‹_/\_/\_/\_/\_/\_/\_/\ApB w R a _›).2.2.2.2.2.2.2;refine (bH.o _ L.b).mono ?_;rintro e w6 ⟨rfl,T⟩;have M:=L.on T;first | (have B:=bG.o.on T;have z0:=B.c0;have z1:=B.c1;have y0:=B.fr 0;have y1:=B.fr 1;clear B T L) | (have B:RatB w6 w5.heap.size 0 0:=(T.block w5.heap.size (by simp [go_sem])).trans (za w5 (.cells #[vI 0,vI 0] 76));have z0:=B.c0;have z1:=B.c1;have y0:=B.fr 0;have y1:=B.fr 1;clear B T L) | (clear T L)))
         all_goals
          have HO:=zh (ZqB HX.o bx.o);go_wp2_with fail;refine bodyPost_ret (v:=.tuple #[.bool (vN V==1),vI (vE V)]) (by simp [results,results174,go_sem]) rfl ?_;refine ⟨by rw [apO,HO.o.1,HO.o.2],?_⟩
          first
           | exact (M.alloc _).b
           | exact ((M.set (b:=W.heap.size) (by omega) 0 _).set (b:=W.heap.size) (by omega) 1 _).b
           | exact ((M.set (b:=w5.heap.size) (by have:=S.lt;omega) 0 _).set (b:=w5.heap.size) (by have:=S.lt;omega) 1 _).b
 . have dk:(r.kd != a.kind)=true:=by simpa using hk
   have U:decide (r.kd=a.kind)=false:=by simpa using hk
   rw [U] at G;have N:=G.o rfl;subst N;clear G O hk U;cases s1
   . go_wp2_with fail;go_ret2;exact ⟨rfl,D.o.b⟩
   . go_wp2_with fail;refine (bt.o _).mono ?_;rintro e w' ⟨rfl,rfl⟩;go_wp2_with fail;go_ret2;exact ⟨rfl,D.o.b⟩
end
section
open Go.RowKit Lx Px Qx Go.Shelf
attribute [local go_sem] Oper.semAt_some
def yOf (a:Qx.Ask)(night:Int)(m:Rm):Option (Rm × Int):=if apR m.r a night=0 then none else some (m,if apR m.r a night<0 then -(apR m.r a night) else 0)
def yl (a:Qx.Ask)(night:Int)(ms:List Rm):List (Rm × Int):=ms.filterMap (yOf a night)
theorem ZrD (a:Qx.Ask)(C:Int)(B:List Rm)(k:Nat)(h:k<B.length):yl a C (B.take (k+1))=yl a C (B.take k)++(yOf a C B[k]).toList:=by
 unfold yl;rw [zT h,List.filterMap_append];cases hy:yOf a C B[k] <;> simp [hy]
theorem yl_pre (a:Qx.Ask)(C:Int)(B:List Rm)(k:Nat):yl a C (B.take k) <+: yl a C B:=by
 unfold yl
 conv=>rhs;rw [<- List.take_append_drop k B]
 rw [List.filterMap_append];exact List.prefix_append _ _
def encT (x:Rm × Int):Array Value:=#[rtV x.1.r x.1.wv x.1.pv,vI x.2]
theorem Zb7 (r:Rt)(a:Qx.Ask)(B:Int):apR r a B=0\/apR r a B=1\/apR r a B<0:=by
 unfold apR;split
 . cases h:valE (Z0t a B) (r.wo,r.wn) r.wl with
   | ok n d=>dsimp only;split;exact .inr (.inl rfl);exact .inl rfl
   | no e=>dsimp only;rcases Z3B h with rfl | rfl <;> omega
 . exact .inl rfl
theorem Zkm (n l B0 lb M Z:Nat)(v:Value)(B:List Rm)(a:Qx.Ask)(C:Int)(hl:B.length<=1000000)(y:∀ m∈B,Z17 m.r=0)(ha:a.okB=true)(bG:a.fr<=C)(bI:C<a.un) (J Jx:List (Rm × Int)->World->Prop) (W:World) (q:ThB B0 lb M Z v B a C W) (hJ:Z9i J) (hY:∀ pre x W1,J pre W1->(pre++[x] <+: yl a C B)->YieldAt Fence.wide (n - 1) prog l (encT x) W1 λe W' =>
  (e=.returned (.bool true)/\J (pre++[x]) W'/\Z26 (Ts B0 lb M Z) W1 W')\/(e=.returned (.bool false)/\Jx (pre++[x]) W')) (h0:J [] W) :
 CallsIn Fence.wide n prog 173 #[.func (.yield l) #[] #[],.pointer (some ⟨lb,0,none⟩),.pointer (some ⟨M,0,none⟩),.pointer (some ⟨Z,0,none⟩)] W λe W' =>
  (∃ v,e=.returned v)/\((∃ xs,xs=yl a C B/\J xs W')\/(∃ pre,(pre <+: yl a C B)/\Jx pre W')):=by
 obtain ⟨A,c,rfl,_⟩:=id q.m;have c0:W.cell? ⟨lb,0,none⟩=some (slice A B.length c):=by rw [zH q.l];rfl
 obtain ⟨HJ,HY,H0,bJ,HF⟩:=zh5 hJ hY h0 q y;clear hJ hY h0 q y;refine callsIn_of_wp func173 rfl trivial ?_ rfl;simp only [ntmps173,List.size_toArray,zw,zx,Nat.reduceAdd,Nat.reduceSub,Array.replicate_succ,Array.replicate_zero,List.push_toArray,List.append_toArray,zn2,zc2];gi_wp2;gi_loopw [11] (λi wr=>∃ k:Nat,k<=B.length/\i=vI k/\J (yl a C (B.take k)) wr/\ThB B0 lb M Z (slice A B.length c) B a C wr) (λi _=>B.length - (intOf i).toNat)
 case atStart=>exact ⟨0,Nat.zero_le _,rfl,H0.o,bJ.o⟩
 case round =>
  obtain ⟨k,hk,rfl,U,R⟩:=hrel;clear c0;by_cases hlt:k<B.length
  . obtain ⟨g,o,rfl,hg,bx,bb,j⟩:=Zmk R.m hlt;have hr:=HF.o _ (List.getElem_mem hlt);have bA:=ZrD a C B k hlt;have bC:=yl_pre a C B (k+1);have bc:=Zb7 B[k].r a C;have bj:yOf a C B[k]=if apR B[k].r a C=0 then none else some (B[k],if apR B[k].r a C<0 then -(apR B[k].r a C) else 0):=rfl;generalize B[k]=m at *
    obtain ⟨r,wv,pv⟩:=m;dsimp only at hr bc bj bb j;have bL:lb<wr.heap.size:=(zF2.1 R.l).1;have bD:B0<=wr.heap.size:=by have:=R.z;omega
    obtain ⟨D,H,rfl,_⟩:=id bb;obtain ⟨F,G,rfl,_⟩:=id j;have HC:=zh (Z5B bx);have dk:decide ((k:Int)<B.length)=true:=by simpa using hlt
    have O:=(zr wr.heap.size wr).alloc (zn _) (.cells #[vI r.id,vI r.lv,vI r.kd,vI r.fr,vI r.un,vI r.ls,vI r.mo,vI r.ar,vI r.kn,vI r.kq,vI r.wo,vI r.wn,slice D (flen r.wl) H,vI r.po,vI r.pn,slice F (flen r.pl) G] 81);have N:=R.on O;have bF:=HJ.o.below _ _ _ U O;have bd:=Zee r (slice D (flen r.wl) H) (slice F (flen r.pl) G) a C _ ((bb.up bD).on O |>.up O.size) ((j.up bD).on O |>.up O.size) hr ha bG bI;have bB:=za wr (.cells #[vI r.id,vI r.lv,vI r.kd,vI r.fr,vI r.un,vI r.ls,vI r.mo,vI r.ar,vI r.kn,vI r.kq,vI r.wo,vI r.wn,slice D (flen r.wl) H,vI r.po,vI r.pn,slice F (flen r.pl) G] 81);have a0:(wr.alloc (.cells #[vI r.id,vI r.lv,vI r.kd,vI r.fr,vI r.un,vI r.ls,vI r.mo,vI r.ar,vI r.kn,vI r.kq,vI r.wo,vI r.wn,slice D (flen r.wl) H,vI r.po,vI r.pn,slice F (flen r.pl) G] 81)).cell? ⟨M,0,none⟩=some (vI a.kind):=by rw [zH N.a];rfl
    have a1:(wr.alloc (.cells #[vI r.id,vI r.lv,vI r.kd,vI r.fr,vI r.un,vI r.ls,vI r.mo,vI r.ar,vI r.kn,vI r.kq,vI r.wo,vI r.wn,slice D (flen r.wl) H,vI r.po,vI r.pn,slice F (flen r.pl) G] 81)).cell? ⟨M,1,none⟩=some (vI a.fr):=by rw [zH N.a];rfl
    have a2:(wr.alloc (.cells #[vI r.id,vI r.lv,vI r.kd,vI r.fr,vI r.un,vI r.ls,vI r.mo,vI r.ar,vI r.kn,vI r.kq,vI r.wo,vI r.wn,slice D (flen r.wl) H,vI r.po,vI r.pn,slice F (flen r.pl) G] 81)).cell? ⟨M,2,none⟩=some (vI a.un):=by rw [zH N.a];rfl
    have a3:(wr.alloc (.cells #[vI r.id,vI r.lv,vI r.kd,vI r.fr,vI r.un,vI r.ls,vI r.mo,vI r.ar,vI r.kn,vI r.kq,vI r.wo,vI r.wn,slice D (flen r.wl) H,vI r.po,vI r.pn,slice F (flen r.pl) G] 81)).cell? ⟨M,3,none⟩=some (vI a.pers):=by rw [zH N.a];rfl
    have n0:(wr.alloc (.cells #[vI r.id,vI r.lv,vI r.kd,vI r.fr,vI r.un,vI r.ls,vI r.mo,vI r.ar,vI r.kn,vI r.kq,vI r.wo,vI r.wn,slice D (flen r.wl) H,vI r.po,vI r.pn,slice F (flen r.pl) G] 81)).cell? ⟨Z,0,none⟩=some (vI C):=by rw [zH N.n];rfl
    dsimp only [rtV,askV] at bd;generalize apR r a C=X at *
    obtain ⟨bu,bt,bE,bg,bv,be,HN3,bH⟩:=zh8 bd N bF bA bC bj bB bc;clear bd N bF bA bC bj bB bc R U O hr bb j bx;gi_wp2_with (first | (with_reducible refine Z34 rfl _ rfl g (o+k*16) rfl _ rfl HC.o ?_) | (with_reducible refine Z1z rfl _ rfl wr.heap.size rfl _ rfl HN3.o ?_) | (with_reducible refine Z2i rfl _ _ rfl _ _ rfl rfl rfl rfl (by rfl) ?_));generalize wr.alloc (.cells #[vI r.id,vI r.lv,vI r.kd,vI r.fr,vI r.un,vI r.ls,vI r.mo,vI r.ar,vI r.kn,vI r.kq,vI r.wo,vI r.wn,slice D (flen r.wl) H,vI r.po,vI r.pn,slice F (flen r.pl) G] 81)=W3 at *
    refine ⟨trivial,(λh=>by cases h),(callsIn_wide.2 bu.o).mono ?_⟩;rintro e w4 ⟨rfl,ba⟩;have bs:=bt.o.on ba;have br:=HJ.o.below _ _ _ bE.o ba;have bh:=(ba.block _ (zF2.1 HN3.o).1).trans HN3.o;have bM:=zF2.1 bh |>.1
    obtain ⟨bn,bk,bz⟩:=zh3 bs br bh;clear bs br bh bt bE HN3 bu ba a0 a1 a2 a3 n0;unfold apO;rcases bH.o with S | S | S
    . subst S;have I:yl a C (B.take (k+1))=yl a C (B.take k):=by rw [bg.o,be.o];simp
      have V:=zh I;clear I;gi_wp2_with fail;refine ⟨λf y=>(by cases y),?_⟩;gi_wp2_with fail;go_roundw
      case rel=>exact ⟨k+1,by omega,by go_num,by rw [V.o];exact bk.o,bn.o⟩
      case measure=>simp [intOf];omega
    . subst S;have I:yl a C (B.take (k+1))=yl a C (B.take k)++[(⟨r,slice D (flen r.wl) H,slice F (flen r.pl) G⟩,0)]:=by rw [bg.o,be.o];simp
      have L:=bv.o;rw [I] at L;obtain ⟨fn,tmps,assign,body,bp,hR⟩:=HY.o _ _ w4 bk.o L;simp only [encT,rtV] at bp;have V:=zh I;have bq:=zh L;clear I L;gi_wp2_with (with_reducible refine Z44 (by kernel_rfl) _ rfl wr.heap.size rfl _ rfl bz.o ?_);refine ⟨(λh=>by cases h),hR.mono ?_⟩;rintro e w5 (⟨rfl,Y,bf⟩ | ⟨rfl,bm⟩)
      . have T:=zh Y;have d:=zh (bn.o.keep bf);clear Y;gi_wp2_with fail;go_roundw
        case rel=>exact ⟨k+1,by omega,by go_num,by rw [V.o];exact T.o,d.o⟩
        case measure=>simp [intOf];omega
      . gi_wp2_with fail;refine bodyPost_ret (results_none rfl _ _ _) rfl ?_;exact ⟨⟨_,rfl⟩,.inr ⟨_,bq.o,bm⟩⟩
    . have d1:(X==1)=false:=by simp;omega
      have d2:(-X != 0)=true:=by simp;omega
      rw [zp S];have I:yl a C (B.take (k+1))=yl a C (B.take k)++[(⟨r,slice D (flen r.wl) H,slice F (flen r.pl) G⟩,-X)]:=by rw [bg.o,be.o];simp [S,show X≠0 by omega]
      have L:=bv.o;rw [I] at L;obtain ⟨fn,tmps,assign,body,bp,hR⟩:=HY.o _ _ w4 bk.o L;simp only [encT,rtV] at bp;have V:=zh I;have bq:=zh L;clear I L;gi_wp2_with (with_reducible refine Z44 (by kernel_rfl) _ rfl wr.heap.size rfl _ rfl bz.o ?_);refine ⟨(λh=>by cases h),hR.mono ?_⟩;rintro e w5 (⟨rfl,Y,bf⟩ | ⟨rfl,bm⟩)
      . have T:=zh Y;have d:=zh (bn.o.keep bf);clear Y;gi_wp2_with fail;go_roundw
        case rel=>exact ⟨k+1,by omega,by go_num,by rw [V.o];exact T.o,d.o⟩
        case measure=>simp [intOf];omega
      . gi_wp2_with fail;refine bodyPost_ret (results_none rfl _ _ _) rfl ?_;exact ⟨⟨_,rfl⟩,.inr ⟨_,bq.o,bm⟩⟩
  . have bK:k=B.length:=by omega
    subst bK;have dk:decide ((B.length:Int)<B.length)=false:=by simp
    rw [List.take_length] at U;have T:=zh U;have d:=zh R;clear U R;gi_wp2;go_end0;exact ⟨⟨_,rfl⟩,.inl ⟨_,rfl,T.o⟩⟩
end
section
open Go.RowKit Lx Px Qx Go.Shelf
attribute [local go_sem] Oper.semAt_some
theorem tab_lt {B:Nat}{w:World}(h:Tabs B w):2<B:=by
 rcases Nat.lt_or_ge 2 B with F | F
 . exact F
 . have C:=h.1 (w.putObj 2 (.deferred none)) ((zr B w).grown (grownBy_putObj' w _ _) h.2.2.1 (λk e=>by cases e;exact F));unfold Lib.TabIs World.var? at C;rw [Tryz.gPow] at C;simp only [Option.bind_some] at C;have D:=h.1.here;unfold Lib.TabIs World.var? at D;rw [Tryz.gPow] at D;simp only [Option.bind_some] at D;by_cases hs:2<w.heap.size
   . rw [World.putObj_heap_same hs] at C;cases C
   . rw [Array.getElem?_eq_none (by omega)] at D;cases D
theorem Zkn {B:Nat}{w w':World}(h:Tabs B w)(hk:∀ b,b<B->w'.heap[b]?=w.heap[b]?)(F:B<=w'.heap.size):Tabs B w':=by
 have D:=tab_lt h;refine ⟨λw'' hb=>?_,h.2.1,F,λk h1 h2=>(World.cell?_of_block (a:=⟨0,k,none⟩) (hk _ h.2.1)).trans (h.2.2.2 k h1 h2)⟩;have C:=h.1.here;unfold Lib.TabIs World.var? at C |-
 rw [Tryz.gPow] at C |-
 simp only [Option.bind_some] at C |-
 rw [hb.block _ D,hk _ D];exact C
structure TxB (B0 lb:Nat) (v:Value) (ms:List Rm) (W:World):Prop where
 l:W.heap[lb]?=some (.cells #[v] 23 (0,0))
 m:RmsV W B0 v ms
 t:Tabs B0 W
 z:B0<=lb
def Tx (B0 lb:Nat):Nat->Prop:=λb=>b<B0\/b=lb
theorem TxB.keep {B lb:Nat}{v:Value}{C:List Rm}{W D:World}(h:TxB B lb v C W)(hk:Z26 (Tx B lb) W D):TxB B lb v C D:=by
 have F:=(hk lb (.inr rfl)).trans h.l;exact ⟨F,h.m.keepS (λb hb=>hk b (.inl hb)),Zkn h.t (λb hb=>hk b (.inl hb)) (by have:=(zF2.1 F).1;have:=h.z;omega),h.z⟩
theorem TxB.ts {B lb:Nat}{v:Value}{C:List Rm}{W:World}(h:TxB B lb v C W):∀ b,Tx B lb b->b<W.heap.size:=by
 rintro b (hb | rfl)
 . have:=h.z;have:=(zF2.1 h.l).1;omega
 . exact (zF2.1 h.l).1
theorem TxB.on {C lb:Nat}{v:Value}{B:List Rm}{W D:World}(h:TxB C lb v B W)(hb:Below W.heap.size W D):TxB C lb v B D:=h.keep (Z26.below hb h.ts)
def encX (x:Bytes × Int):Array Value:=#[.string (mk x.1),vI x.2]
def xl (ms:List Rm):List (Bytes × Int):=ms.map λm=>m.r.res
theorem ZrE (B:List Rm)(k:Nat)(h:k<B.length):xl (B.take (k+1))=xl (B.take k)++[B[k].r.res]:=by
 unfold xl;rw [zT h,List.map_append];rfl
theorem xl_pre (B:List Rm)(k:Nat):xl (B.take k) <+: xl B:=by
 unfold xl;rw [List.map_take];exact List.take_prefix _ _
theorem Zkp (A:Option Addr)(k c:Nat)(w:World):Calls prog 58 #[slice A k c] w λe w' =>
 e=.returned (.func (.func 89) #[] #[.pointer (some ⟨w.heap.size,0,none⟩)])/\w'=w.alloc (.cells #[slice A k c] 23):=by
 have B:∀ (fn:Fn) (first cap:Array Value) (w:World),(Instr.makeFunc fn first cap).run prog w=.ok (.func fn first cap) w:=λ_ _ _ _=>rfl;go_enter func58,ntmps58;go_wp2_with fail;go_ret;exact ⟨rfl,rfl⟩
theorem Zkq (n l F lb:Nat)(v:Value)(B:List Rm)(hl:B.length<=1000000) (J Jx:List (Bytes × Int)->World->Prop) (W:World) (L:TxB F lb v B W) (hJ:Z9i J) (hY:∀ pre x W1,J pre W1->(pre++[x] <+: xl B)->YieldAt Fence.wide (n - 1) prog l (encX x) W1 λe W' =>
  (e=.returned (.bool true)/\J (pre++[x]) W'/\Z26 (Tx F lb) W1 W')\/(e=.returned (.bool false)/\Jx (pre++[x]) W')) (h0:J [] W) :
 CallsIn Fence.wide n prog 89 #[.func (.yield l) #[] #[],.pointer (some ⟨lb,0,none⟩)] W λe W' =>
  (∃ v,e=.returned v)/\((∃ xs,xs=xl B/\J xs W')\/(∃ pre,(pre <+: xl B)/\Jx pre W')):=by
 obtain ⟨A,c,rfl,_⟩:=id L.m;have c0:W.cell? ⟨lb,0,none⟩=some (slice A B.length c):=by rw [zH L.l];rfl
 obtain ⟨f,HY,H0,bk⟩:=zh4 hJ hY h0 L;clear hJ hY h0 L;refine callsIn_of_wp func89 rfl trivial ?_ rfl;simp only [ntmps89,List.size_toArray,zw,zx,Nat.reduceAdd,Nat.reduceSub,Array.replicate_succ,Array.replicate_zero,List.push_toArray,List.append_toArray,zn2,zc2];gi_wp2;gi_loopw [7] (λi wr=>∃ k:Nat,k<=B.length/\i=vI k/\J (xl (B.take k)) wr/\TxB F lb (slice A B.length c) B wr) (λi _=>B.length - (intOf i).toNat)
 case atStart=>exact ⟨0,Nat.zero_le _,rfl,H0.o,bk.o⟩
 case round =>
  obtain ⟨k,hk,rfl,H,C⟩:=hrel;clear c0;by_cases hlt:k<B.length
  . obtain ⟨g,o,rfl,hg,bf,U,N⟩:=Zmk C.m hlt;have O:=ZrE B k hlt;have hpr:=xl_pre B (k+1);generalize B[k]=m at *
    obtain ⟨r,wv,pv⟩:=m;dsimp only at U N O;have bu:lb<wr.heap.size:=(zF2.1 C.l).1;have d:F<=wr.heap.size:=by have:=C.z;omega
    obtain ⟨R,M,rfl,_⟩:=id U;obtain ⟨I,S,rfl,_⟩:=id N;have HC:=zh (Z5B bf);have dk:decide ((k:Int)<B.length)=true:=by simpa using hlt
    have G:=(zr wr.heap.size wr).alloc (zn _) (.cells #[vI r.id,vI r.lv,vI r.kd,vI r.fr,vI r.un,vI r.ls,vI r.mo,vI r.ar,vI r.kn,vI r.kq,vI r.wo,vI r.wn,slice R (flen r.wl) M,vI r.po,vI r.pn,slice I (flen r.pl) S] 81);have Y:=C.on G;have bh:=f.o.below _ _ _ H G;have D:=Zjb r (slice R (flen r.wl) M) (slice I (flen r.pl) S) _ F (U.on (G.mono d)) (N.on (G.mono d)) Y.t;have bg:=za wr (.cells #[vI r.id,vI r.lv,vI r.kd,vI r.fr,vI r.un,vI r.ls,vI r.mo,vI r.ar,vI r.kn,vI r.kq,vI r.wo,vI r.wn,slice R (flen r.wl) M,vI r.po,vI r.pn,slice I (flen r.pl) S] 81);dsimp only [rtV] at D;unfold Z5b at D;obtain ⟨X,hX⟩:∃ X,r.res=X:=⟨_,rfl⟩
    obtain ⟨tx,er⟩:=X;rw [hX] at D O;dsimp only at D;obtain ⟨bc,bb,bd,j,br,be⟩:=zh6 D Y bh O hpr bg;clear D Y bh O hpr bg C H G U N bf hX;gi_wp2_with (first | (with_reducible refine Z34 rfl _ rfl g (o+k*16) rfl _ rfl HC.o ?_) | (with_reducible refine Z1z rfl _ rfl wr.heap.size rfl _ rfl be.o ?_) | (with_reducible refine Z2i rfl _ _ rfl _ _ rfl rfl rfl rfl (by rfl) ?_));generalize wr.alloc (.cells #[vI r.id,vI r.lv,vI r.kd,vI r.fr,vI r.un,vI r.ls,vI r.mo,vI r.ar,vI r.kn,vI r.kq,vI r.wo,vI r.wn,slice R (flen r.wl) M,vI r.po,vI r.pn,slice I (flen r.pl) S] 81)=W3 at *
    refine ⟨trivial,(λh=>by cases h),(callsIn_wide.2 bc.o).mono ?_⟩;rintro e w4 ⟨rfl,Z⟩;have y:=bb.o.on Z;have bj:=f.o.below _ _ _ bd.o Z;have T:=br.o;rw [j.o] at T;obtain ⟨fn,tmps,assign,body,bn,hR⟩:=HY.o _ _ w4 bj T;simp only [encX] at bn;obtain ⟨bp,bq,HR⟩:=zh3 y T hR;clear y T hR bb bd be bc Z;gi_wp2_with fail;refine ⟨(λh=>by cases h),HR.o.mono ?_⟩;rintro e w5 (⟨rfl,q,bt⟩ | ⟨rfl,bs⟩)
    . have V:=zh q;have ba:=zh (bp.o.keep bt);clear q;gi_wp2_with fail;go_roundw
      case rel=>exact ⟨k+1,by omega,by go_num,by rw [j.o];exact V.o,ba.o⟩
      case measure=>simp [intOf];omega
    . gi_wp2_with fail;refine bodyPost_ret (results_none rfl _ _ _) rfl ?_;exact ⟨⟨_,rfl⟩,.inr ⟨_,bq.o,bs⟩⟩
  . have bm:k=B.length:=by omega
    subst bm;have dk:decide ((B.length:Int)<B.length)=false:=by simp
    rw [List.take_length] at H;have V:=zh H;have ba:=zh C;clear H C;gi_wp2;go_end0;exact ⟨⟨_,rfl⟩,.inl ⟨_,rfl,V.o⟩⟩
theorem ZhA (n C lb:Nat)(v:Value)(B:List Rm)(D:B.length<=1000000) : SeqS Fence.wide n prog 89 #[.pointer (some ⟨lb,0,none⟩)] encX (λW=>TxB C lb v B W) (Tx C lb) (λxs=>xs=xl B) (λpre=>pre <+: xl B) := λl J Jx W hok hJ hY h0=>Zkq n l C lb v B D J Jx W hok hJ hY h0
end
section
open Go.RowKit Lx Px Qx
def DigB (w:World)(p d:Nat):Prop:=w.heap[p]?=some (.cells #[.int .u64 (d:Nat)] 27 (0,0))
theorem DigB.lt {w:World}{p d:Nat}(h:DigB w p d):p<w.heap.size:=(zF2.1 h).1
theorem DigB.on {w w':World}{p d:Nat}(h:DigB w p d)(hb:Below w.heap.size w w'):DigB w' p d:=(hb.block p h.lt).trans h
theorem DigB.c {w:World}{p d:Nat}(h:DigB w p d):w.cell? ⟨p,0,none⟩=some (.int .u64 (d:Nat)):=by rw [zH h];rfl
theorem DigB.fr {w:World}{p d:Nat}(h:DigB w p d):w.frozen? ⟨p,0,none⟩=false:=by have B:w.heap[p]?=_:=h;simp [World.frozen?,B]
theorem DigB.set {w:World}{p d:Nat}(h:DigB w p d)(x:Nat):DigB (w.setCell ⟨p,0,none⟩ (.int .u64 (x:Nat))) p x:=by
 have B:w.heap[p]?=_:=h;simp [DigB,World.setCell,zM,B]
def BytX (w:World)(p:Nat)(v:Value)(l:Bytes):Prop := ∃ A c,v=slice A l.length c/\(l≠[]->∃ b o,A=some ⟨b,o,none⟩/\b<w.heap.size/\b≠p/\∀ i (h:i<l.length),w.cell? ⟨b,o+i,none⟩=some (.int .u8 l[i].toNat))
def BytV (w:World)(B:Nat)(v:Value)(l:Bytes):Prop := ∃ A c,v=slice A l.length c/\(l≠[]->∃ b o,A=some ⟨b,o,none⟩/\b<B/\∀ i (h:i<l.length),w.cell? ⟨b,o+i,none⟩=some (.int .u8 l[i].toNat))
theorem BytV.nil (w:World)(B c:Nat):BytV w B (slice none 0 c) []:=⟨none,c,rfl,λh=>absurd rfl h⟩
theorem BytV.on {w w':World}{B:Nat}{v:Value}{l:Bytes}(h:BytV w B v l)(hb:Below B w w'):BytV w' B v l:=by
 obtain ⟨A,c,e,F⟩:=h;refine ⟨A,c,e,λhl=>?_⟩;obtain ⟨b,o,D,C,G⟩:=F hl;exact ⟨b,o,D,C,λi hi=>(hb.cell (p:=⟨b,o+i,none⟩) C).trans (G i hi)⟩
theorem BytV.x {w:World}{B p:Nat}{v:Value}{l:Bytes}(h:BytV w B v l)(G:B<=p)(hw:B<=w.heap.size):BytX w p v l:=by
 obtain ⟨A,c,e,D⟩:=h;refine ⟨A,c,e,λhl=>?_⟩;obtain ⟨b,o,C,H,F⟩:=D hl;exact ⟨b,o,C,by omega,by omega,F⟩
theorem BytX.one (w:World)(p:Nat)(B:p<w.heap.size)(x:UInt8):BytX (w.alloc (.cells #[.int .u8 x.toNat] 5)) p (slice (some ⟨w.heap.size,0,none⟩) 1 1) [x]:=by
 refine ⟨_,1,rfl,λ_=>⟨w.heap.size,0,rfl,by simp,by omega,λi hi=>?_⟩⟩;have:i=0:=by simpa using hi
 subst this;rw [zH (za w _)];rfl
theorem ZrF (d:Nat)(x:UInt8):fnv d [x]=((d ^^^ x.toNat)*1099511628211) % 18446744073709551616:=by unfold fnv;rw [List.foldl_cons,List.foldl_nil]
theorem ZfE (d:Nat)(l:Bytes)(k:Nat)(h:k<l.length):fnv d (l.take (k+1))=((fnv d (l.take k) ^^^ l[k].toNat)*1099511628211) % 18446744073709551616:=by
 rw [zT h,fnv_append,ZrF]
theorem Za7 (p d:Nat)(v:Value)(l:Bytes)(w:World)(H:DigB w p d)(V:d<18446744073709551616)(Y:BytX w p v l)(q:l.length<=1000000000000) : Calls prog 126 #[v,.pointer (some ⟨p,0,none⟩)] w λe w'=>e=.returned (.tuple #[])/\DigB w' p (fnv d l)/\But p w w':=by
 obtain ⟨A,c,rfl,I⟩:=Y;have L:=zh H;have Z:=zh I;clear H I;go_enter func126,ntmps126;go_wp2_with fail;go_loopw [7] (λi wr=>∃ k:Nat,k<=l.length/\i=vI k/\DigB wr p (fnv d (l.take k))/\But p w wr) (λi _=>l.length - (intOf i).toNat)
 case atStart=>exact ⟨0,Nat.zero_le _,rfl,by simpa [fnv] using L.o,But.refl _ _⟩
 case round =>
  obtain ⟨k,hk,rfl,B,C⟩:=hrel;by_cases hlt:k<l.length
  . obtain ⟨b,o,rfl,N,g,G⟩:=Z.o (by intro e;rw [e] at hlt;simp at hlt);have r:=(C.cell (p:=⟨b,o+k,none⟩) N g).trans (G k hlt);have F:=ZfE d l k hlt;have S:=Z6C d (l.take k) V;have j:l[k].toNat<256:=l[k].toNat_lt;generalize l[k].toNat=x at *
    generalize fnv d (l.take k)=D at *
    have c0:=B.c;have m:=B.fr;have hxo:=bits_xor_u64_nat D x S (by omega);have hxl:D ^^^ x<18446744073709551616:=Nat.xor_lt_two_pow (n:=64) (by omega) (by omega);have J:=B.set ((D ^^^ x)*1099511628211 % 18446744073709551616);generalize D ^^^ x=y at *
    have hw:IntKind.u64.wrap ((y:Int)*1099511628211)=((y*1099511628211 % 18446744073709551616:Nat):Int):=by rw [IntKind.wrap_u64];omega
    have U:decide ((k:Int)<l.length)=true:=by simpa using hlt
    generalize y*1099511628211 % 18446744073709551616=z at *
    have R:=zh J;have X:=zh (C.set (p:=⟨p,0,none⟩) rfl (.int .u64 (z:Nat)));have T:=zh F;clear J F B C G;go_wp2_with fail;go_roundw
    case rel=>exact ⟨k+1,by omega,by go_num,by rw [T.o];exact R.o,X.o⟩
    case measure=>simp [intOf];omega
  . have M:k=l.length:=by omega
    subst M;have U:decide ((l.length:Int)<l.length)=false:=by simp
    rw [List.take_length] at B;have O:=zh B;have f:=zh C;clear B C;go_wp2_with fail;go_end0;exact ⟨rfl,O.o,f.o⟩
def addF (p:Nat):Value:=.func (.func 126) #[] #[.pointer (some ⟨p,0,none⟩)]
def ZrG (p:Nat):Value:=.func (.func 127) #[] #[.pointer (some ⟨p,0,none⟩)]
theorem Za8 (w:World):Calls prog 91 #[] w λe w'=>e=.returned (.tuple #[addF w.heap.size,ZrG w.heap.size])/\w'=w.alloc (.cells #[.int .u64 14695981039346656037] 27):=by
 have B:∀ (fn:Fn) (first cap:Array Value) (w:World),(Instr.makeFunc fn first cap).run prog w=.ok (.func fn first cap) w:=λ_ _ _ _=>rfl;go_enter func91,ntmps91;go_wp2_with fail;go_ret2;exact ⟨rfl,rfl⟩
theorem Z98 (p d:Nat)(w:World)(h:DigB w p d):Calls prog 127 #[.pointer (some ⟨p,0,none⟩)] w λe w'=>e=.returned (.int .u64 (d:Nat))/\w=w':=by
 have c0:=h.c;clear h;go_enter func127,ntmps127;go_wp2_with fail;go_ret;exact ⟨rfl,rfl⟩
theorem Zkr (w:World):DigB (w.alloc (.cells #[.int .u64 14695981039346656037] 27)) w.heap.size Z29:=za w _
theorem Za9 (v:Value)(l:Bytes)(w:World)(G:BytV w w.heap.size v l)(R:l.length<=1000000000000):Calls prog 60 #[v] w λe w'=>e=.returned (.int .u64 (sumD l:Nat))/\Below w.heap.size w w':=by
 have hb:=(zr w.heap.size w).alloc (zn _) (.cells #[.int .u64 14695981039346656037] 27);have H:=(G.on hb).x (zn _) hb.size;have I:=Za7 w.heap.size Z29 v l _ (Zkr w) Z4n H R;have J:=λW d h=>Z98 w.heap.size d W h;obtain ⟨A,c,rfl,_⟩:=G;obtain ⟨F,B,T⟩:=zh3 I hb J;clear I hb J H;have O:Hid (sumD l=fnv Z29 l):=rfl;go_enter func60,ntmps60;go_wp2_with fail;refine (Za8 _).mono ?_;rintro e N ⟨rfl,rfl⟩;unfold addF ZrG;go_wp2_with fail;generalize w.alloc (.cells #[.int .u64 14695981039346656037] 27)=N at *
 refine F.o.mono ?_;rintro e L ⟨rfl,M,D⟩;have C:Below w.heap.size w L:=B.o.trans (D.below B.o.size);have S:=zh C;clear C D F B;go_wp2_with fail;refine (T.o _ _ M).mono ?_;rintro e U ⟨rfl,rfl⟩;go_wp2_with fail;go_ret;rw [O.o];exact ⟨rfl,S.o⟩
def Zb8 (d k:Nat):UInt8:=UInt8.ofNat (d / 2 ^ (56 - 8*k))
theorem Zcu (d k:Nat)(h:k<8):(Z1p d).length=8/\∀ (h:k<(Z1p d).length),(Z1p d)[k]=Zb8 d k:=by
 refine ⟨rfl,λ_=>?_⟩;have:k=0\/k=1\/k=2\/k=3\/k=4\/k=5\/k=6\/k=7:=by omega
 rcases this with rfl | rfl | rfl | rfl | rfl | rfl | rfl | rfl
 all_goals (unfold Z1p Zb8;simp;rfl)
theorem ZhB (n:Int):∀ b∈Lib.itoa n,b.toNat<128:=by
 have C:∀ (f m:Nat),m<10 ^ f->∀ b∈Lib.decDigits m,b.toNat<128:=by
  intro f;induction f with
  | zero =>
   intro m B;have:m=0:=by simpa using B
   subst this;intro b hb;rw [Z2y] at hb;simp at hb;subst hb;decide
  | succ f ih =>
   intro m B b hb;rw [Z2y] at hb;split at hb
   . have hb:=List.mem_singleton.1 hb;subst hb;rw [UInt8.toNat_ofNat'];omega
   . rw [zC] at hb;rcases hb with hb | hb
     . exact ih (m / 10) (by rw [Nat.pow_succ] at B;omega) b hb
     . have hb:=List.mem_singleton.1 hb;subst hb;rw [UInt8.toNat_ofNat'];omega
 intro b hb;unfold Lib.itoa at hb;have D:∀ m:Nat,m<10 ^ m:=λm=>Nat.lt_pow_self (by decide);split at hb
 . rcases zD.1 hb with rfl | hb
   . decide
   . exact C _ _ (D _) b hb
 . exact C _ _ (D _) b hb
theorem Z7j (l:List Int)(k:Nat)(h:k<l.length):Z2E (l.take (k+1))=Z2E (l.take k)++(Lib.itoa l[k]++[32]):=by
 induction l generalizing k with
 | nil=>simp at h
 | cons a l ih =>
  cases k with
  | zero=>simp [Z2E,decS]
  | succ k =>simp only [List.take_succ_cons,Z2E,List.getElem_cons_succ];rw [ih k (by simpa using h)];simp
theorem ZfF (d k:Nat):((d:Int) / 2 ^ (56 - 8*k) % 256)=((Zb8 d k).toNat:Int):=by
 unfold Zb8;rw [UInt8.toNat_ofNat',Int.natCast_emod,Int.natCast_ediv,Int.natCast_pow];rfl
theorem ZrH {p x:Nat}{w wr:World}(b:UInt8)(C:DigB wr p x)(G:x<18446744073709551616)(D:Below p w wr) : Calls prog 126 #[slice (some ⟨wr.heap.size,0,none⟩) 1 1,.pointer (some ⟨p,0,none⟩)] (wr.alloc (.cells #[.int .u8 b.toNat] 5)) λe w'=>e=.returned (.tuple #[])/\DigB w' p (fnv x [b])/\Below p w w'/\wr.heap.size<w'.heap.size/\(∀ k,k<wr.heap.size->k≠p->w'.heap[k]?=wr.heap[k]?):=by
 have F:=(zr wr.heap.size wr).alloc (zn _) (.cells #[.int .u8 b.toNat] 5);refine (Za7 p x _ [b] _ (C.on F) G (BytX.one wr p C.lt b) (by simp)).mono ?_;rintro e w' ⟨rfl,H,B⟩;have J:=C.lt;have I:(wr.alloc (.cells #[.int .u8 b.toNat] 5)).heap.size=wr.heap.size+1:=by simp
 have L:=B.size;exact ⟨rfl,H,(D.alloc (by omega) _).trans (B.below (by omega)),by omega,λk hk hn=>(B.block k (by omega) hn).trans (Below.heap_alloc _ _ _ hk)⟩
theorem Zps (n:Int)(B:Nat)(w:World)(C : -9223372036854775808<=n)(F:n<=9223372036854775807)(D:Tabs B w) : Calls prog 92 #[vI n] w λe w'=>e=.returned (.string ⟨(Lib.itoa n).toArray⟩)/\Below w.heap.size w w':=by
 refine (Tryz.strconv_Itoa n C F w D.1.here).mono ?_;rintro e w' ⟨rfl,k,os,rfl⟩;exact ⟨rfl,Lib.below_grow _ _ (zn _) _ _⟩
theorem Z99 (d:Nat)(v:Value)(l:List Int)(B:Nat)(w:World)(_hd:d<18446744073709551616)(hv:Z03 w w.heap.size v l)(hl:l.length<=1000000)(hr:∀ x∈l,-9223372036854775808<=x/\x<=9223372036854775807)(ht:Tabs B w) : Calls prog 59 #[.int .u64 (d:Nat),v] w λe w'=>e=.returned (.int .u64 (Z56 d l:Nat))/\Below w.heap.size w w':=by
 have b3:B<=w.heap.size:=ht.2.2.1;have hb:=(zr w.heap.size w).alloc (zn _) (.cells #[.int .u64 14695981039346656037] 27);have bK:=Zkr w;have bs:=λ(x:Nat) (wr:World) (b:UInt8) h1 h2 h3=>ZrH (p:=w.heap.size) (x:=x) (w:=w) (wr:=wr) b h1 h2 h3;have bD:=λW d h=>Z98 w.heap.size d W h;have HE:Hid (Z56 d l=fnv Z29 (Z1p d++Z2E l)):=rfl;obtain ⟨A,c,rfl,_⟩:=id hv;obtain ⟨ba,HB,b1,q,HV,HR,HT⟩:=zh7 bs hb bD bK hv hr ht;clear bs hb bD bK hv hr ht;go_enter func59,ntmps59;go_wp2_with fail;refine (Za8 _).mono ?_;rintro e w1 ⟨rfl,rfl⟩;unfold addF ZrG;go_wp2_with fail;generalize b0:w.alloc (.cells #[.int .u64 14695981039346656037] 27)=w1 at *
 have b5:w.heap.size<w1.heap.size:=q.o.lt;clear b0;go_loopw [7] (λi wr=>∃ k:Nat,k<=8/\i=vI (56 - 8*(k:Int))/\DigB wr w.heap.size (fnv Z29 ((Z1p d).take k))/\Below w.heap.size w wr) (λi _=>(8+intOf i).toNat)
 case atStart=>exact ⟨0,by omega,by simp,by simpa [fnv] using q.o,HB.o⟩
 case round =>
  obtain ⟨k,hk,rfl,F,G⟩:=hrel;by_cases hlt:k<8
  . have cd:(0:Int)<=56 - 8*(k:Int):=by omega
    have b9:56 - 8*(k:Int)<=64:=by omega
    have dc:decide (56 - 8*(k:Int)>=0)=true:=by simp;omega
    have ca:=ZfF d k;obtain ⟨h8,f⟩:=Zcu d k hlt;have S:fnv Z29 ((Z1p d).take (k+1))=fnv (fnv Z29 ((Z1p d).take k)) [Zb8 d k]:=by rw [zT (by omega),fnv_append,f]
    have H:=ba.o _ wr (Zb8 d k) F (Z6C _ _ Z4n) G;rw [<- S] at H;generalize Zb8 d k=bb at *
    have cc:(8+(56 - 8*((k:Int)+1))).toNat<(8+(56 - 8*(k:Int))).toNat:=by omega
    obtain ⟨O,HS,M,L,H8,HG⟩:=zh6 H S F G h8 f;clear H S F G h8 f;go_wp2_with fail;refine O.o.mono ?_;rintro e w2 ⟨rfl,bz,bE,_,_⟩;have bV:=zh bz;have bQ:=zh bE;clear bz bE O HS M L;go_wp2_with fail;go_roundw
    case rel=>exact ⟨k+1,by omega,by go_num,bV.o,bQ.o⟩
    case measure=>simp [intOf];omega
  . have bU:k=8:=by omega
    subst bU;have bM:(Z1p d).take 8=Z1p d++Z2E (l.take 0):=by simp [Z1p,Z2E]
    rw [bM] at F;have j:w.heap.size<wr.heap.size:=F.lt;have M:=zh F;have L:=zh G;clear F G;go_wp2_with fail;go_loopw [29] (λi wr=>∃ k:Nat,k<=l.length/\i=vI k/\DigB wr w.heap.size (fnv Z29 (Z1p d++Z2E (l.take k)))/\Below w.heap.size w wr) (λi _=>l.length - (intOf i).toNat)
    case atStart=>exact ⟨0,by omega,rfl,M.o,L.o⟩
    case round =>
     clear M L HB q b5 j;obtain ⟨k,hk,rfl,F,G⟩:=hrel;by_cases hlt:k<l.length
     . obtain ⟨g,o,rfl,f,bC⟩:=Z4p (HV.o.on G) (by intro e;rw [e] at hlt;simp at hlt);have ck:=bC k hlt;obtain ⟨r1,r2⟩:=HR.o _ (List.getElem_mem hlt);have S:=Z7j l k hlt;have bn:=ZhB l[k];have dl:decide ((k:Int)<l.length)=true:=by simpa using hlt
       have J:=Zps l[k] B wr r1 r2 (HT.o.on (G.mono b3));generalize b4:Lib.itoa l[k]=I at *
       generalize l[k]=z at *
       clear b4;obtain ⟨bI,HS,bY,M,L⟩:=zh5 J S bn F G;clear J S bn F G bC;go_wp2_with fail;refine bI.o.mono ?_;rintro e D ⟨rfl,y⟩;have U:=M.o.on y;have bd:=Z00 L.o y;clear y bI M L;obtain ⟨s,j,bc⟩:∃ s:ByteArray,s.size=I.length/\s=⟨I.toArray⟩:=⟨_,by simp [ByteArray.size],rfl⟩
       rw [<- bc];have bB:∀ i (h:i<s.size) (h2:i<I.length),s[i]=I[i]:=by intro i h h2;subst bc;rfl
       have bt:Hid (s.size=I.length):=j;clear bc j;have bA:=U.lt;obtain ⟨N,X⟩:∃ N,N=fnv Z29 (Z1p d++Z2E (l.take k)):=⟨_,rfl⟩
       have bq:N<18446744073709551616:=by rw [X];exact Z6C _ _ Z4n
       have bL:fnv Z29 (Z1p d++Z2E (l.take (k+1)))=fnv (fnv N I) [32]:=by rw [HS.o,<- List.append_assoc,fnv_append,<- X,fnv_append]
       rw [<- X] at U;have bx:DigB (D.iter s 0) w.heap.size N:=(Below.heap_alloc D _ _ bA).trans U;have bG:Below w.heap.size w (D.iter s 0):=bd.alloc (zl bA) _;obtain ⟨bJ,br,bu⟩:=zh3 bx bG bB;have bp:=zh (World.iter_heap D s 0);obtain ⟨ce,bX,bN,bZ⟩:=zh4 X bL U bd;clear bx bG bB X bL U bd;go_wp2_with fail;go_loopw [] (λwq=>∃ C:Nat,C<=s.size/\wq.heap[D.heap.size]?=some (.stringIter s C)/\DigB wq w.heap.size (fnv N (I.take C))/\Below w.heap.size w wq) (λwq=>s.size - wq.iterPos D.heap.size)
       case atStart=>exact ⟨0,Nat.zero_le _,bp.o,by simpa [fnv] using bJ.o,br.o⟩
       case round =>
        clear bp bJ br bN bZ;obtain ⟨C,b6,J,R,T⟩:=hrel;have cb:D.heap.size<wr.heap.size:=(zF2.1 J).1;by_cases hp:C<s.size
        . have Z:C<I.length:=by have:=bt.o;omega
          have ha:s[C].toNat<128:=by rw [bu.o C hp Z];exact bY.o _ (List.getElem_mem Z)
          have bg:∀ ty,(Instr.next (.pointer (some ⟨D.heap.size,0,none⟩)) true ty).run prog wr=_:=λty=>Lib.run_next_ascii_at wr D.heap.size s C ty J hp ha;have bk:=Lib.iterAt_heap wr D.heap.size s C (C+1) J;have bh:DigB (wr.iterAt D.heap.size s (C+1)) w.heap.size (fnv N (I.take C)):=(Lib.iterAt_other _ _ _ _ _ (by omega)).trans R;have m:=Lib.below_iterAt T (k:=D.heap.size) (by omega) s (C+1);have bf:fnv N (I.take (C+1))=fnv (fnv N (I.take C)) [s[C]]:=by rw [zT Z,fnv_append,bu.o C hp Z]
          have H:=ba.o _ (wr.iterAt D.heap.size s (C+1)) s[C] bh (Z6C _ _ bq) m;rw [<- bf] at H;have b7:((s[C].toNat:Nat):Int) % 256=(s[C].toNat:Nat):=by omega
          have bP:(wr.iterAt D.heap.size s (C+1)).heap.size=wr.heap.size:=Lib.iterAt_size _ _ _ _;generalize s[C]=bb at *
          obtain ⟨O,bS,be,bm,bH,bF,bW,bO⟩:=zh8 H bf J R T bk bh m;clear H bf J R T bk bh m ha;go_wp2_with fail;rw [<- bP];generalize b2:wr.iterAt D.heap.size s (C+1)=wi at *
          clear bg b2;refine O.o.mono ?_;rintro e w5 ⟨rfl,V,Y,cf,hk5⟩;have r:=zh V;have bj:=zh Y;have bv:=zh ((hk5 D.heap.size (by omega) (by omega)).trans bF.o);have b8:=zh hk5;clear V Y hk5 O bS bW bO bF;go_wp2_with fail;go_roundw
          case rel=>exact ⟨C+1,by omega,bv.o,r.o,bj.o⟩
          case measure=>simp only [World.iterPos,bv.o,be.o];omega
        . have bT:C=s.size:=by omega
          subst bT;have bg:∀ ty,(Instr.next (.pointer (some ⟨D.heap.size,0,none⟩)) true ty).run prog wr=_:=λty=>Lib.run_next_end_at wr D.heap.size s s.size ty J hp;rw [bt.o,List.take_length] at R;have H:=ba.o _ wr 32 R (Z6C _ _ bq) T;rw [<- bX.o] at H;obtain ⟨O,be,bm,bH⟩:=zh4 H J R T;clear H J R T;go_wp2_with fail;refine O.o.mono ?_;rintro e w5 ⟨rfl,V,Y,_,_⟩;have r:=zh V;have bj:=zh Y;clear V Y O be bm bH bg;go_wp2_with fail;go_roundw
          case rel =>refine ⟨_,_,_,_,_,_,_,_,_,_,_,_,_,_,_,_,_,_,_,_,_,?_,rfl⟩;exact ⟨k+1,by omega,by go_num,r.o,bj.o⟩
          case measure=>simp [intOf];omega
     . have bR:k=l.length:=by omega
       subst bR;have dl:decide ((l.length:Int)<l.length)=false:=by simp
       rw [List.take_length,<- HE.o] at F;have M:=zh F;have L:=zh G;clear F G;go_wp2_with fail;refine (b1.o _ _ M.o).mono ?_;rintro e w5 ⟨rfl,rfl⟩;go_wp2_with fail;go_ret;exact ⟨rfl,L.o⟩
end
