import Derived.Test.YtnepkoepbapgeaaGreatDoorQuoOp1
namespace Go.Proofs.YtnepkoepbapgeaaGreatDoor
open _root_.Go.Proofs.Tryz
open Value (int slice)
open IntKind (i64)
set_option maxHeartbeats 8000000
set_option maxRecDepth 100000
open Go.RowKit Lx Px Qx
def CB (w:World)(vs:Vs)(r:Nat)(op n:Int)(kv:Value)(wx:World):Prop := wx.heap[w.heap.size]?=some (.cells #[int i64 vs.a,int i64 vs.b,int i64 vs.c,int i64 vs.d,.map (some r)] 206 (0,0)) /\ wx.heap[w.heap.size+1]?=some (.cells #[int i64 op,int i64 n,kv] 63 (0,0))/\RatB wx (w.heap.size+2) 0 0/\Below w.heap.size w wx
theorem CB.on {w B F:World}{D:Vs}{r:Nat}{op n:Int}{C:Value}(h:CB w D r op n C B)(hb:Below B.heap.size B F):CB w D r op n C F := ⟨(hb.block _ (zs h.1)).trans h.1,(hb.block _ (zs h.2.1)).trans h.2.1,h.2.2.1.on hb,Z00 h.2.2.2 hb⟩
theorem CB.drew {w D:World}{C:Vs}{r:Nat}{op n:Int}{B:Value}(h:CB w C r op n B D):CB w C r op n B D.drew:=h.on (zr _ _).drew
theorem CB.c {w B:World}{C:Vs}{r:Nat}{op n:Int}{D:Value}(h:CB w C r op n D B):B.cell? ⟨w.heap.size,0,none⟩=some (int i64 C.a)/\B.cell? ⟨w.heap.size,1,none⟩=some (int i64 C.b)/\B.cell? ⟨w.heap.size,2,none⟩=some (int i64 C.c)/\B.cell? ⟨w.heap.size,3,none⟩=some (int i64 C.d)/\B.cell? ⟨w.heap.size,4,none⟩=some (.map (some r)):=by
 refine ⟨?_,?_,?_,?_,?_⟩ <;> (rw [zc h.1];rfl)
theorem CB.e {w B:World}{D:Vs}{r:Nat}{op n:Int}{C:Value}(h:CB w D r op n C B):B.cell? ⟨w.heap.size+1,0,none⟩=some (int i64 op)/\B.cell? ⟨w.heap.size+1,1,none⟩=some (int i64 n)/\B.cell? ⟨w.heap.size+1,2,none⟩=some C:=by
 refine ⟨?_,?_,?_⟩ <;> (rw [zc h.2.1];rfl)
theorem Zm5 (w:World)(B:Vs)(r:Nat)(op n:Int)(C:Value):CB w B r op n C (((w.alloc (.cells #[int i64 B.a,int i64 B.b,int i64 B.c,int i64 B.d,.map (some r)] 206)).alloc (.cells #[int i64 op,int i64 n,C] 63)).alloc (.cells #[int i64 0,int i64 0] 60)):=by
 obtain ⟨D,F⟩:=Z11 w (.cells #[int i64 B.a,int i64 B.b,int i64 B.c,int i64 B.d,.map (some r)] 206) (.cells #[int i64 op,int i64 n,C] 63);refine ⟨Z0A D _,Z0A F _,?_,(((zr _ _).alloc (zn _) _).alloc (by simp) _).alloc (by simp;omega) _⟩;have:=za ((w.alloc (.cells #[int i64 B.a,int i64 B.b,int i64 B.c,int i64 B.d,.map (some r)] 206)).alloc (.cells #[int i64 op,int i64 n,C] 63)) (.cells #[int i64 0,int i64 0] 60);simpa [RatB] using this
theorem ZhC (a:Addr):a.add 0=a:=by unfold Addr.add;simp
theorem ZpG {w:World}{B:Nat}{l:Fo}{A:Option Addr}(h:FoAt w B l A 0){k:Nat}(hk:k<flen l) : ∃ (g o:Nat) (H:Option Addr) (c:Nat),A=some ⟨g,o,none⟩/\g<B/\w.cell? ⟨g,o+k*3,none⟩=some (int i64 (getF l k).1.1)/\w.cell? ⟨g,o+k*3+1,none⟩=some (int i64 (getF l k).1.2)/\w.cell? ⟨g,o+k*3+2,none⟩=some (slice H (flen (getF l k).2) c)/\FoAt w B (getF l k).2 H 0:=by
 obtain ⟨D,_,_,M,_,C,_⟩:=FoAt.get l A 0 0 h (by omega);obtain ⟨ad,H,c,F,N,I,L,J,O⟩:=FoAt.get l A 0 k h hk;rw [M] at F;injection F with F
 subst F;have G:D.spot=none:=by
  have e:(D.add ((0+0)*3))=D:=ZhC D;rw [e] at C;unfold World.cell? at C;split at C
  · split at C
    · cases C
    · rename_i G;cases hp:D.spot with
      | none=>rfl
      | some x=>rw [hp] at G;simp at G
  · cases C
 obtain ⟨g,o,s⟩:=D;cases G;rw [Nat.zero_add] at I L J;have R:((⟨g,o,none⟩:Addr).add (k*3))=⟨g,o+k*3,none⟩:=by
  unfold Addr.add;split
  · rename_i h;rw [h];rfl
  · rfl
 rw [R] at I L J;exact ⟨g,o,H,c,M,N,I,L,J,O⟩
def ValC (a:Int × Int)(l:Fo):Prop := ∀ (w:World) (v:Value) (B r:Nat) (vs:Vs),FoV w B v l->B<=w.heap.size->Za1 w r->Z05 a.1 a.2 (flen l)=true->wfF l->(∀ i,0<=vs.at i/\vs.at i<=1000) -> Calls prog 149 #[.agg #[int i64 vs.a,int i64 vs.b,int i64 vs.c,int i64 vs.d,.map (some r)],.agg #[int i64 a.1,int i64 a.2,v]] w (VP (valE vs a l) w)
theorem Zm6 (op n:Int)(l:Fo)(h:op=1\/op=2):ValC (op,n) l:=by
 intro w v B r D U q M F hw O;dsimp only at F;have hn:0<=n/\n<=1000000000:=by rcases h with rfl | rfl <;> (simp [Z05] at F;omega)
 have H:valE D (op,n) l=Z10 n 1:=by unfold valE opV;rw [zp h]
 have J:=λW=>Zb1 n 1 W (by omega) (by omega) (by omega) (by omega) (by omega);have I:=λW=>Z5f (Z10 n 1) W (λk e=>by have:=Z55 e;omega);have R:=Zm5 w D r op n v;rw [H];generalize Z10 n 1=V at *
 obtain ⟨A,c,rfl,_⟩:=U;have N:=zh R;have T:=zh J;have Y:=zh I;have HV:=zh H;have HF:=zh F;have HW:=zh hw;have HVS:=zh O;have j:=zh M;clear R J I H F hw O M;rcases h with rfl | rfl
 all_goals
  go_enter func149,ntmps149;go_wp2_with fail;generalize ((w.alloc (.cells #[int i64 D.a,int i64 D.b,int i64 D.c,int i64 D.d,.map (some r)] 206)).alloc (.cells #[int i64 _,int i64 n,slice A (flen l) c] 63)).alloc (.cells #[int i64 0,int i64 0] 60)=f at *
  refine (T.out f).mono ?_;rintro e w2 ⟨rfl,hb⟩;have L:=zh (N.out.on hb);clear hb N;go_wp2_with fail;refine (Y.out _).mono ?_;cases V with
  | no k =>intro e g G;obtain ⟨hb,rfl⟩:=G.isno;exact ⟨rfl,Z00 L.out.2.2.2 hb,rfl⟩
  | ok x y =>intro e g G;obtain ⟨hb,rfl⟩:=G.isok;clear G;have C:=L.out.on hb;have Z:=zh C.2.2.2;have X:=C.2.2.1.c0;have S:=C.2.2.1.c1;have y0:=C.2.2.1.fr 0;have m:=C.2.2.1.fr 1;clear C hb;go_wp2_with fail;exact bodyPost_ret (v:=.agg #[int i64 x,int i64 y]) (by simp [results,results149,go_sem,X,S]) rfl ⟨Z01 Z.out (by omega) _ _,rfl⟩
theorem ZrD (n:Int)(l:Fo):ValC (3,n) l:=by
 intro w v B r C U hB N F hw I;dsimp only at F;have Y:n=1\/n=2\/n=3\/n=4:=by simp [Z05] at F;omega
 have H:valE C (3,n) l=Z10 (C.at n) 1:=by unfold valE opV;rw [zf (by simp),zp rfl]
 obtain ⟨q1,q2⟩:=I n;have L:=λW=>Zb1 (C.at n) 1 W (by omega) (by omega) (by omega) (by omega) (by omega);have J:=λW=>Z5f (Z10 (C.at n) 1) W (λk e=>by have:=Z55 e;omega);have R:=Zm5 w C r 3 n v;rw [H];generalize Z10 (C.at n) 1=V at *
 obtain ⟨A,c,rfl,_⟩:=U;have O:=zh R;have T:=zh L;have Z:=zh J;have HV:=zh H;have HF:=zh F;have HW:=zh hw;have ba:=zh I;have m:=zh N;clear R L J H F hw I N;rcases Y with rfl | rfl | rfl | rfl
 all_goals
  go_enter func149,ntmps149;go_wp2_with fail;generalize ((w.alloc (.cells #[int i64 C.a,int i64 C.b,int i64 C.c,int i64 C.d,.map (some r)] 206)).alloc (.cells #[int i64 3,int i64 _,slice A (flen l) c] 63)).alloc (.cells #[int i64 0,int i64 0] 60)=g at *
  refine (T.out g).mono ?_;rintro e w2 ⟨rfl,hb⟩;have M:=zh (O.out.on hb);clear hb O;go_wp2_with fail;refine (Z.out _).mono ?_;cases V with
  | no k =>intro e j G;obtain ⟨hb,rfl⟩:=G.isno;exact ⟨rfl,Z00 M.out.2.2.2 hb,rfl⟩
  | ok x y =>intro e j G;obtain ⟨hb,rfl⟩:=G.isok;clear G;have D:=M.out.on hb;have f:=zh D.2.2.2;have X:=D.2.2.1.c0;have S:=D.2.2.1.c1;have y0:=D.2.2.1.fr 0;have q:=D.2.2.1.fr 1;clear D hb;go_wp2_with fail;exact bodyPost_ret (v:=.agg #[int i64 x,int i64 y]) (by simp [results,results149,go_sem,X,S]) rfl ⟨Z01 f.out (by omega) _ _,rfl⟩
theorem Zg6 {l:Fo}(I:∀ k,k<flen l->ValC (getF l k).1 (getF l k).2){w:World}{A:Option Addr}{B r:Nat}{C:Vs}(N:FoAt w B l A 0)(T:B<=w.heap.size)(J:Za1 w r)(hw:wfF l)(L:∀ i,0<=C.at i/\C.at i<=1000){k:Nat}(hk:k<flen l) : ∃ (g o:Nat) (p q:Int) (kv:Value),A=some ⟨g,o,none⟩/\(∀ W,Below w.heap.size w W->W.cell? ⟨g,o+k*3,none⟩=some (int i64 p)/\W.cell? ⟨g,o+k*3+1,none⟩=some (int i64 q)/\W.cell? ⟨g,o+k*3+2,none⟩=some kv) /\ ∀ W,Below w.heap.size w W->Calls prog 149 #[.agg #[int i64 C.a,int i64 C.b,int i64 C.c,int i64 C.d,.map (some r)],.agg #[int i64 p,int i64 q,kv]] W (VP (valF C l k) W):=by
 obtain ⟨g,o,D,c,e,S,F,H,G,O⟩:=ZpG N hk;obtain ⟨M,R⟩:=ZfE hw hk;refine ⟨g,o,_,_,_,e,λW hb=>⟨(hb.cell (p:=⟨g,o+k*3,none⟩) (by show g<_;omega)).trans F,(hb.cell (p:=⟨g,o+k*3+1,none⟩) (by show g<_;omega)).trans H,(hb.cell (p:=⟨g,o+k*3+2,none⟩) (by show g<_;omega)).trans G⟩,λW hb=>?_⟩;rw [Zfs C l k hk];exact I k hk W _ B r C ⟨D,c,rfl,FoAt.keep (λp hp=>hb.cell (by omega)) _ D 0 O⟩ (by have:=hb.size;omega) (J.on hb) M R L
structure CBH (w:World) (vs:Vs) (r:Nat) (op n:Int) (kv:Value) (wx:World):Prop where
 h:CB w vs r op n kv wx
theorem Zg7 {w B:World}{G:Vs}{r:Nat}{op n:Int}{D:Value}{b F:Nat}(H:w.heap.size+2<F)(h:CB w G r op n D B)(hb:F<=b){x y:Value}:CB w G r op n D ((B.setCell ⟨b,0,none⟩ x).setCell ⟨b,1,none⟩ y):=by
 have C:Below (w.heap.size+3) B ((B.setCell ⟨b,0,none⟩ x).setCell ⟨b,1,none⟩ y):=((zr _ _).setCell (p:=⟨b,0,none⟩) (by show _<=b;omega) _).setCell (p:=⟨b,1,none⟩) (by show _<=b;omega) _;exact ⟨(C.block _ (by omega)).trans h.1,(C.block _ (by omega)).trans h.2.1,(C.block _ (by omega)).trans h.2.2.1,h.2.2.2.trans (C.mono (by omega))⟩
theorem Z2s {w:World}{b:Nat}{p q:Int}(h:RatB w b p q)(x y:Int):RatB ((w.setCell ⟨b,0,none⟩ (int i64 x)).setCell ⟨b,1,none⟩ (int i64 y)) b x y:=by
 have B:w.heap[b]?=_:=h;simp [RatB,World.setCell,zM,B]
structure CBL (w:World) (vs:Vs) (r:Nat) (op n:Int) (kv:Value) (wx:World):Prop where
 h0:wx.heap[w.heap.size]?=some (.cells #[int i64 vs.a,int i64 vs.b,int i64 vs.c,int i64 vs.d,.map (some r)] 206 (0,0))
 h1:wx.heap[w.heap.size+1]?=some (.cells #[int i64 op,int i64 n,kv] 63 (0,0))
 b:Below w.heap.size w wx
theorem CB.l {w D:World}{C:Vs}{r:Nat}{op n:Int}{B:Value}(h:CB w C r op n B D):CBL w C r op n B D:=⟨h.1,h.2.1,h.2.2.2⟩
theorem CBL.on {w B F:World}{D:Vs}{r:Nat}{op n:Int}{C:Value}(h:CBL w D r op n C B)(hb:Below B.heap.size B F):CBL w D r op n C F := ⟨(hb.block _ (zs h.h0)).trans h.h0,(hb.block _ (zs h.h1)).trans h.h1,Z00 h.b hb⟩
theorem CBL.drew {w D:World}{C:Vs}{r:Nat}{op n:Int}{B:Value}(h:CBL w C r op n B D):CBL w C r op n B D.drew:=h.on (zr _ _).drew
theorem CBL.c {w B:World}{C:Vs}{r:Nat}{op n:Int}{D:Value}(h:CBL w C r op n D B):B.cell? ⟨w.heap.size,0,none⟩=some (int i64 C.a)/\B.cell? ⟨w.heap.size,1,none⟩=some (int i64 C.b)/\B.cell? ⟨w.heap.size,2,none⟩=some (int i64 C.c)/\B.cell? ⟨w.heap.size,3,none⟩=some (int i64 C.d)/\B.cell? ⟨w.heap.size,4,none⟩=some (.map (some r)):=by
 refine ⟨?_,?_,?_,?_,?_⟩ <;> (rw [zc h.h0];rfl)
theorem CBL.e {w B:World}{D:Vs}{r:Nat}{op n:Int}{C:Value}(h:CBL w D r op n C B):B.cell? ⟨w.heap.size+1,0,none⟩=some (int i64 op)/\B.cell? ⟨w.heap.size+1,1,none⟩=some (int i64 n)/\B.cell? ⟨w.heap.size+1,2,none⟩=some C:=by
 refine ⟨?_,?_,?_⟩ <;> (rw [zc h.h1];rfl)
theorem CBL.store {w B:World}{F:Vs}{r:Nat}{op n:Int}{D:Value}(h:CBL w F r op n D B)(x y:Value):CBL w F r op n D ((B.setCell ⟨w.heap.size+2,0,none⟩ x).setCell ⟨w.heap.size+2,1,none⟩ y):=by
 have C:Below (w.heap.size+2) B ((B.setCell ⟨w.heap.size+2,0,none⟩ x).setCell ⟨w.heap.size+2,1,none⟩ y):=((zr _ _).setCell (p:=⟨w.heap.size+2,0,none⟩) (zn _) _).setCell (p:=⟨w.heap.size+2,1,none⟩) (zn _) _;exact ⟨(C.block _ (by omega)).trans h.h0,(C.block _ (by omega)).trans h.h1,h.b.trans (C.mono (by omega))⟩
theorem VP.parts {v:V}{w w':World}{e:Ending}(h:VP v w e w'):Below w.heap.size w w'/\((∃ n d,v=.ok n d/\e=.returned (.agg #[int i64 n,int i64 d]))\/(∃ k,v=.no k/\e=.panicked [Zh9 k])):=by
 cases v with
 | ok n d=>exact ⟨h.1,.inl ⟨n,d,rfl,h.2⟩⟩
 | no k=>exact ⟨h.1,.inr ⟨k,rfl,h.2⟩⟩
structure CBR (w:World) (vs:Vs) (r:Nat) (op n:Int) (kv:Value) (b:Nat) (x y:Int) (wx:World):Prop where
 l:CBL w vs r op n kv wx
 r:RatB wx b x y
theorem CBR.on {w B F:World}{D:Vs}{r:Nat}{op n:Int}{C:Value}{b:Nat}{x y:Int}(h:CBR w D r op n C b x y B)(hb:Below B.heap.size B F):CBR w D r op n C b x y F:=⟨h.l.on hb,h.r.on hb⟩
theorem CBR.drew {w D:World}{C:Vs}{r:Nat}{op n:Int}{B:Value}{b:Nat}{x y:Int}(h:CBR w C r op n B b x y D):CBR w C r op n B b x y D.drew:=h.on (zr _ _).drew
theorem CBR.store {w D:World}{C:Vs}{r:Nat}{op n:Int}{B:Value}{b:Nat}{x y:Int}(h:CBR w C r op n B b x y D)(hb:w.heap.size+2<b)(u v:Value):CBR w C r op n B b x y ((D.setCell ⟨w.heap.size+2,0,none⟩ u).setCell ⟨w.heap.size+2,1,none⟩ v) := ⟨h.l.store u v,(zg _ _ _ _ (by show b≠w.heap.size+2;omega)).trans ((zg _ _ _ _ (by show b≠w.heap.size+2;omega)).trans h.r)⟩
theorem val_op (op n:Int)(l:Fo)(ih:∀ k,k<flen l->ValC (getF l k).1 (getF l k).2)(h1:op≠1)(h2:op≠2)(h3:op≠3):ValC (op,n) l:=by
 intro w v B r C hv hB hO hf hw bh;dsimp only at hf;obtain ⟨bm,bV,b3⟩:=Z6u hf;have bR:0<flen l:=by
  rw [bm];unfold arO
  repeat' split
  all_goals omega
 obtain ⟨A,c,rfl,hA⟩:=hv;have hV:valE C (op,n) l=opV C op n (valF C l 0) (valF C l 1) (valF C l 2):=rfl;obtain ⟨g,o,p0,q0,bB,rfl,bn,bE⟩:=Zg6 ih hA hB hO hw bh bR;have bH:=λk (hk:k<flen l)=>Z49 C l k;have bP:=Zm5 w C r op n (slice (some ⟨g,o,none⟩) (flen l) c);have bO:∀ k,k<flen l->∃ (p q:Int) (kv:Value),(∀ W,Below w.heap.size w W->W.cell? ⟨g,o+k*3,none⟩=some (int i64 p)/\W.cell? ⟨g,o+k*3+1,none⟩=some (int i64 q)/\W.cell? ⟨g,o+k*3+2,none⟩=some kv) /\ ∀ W,Below w.heap.size w W->Calls prog 149 #[.agg #[int i64 C.a,int i64 C.b,int i64 C.c,int i64 C.d,.map (some r)],.agg #[int i64 p,int i64 q,kv]] W (VP (valF C l k) W):=by
  intro k hk;obtain ⟨g',o',p,q,kv,e,m,Z⟩:=Zg6 ih hA hB hO hw bh hk;injection e with e
  injection e with Y J
  subst Y J;exact ⟨p,q,kv,m,Z⟩
 rw [Nat.zero_mul] at bn;have d1:(op==1)=false:=by simpa using h1
 have d2:(op==2)=false:=by simpa using h2
 have d3:(op==3)=false:=by simpa using h3
 have b2:(0:Int)<(flen l:Int):=by omega
 have bI:∀ k y z,opV C op n (.no k) y z=.no k:=λk y z=>by unfold opV;rw [zf (by omega),zf h3]
 have bK:=zh bI;clear bI;rw [hV];have bu:=zh bP;have bC:=zh bn;have bv:=zh bE;have bg:=zh bO;have HO:=zh hO;have HF:=zh hf;have HW:=zh hw;have b0:=zh bh;have HV:=zh hV;have HA:=zh hA;have IH:=zh ih;have bq:=zh bH;have bd:=zh bm;have H1:=zh h1;have H2:=zh h2;have H3:=zh h3;clear bP bn bE bO hO hf hw bh hV hA ih bH bm h1 h2 h3;go_enter func149,ntmps149;go_upto_region 7 with fail;generalize ((w.alloc (.cells #[int i64 C.a,int i64 C.b,int i64 C.c,int i64 C.d,.map (some r)] 206)).alloc (.cells #[int i64 op,int i64 n,slice (some ⟨g,o,none⟩) (flen l) c] 63)).alloc (.cells #[int i64 0,int i64 0] 60)=W1 at *
 have F:Hid (∀ wx,CB w C r op n (slice (some ⟨g,o,none⟩) (flen l) c) wx->wx.cell? ⟨w.heap.size,0,none⟩=some (int i64 C.a)/\wx.cell? ⟨w.heap.size,1,none⟩=some (int i64 C.b)/\wx.cell? ⟨w.heap.size,2,none⟩=some (int i64 C.c)/\wx.cell? ⟨w.heap.size,3,none⟩=some (int i64 C.d)/\wx.cell? ⟨w.heap.size,4,none⟩=some (.map (some r)) /\ wx.cell? ⟨w.heap.size+1,2,none⟩=some (slice (some ⟨g,o,none⟩) (flen l) c)/\wx.cell? ⟨g,o,none⟩=some (int i64 p0)/\wx.cell? ⟨g,o+1,none⟩=some (int i64 q0)/\wx.cell? ⟨g,o+2,none⟩=some bB/\CBH w C r op n (slice (some ⟨g,o,none⟩) (flen l) c) wx):=λwx h=>by obtain ⟨c0,c1,c2,c3,c4⟩:=h.c;obtain ⟨_,_,J⟩:=h.e;obtain ⟨a0,m,Z⟩:=bC.out wx h.2.2.2;exact ⟨c0,c1,c2,c3,c4,J,a0,m,Z,⟨h⟩⟩
 have bk:w.heap.size+2<W1.heap.size:=bu.out.2.2.1.lt;go_region_held (λw'=>w'.cell? ⟨w.heap.size,0,none⟩=some (int i64 C.a)/\w'.cell? ⟨w.heap.size,1,none⟩=some (int i64 C.b)/\w'.cell? ⟨w.heap.size,2,none⟩=some (int i64 C.c)/\w'.cell? ⟨w.heap.size,3,none⟩=some (int i64 C.d)/\w'.cell? ⟨w.heap.size,4,none⟩=some (.map (some r)) /\ w'.cell? ⟨w.heap.size+1,2,none⟩=some (slice (some ⟨g,o,none⟩) (flen l) c)/\w'.cell? ⟨g,o,none⟩=some (int i64 p0)/\w'.cell? ⟨g,o+1,none⟩=some (int i64 q0)/\w'.cell? ⟨g,o+2,none⟩=some bB/\CBH w C r op n (slice (some ⟨g,o,none⟩) (flen l) c) w') (first | (with_reducible exact F.out _ bu.out.drew) | (with_reducible exact F.out _ R.h) | (exact F.out _ ((‹_/\_/\_/\_/\_/\_/\_/\_/\_/\CBH w C r op n _ _›).2.2.2.2.2.2.2.2.2.h.on ((zr _ _).alloc (zn _) _))) | (exact F.out _ (R.h.on ((zr _ _).alloc (zn _) _))) | (exact F.out _ (Zg7 bk R.h (zn _)))) ((go_at_call 149;have bf:=(‹_/\_/\_/\_/\_/\_/\_/\_/\_/\CBH w C r op n _ _›).2.2.2.2.2.2.2.2.2.h;refine (bv.out _ bf.2.2.2).mono ?_;intro e w' H;obtain ⟨hb,⟨x,y,hx,rfl⟩ | ⟨k,hx,rfl⟩⟩:=H.parts;rotate_left;(have j:=zh hx;exact ⟨rfl,Z00 bf.2.2.2 hb,by rw [j.out,bK.out];rfl⟩);have j:=zh hx;have R:=CBH.mk (bf.on hb);try (have hz:=(hb.block W1.heap.size (by simp [go_sem])).trans (za W1.drew (.cells #[int i64 0,int i64 0] 60));have HZ:Hid (RatB w' W1.heap.size 0 0):=hz;have z0:=HZ.out.c0;have f:=HZ.out.c1;have y0:=HZ.out.fr 0;have N:=HZ.out.fr 1;clear hz);clear hx H hb bf))
 all_goals
  first
   | (have M:=Z2s HZ.out x y
      have O:=Zg7 bk R.h (zn W1.heap.size) (x:=int i64 x) (y:=int i64 y)
      clear z0 f y0 N HZ;generalize (w'.setCell ⟨W1.heap.size,0,none⟩ (int i64 x)).setCell ⟨W1.heap.size,1,none⟩ (int i64 y)=w5 at *
      generalize W1.heap.size=b5 at *
      have bs:=bk)
   | (have bs:w.heap.size+2<w'.heap.size:=R.h.2.2.1.lt
      have M:=RatB.new w' x y
      have O:=R.h.on ((zr w'.heap.size w').alloc (zn _) (.cells #[int i64 x,int i64 y] 60))
      generalize w'.alloc (.cells #[int i64 x,int i64 y] 60)=w5 at *
      generalize w'.heap.size=b5 at *)
  clear R bu F bv bC
  (try clear H);(try clear hx);(try clear hb);(try clear bf)
  by_cases h15:op=15
  · subst h15;have X:opV C 15 n (valF C l 0) (valF C l 1) (valF C l 2)=truV (x==0):=by rw [j.out];rfl
    obtain ⟨T,N,bL⟩:∃ T N,truV (x==0)=.ok T N:=by cases (x==0) <;> exact ⟨_,_,rfl⟩
    obtain ⟨e0,Y,J⟩:=O.e;have r0:=M.c0;have bx:=zh O;have ht:=λW=>Z4G (x==0) W;rw [X];have bM:=zh bL;have HT:=zh ht;have HR:=zh X;clear bL ht X O M;go_wp2_with fail;refine (HT.out _).mono ?_;rw [bM.out];intro e w6 H;obtain ⟨hb,rfl⟩:=H.isok;clear H;have D:=bx.out.on hb;have B6:=zh D.2.2.2;have z0:=D.2.2.1.c0;have f:=D.2.2.1.c1;have y0:=D.2.2.1.fr 0;have y2:=D.2.2.1.fr 1;clear D hb e0 Y J r0 bx;go_wp2_with fail;exact bodyPost_ret (v:=.agg #[int i64 T,int i64 N]) (by simp [results,results149,go_sem,z0,f]) rfl ⟨Z01 B6.out (by omega) _ _,by rw [HR.out,bM.out];rfl⟩
  · have bW:(op==15)=false:=by simpa using h15
    by_cases h10:op=10
    · subst h10;by_cases G:x=1
      · subst G;obtain ⟨p1,q1,bb,S,ba⟩:=bg.out 1 (by have:=bd.out;simp [arO] at this;omega);have X:opV C 10 n (valF C l 0) (valF C l 1) (valF C l 2)=valF C l 1:=by rw [j.out];unfold opV;simp only;rfl
        have F:Hid (∀ wx,CBL w C r 10 n (slice (some ⟨g,o,none⟩) (flen l) c) wx->wx.cell? ⟨w.heap.size,0,none⟩=some (int i64 C.a)/\wx.cell? ⟨w.heap.size,1,none⟩=some (int i64 C.b)/\wx.cell? ⟨w.heap.size,2,none⟩=some (int i64 C.c)/\wx.cell? ⟨w.heap.size,3,none⟩=some (int i64 C.d)/\wx.cell? ⟨w.heap.size,4,none⟩=some (.map (some r)) /\ wx.cell? ⟨w.heap.size+1,2,none⟩=some (slice (some ⟨g,o,none⟩) (flen l) c)/\wx.cell? ⟨g,o+3,none⟩=some (int i64 p1)/\wx.cell? ⟨g,o+4,none⟩=some (int i64 q1)/\wx.cell? ⟨g,o+5,none⟩=some bb/\CBL w C r 10 n (slice (some ⟨g,o,none⟩) (flen l) c) wx):=λwx h=>by obtain ⟨c0,c1,c2,c3,c4⟩:=h.c;obtain ⟨_,_,J⟩:=h.e;obtain ⟨a0,m,Z⟩:=S wx h.b;exact ⟨c0,c1,c2,c3,c4,J,a0,m,Z,h⟩
        have bN:(1:Int)<(flen l:Int):=by have:=bd.out;simp [arO] at this;omega
        obtain ⟨e0,Y,J⟩:=O.e;have r0:=M.c0;have bc:=zh ba;have bD:=zh S;have HR:=zh X;have D:=zh O;have R6:=zh M;clear ba S X O M;go_upto_region 11 with fail;clear e0 Y J r0;go_region_held (λw'=>w'.cell? ⟨w.heap.size,0,none⟩=some (int i64 C.a)/\w'.cell? ⟨w.heap.size,1,none⟩=some (int i64 C.b)/\w'.cell? ⟨w.heap.size,2,none⟩=some (int i64 C.c)/\w'.cell? ⟨w.heap.size,3,none⟩=some (int i64 C.d)/\w'.cell? ⟨w.heap.size,4,none⟩=some (.map (some r)) /\ w'.cell? ⟨w.heap.size+1,2,none⟩=some (slice (some ⟨g,o,none⟩) (flen l) c)/\w'.cell? ⟨g,o+3,none⟩=some (int i64 p1)/\w'.cell? ⟨g,o+4,none⟩=some (int i64 q1)/\w'.cell? ⟨g,o+5,none⟩=some bb/\CBL w C r 10 n (slice (some ⟨g,o,none⟩) (flen l) c) w') (first | (with_reducible exact F.out _ D.out.l.drew) | (with_reducible exact F.out _ U) | (exact F.out _ (U.store _ _))) ((go_at_call 149;refine (bc.out _ D.out.drew.2.2.2).mono ?_;intro e w' H;obtain ⟨hb,⟨T,N,G,rfl⟩ | ⟨k,G,rfl⟩⟩:=H.parts;rotate_left;(have L:=zh G;exact ⟨rfl,Z00 D.out.drew.2.2.2 hb,by rw [HR.out,L.out];rfl⟩);have L:=zh G;have I:=D.out.drew.on hb;have U:=I.l;have z0:=I.2.2.1.c0;have f:=I.2.2.1.c1;have y0:=I.2.2.1.fr 0;have y2:=I.2.2.1.fr 1;clear I G H hb));go_wp2_with fail;exact bodyPost_ret (v:=.agg #[int i64 T,int i64 N]) (by simp [results,results149,go_sem,z0,f]) rfl ⟨Z01 U.b (by omega) _ _,by rw [HR.out,L.out];rfl⟩
      · have bY:(x==1)=false:=by simpa using G
        obtain ⟨p1,q1,bb,S,ba⟩:=bg.out 2 (by have:=bd.out;simp [arO] at this;omega);have X:opV C 10 n (valF C l 0) (valF C l 1) (valF C l 2)=valF C l 2:=by rw [j.out];unfold opV;simp only;simp [G]
        have F:Hid (∀ wx,CBL w C r 10 n (slice (some ⟨g,o,none⟩) (flen l) c) wx->wx.cell? ⟨w.heap.size,0,none⟩=some (int i64 C.a)/\wx.cell? ⟨w.heap.size,1,none⟩=some (int i64 C.b)/\wx.cell? ⟨w.heap.size,2,none⟩=some (int i64 C.c)/\wx.cell? ⟨w.heap.size,3,none⟩=some (int i64 C.d)/\wx.cell? ⟨w.heap.size,4,none⟩=some (.map (some r)) /\ wx.cell? ⟨w.heap.size+1,2,none⟩=some (slice (some ⟨g,o,none⟩) (flen l) c)/\wx.cell? ⟨g,o+6,none⟩=some (int i64 p1)/\wx.cell? ⟨g,o+7,none⟩=some (int i64 q1)/\wx.cell? ⟨g,o+8,none⟩=some bb/\CBL w C r 10 n (slice (some ⟨g,o,none⟩) (flen l) c) wx):=λwx h=>by obtain ⟨c0,c1,c2,c3,c4⟩:=h.c;obtain ⟨_,_,J⟩:=h.e;obtain ⟨a0,m,Z⟩:=S wx h.b;exact ⟨c0,c1,c2,c3,c4,J,a0,m,Z,h⟩
        have bN:(2:Int)<(flen l:Int):=by have:=bd.out;simp [arO] at this;omega
        obtain ⟨e0,Y,J⟩:=O.e;have r0:=M.c0;have bc:=zh ba;have bD:=zh S;have HR:=zh X;have D:=zh O;have R6:=zh M;clear ba S X O M;go_upto_region 13 with fail;clear e0 Y J r0;go_region_held (λw'=>w'.cell? ⟨w.heap.size,0,none⟩=some (int i64 C.a)/\w'.cell? ⟨w.heap.size,1,none⟩=some (int i64 C.b)/\w'.cell? ⟨w.heap.size,2,none⟩=some (int i64 C.c)/\w'.cell? ⟨w.heap.size,3,none⟩=some (int i64 C.d)/\w'.cell? ⟨w.heap.size,4,none⟩=some (.map (some r)) /\ w'.cell? ⟨w.heap.size+1,2,none⟩=some (slice (some ⟨g,o,none⟩) (flen l) c)/\w'.cell? ⟨g,o+6,none⟩=some (int i64 p1)/\w'.cell? ⟨g,o+7,none⟩=some (int i64 q1)/\w'.cell? ⟨g,o+8,none⟩=some bb/\CBL w C r 10 n (slice (some ⟨g,o,none⟩) (flen l) c) w') (first | (with_reducible exact F.out _ D.out.l.drew) | (with_reducible exact F.out _ U) | (exact F.out _ (U.store _ _))) ((go_at_call 149;refine (bc.out _ D.out.drew.2.2.2).mono ?_;intro e w' H;obtain ⟨hb,⟨T,N,G,rfl⟩ | ⟨k,G,rfl⟩⟩:=H.parts;rotate_left;(have L:=zh G;exact ⟨rfl,Z00 D.out.drew.2.2.2 hb,by rw [HR.out,L.out];rfl⟩);have L:=zh G;have I:=D.out.drew.on hb;have U:=I.l;have z0:=I.2.2.1.c0;have f:=I.2.2.1.c1;have y0:=I.2.2.1.fr 0;have y2:=I.2.2.1.fr 1;clear I G H hb));go_wp2_with fail;exact bodyPost_ret (v:=.agg #[int i64 T,int i64 N]) (by simp [results,results149,go_sem,z0,f]) rfl ⟨Z01 U.b (by omega) _ _,by rw [HR.out,L.out];rfl⟩
    · have b1:(op==10)=false:=by simpa using h10
      have hr:4<=op/\op<=14/\1<flen l:=by
       have h1:=H1.out;have h2:=H2.out;have h3:=H3.out;have ha:=bd.out;have hb:1<=op/\op<=15:=⟨by omega,by omega⟩
       refine ⟨by omega,by omega,?_⟩;rw [ha];unfold arO
       repeat' split
       all_goals omega
      obtain ⟨p1,q1,bb,S,ba⟩:=bg.out 1 hr.2.2;obtain ⟨L1,V,L2,hm,hn,gf,cap,rfl,b6,bz⟩:=HO.out op hr.1 hr.2.1 h10;have bt:=bq.out 0 (by omega) x y j.out;have bA:∀ k,valF C l 1=.no k->opV C op n (valF C l 0) (valF C l 1) (valF C l 2)=.no k:=λk e=>by rw [j.out,e];unfold opV;rw [zf (by have:=H1.out;have:=H2.out;omega),zf H3.out];simp only;rw [zf h15,zf h10]
      have bJ:∀ c d,valF C l 1=.ok c d->opV C op n (valF C l 0) (valF C l 1) (valF C l 2)=appV op x y c d:=λc d e=>by rw [j.out,e];unfold opV;rw [zf (by have:=H1.out;have:=H2.out;omega),zf H3.out];simp only;rw [zf h15,zf h10]
      have bF:∀ (W:World) (c d:Int),Below w.heap.size w W->valF C l 1=.ok c d->Calls prog gf (#[.agg #[int i64 x,int i64 y],.agg #[int i64 c,int i64 d]]++cap) W (VP (appV op x y c d) W) := λW c d hb e=>bz W x y c d hb bt (bq.out 1 hr.2.2 c d e);have F:Hid (∀ wx,CBR w C r op n (slice (some ⟨g,o,none⟩) (flen l) c) b5 x y wx->wx.cell? ⟨w.heap.size,0,none⟩=some (int i64 C.a)/\wx.cell? ⟨w.heap.size,1,none⟩=some (int i64 C.b)/\wx.cell? ⟨w.heap.size,2,none⟩=some (int i64 C.c)/\wx.cell? ⟨w.heap.size,3,none⟩=some (int i64 C.d)/\wx.cell? ⟨w.heap.size,4,none⟩=some (.map (some r)) /\ wx.cell? ⟨w.heap.size+1,0,none⟩=some (int i64 op)/\wx.cell? ⟨w.heap.size+1,2,none⟩=some (slice (some ⟨g,o,none⟩) (flen l) c)/\wx.cell? ⟨g,o+3,none⟩=some (int i64 p1)/\wx.cell? ⟨g,o+4,none⟩=some (int i64 q1)/\wx.cell? ⟨g,o+5,none⟩=some bb /\ wx.cell? ⟨b5,0,none⟩=some (int i64 x)/\wx.cell? ⟨b5,1,none⟩=some (int i64 y)/\(Instr.lookup 203 (.map (some r)) (int i64 op) false).run prog wx=.ok (.func (.func gf) #[] cap) wx/\CBR w C r op n (slice (some ⟨g,o,none⟩) (flen l) c) b5 x y wx):=λwx h=>by obtain ⟨c0,c1,c2,c3,c4⟩:=h.l.c;obtain ⟨e0,_,J⟩:=h.l.e;obtain ⟨a0,m,Z⟩:=S wx h.l.b;exact ⟨c0,c1,c2,c3,c4,e0,J,a0,m,Z,h.r.c0,h.r.c1,Zb4 underlying203 underlying3 (hm.on h.l.b) hn,h⟩
      have bN:(1:Int)<(flen l:Int):=by omega
      obtain ⟨e0,Y,J⟩:=O.e;have r0:=M.c0;have r1:=M.c1;have bc:=zh ba;have bD:=zh S;have bQ:=zh bA;have bG:=zh bJ;have bT:=zh bF;have D:=zh O;have R6:=zh M;have bZ:=zh hr;have bU:=zh bt;have bS:=zh bs;clear ba S bA bJ bF O M hr bt bs hm hn bz j bq bg HO bK;go_upto_region 14 with fail;clear e0 Y J r0 r1;go_region_held (λw'=>w'.cell? ⟨w.heap.size,0,none⟩=some (int i64 C.a)/\w'.cell? ⟨w.heap.size,1,none⟩=some (int i64 C.b)/\w'.cell? ⟨w.heap.size,2,none⟩=some (int i64 C.c)/\w'.cell? ⟨w.heap.size,3,none⟩=some (int i64 C.d)/\w'.cell? ⟨w.heap.size,4,none⟩=some (.map (some r)) /\ w'.cell? ⟨w.heap.size+1,0,none⟩=some (int i64 op)/\w'.cell? ⟨w.heap.size+1,2,none⟩=some (slice (some ⟨g,o,none⟩) (flen l) c)/\w'.cell? ⟨g,o+3,none⟩=some (int i64 p1)/\w'.cell? ⟨g,o+4,none⟩=some (int i64 q1)/\w'.cell? ⟨g,o+5,none⟩=some bb /\ w'.cell? ⟨b5,0,none⟩=some (int i64 x)/\w'.cell? ⟨b5,1,none⟩=some (int i64 y)/\(Instr.lookup 203 (.map (some r)) (int i64 op) false).run prog w'=.ok (.func (.func gf) #[] cap) w'/\CBR w C r op n (slice (some ⟨g,o,none⟩) (flen l) c) b5 x y w') (first | (with_reducible exact F.out _ (CBR.drew ⟨D.out.l,R6.out⟩)) | (with_reducible exact F.out _ br) | (with_reducible exact F.out _ U) | (exact F.out _ (br.store bS.out _ _))) (first
        | (go_at_call 149;refine (bc.out _ D.out.drew.2.2.2).mono ?_;intro e w' H;obtain ⟨hb,⟨T,N,G,rfl⟩ | ⟨k,G,rfl⟩⟩:=H.parts;rotate_left;(have L:=zh G;exact ⟨rfl,Z00 D.out.drew.2.2.2 hb,by rw [bQ.out k L.out];rfl⟩);have L:=zh G;have I:=D.out.drew.on hb;have R:=zh I;have U:CBR w C r op n (slice (some ⟨g,o,none⟩) (flen l) c) b5 x y w':=⟨I.l,R6.out.on (Z00 (zr _ _).drew hb)⟩;clear I G H hb)
        | (refine (bT.out _ T N R.out.2.2.2 L.out).mono ?_;intro e bX H;obtain ⟨hb,⟨x2,y2,bj,rfl⟩ | ⟨k,bj,rfl⟩⟩:=H.parts;rotate_left;(have bp:=zh bj;exact ⟨rfl,Z00 R.out.2.2.2 hb,by rw [bG.out T N L.out,bp.out];rfl⟩);have bp:=zh bj;have be:=R.out.on hb;have br:=U.on hb;have z0:=be.2.2.1.c0;have f:=be.2.2.1.c1;have y0:=be.2.2.1.fr 0;have b4:=be.2.2.1.fr 1;clear be bj H hb))
      all_goals go_wp2_with fail;exact bodyPost_ret (v:=.agg #[int i64 x2,int i64 y2]) (by simp [results,results149,go_sem,z0,f]) rfl ⟨Z01 br.l.b (by omega) _ _,by rw [bG.out T N L.out,bp.out];rfl⟩
end Go.Proofs.YtnepkoepbapgeaaGreatDoor
