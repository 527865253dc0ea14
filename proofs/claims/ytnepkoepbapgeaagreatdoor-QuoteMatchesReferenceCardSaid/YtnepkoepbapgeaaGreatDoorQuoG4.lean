import Derived.Test.YtnepkoepbapgeaaGreatDoorQuoG3
import Derived.Test.YtnepkoepbapgeaaGreatDoorQuoVal
namespace Go.Proofs.YtnepkoepbapgeaaGreatDoor
open _root_.Go.Proofs.Tryz
open Value (int slice)
open IntKind (i64)
set_option maxHeartbeats 16000000
set_option maxRecDepth 100000
open Go.RowKit Lx Px Qx
structure EvB (w:World) (vs:Vs) (op n:Int) (kv:Value) (wx:World):Prop where
 x:wx.heap[w.heap.size]?=some (.cells #[int i64 op,int i64 n,kv] 63 (0,0))
 v:wx.heap[w.heap.size+1]?=some (.cells #[int i64 vs.a,int i64 vs.b,int i64 vs.c,int i64 vs.d] 148 (0,0))
 b:Below w.heap.size w wx
theorem EvB.on {w B F:World}{D:Vs}{op n:Int}{C:Value}(h:EvB w D op n C B)(hb:Below B.heap.size B F):EvB w D op n C F := ⟨(hb.block _ (zs h.x)).trans h.x,(hb.block _ (zs h.v)).trans h.v,Z00 h.b hb⟩
theorem EvB.drew {w D:World}{C:Vs}{op n:Int}{B:Value}(h:EvB w C op n B D):EvB w C op n B D.drew:=h.on (zr _ _).drew
theorem EvB.lt {w B:World}{D:Vs}{op n:Int}{C:Value}(h:EvB w D op n C B):w.heap.size+1<B.heap.size:=(zs h.v)
theorem EvB.c {w C:World}{B:Vs}{op n:Int}{D:Value}(h:EvB w B op n D C):C.cell? ⟨w.heap.size+1,0,none⟩=some (int i64 B.a)/\C.cell? ⟨w.heap.size+1,1,none⟩=some (int i64 B.b)/\C.cell? ⟨w.heap.size+1,2,none⟩=some (int i64 B.c)/\C.cell? ⟨w.heap.size+1,3,none⟩=some (int i64 B.d):=by
 refine ⟨?_,?_,?_,?_⟩ <;> (rw [zc h.v];rfl)
theorem EvB.e {w B:World}{D:Vs}{op n:Int}{C:Value}(h:EvB w D op n C B):B.cell? ⟨w.heap.size,0,none⟩=some (int i64 op)/\B.cell? ⟨w.heap.size,1,none⟩=some (int i64 n)/\B.cell? ⟨w.heap.size,2,none⟩=some C:=by
 refine ⟨?_,?_,?_⟩ <;> (rw [zc h.x];rfl)
theorem EvB.store {w B:World}{F:Vs}{op n:Int}{D:Value}{b:Nat}(h:EvB w F op n D B)(hb:w.heap.size+2<=b)(x y:Value):EvB w F op n D ((B.setCell ⟨b,0,none⟩ x).setCell ⟨b,1,none⟩ y):=by
 have C:Below (w.heap.size+2) B ((B.setCell ⟨b,0,none⟩ x).setCell ⟨b,1,none⟩ y):=((zr _ _).setCell (p:=⟨b,0,none⟩) hb _).setCell (p:=⟨b,1,none⟩) hb _;exact ⟨(C.block _ (by omega)).trans h.x,(C.block _ (by omega)).trans h.v,h.b.trans (C.mono (by omega))⟩
theorem ZdB (w:World)(B:Vs)(op n:Int)(C:Value):EvB w B op n C (((w.alloc (.cells #[int i64 op,int i64 n,C] 63)).alloc (.cells #[int i64 B.a,int i64 B.b,int i64 B.c,int i64 B.d] 148)).alloc (.cells #[int i64 0,int i64 0] 60))/\RatB (((w.alloc (.cells #[int i64 op,int i64 n,C] 63)).alloc (.cells #[int i64 B.a,int i64 B.b,int i64 B.c,int i64 B.d] 148)).alloc (.cells #[int i64 0,int i64 0] 60)) (w.heap.size+2) 0 0:=by
 obtain ⟨D,F⟩:=Z11 w (.cells #[int i64 op,int i64 n,C] 63) (.cells #[int i64 B.a,int i64 B.b,int i64 B.c,int i64 B.d] 148);refine ⟨⟨Z0A D _,Z0A F _,(((zr _ _).alloc (zn _) _).alloc (by simp) _).alloc (by simp;omega) _⟩,?_⟩;have:=za ((w.alloc (.cells #[int i64 op,int i64 n,C] 63)).alloc (.cells #[int i64 B.a,int i64 B.b,int i64 B.c,int i64 B.d] 148)) (.cells #[int i64 0,int i64 0] 60);simpa [RatB] using this
structure EvR (w:World) (vs:Vs) (op n:Int) (kv:Value) (b:Nat) (x y:Int) (wx:World):Prop where
 l:EvB w vs op n kv wx
 r:RatB wx b x y
theorem EvR.on {w B F:World}{D:Vs}{op n:Int}{C:Value}{b:Nat}{x y:Int}(h:EvR w D op n C b x y B)(hb:Below B.heap.size B F):EvR w D op n C b x y F:=⟨h.l.on hb,h.r.on hb⟩
theorem EvR.drew {w D:World}{C:Vs}{op n:Int}{B:Value}{b:Nat}{x y:Int}(h:EvR w C op n B b x y D):EvR w C op n B b x y D.drew:=h.on (zr _ _).drew
structure EvS (w:World) (vs:Vs) (op n:Int) (kv:Value) (b:Nat) (x y:Int) (wx:World):Prop where
 l:EvB w vs op n kv wx
 r:RatB wx b x y
 z:RatB wx (w.heap.size+2) 0 0
theorem EvS.on {w B F:World}{D:Vs}{op n:Int}{C:Value}{b:Nat}{x y:Int}(h:EvS w D op n C b x y B)(hb:Below B.heap.size B F):EvS w D op n C b x y F:=⟨h.l.on hb,h.r.on hb,h.z.on hb⟩
theorem EvS.drew {w D:World}{C:Vs}{op n:Int}{B:Value}{b:Nat}{x y:Int}(h:EvS w C op n B b x y D):EvS w C op n B b x y D.drew:=h.on (zr _ _).drew
theorem Z3c {w:World}{b g:Nat}{p q:Int}(h:RatB w b p q)(B:b≠g)(u v:Value):RatB ((w.setCell ⟨g,0,none⟩ u).setCell ⟨g,1,none⟩ v) b p q := (zg _ _ _ _ (by show b≠g;exact B)).trans ((zg _ _ _ _ (by show b≠g;exact B)).trans h)
theorem Zjv (v:V)(h:∀ e,v=.no e->e=3\/e=22):(vE v=0->v=.ok (vN v) (vD v))/\(vE v≠0->v=.no (vE v)):=by
 cases v with
 | ok n d=>exact ⟨λ_=>rfl,λh=>absurd rfl h⟩
 | no e=>exact ⟨λh0=>by have B:e=0:=h0;have:=h e rfl;omega,λ_=>rfl⟩
def EvC (a:Int × Int)(l:Fo):Prop := ∀ (w:World) (v:Value) (B:Nat) (vs:Vs),FoV w B v l->B<=w.heap.size->Z05 a.1 a.2 (flen l)=true->wfF l->(∀ i,0<=vs.at i/\vs.at i<=1000) -> Calls prog 170 #[.agg #[int i64 a.1,int i64 a.2,v],.agg #[int i64 vs.a,int i64 vs.b,int i64 vs.c,int i64 vs.d]] w (RetV (valE vs a l) w)
theorem Zff (op n:Int)(l:Fo)(h:op=1\/op=2):EvC (op,n) l:=by
 intro w v B C T f F hw R;dsimp only at F;have q:0<=n/\n<=1000000000:=by rcases h with rfl | rfl <;> (simp [Z05] at F;omega)
 have N:valE C (op,n) l=Z10 n 1:=by unfold valE opV;rw [zp h]
 have L:=λW=>Z7c (n) 1 W (by omega) (by omega) (by omega) (by omega) (by omega);obtain ⟨I,J⟩:=ZdB w C op n v;rw [N];generalize Z10 (n) 1=V at *
 obtain ⟨A,c,rfl,_⟩:=T;have O:=zh I;have M:=zh J;have H:=zh L;have m:=zh F;have r:=zh hw;have g:=zh R;clear I J L F hw R N;rcases h with rfl | rfl
 all_goals
  go_enter func170,ntmps170;go_wp2_with fail;generalize ((w.alloc (.cells #[int i64 _,int i64 _,slice A (flen l) c] 63)).alloc (.cells #[int i64 C.a,int i64 C.b,int i64 C.c,int i64 C.d] 148)).alloc (.cells #[int i64 0,int i64 0] 60)=Y at *
  refine (H.out Y).mono ?_;rintro e y ⟨rfl,hb⟩;have G:=O.out.on hb;have D:=M.out.on hb;have U:=D.c0;have S:=D.c1;have j:=D.fr 0;have Z:=D.fr 1;have X:=D.lt;replace G:=zh G;clear hb O M D H;go_wp2_with fail;exact bodyPost_ret (v:=.tuple #[.agg #[int i64 (vN V),int i64 (vD V)],int i64 (vE V)]) (by simp [results,results170,go_sem,U,S]) rfl ⟨rfl,Z01 G.out.b (by omega) _ _⟩
theorem Zfg (n:Int)(l:Fo):EvC (3,n) l:=by
 intro w v B C T m F hw H;dsimp only at F;have Y:n=1\/n=2\/n=3\/n=4:=by simp [Z05] at F;omega
 have O:valE C (3,n) l=Z10 (C.at n) 1:=by unfold valE opV;rw [zf (by simp),zp rfl]
 obtain ⟨g,j⟩:=H n;have M:=λW=>Z7c (C.at n) 1 W (by omega) (by omega) (by omega) (by omega) (by omega);obtain ⟨J,L⟩:=ZdB w C 3 n v;rw [O];generalize Z10 (C.at n) 1=V at *
 obtain ⟨A,c,rfl,_⟩:=T;have R:=zh J;have N:=zh L;have I:=zh M;have y:=zh F;have HW:=zh hw;have q:=zh H;clear J L M F hw H O;rcases Y with rfl | rfl | rfl | rfl
 all_goals
  go_enter func170,ntmps170;go_wp2_with fail;generalize ((w.alloc (.cells #[int i64 _,int i64 _,slice A (flen l) c] 63)).alloc (.cells #[int i64 C.a,int i64 C.b,int i64 C.c,int i64 C.d] 148)).alloc (.cells #[int i64 0,int i64 0] 60)=Z at *
  refine (I.out Z).mono ?_;rintro e w2 ⟨rfl,hb⟩;have G:=R.out.on hb;have D:=N.out.on hb;have U:=D.c0;have S:=D.c1;have r:=D.fr 0;have f:=D.fr 1;have X:=D.lt;replace G:=zh G;clear hb R N D I;go_wp2_with fail;exact bodyPost_ret (v:=.tuple #[.agg #[int i64 (vN V),int i64 (vD V)],int i64 (vE V)]) (by simp [results,results170,go_sem,U,S]) rfl ⟨rfl,Z01 G.out.b (by omega) _ _⟩
theorem Zci {l:Fo}(I:∀ k,k<flen l->EvC (getF l k).1 (getF l k).2){w:World}{A:Option Addr}{B:Nat}{C:Vs}(M:FoAt w B l A 0)(S:B<=w.heap.size)(hw:wfF l)(J:∀ i,0<=C.at i/\C.at i<=1000){k:Nat}(hk:k<flen l) : ∃ (g o:Nat) (p q:Int) (kv:Value),A=some ⟨g,o,none⟩/\(∀ W,Below w.heap.size w W->W.cell? ⟨g,o+k*3,none⟩=some (int i64 p)/\W.cell? ⟨g,o+k*3+1,none⟩=some (int i64 q)/\W.cell? ⟨g,o+k*3+2,none⟩=some kv) /\ ∀ W,Below w.heap.size w W->Calls prog 170 #[.agg #[int i64 p,int i64 q,kv],.agg #[int i64 C.a,int i64 C.b,int i64 C.c,int i64 C.d]] W (RetV (valF C l k) W):=by
 obtain ⟨g,o,D,c,e,R,F,H,G,N⟩:=ZpG M hk;obtain ⟨L,O⟩:=ZfE hw hk;refine ⟨g,o,_,_,_,e,λW hb=>⟨(hb.cell (p:=⟨g,o+k*3,none⟩) (by show g<_;omega)).trans F,(hb.cell (p:=⟨g,o+k*3+1,none⟩) (by show g<_;omega)).trans H,(hb.cell (p:=⟨g,o+k*3+2,none⟩) (by show g<_;omega)).trans G⟩,λW hb=>?_⟩;rw [Zfs C l k hk];exact I k hk W _ B C ⟨D,c,rfl,FoAt.keep (λp hp=>hb.cell (by omega)) _ D 0 N⟩ (by have:=hb.size;omega) L O J
theorem Zjw (op n:Int)(l:Fo)(ih:∀ k,k<flen l->EvC (getF l k).1 (getF l k).2)(h1:op≠1)(h2:op≠2)(h3:op≠3):EvC (op,n) l:=by
 intro w v B C hv hB hf hw bk;dsimp only at hf;obtain ⟨bm,b4,cd⟩:=Z6u hf;have bO:0<flen l:=by
  rw [bm];unfold arO
  repeat' split
  all_goals omega
 obtain ⟨A,c,rfl,hA⟩:=hv;have hV:valE C (op,n) l=opV C op n (valF C l 0) (valF C l 1) (valF C l 2):=rfl;obtain ⟨g,o,p0,q0,bE,rfl,bn,bj⟩:=Zci ih hA hB hw bk bO;have bs:=λk (hk:k<flen l)=>Z49 C l k;have bu:=λk=>Zjv (valF C l k) (λe h=>Z8a C l k e h);obtain ⟨bV,bQ⟩:=ZdB w C op n (slice (some ⟨g,o,none⟩) (flen l) c);have bT:∀ k,k<flen l->∃ (p q:Int) (kv:Value),(∀ W,Below w.heap.size w W->W.cell? ⟨g,o+k*3,none⟩=some (int i64 p)/\W.cell? ⟨g,o+k*3+1,none⟩=some (int i64 q)/\W.cell? ⟨g,o+k*3+2,none⟩=some kv) /\ ∀ W,Below w.heap.size w W->Calls prog 170 #[.agg #[int i64 p,int i64 q,kv],.agg #[int i64 C.a,int i64 C.b,int i64 C.c,int i64 C.d]] W (RetV (valF C l k) W):=by
  intro k hk;obtain ⟨g',o',p,q,kv,e,m,j⟩:=Zci ih hA hB hw bk hk;injection e with e
  injection e with e1 M
  subst e1 M;exact ⟨p,q,kv,m,j⟩
 rw [Nat.zero_mul] at bn;have d1:(op==1)=false:=by simpa using h1
 have d2:(op==2)=false:=by simpa using h2
 have d3:(op==3)=false:=by simpa using h3
 have cc:(0:Int)<(flen l:Int):=by omega
 have bI:∀ k y z,opV C op n (.no k) y z=.no k:=λk y z=>by unfold opV;rw [zf (by omega),zf h3]
 have bH:∀ a b y z,opV C op n (.ok a b) y z=if op=15 then truV (decide (a=0)) else if op=10 then (if a=1 then y else z) else match y with | .no e=>.no e | .ok c d=>appV op a b c d:=λa b y z=>by unfold opV;rw [zf (by omega),zf h3];rfl
 rw [hV];clear hV;obtain ⟨U,bt⟩:∃ U,opV C op n (valF C l 0) (valF C l 1) (valF C l 2)=U:=⟨_,rfl⟩
 rw [bt];have bq:=bu 0;have bK:=bs 0 bO;obtain ⟨x,hx⟩:∃ x,vN (valF C l 0)=x:=⟨_,rfl⟩
 obtain ⟨y,hy⟩:∃ y,vD (valF C l 0)=y:=⟨_,rfl⟩
 obtain ⟨er,bh⟩:∃ er,vE (valF C l 0)=er:=⟨_,rfl⟩
 unfold RetV at bj;rw [hx,hy,bh] at bj bq;have bU:=zh bV;have bz:=zh bQ;have bF:=zh bn;have bA:=zh bj;have be:=zh bT;have HF:=zh hf;have HW:=zh hw;have ca:=zh bk;have HA:=zh hA;have IH:=zh ih;have bL:=zh bs;have bG:=zh bu;have bp:=zh bq;have bM:=zh bK;have bg:=zh bm;have H1:=zh h1;have H2:=zh h2;have H3:=zh h3;have bZ:=zh bI;have bY:=zh bH;have bx:=zh bt;clear bV bQ bn bj bT hf hw bk hA ih bs bu bq bK bm h1 h2 h3 bI bH bt hx hy bh;go_enter func170,ntmps170;go_upto_region 8 with fail;generalize ((w.alloc (.cells #[int i64 op,int i64 n,(slice (some ⟨g,o,none⟩) (flen l) c)] 63)).alloc (.cells #[int i64 C.a,int i64 C.b,int i64 C.c,int i64 C.d] 148)).alloc (.cells #[int i64 0,int i64 0] 60)=W1 at *
 have H:Hid (∀ wx,EvR w C op n (slice (some ⟨g,o,none⟩) (flen l) c) (w.heap.size+2) 0 0 wx->wx.cell? ⟨w.heap.size+1,0,none⟩=some (int i64 C.a)/\wx.cell? ⟨w.heap.size+1,1,none⟩=some (int i64 C.b)/\wx.cell? ⟨w.heap.size+1,2,none⟩=some (int i64 C.c)/\wx.cell? ⟨w.heap.size+1,3,none⟩=some (int i64 C.d)/\wx.cell? ⟨w.heap.size,2,none⟩=some (slice (some ⟨g,o,none⟩) (flen l) c)/\wx.cell? ⟨g,o,none⟩=some (int i64 p0)/\wx.cell? ⟨g,o+1,none⟩=some (int i64 q0)/\wx.cell? ⟨g,o+2,none⟩=some bE/\EvR w C op n (slice (some ⟨g,o,none⟩) (flen l) c) (w.heap.size+2) 0 0 wx):=λwx h=>by obtain ⟨c0,c1,c2,c3⟩:=h.l.c;obtain ⟨_,_,M⟩:=h.l.e;obtain ⟨a0,m,j⟩:=bF.out wx h.l.b;exact ⟨c0,c1,c2,c3,M,a0,m,j,h⟩
 have bW:w.heap.size+2<W1.heap.size:=bz.out.lt;go_region_held (λw'=>w'.cell? ⟨w.heap.size+1,0,none⟩=some (int i64 C.a)/\w'.cell? ⟨w.heap.size+1,1,none⟩=some (int i64 C.b)/\w'.cell? ⟨w.heap.size+1,2,none⟩=some (int i64 C.c)/\w'.cell? ⟨w.heap.size+1,3,none⟩=some (int i64 C.d)/\w'.cell? ⟨w.heap.size,2,none⟩=some (slice (some ⟨g,o,none⟩) (flen l) c)/\w'.cell? ⟨g,o,none⟩=some (int i64 p0)/\w'.cell? ⟨g,o+1,none⟩=some (int i64 q0)/\w'.cell? ⟨g,o+2,none⟩=some bE/\EvR w C op n (slice (some ⟨g,o,none⟩) (flen l) c) (w.heap.size+2) 0 0 w') (first | (with_reducible exact H.out _ (EvR.drew ⟨bU.out,bz.out⟩)) | (with_reducible exact H.out _ J.out) | (exact H.out _ ((‹_/\_/\_/\_/\_/\_/\_/\_/\EvR w C op n _ _ _ _ _›).2.2.2.2.2.2.2.2.on ((zr _ _).alloc (zn _) _))) | (exact H.out _ (J.out.on ((zr _ _).alloc (zn _) _))) | (exact H.out _ ⟨J.out.l.store (by omega) _ _,Z3c J.out.r (by omega) _ _⟩)) ((go_at_call 170;have bc:=(‹_/\_/\_/\_/\_/\_/\_/\_/\EvR w C op n _ _ _ _ _›).2.2.2.2.2.2.2.2;refine (bA.out _ bc.l.b).mono ?_;intro e w' hh;obtain ⟨rfl,hb⟩:=hh;have J:=zh (bc.on hb);try (have hz:=(hb.block W1.heap.size (by simp [go_sem])).trans (za W1.drew (.cells #[int i64 0,int i64 0] 60));have V:Hid (RatB w' W1.heap.size 0 0):=hz;have L:=V.out.c0;have I:=V.out.c1;have T:=V.out.fr 0;have S:=V.out.fr 1;clear hz);clear hb bc))
 all_goals
  first
   | (have f:=Z2s V.out x y
      have G:EvR w C op n (slice (some ⟨g,o,none⟩) (flen l) c) (w.heap.size+2) 0 0 _:=⟨J.out.l.store (b:=W1.heap.size) (by omega) (int i64 x) (int i64 y),Z3c J.out.r (by omega) (int i64 x) (int i64 y)⟩
      clear L I T S V;generalize (w'.setCell ⟨W1.heap.size,0,none⟩ (int i64 x)).setCell ⟨W1.heap.size,1,none⟩ (int i64 y)=w5 at *
      generalize W1.heap.size=b5 at *
      have b3:=bW)
   | (have b3:w.heap.size+2<w'.heap.size:=J.out.r.lt
      have f:=RatB.new w' x y
      have G:=J.out.on ((zr w'.heap.size w').alloc (zn _) (.cells #[int i64 x,int i64 y] 60))
      generalize w'.alloc (.cells #[int i64 x,int i64 y] 60)=w5 at *
      generalize w'.heap.size=b5 at *)
  clear J bU bz H bA bF;obtain ⟨e0,e1,M⟩:=G.l.e;have r0:=f.c0;have r1:=f.c1;have L:=G.r.c0;have I:=G.r.c1;have T:=G.r.fr 0;have S:=G.r.fr 1;have N:=G.r.lt;replace G:=zh G;replace f:=zh f;by_cases he:er=0
  · subst he;have hX:=bp.out.1 rfl;have D:=bx.out;rw [hX,bY.out] at D;have bS:=bM.out x y hX;have HX:=zh hX;have bX:=zh bS;clear hX bS bp bM bx;by_cases h15:op=15
    · subst h15;rw [zp rfl] at D;have dx:(x==0)=decide (x=0):=by rw [zA];simp
      obtain ⟨t,bC⟩:∃ t,decide (x=0)=t:=⟨_,rfl⟩
      rw [bC] at dx D;have ht:=λW=>Z41 t W;have hE:=Zch t;rw [D] at ht hE;have HT:=zh ht;clear ht L I T S N bC D;go_wp2_with fail;refine (HT.out _).mono ?_;rintro e w6 ⟨rfl,hb⟩;have F:=G.out.on hb;have L:=F.r.c0;have I:=F.r.c1;have T:=F.r.fr 0;have S:=F.r.fr 1;have N:=F.r.lt;replace F:=zh F;have HE:=zh hE;clear hE hb e0 e1 M r0 r1 G f;go_wp2_with fail;exact bodyPost_ret (v:=.tuple #[.agg #[int i64 (vN U),int i64 (vD U)],int i64 0]) (by simp [results,results170,go_sem,L,I]) rfl ⟨by rw [HE.out],Z01 F.out.l.b (by omega) _ _⟩
    · rw [zf h15] at D;have b7:(op==15)=false:=by simpa using h15
      by_cases h10:op=10
      · subst h10;rw [zp rfl] at D;by_cases bb:x=1
        · rw [zp bb] at D;have b1:(x==1)=true:=by simpa using bb
          obtain ⟨p1,q1,ba,X,R⟩:=be.out 1 (by have:=bg.out;simp [arO] at this;omega);rw [D] at R;clear D;have H:Hid (∀ wx,EvB w C 10 n (slice (some ⟨g,o,none⟩) (flen l) c) wx->wx.cell? ⟨w.heap.size+1,0,none⟩=some (int i64 C.a)/\wx.cell? ⟨w.heap.size+1,1,none⟩=some (int i64 C.b)/\wx.cell? ⟨w.heap.size+1,2,none⟩=some (int i64 C.c)/\wx.cell? ⟨w.heap.size+1,3,none⟩=some (int i64 C.d)/\wx.cell? ⟨w.heap.size,2,none⟩=some (slice (some ⟨g,o,none⟩) (flen l) c)/\wx.cell? ⟨g,o+3,none⟩=some (int i64 p1)/\wx.cell? ⟨g,o+4,none⟩=some (int i64 q1)/\wx.cell? ⟨g,o+5,none⟩=some ba/\EvB w C 10 n (slice (some ⟨g,o,none⟩) (flen l) c) wx):=λwx h=>by obtain ⟨c0,c1,c2,c3⟩:=h.c;obtain ⟨_,_,M⟩:=h.e;obtain ⟨a0,m,j⟩:=X wx h.b;exact ⟨c0,c1,c2,c3,M,a0,m,j,h⟩
          have bN:(1:Int)<(flen l:Int):=by have:=bg.out;simp [arO] at this;omega
          unfold RetV at R;have bd:=zh R;have br:=zh X;clear R X L I T S N be;go_upto_region 14 with fail;clear e0 e1 M r0 r1;go_region_held (λw'=>w'.cell? ⟨w.heap.size+1,0,none⟩=some (int i64 C.a)/\w'.cell? ⟨w.heap.size+1,1,none⟩=some (int i64 C.b)/\w'.cell? ⟨w.heap.size+1,2,none⟩=some (int i64 C.c)/\w'.cell? ⟨w.heap.size+1,3,none⟩=some (int i64 C.d)/\w'.cell? ⟨w.heap.size,2,none⟩=some (slice (some ⟨g,o,none⟩) (flen l) c)/\w'.cell? ⟨g,o+3,none⟩=some (int i64 p1)/\w'.cell? ⟨g,o+4,none⟩=some (int i64 q1)/\w'.cell? ⟨g,o+5,none⟩=some ba/\EvB w C 10 n (slice (some ⟨g,o,none⟩) (flen l) c) w') (first | (with_reducible exact H.out _ G.out.l.drew) | (with_reducible exact H.out _ HL.out) | (exact H.out _ (HL.out.store (zn _) _ _))) ((go_at_call 170;refine (bd.out _ G.out.l.drew.b).mono ?_;rintro e w' ⟨rfl,hb⟩;have O:=G.out.drew.on hb;have HL:=zh O.l;have L:=O.r.c0;have I:=O.r.c1;have T:=O.r.fr 0;have S:=O.r.fr 1;have N:=O.r.lt;clear O hb));go_wp2_with fail;exact bodyPost_ret (v:=.tuple #[.agg #[int i64 (vN U),int i64 (vD U)],int i64 (vE U)]) (by simp [results,results170,go_sem,L,I]) rfl ⟨rfl,Z01 HL.out.b (by omega) _ _⟩
        · rw [zf bb] at D;have b1:(x==1)=false:=by simpa using bb
          obtain ⟨p1,q1,ba,X,R⟩:=be.out 2 (by have:=bg.out;simp [arO] at this;omega);rw [D] at R;clear D;have H:Hid (∀ wx,EvB w C 10 n (slice (some ⟨g,o,none⟩) (flen l) c) wx->wx.cell? ⟨w.heap.size+1,0,none⟩=some (int i64 C.a)/\wx.cell? ⟨w.heap.size+1,1,none⟩=some (int i64 C.b)/\wx.cell? ⟨w.heap.size+1,2,none⟩=some (int i64 C.c)/\wx.cell? ⟨w.heap.size+1,3,none⟩=some (int i64 C.d)/\wx.cell? ⟨w.heap.size,2,none⟩=some (slice (some ⟨g,o,none⟩) (flen l) c)/\wx.cell? ⟨g,o+6,none⟩=some (int i64 p1)/\wx.cell? ⟨g,o+7,none⟩=some (int i64 q1)/\wx.cell? ⟨g,o+8,none⟩=some ba/\EvB w C 10 n (slice (some ⟨g,o,none⟩) (flen l) c) wx):=λwx h=>by obtain ⟨c0,c1,c2,c3⟩:=h.c;obtain ⟨_,_,M⟩:=h.e;obtain ⟨a0,m,j⟩:=X wx h.b;exact ⟨c0,c1,c2,c3,M,a0,m,j,h⟩
          have bN:(2:Int)<(flen l:Int):=by have:=bg.out;simp [arO] at this;omega
          unfold RetV at R;have bd:=zh R;have br:=zh X;clear R X L I T S N be;go_upto_region 16 with fail;clear e0 e1 M r0 r1;go_region_held (λw'=>w'.cell? ⟨w.heap.size+1,0,none⟩=some (int i64 C.a)/\w'.cell? ⟨w.heap.size+1,1,none⟩=some (int i64 C.b)/\w'.cell? ⟨w.heap.size+1,2,none⟩=some (int i64 C.c)/\w'.cell? ⟨w.heap.size+1,3,none⟩=some (int i64 C.d)/\w'.cell? ⟨w.heap.size,2,none⟩=some (slice (some ⟨g,o,none⟩) (flen l) c)/\w'.cell? ⟨g,o+6,none⟩=some (int i64 p1)/\w'.cell? ⟨g,o+7,none⟩=some (int i64 q1)/\w'.cell? ⟨g,o+8,none⟩=some ba/\EvB w C 10 n (slice (some ⟨g,o,none⟩) (flen l) c) w') (first | (with_reducible exact H.out _ G.out.l.drew) | (with_reducible exact H.out _ HL.out) | (exact H.out _ (HL.out.store (zn _) _ _))) ((go_at_call 170;refine (bd.out _ G.out.l.drew.b).mono ?_;rintro e w' ⟨rfl,hb⟩;have O:=G.out.drew.on hb;have HL:=zh O.l;have L:=O.r.c0;have I:=O.r.c1;have T:=O.r.fr 0;have S:=O.r.fr 1;have N:=O.r.lt;clear O hb));go_wp2_with fail;exact bodyPost_ret (v:=.tuple #[.agg #[int i64 (vN U),int i64 (vD U)],int i64 (vE U)]) (by simp [results,results170,go_sem,L,I]) rfl ⟨rfl,Z01 HL.out.b (by omega) _ _⟩
      · rw [zf h10] at D;have cb:(op==10)=false:=by simpa using h10
        have hr:4<=op/\op<=14/\1<flen l:=by
         have h1:=H1.out;have h2:=H2.out;have h3:=H3.out;have ha:=bg.out;refine ⟨by omega,by omega,?_⟩;rw [ha];unfold arO
         repeat' split
         all_goals omega
        obtain ⟨p1,q1,ba,X,R⟩:=be.out 1 hr.2.2;have bv:=bG.out 1;have bJ:=bL.out 1 hr.2.2;generalize valF C l 1=V1 at *
        obtain ⟨Z,bb⟩:∃ x,vN V1=x:=⟨_,rfl⟩
        obtain ⟨Y,bP⟩:∃ y,vD V1=y:=⟨_,rfl⟩
        obtain ⟨er,bh⟩:∃ er,vE V1=er:=⟨_,rfl⟩
        unfold RetV at R;rw [bb,bP,bh] at R bv;clear bb bP bh;have H:Hid (∀ wx,EvS w C op n (slice (some ⟨g,o,none⟩) (flen l) c) b5 x y wx->wx.cell? ⟨w.heap.size+1,0,none⟩=some (int i64 C.a)/\wx.cell? ⟨w.heap.size+1,1,none⟩=some (int i64 C.b)/\wx.cell? ⟨w.heap.size+1,2,none⟩=some (int i64 C.c)/\wx.cell? ⟨w.heap.size+1,3,none⟩=some (int i64 C.d)/\wx.cell? ⟨w.heap.size,2,none⟩=some (slice (some ⟨g,o,none⟩) (flen l) c)/\wx.cell? ⟨g,o+3,none⟩=some (int i64 p1)/\wx.cell? ⟨g,o+4,none⟩=some (int i64 q1)/\wx.cell? ⟨g,o+5,none⟩=some ba/\EvS w C op n (slice (some ⟨g,o,none⟩) (flen l) c) b5 x y wx):=λwx h=>by obtain ⟨c0,c1,c2,c3⟩:=h.l.c;obtain ⟨_,_,M⟩:=h.l.e;obtain ⟨a0,m,j⟩:=X wx h.l.b;exact ⟨c0,c1,c2,c3,M,a0,m,j,h⟩
        have bN:(1:Int)<(flen l:Int):=by omega
        have b8:b5<w5.heap.size:=f.out.lt;have bR:op=4\/op=5\/op=6\/op=7\/op=8\/op=9\/op=11\/op=12\/op=13\/op=14:=by omega
        have bd:=zh R;have br:=zh X;have bB:=zh bv;have b0:=zh bJ;have b9:=zh hr;have b2:=zh bR;clear R X bv bJ hr bR L I T S N be bL bG;go_upto_region 17 with fail;clear e0 e1 M r0 r1;go_region_held (λw'=>w'.cell? ⟨w.heap.size+1,0,none⟩=some (int i64 C.a)/\w'.cell? ⟨w.heap.size+1,1,none⟩=some (int i64 C.b)/\w'.cell? ⟨w.heap.size+1,2,none⟩=some (int i64 C.c)/\w'.cell? ⟨w.heap.size+1,3,none⟩=some (int i64 C.d)/\w'.cell? ⟨w.heap.size,2,none⟩=some (slice (some ⟨g,o,none⟩) (flen l) c)/\w'.cell? ⟨g,o+3,none⟩=some (int i64 p1)/\w'.cell? ⟨g,o+4,none⟩=some (int i64 q1)/\w'.cell? ⟨g,o+5,none⟩=some ba/\EvS w C op n (slice (some ⟨g,o,none⟩) (flen l) c) b5 x y w') (first | (with_reducible exact H.out _ (EvS.drew ⟨G.out.l,f.out,G.out.r⟩)) | (with_reducible exact H.out _ J.out) | (exact H.out _ ((‹_/\_/\_/\_/\_/\_/\_/\_/\EvS w C op n _ _ _ _ _›).2.2.2.2.2.2.2.2.on ((zr _ _).alloc (zn _) _))) | (exact H.out _ (J.out.on ((zr _ _).alloc (zn _) _))) | (exact H.out _ ⟨J.out.l.store (by omega) _ _,Z3c J.out.r (by omega) _ _,Z3c J.out.z (by omega) _ _⟩)) ((go_at_call 170;have bc:=(‹_/\_/\_/\_/\_/\_/\_/\_/\EvS w C op n _ _ _ _ _›).2.2.2.2.2.2.2.2;refine (bd.out _ bc.l.b).mono ?_;intro e w' hh;obtain ⟨rfl,hb⟩:=hh;have J:=zh (bc.on hb);try (have hz:=(hb.block w5.heap.size (by simp [go_sem])).trans (za w5.drew (.cells #[int i64 0,int i64 0] 60));have V:Hid (RatB w' w5.heap.size 0 0):=hz;have L:=V.out.c0;have I:=V.out.c1;have T:=V.out.fr 0;have S:=V.out.fr 1;clear hz);clear hb bc))
        all_goals
         first
          | (have R6:=Z2s V.out Z Y
             have F:EvS w C op n (slice (some ⟨g,o,none⟩) (flen l) c) b5 x y _:=⟨J.out.l.store (b:=w5.heap.size) (by omega) (int i64 Z) (int i64 Y),Z3c J.out.r (by omega) (int i64 Z) (int i64 Y),Z3c J.out.z (by omega) (int i64 Z) (int i64 Y)⟩
             clear L I T S V;generalize (w'.setCell ⟨w5.heap.size,0,none⟩ (int i64 Z)).setCell ⟨w5.heap.size,1,none⟩ (int i64 Y)=w6 at *
             generalize w5.heap.size=b6 at *)
          | (have R6:=RatB.new w' Z Y
             have F:=J.out.on ((zr w'.heap.size w').alloc (zn _) (.cells #[int i64 Z,int i64 Y] 60))
             generalize w'.alloc (.cells #[int i64 Z,int i64 Y] 60)=w6 at *
             generalize w'.heap.size=b6 at *)
         clear J H bd br f G;obtain ⟨e0,e1,M⟩:=F.l.e;have r0:=F.r.c0;have r1:=F.r.c1;have s0:=R6.c0;have s1:=R6.c1;have L:=F.z.c0;have I:=F.z.c1;have T:=F.z.fr 0;have S:=F.z.fr 1;have N:=F.z.lt;replace F:=zh F;replace R6:=zh R6;by_cases he:er=0
         · subst he;have bf:=bB.out.1 rfl;rw [bf] at D;dsimp only at D;have bD:=b0.out Z Y bf;have hc:=λW=>ZgE op x y Z Y W bX.out bD b2.out;rw [D] at hc;have HC:=zh hc;clear hc bf bD L I T S N D;go_wp2_with fail;refine (HC.out _).mono ?_;rintro e w7 ⟨rfl,hb⟩;have C7:=F.out.on hb;have L:=C7.z.c0;have I:=C7.z.c1;have T:=C7.z.fr 0;have S:=C7.z.fr 1;have N:=C7.z.lt;replace C7:=zh C7;clear hb e0 e1 M r0 r1 s0 s1 F R6;go_wp2_with fail;exact bodyPost_ret (v:=.tuple #[.agg #[int i64 (vN U),int i64 (vD U)],int i64 (vE U)]) (by simp [results,results170,go_sem,L,I]) rfl ⟨rfl,Z01 C7.out.l.b (by omega) _ _⟩
         · have bf:=bB.out.2 he;rw [bf] at D;dsimp only at D;subst D;have de:(er != 0)=true:=by simpa using he
           clear bf he;go_wp2_with fail;exact bodyPost_ret (v:=.tuple #[.agg #[int i64 0,int i64 0],int i64 er]) (by simp [results,results170,go_sem,L,I]) rfl ⟨rfl,Z01 F.out.l.b (by omega) _ _⟩
  · have hX:=bp.out.2 he;have D:=bx.out;rw [hX,bZ.out] at D;subst D;have de:(er != 0)=true:=by simpa using he
    clear hX he;go_wp2_with fail;exact bodyPost_ret (v:=.tuple #[.agg #[int i64 0,int i64 0],int i64 er]) (by simp [results,results170,go_sem,L,I]) rfl ⟨rfl,Z01 G.out.l.b (by omega) _ _⟩
theorem Zne:∀ (l:Fo) (k:Nat),k<flen l->EvC (getF l k).1 (getF l k).2:=by
 intro l;induction l with
 | nil=>intro k h;simp [flen] at h
 | node b o a s r ihs ihr =>
  intro k h;cases k with
  | zero =>
   show EvC a s;obtain ⟨op,n⟩:=a;by_cases h12:op=1\/op=2
   · exact Zff op n s h12
   · by_cases h3:op=3
     · subst h3;exact Zfg n s
     · exact Zjw op n s ihs (λh=>h12 (.inl h)) (λh=>h12 (.inr h)) h3
  | succ k=>exact ihr k (by simp [flen] at h;omega)
theorem Zfh (op n:Int)(l:Fo):EvC (op,n) l:=by
 by_cases h12:op=1\/op=2
 · exact Zff op n l h12
 · by_cases h3:op=3
   · subst h3;exact Zfg n l
   · exact Zjw op n l (Zne l) (λh=>h12 (.inl h)) (λh=>h12 (.inr h)) h3
end Go.Proofs.YtnepkoepbapgeaaGreatDoor
