import Derived.Test.YtnepkoepbapgeaaGreatDoorQuoTyp1
namespace Go.Proofs.YtnepkoepbapgeaaGreatDoor
open _root_.Go.Proofs.Tryz
open Value (int slice)
open IntKind (i64)
set_option maxHeartbeats 4000000
set_option maxRecDepth 100000
section
open Go.RowKit Lx Px Qx
def TFn (W:World)(v:Value)(op:Int):Prop := ∃ g cap,v=.func (.func g) #[] cap/\(∀ args w,(callFunc g args).run prog w=.ok (.enter g args) w) /\ ∀ (W':World) (A:Option Addr) (c B:Nat) (ts:List Int),Below W.heap.size W W'->ts.length=arO op->(∀ t∈ts,1<=t/\t<=3)->Z03 W' B (slice A ts.length c) ts->Calls prog g (#[slice A ts.length c]++cap) W' (TP (opL op ts) W')
theorem TFn.on {W C:World}{v:Value}{op:Int}(h:TFn W v op)(hb:Below W.heap.size W C):TFn C v op:=by
 obtain ⟨g,cap,e,F,D⟩:=h;exact ⟨g,cap,e,F,λW2 A c B ts hb2=>D W2 A c B ts (Z00 hb hb2)⟩
theorem Za9 {ts:List Int}(h:ts.length=2):∃ x y,ts=[x,y]:=by
 match ts,h with
 | [x,y],_=>exact ⟨x,y,rfl⟩
theorem Zp9 {ts:List Int}(h:ts.length=3):∃ x y z,ts=[x,y,z]:=by
 match ts,h with
 | [x,y,z],_=>exact ⟨x,y,z,rfl⟩
theorem one_of {ts:List Int}(h:ts.length=1):∃ x,ts=[x]:=by
 match ts,h with
 | [x],_=>exact ⟨x,rfl⟩
theorem Z6w (W:World){op:Int}(h:op=4\/op=5\/op=8\/op=9):TFn W (.func (.func 230) #[] #[]) op:=by
 refine ⟨_,_,rfl,enters_of func230 (by kernel_rfl) rfl,λW' A c B ts _ hl hn hv=>?_⟩;have C:arO op=2:=by unfold arO;rcases h with rfl | rfl | rfl | rfl <;> decide
 obtain ⟨x,y,rfl⟩:=Za9 (hl.trans C);have:=ZcF x y A c B W' hv (by have:=hn x (by simp);omega);rwa [show opL op [x,y]=if x=y/\x≠3 then x else 0 by unfold opL opT;rcases h with rfl | rfl | rfl | rfl <;> rfl]
theorem Z96 (W:World){op:Int}(h:op=11\/op=12):TFn W (.func (.func 229) #[] #[]) op:=by
 refine ⟨_,_,rfl,enters_of func229 (by kernel_rfl) rfl,λW' A c B ts _ hl hn hv=>?_⟩;have C:arO op=2:=by unfold arO;rcases h with rfl | rfl <;> decide
 obtain ⟨x,y,rfl⟩:=Za9 (hl.trans C);have:=Zem x y A c B W' hv (by have:=hn x (by simp);omega);rwa [show opL op [x,y]=if x=y/\x≠3 then 3 else 0 by unfold opL opT;rcases h with rfl | rfl <;> rfl]
theorem Z7i (W:World){op:Int}(h:op=13\/op=14\/op=15):TFn W (.func (.func 232) #[] #[]) op:=by
 refine ⟨_,_,rfl,enters_of func232 (by kernel_rfl) rfl,λW' A c B ts _ hl _ hv=>?_⟩;have C:ts.length<=10:=by rw [hl];unfold arO;(repeat' split) <;> omega
 have:=Zhw ts A c B W' hv C;rwa [show opL op ts=all3 ts from ?_];rcases h with rfl | rfl | rfl
 · obtain ⟨x,y,rfl⟩:=Za9 hl;simp [opL,opT,all3]
 · obtain ⟨x,y,rfl⟩:=Za9 hl;simp [opL,opT,all3]
 · obtain ⟨x,rfl⟩:=one_of hl;simp [opL,opT,all3]
theorem Zrx (W:World):TFn W (.func (.func 236) #[] #[]) 7:=by
 refine ⟨_,_,rfl,enters_of func236 (by kernel_rfl) rfl,λW' A c B ts _ hl hn hv=>?_⟩;obtain ⟨x,y,rfl⟩:=Za9 hl;exact Zrw x y A c B W' hv (by have:=hn x (by simp);omega)
theorem tfn_if (W:World):TFn W (.func (.func 237) #[] #[]) 10:=by
 refine ⟨_,_,rfl,enters_of func237 (by kernel_rfl) rfl,λW' A c B ts _ hl hn hv=>?_⟩;obtain ⟨x,y,z,rfl⟩:=Zp9 hl;exact if_any x y z A c B W' hv (by have:=hn y (by simp);omega)
def Bx1 (w:World)(b:Nat)(t:Int):Prop:=w.heap[b]?=some (.cells #[int i64 t] 3 (0,0))
theorem Z7j {W:World}{b:Nat}{op t:Int}(h:Bx1 W b t)(C:t≠0)(G:opL op []=t)(F:arO op=0):TFn W (.func (.func 266) #[] #[.pointer (some ⟨b,0,none⟩)]) op:=by
 refine ⟨_,_,rfl,enters_of func266 (by kernel_rfl) rfl,λW' A c B ts hb hl _ _=>?_⟩;have:ts=[]:=List.length_eq_zero_iff.1 (hl.trans F);subst this;have D:W'.heap[b]?=_:=(hb.block b (zs h)).trans h;refine (Zen t ⟨b,0,none⟩ _ W' (by rw [zc D];rfl)).mono ?_;rintro e w' ⟨rfl,rfl⟩;rw [G];exact ⟨zr _ _,.inl ⟨C,rfl⟩⟩
theorem Zry (x y:Int)(A:Option Addr)(c B:Nat)(w:World)(h:Z03 w B (slice A 2 c) [x,y])(V:1<=x/\x<=3)(X:1<=y/\y<=3) : Calls prog 233 #[slice A 2 c] w (TP (opL 6 [x,y]) w):=by
 obtain ⟨b,o,rfl,_,M⟩:=Z4j h (by simp);have G:∀ (k:Int) (W:World),W=w->Calls prog 235 #[slice (some ⟨b,o,none⟩) 2 c,int i64 k] W λe w'=>e=.returned (.bool ([x,y].contains k))/\w'=W:=λk W hW=>by subst hW;exact Tryz.slices_Contains_int b o 2 c [x,y] k W (by simp) (by omega) (λj hj=>by rw [M j hj];simp [List.getD_eq_getElem?_getD,zv hj])
 have c0:w.cell? ⟨b,o,none⟩=some (int i64 x):=M 0 (by simp);have c1:w.cell? ⟨b,o+1,none⟩=some (int i64 y):=M 1 (by simp);have U:=h;clear h M U;by_cases h3:x=3\/y=3
 · have H:[x,y].contains 3=true:=by rcases h3 with rfl | rfl <;> simp
   have D:opL 6 [x,y]=0:=by unfold opL opT;rcases h3 with rfl | rfl <;> simp
   have C:=G 3;rw [H] at C;have J:=zh C;have I:=zh D;have O:=zh h3;clear C D h3 G H;go_enter func233,ntmps233;go_wp2_with fail;refine (J.out w rfl).mono ?_;rintro e w' ⟨rfl,rfl⟩;go_wp2_with fail;refine (Z4m _).mono ?_;rintro e w' ⟨rfl,rfl⟩;go_wp2_with fail;rw [I.out];exact ⟨rfl,zr _ _,.inr ⟨rfl,rfl⟩⟩
 · have H:[x,y].contains 3=false:=by simp;omega
   have C:=G 3;rw [H] at C;by_cases h1:x=1\/y=1
   · have L:[x,y].contains 1=true:=by rcases h1 with rfl | rfl <;> simp
     have D:opL 6 [x,y]=max x y:=by unfold opL opT;simp;omega
     have R:max x y≠0:=by omega
     have F:=G 1;rw [L] at F;have J:=zh C;have N:=zh F;have I:=zh D;have S:=zh R;have T:=zh h1;have O:=zh h3;clear C F D R h1 h3 G H L;go_enter func233,ntmps233;go_wp2_with fail;refine (J.out w rfl).mono ?_;rintro e w' ⟨rfl,rfl⟩;go_wp2_with fail;refine (N.out _ rfl).mono ?_;rintro e w' ⟨rfl,rfl⟩;go_wp2_with fail;refine (Z6v _).mono ?_;rintro e w' ⟨rfl,rfl⟩;go_wp2_with fail;go_region
     all_goals (go_wp2_with fail;go_ret;rw [I.out];exact ⟨Zek _ 1,.inl ⟨S.out,rfl⟩⟩)
   · have L:[x,y].contains 1=false:=by simp;omega
     have D:opL 6 [x,y]=0:=by unfold opL opT;simp;omega
     have F:=G 1;rw [L] at F;have J:=zh C;have N:=zh F;have I:=zh D;have T:=zh h1;have O:=zh h3;clear C F D h1 h3 G H L;go_enter func233,ntmps233;go_wp2_with fail;refine (J.out w rfl).mono ?_;rintro e w' ⟨rfl,rfl⟩;go_wp2_with fail;refine (N.out _ rfl).mono ?_;rintro e w' ⟨rfl,rfl⟩;go_wp2_with fail;refine (Z4m _).mono ?_;rintro e w' ⟨rfl,rfl⟩;go_wp2_with fail;rw [I.out];exact ⟨rfl,zr _ _,.inr ⟨rfl,rfl⟩⟩
theorem Zrz (W:World):TFn W (.func (.func 233) #[] #[]) 6:=by
 refine ⟨_,_,rfl,enters_of func233 (by kernel_rfl) rfl,λW' A c B ts _ hl hn hv=>?_⟩;obtain ⟨x,y,rfl⟩:=Za9 hl;exact Zry x y A c B W' hv (hn x (by simp)) (hn y (by simp))
def ZkF (F:World->Value->Int->Prop)(lo:Int)(w:World)(r:Nat):Prop:=∀ op,lo<=op->op<=15->∃ L1 V L2,Z3a w r (L1++(op,V)::L2)/\(∀ p∈L1,p.1≠op)/\F w V op
theorem Z0a {w C:World}{B r:Nat}(D:w.grownBy C (some r))(F:B<=w.heap.size)(G:B<=r):Below B w C:=(zr B w).grown D F (λg e=>by injection e with e;omega)
theorem Bx1.ins {w B:World}{b r:Nat}{t:Int}(h:Bx1 w b t)(C:w.grownBy B (some r))(D:b≠r):Bx1 B b t:=(C.block b (zs h) (by simp;exact D)).trans h
theorem Bx1.on {w B:World}{b:Nat}{t:Int}(h:Bx1 w b t)(hb:Below w.heap.size w B):Bx1 B b t:=(hb.block b (zs h)).trans h
def OpsP (w:World)(e:Ending)(w':World):Prop:=∃ r,e=.returned (.map (some r))/\ZkF TFn 1 w' r/\w.heap.size<=r/\Below w.heap.size w w'
theorem Zg0 (w:World):Calls prog 177 #[] w (OpsP w):=by
 have bE:=@run_makeMap prog;have h0:=Z3a.new w;have g0:Below w.heap.size w (w.alloc (.map #[] 0)):=(zr _ _).alloc (zn _) _;have l0:w.heap.size<(w.alloc (.map #[] 0)).heap.size:=by simp
 go_enter func177,ntmps177;go_wp2_with fail;generalize w.alloc (.map #[] 0)=M at *
 clear bE;refine (Z7h 1 _).mono ?_;rintro e w' ⟨rfl,rfl⟩;have a0:=(zr M.heap.size M).alloc (zn _) (.cells #[int i64 1] 3);have B:Bx1 (M.alloc (.cells #[int i64 1] 3)) M.heap.size 1:=za M _;have G:M.heap.size≠w.heap.size:=by omega
 have bm:=h0.on a0;have bj:=Z00 g0 a0;have bh:w.heap.size<(M.alloc (.cells #[int i64 1] 3)).heap.size:=by simp;omega
 clear h0 g0 l0 a0;go_wp2_with fail;generalize bD:M.heap.size=x1 at *
 clear bD;generalize M.alloc (.cells #[int i64 1] 3)=v0 at *
 refine Z0f underlying226 underlying3 bm (by simp) ?_;intro J y m;have g1:=bj.trans (Z0a m (zl bh) (zn _));have l1:w.heap.size<J.heap.size:=by have:=m.size;omega
 replace B:=B.ins m G;simp only [zn2] at y;clear bm bj bh m;go_wp2_with fail;refine (Z7h 1 _).mono ?_;rintro e w' ⟨rfl,rfl⟩;have q:=(zr J.heap.size J).alloc (zn _) (.cells #[int i64 1] 3);have C:Bx1 (J.alloc (.cells #[int i64 1] 3)) J.heap.size 1:=za J _;have H:J.heap.size≠w.heap.size:=by omega
 have bx:=y.on q;have bv:=Z00 g1 q;have bp:w.heap.size<(J.alloc (.cells #[int i64 1] 3)).heap.size:=by simp;omega
 replace B:=B.on q;clear y g1 l1 q;go_wp2_with fail;generalize bF:J.heap.size=x3 at *
 clear bF;generalize J.alloc (.cells #[int i64 1] 3)=v1 at *
 refine Z0f underlying226 underlying3 bx (by simp) ?_;intro L h2 l;have g2:=bv.trans (Z0a l (zl bp) (zn _));have l2:w.heap.size<L.heap.size:=by have:=l.size;omega
 replace B:=B.ins l G;replace C:=C.ins l H;simp only [zn2,zc2] at h2;clear bx bv bp l;go_wp2_with fail;refine (Z7h 2 _).mono ?_;rintro e w' ⟨rfl,rfl⟩;have j:=(zr L.heap.size L).alloc (zn _) (.cells #[int i64 2] 3);have D:Bx1 (L.alloc (.cells #[int i64 2] 3)) L.heap.size 2:=za L _;have I:L.heap.size≠w.heap.size:=by omega
 have bu:=h2.on j;have bt:=Z00 g2 j;have bs:w.heap.size<(L.alloc (.cells #[int i64 2] 3)).heap.size:=by simp;omega
 replace B:=B.on j;replace C:=C.on j;clear h2 g2 l2 j;go_wp2_with fail;generalize bM:L.heap.size=x2 at *
 clear bM;generalize L.alloc (.cells #[int i64 2] 3)=v2 at *
 refine Z0f underlying226 underlying3 bu (by simp) ?_;intro w3 h3 f;have g3:=bt.trans (Z0a f (zl bs) (zn _));have l3:w.heap.size<w3.heap.size:=by have:=f.size;omega
 replace B:=B.ins f G;replace C:=C.ins f H;replace D:=D.ins f I;simp only [zn2,zc2] at h3;clear bu bt bs f;go_wp2_with fail;refine Z0f underlying226 underlying3 h3 (by simp) ?_;intro w4 h4 U;have g4:=g3.trans (Z0a U (zl l3) (zn _));have l4:w.heap.size<w4.heap.size:=by have:=U.size;omega
 replace B:=B.ins U G;replace C:=C.ins U H;replace D:=D.ins U I;simp only [zn2,zc2] at h4;clear h3 g3 l3 U;go_wp2_with fail;refine Z0f underlying226 underlying3 h4 (by simp) ?_;intro w5 A X;have g5:=g4.trans (Z0a X (zl l4) (zn _));have l5:w.heap.size<w5.heap.size:=by have:=X.size;omega
 replace B:=B.ins X G;replace C:=C.ins X H;replace D:=D.ins X I;simp only [zn2,zc2] at A;clear h4 g4 l4 X;go_wp2_with fail;refine Z0f underlying226 underlying3 A (by simp) ?_;intro w6 h6 Z;have g6:=g5.trans (Z0a Z (zl l5) (zn _));have l6:w.heap.size<w6.heap.size:=by have:=Z.size;omega
 replace B:=B.ins Z G;replace C:=C.ins Z H;replace D:=D.ins Z I;simp only [zn2,zc2] at h6;clear A g5 l5 Z;go_wp2_with fail;refine Z0f underlying226 underlying3 h6 (by simp) ?_;intro w7 h7 S;have g7:=g6.trans (Z0a S (zl l6) (zn _));have l7:w.heap.size<w7.heap.size:=by have:=S.size;omega
 replace B:=B.ins S G;replace C:=C.ins S H;replace D:=D.ins S I;simp only [zn2,zc2] at h7;clear h6 g6 l6 S;go_wp2_with fail;refine Z0f underlying226 underlying3 h7 (by simp) ?_;intro w8 h8 N;have g8:=g7.trans (Z0a N (zl l7) (zn _));have l8:w.heap.size<w8.heap.size:=by have:=N.size;omega
 replace B:=B.ins N G;replace C:=C.ins N H;replace D:=D.ins N I;simp only [zn2,zc2] at h8;clear h7 g7 l7 N;go_wp2_with fail;refine Z0f underlying226 underlying3 h8 (by simp) ?_;intro w9 h9 g;have g9:=g8.trans (Z0a g (zl l8) (zn _));have l9:w.heap.size<w9.heap.size:=by have:=g.size;omega
 replace B:=B.ins g G;replace C:=C.ins g H;replace D:=D.ins g I;simp only [zn2,zc2] at h9;clear h8 g8 l8 g;go_wp2_with fail;refine Z0f underlying226 underlying3 h9 (by simp) ?_;intro bJ bb Y;have bB:=g9.trans (Z0a Y (zl l9) (zn _));have be:w.heap.size<bJ.heap.size:=by have:=Y.size;omega
 replace B:=B.ins Y G;replace C:=C.ins Y H;replace D:=D.ins Y I;simp only [zn2,zc2] at bb;clear h9 g9 l9 Y;go_wp2_with fail;refine Z0f underlying226 underlying3 bb (by simp) ?_;intro bI bd O;have bq:=bB.trans (Z0a O (zl be) (zn _));have bz:w.heap.size<bI.heap.size:=by have:=O.size;omega
 replace B:=B.ins O G;replace C:=C.ins O H;replace D:=D.ins O I;simp only [zn2,zc2] at bd;clear bb bB be O;go_wp2_with fail;refine Z0f underlying226 underlying3 bd (by simp) ?_;intro bC ba V;have bk:=bq.trans (Z0a V (zl bz) (zn _));have bA:w.heap.size<bC.heap.size:=by have:=V.size;omega
 replace B:=B.ins V G;replace C:=C.ins V H;replace D:=D.ins V I;simp only [zn2,zc2] at ba;clear bd bq bz V;go_wp2_with fail;refine Z0f underlying226 underlying3 ba (by simp) ?_;intro bG bc d;have bg:=bk.trans (Z0a d (zl bA) (zn _));have bn:w.heap.size<bG.heap.size:=by have:=d.size;omega
 replace B:=B.ins d G;replace C:=C.ins d H;replace D:=D.ins d I;simp only [zn2,zc2] at bc;clear ba bk bA d;go_wp2_with fail;refine Z0f underlying226 underlying3 bc (by simp) ?_;intro bK r T;have bf:=bg.trans (Z0a T (zl bn) (zn _));have br:w.heap.size<bK.heap.size:=by have:=T.size;omega
 replace B:=B.ins T G;replace C:=C.ins T H;replace D:=D.ins T I;simp only [zn2,zc2] at r;clear bc bg bn T;go_wp2_with fail;refine Z0f underlying226 underlying3 r (by simp) ?_;intro bH F R;have bL:=bf.trans (Z0a R (zl br) (zn _));have bO:w.heap.size<bH.heap.size:=by have:=R.size;omega
 replace B:=B.ins R G;replace C:=C.ins R H;replace D:=D.ins R I;simp only [zn2,zc2] at F;clear r bf br R;go_wp2_with fail;go_ret;refine ⟨_,rfl,?_,zn _,bL⟩;intro op bN bP;rcases (show op=1\/op=3\/op=2\/op=4\/op=5\/op=8\/op=9\/op=11\/op=12\/op=13\/op=14\/op=15\/op=6\/op=7\/op=10 by omega) with rfl | rfl | rfl | rfl | rfl | rfl | rfl | rfl | rfl | rfl | rfl | rfl | rfl | rfl | rfl
 · exact ⟨[],_,[(3,_),(2,_),(4,_),(5,_),(8,_),(9,_),(11,_),(12,_),(13,_),(14,_),(15,_),(6,_),(7,_),(10,_)],F,by simp,Z7j B (by decide) rfl rfl⟩
 · exact ⟨[(1,_)],_,[(2,_),(4,_),(5,_),(8,_),(9,_),(11,_),(12,_),(13,_),(14,_),(15,_),(6,_),(7,_),(10,_)],F,by simp,Z7j C (by decide) rfl rfl⟩
 · exact ⟨[(1,_),(3,_)],_,[(4,_),(5,_),(8,_),(9,_),(11,_),(12,_),(13,_),(14,_),(15,_),(6,_),(7,_),(10,_)],F,by simp,Z7j D (by decide) rfl rfl⟩
 · exact ⟨[(1,_),(3,_),(2,_)],_,[(5,_),(8,_),(9,_),(11,_),(12,_),(13,_),(14,_),(15,_),(6,_),(7,_),(10,_)],F,by simp,Z6w _ (by decide)⟩
 · exact ⟨[(1,_),(3,_),(2,_),(4,_)],_,[(8,_),(9,_),(11,_),(12,_),(13,_),(14,_),(15,_),(6,_),(7,_),(10,_)],F,by simp,Z6w _ (by decide)⟩
 · exact ⟨[(1,_),(3,_),(2,_),(4,_),(5,_)],_,[(9,_),(11,_),(12,_),(13,_),(14,_),(15,_),(6,_),(7,_),(10,_)],F,by simp,Z6w _ (by decide)⟩
 · exact ⟨[(1,_),(3,_),(2,_),(4,_),(5,_),(8,_)],_,[(11,_),(12,_),(13,_),(14,_),(15,_),(6,_),(7,_),(10,_)],F,by simp,Z6w _ (by decide)⟩
 · exact ⟨[(1,_),(3,_),(2,_),(4,_),(5,_),(8,_),(9,_)],_,[(12,_),(13,_),(14,_),(15,_),(6,_),(7,_),(10,_)],F,by simp,Z96 _ (by decide)⟩
 · exact ⟨[(1,_),(3,_),(2,_),(4,_),(5,_),(8,_),(9,_),(11,_)],_,[(13,_),(14,_),(15,_),(6,_),(7,_),(10,_)],F,by simp,Z96 _ (by decide)⟩
 · exact ⟨[(1,_),(3,_),(2,_),(4,_),(5,_),(8,_),(9,_),(11,_),(12,_)],_,[(14,_),(15,_),(6,_),(7,_),(10,_)],F,by simp,Z7i _ (by decide)⟩
 · exact ⟨[(1,_),(3,_),(2,_),(4,_),(5,_),(8,_),(9,_),(11,_),(12,_),(13,_)],_,[(15,_),(6,_),(7,_),(10,_)],F,by simp,Z7i _ (by decide)⟩
 · exact ⟨[(1,_),(3,_),(2,_),(4,_),(5,_),(8,_),(9,_),(11,_),(12,_),(13,_),(14,_)],_,[(6,_),(7,_),(10,_)],F,by simp,Z7i _ (by decide)⟩
 · exact ⟨[(1,_),(3,_),(2,_),(4,_),(5,_),(8,_),(9,_),(11,_),(12,_),(13,_),(14,_),(15,_)],_,[(7,_),(10,_)],F,by simp,Zrz _⟩
 · exact ⟨[(1,_),(3,_),(2,_),(4,_),(5,_),(8,_),(9,_),(11,_),(12,_),(13,_),(14,_),(15,_),(6,_)],_,[(10,_)],F,by simp,Zrx _⟩
 · exact ⟨[(1,_),(3,_),(2,_),(4,_),(5,_),(8,_),(9,_),(11,_),(12,_),(13,_),(14,_),(15,_),(6,_),(7,_)],_,[],F,by simp,tfn_if _⟩
end
section
open Go.RowKit Lx Px Qx
theorem Tryz.infoInt:(Tryz.prog.info? 3).map (λi=>(i.zero,i.size,i.bytes))=some (some (int i64 0),1,8):=by kernel_rfl
theorem Z2u {D:Array Oper}{rest:List Oper}{o:Oper}{a:Act}{Q:Exit->Act->World->Prop}(w:World)(M:o.guard=none)(s x:Operand) (J:o.op=.call { callee:=.builtin .append,args:=#[s,x],argTypes:=#[27,27] }) (base:Nat) (v:Value) (ts:List Int) (S:a.eval s=v) (N:w.ownsRow base 3 1 v ts.length (ts.map (.int .i64))) (b:Nat) (t:Int) (H:a.eval x=slice (some ⟨b,0,none⟩) 1 1) (F:w.cell? ⟨b,0,none⟩=some (int i64 t)) (X:ts.length<=1000000) (G:base<=w.heap.size) (h:∀ B w',w'.ownsRow base 3 1 B (ts++[t]).length ((ts++[t]).map (.int .i64))->w.grownBy w' v.ownBlock->wpList prog D Q rest (a.put o.dst B) w'):wpList prog D Q (o::rest) a w:=by
 obtain ⟨U,T,V,R,L⟩:=info_parts Tryz.infoInt;refine wpList_append_own w M s x 27 J base 3 U _ 1 8 underlying27 T V R L rfl (by decide) v ts.length _ S N ⟨b,0,none⟩ 1 1 [int i64 t] H rfl ?_ ?_ (by unfold maxLen;omega) (by omega) G ?_
 · intro j u C;have:j=0:=by
    rcases Nat.eq_zero_or_pos j with h | h
    · exact h
    · rw [List.getElem?_eq_none (by simp;omega)] at C;cases C
   subst this;simp at C;subst C;exact F
 · simp [Value.oneCell']
 · intro B w' I O _;refine h B w' ?_ O;rw [zj,List.map_append];exact I
end
section
open Go.RowKit Lx Px Qx
def OfC (a:Int × Int)(l:Fo):Prop := ∀ (w:World) (v:Value) (B r:Nat),FoV w B v l->B<=w.heap.size->ZkF TFn 1 w r->Z05 a.1 a.2 (flen l)=true->wfF l -> Calls prog 176 #[.agg #[int i64 a.1,int i64 a.2,v],.map (some r)] w (TP (typE a l) w)
theorem ZkF.on {F:World->Value->Int->Prop}{lo:Int}{w w':World}{r:Nat}(I:∀ v op,F w v op->F w' v op)(h:ZkF F lo w r)(hb:Below w.heap.size w w'):ZkF F lo w' r:=by
 intro op C D;obtain ⟨G,V,L2,H,B,J⟩:=h op C D;exact ⟨G,V,L2,H.on hb,B,I _ _ J⟩
def OfL (l:Fo)(w:World)(op n:Int)(av v i:Value)(wr:World):Prop := ∃ (k:Nat) (ts:List Int),k<=flen l/\i=int i64 k/\ts.length=k/\(∀ j,j<k->ts.getD j 0=typE (getF l j).1 (getF l j).2/\ts.getD j 0≠0) /\ wr.ownsRow (w.heap.size+1) 3 1 v ts.length (ts.map (.int .i64))/\Below w.heap.size w wr/\w.heap.size<wr.heap.size/\wr.heap[w.heap.size]?=some (.cells #[int i64 op,int i64 n,av] 63 (0,0))
theorem Z2v {w w':World}{base e s n:Nat}{v:Value}{C:List Value}(h:w.ownsRow base e s v n C)(hb:Below w.heap.size w w'):w'.ownsRow base e s v n C:=by
 obtain ⟨J,G⟩:=h;refine ⟨J,?_⟩;rcases G with I | ⟨g,cap,F,H,D,B,rest⟩
 · exact .inl I
 · exact .inr ⟨g,cap,F,H,D,(hb.block g (zs B)).trans B,rest⟩
theorem ZpE (a:Int × Int)(l:Fo)(ih:∀ k,k<flen l->OfC (getF l k).1 (getF l k).2):OfC a l:=by
 intro w v B r hv hB hO N hw;obtain ⟨A,c,rfl,hA⟩:=hv;obtain ⟨op,n⟩:=a;obtain ⟨ba,bn,bE⟩:=Z6u N;dsimp only at N bn bE ba;have b8:=Z5c N;have hx:=za w (.cells #[int i64 op,int i64 n,slice A (flen l) c] 63);have bm:=(zr w.heap.size w).alloc (zn _) (.cells #[int i64 op,int i64 n,slice A (flen l) c] 63);have IH:=zh ih;have HO:=zh hO;have HW:=zh hw;have HA:=zh hA;have HF:=zh N;have HX:=zh hx;have b0:=zh bm;have bS:=zh ba;clear ih hO hw hA N hx bm ba;go_enter func176,ntmps176;go_wp2_with fail;go_loopw [5,11] (λv i wr=>OfL l w op n (slice A (flen l) c) v i wr) (λ_ i _=>flen l - (intOf i).toNat)
 case atStart=>exact ⟨0,[],Nat.zero_le _,rfl,rfl,λj Y=>absurd Y (by omega),World.ownsRow_nil _ _ _ _,b0.out,by simp,HX.out⟩
 case round =>
  obtain ⟨k,ts,hk,rfl,bA,bq,bp,J,bN,bH⟩:=hrel;have O:=zh bq;have bg:=zh bp;have H:=zh bA;have bd:=zh bH;clear bq bp bA bH;by_cases hkl:k<flen l
  · have bL:∀ p:Addr,p.block<B->wr.cell? p=w.cell? p:=λp hp=>J.cell (by omega);obtain ⟨ad,I,c',rfl,b3,t0,t1,t2,X⟩:=FoAt.get l A 0 k (FoAt.keep bL l A 0 HA.out) hkl;rw [Nat.zero_add] at t0 t1 t2;have f:=IH.out k hkl;obtain ⟨Z,d⟩:=ZfE HW.out hkl;have R:=λh=>ZkE (a:=(op,n)) hkl h;have bc:=Za8 (getF l k).1 (getF l k).2;have S:∀ t,t=typE (getF l k).1 (getF l k).2->t≠0->∀ j,j<k+1->(ts++[t]).getD j 0=typE (getF l j).1 (getF l j).2/\(ts++[t]).getD j 0≠0:=by
     intro t F C j Y;have bj:=H.out;by_cases hjk:j=k
     · subst hjk;rw [<- bj,List.getD_eq_getElem?_getD];simp only [List.getElem?_concat_length,Option.getD_some];rw [bj];exact ⟨F,C⟩
     · have:=O.out j (by omega);rw [List.getD_eq_getElem?_getD,List.getElem?_append_left (by omega),<- List.getD_eq_getElem?_getD];exact this
    obtain ⟨⟨q,m⟩,G,bf⟩:∃ a' G,getF l k=(a',G):=⟨_,_,rfl⟩
    rw [bf] at t0 t1 t2 X f Z d R S bc;dsimp only at t0 t1 t2 X f Z d R S bc;obtain ⟨t,bb⟩:∃ t,t=typE (q,m) G:=⟨_,rfl⟩
    rw [<- bb] at R S bc;have b5:(ad.add (k*3)).block<wr.heap.size:=by rw [Z1d];omega
    have bT:=zh bb;have bU:=zh f;have W1:=zh Z;have W2:=zh d;have bV:=zh R;have br:=zh S;have b6:=zh bf;have T3:=zh X;clear bb f Z d R S bf X bL O;have L:=(zr wr.heap.size wr).alloc (zn _) (.cells #[int i64 q,int i64 m,slice I (flen G) c'] 63);have U:=Z00 J L;have M:=HO.out.on (λv op h=>TFn.on h U) U;have bG:=Z2v bg.out L;have bJ:=(L.block _ bN).trans bd.out;have bs:=FoAt.keep (λp hp=>L.cell (by omega)) G I 0 T3.out;have b4:wr.heap.size<(wr.alloc (.cells #[int i64 q,int i64 m,slice I (flen G) c'] 63)).heap.size:=by simp
    have b7:=zh L;have y:=zh U;have bv:=zh M;have bF:=zh bG;have bu:=zh bJ;have bI:=zh bs;clear L U M bG bJ bs;go_wp2_with fail;generalize wr.alloc (.cells #[int i64 q,int i64 m,slice I (flen G) c'] 63)=W3 at *
    refine (bU.out W3 (slice I (flen G) c') B r ⟨I,c',rfl,bI.out⟩ (by omega) bv.out W1.out W2.out).mono ?_;intro e w9 bx;have F:TP t W3 e w9:=by rw [bT.out];exact bx
    clear bx;by_cases C:t=0
    · subst C;obtain ⟨D,rfl⟩:=F.no;have hr:=bV.out rfl;have HR:=zh hr;clear hr;go_wp2_with fail;rw [HR.out];exact ⟨rfl,Z00 y.out D,.inr ⟨rfl,rfl⟩⟩
    · obtain ⟨D,rfl⟩:=F.yes C;have bC:=Z2v bF.out D;have bD:=(D.block _ (by omega)).trans bu.out;have bt:=Z00 y.out D;have b1:=D.size;have bk:=br.out t rfl C;clear F;have bB:=zh bC;have bR:=zh bD;have bP:=zh bt;have bX:=zh bk;have T:=zh C;clear bC bD bt bk C bF bu y bv bI br D;go_wp2_with (at_builtin;refine Z2u _ rfl _ _ rfl (w.heap.size+1) _ ts rfl (bB.out.alloc _) w9.heap.size t rfl (by simp [go_sem]) (by have:=H.out;omega) (by simp;omega) ?_;intro v' w5 bO be);have bK:∀ g,u5.ownBlock=some g->w.heap.size+1<=g:=λg e=>(bB.out.lt g e).1;have bY:Below w.heap.size w w5:=(bP.out.alloc (by omega) (.cells #[int i64 t] 3)).grown be (by simp;omega) (λg e=>by have:=bK g e;omega);have bQ:=(be.block w.heap.size (by simp;omega) (λe=>by have:=bK _ e.symm;omega)).trans (Z0A bR.out _);have bW:w.heap.size<w5.heap.size:=by have:=be.size;simp at this;omega
      go_roundw
      case rel=>exact ⟨k+1,ts++[t],by omega,by go_num,by rw [zj,H.out];rfl,bX.out,bO,bY,bW,bQ⟩
      case measure=>simp [intOf];omega
  · have bZ:k=flen l:=by omega
    subst bZ;have hE:typE (op,n) l=opL op ts:=ZkD H.out O.out;have bM:∀ t∈ts,1<=t/\t<=3:=by intro t F;obtain ⟨j,Y,rfl⟩:=List.getElem_of_mem F;have h1:=O.out j (by have:=H.out;omega);have h2:=Za8 (getF l j).1 (getF l j).2;rw [<- h1.1] at h2;rw [List.getD_eq_getElem?_getD,zv Y,Option.getD_some] at h1 h2;omega
    have M:=HO.out.on (λv op h=>TFn.on h J) J;obtain ⟨L1,V,L2,hm,hn,g,cap,rfl,b9,bh⟩:=M op bn bE;have b2:=Zb4 underlying226 underlying3 hm hn;have hv:=Z03.own bg.out rfl;obtain ⟨A5,c5,rfl,bz⟩:=hv;have hc:=bh wr A5 c5 wr.heap.size ts (zr _ _) (H.out.trans bS.out) bM ⟨A5,c5,rfl,bz⟩;have x0:wr.cell? ⟨w.heap.size,0,none⟩=some (int i64 op):=by rw [zc bd.out];rfl
    rw [<- hE] at hc;have dl:decide ((flen l:Int)<(flen l:Int))=false:=by simp
    have HC:=zh hc;have HE:=zh hE;clear hc hE bz hm hn M bM bh bg O H bd IH HF;go_wp2_with fail;refine HC.out.mono ?_;intro e w9 F;rcases F with ⟨D,⟨C,rfl⟩ | ⟨C,rfl⟩⟩
    · have T:=zh C;clear C;go_wp2_with fail;go_ret;exact ⟨Z00 J D,.inl ⟨T.out,rfl⟩⟩
    · have T:=zh C;clear C;go_wp2_with fail;exact ⟨rfl,Z00 J D,.inr ⟨T.out,rfl⟩⟩
theorem of_all (f:Fo):∀ k,k<flen f->OfC (getF f k).1 (getF f k).2:=by
 induction f with
 | nil=>intro k h;simp [flen] at h
 | node b o a l r ihl ihr =>
  intro k h;cases k with
  | zero=>exact ZpE a l ihl
  | succ k=>exact ihr k (by simp [flen] at h;omega)
theorem of_any (a:Int × Int)(l:Fo):OfC a l:=ZpE a l (of_all l)
end
section
open Go.RowKit Lx Px Qx
theorem Z5m {P:Program}{c:Code}{Q:Exit->Act->List Frame->World->Prop}{a:Act}{cs:List Frame}{w:World}(R:Act->World->Prop)(h:c.wp P (λe a' w'=>e=.normal/\R a' w') a w)(C:∀ a' w',R a' w'->Q .normal a' cs w'):c.wpS P Q a cs w :=
 wpS_of_wp (Code.wp_mono (λe a' w' h=>by obtain ⟨he,B⟩:=h;subst he;exact C a' w' B) h)
def InfB (w:World)(t e:Int)(wx:World):Prop := wx.heap[w.heap.size+1]?=some (.cells #[int i64 t] 3 (0,0))/\wx.heap[w.heap.size+2]?=some (.cells #[int i64 e] 35 (0,0))/\Below w.heap.size w wx
theorem InfB.on {w B C:World}{t e:Int}(h:InfB w t e B)(hb:Below B.heap.size B C):InfB w t e C := ⟨(hb.block _ (zs h.1)).trans h.1,(hb.block _ (zs h.2.1)).trans h.2.1,Z00 h.2.2 hb⟩
theorem Z6x {w:World}{b:Nat}{x:Value}{B:TypeId}(h:w.heap[b]?=some (.cells #[x] B (0,0)))(y:Value):(w.setCell ⟨b,0,none⟩ y).heap[b]?=some (.cells #[y] B (0,0)):=by
 simp [World.setCell,zM,h]
theorem Z0x {w:World}{b:Nat}{x:Value}{B:TypeId}(h:w.heap[b]?=some (.cells #[x] B (0,0))):w.cell? ⟨b,0,none⟩=some x:=by rw [zc h];rfl
theorem InfB.set {w C:World}{t e:Int}(h:InfB w t e C)(B e':Int):InfB w B e' ((C.setCell ⟨w.heap.size+1,0,none⟩ (int i64 B)).setCell ⟨w.heap.size+2,0,none⟩ (int i64 e')):=by
 refine ⟨?_,?_,?_⟩
 · rw [zg _ _ _ _ (by show w.heap.size+1≠w.heap.size+2;omega)];exact Z6x h.1 _
 · refine Z6x (x:=int i64 e) ?_ _;rw [zg _ _ _ _ (by show w.heap.size+2≠w.heap.size+1;omega)];exact h.2.1
 · exact (h.2.2.setCell (p:=⟨w.heap.size+1,0,none⟩) (by show w.heap.size<=w.heap.size+1;omega) _).setCell (p:=⟨w.heap.size+2,0,none⟩) (by show w.heap.size<=w.heap.size+2;omega) _
theorem Z4p (w B:World)(t e:Int)(h:InfB w t e B) : CallsD prog 175 #[.pointer (some ⟨w.heap.size+1,0,none⟩),.pointer (some ⟨w.heap.size+1+1,0,none⟩)] (.panicking [Z7g]) B λen u' w' =>
  en=.returned (.tuple #[])/\u'=.panicking [{ Z7g with recovered:=true }]/\InfB w 0 20 w':=by
 refine callsD_of_wpS func175 rfl λc₀ cs hu=>?_;unfold Z7g at hu |-
 apply wpS_seq;apply wpS_region;simp [wpOpsS,go_sem,recoverD,hu,ntmps175,Exit.thenS];refine Z5m (λH w'=>H.defers=[]/\InfB w 0 20 w') ?_ ?_
 · have L:∀ V:Value,(#[Value.pointer (some ⟨w.heap.size+1,0,none⟩),Value.pointer (some ⟨w.heap.size+1+1,0,none⟩)]++(Array.replicate 9 undef).setIfInBounds 3 V)=#[Value.pointer (some ⟨w.heap.size+1,0,none⟩),Value.pointer (some ⟨w.heap.size+1+1,0,none⟩),undef,undef,undef,V,undef,undef,undef,undef,undef]:=λ_=>by kernel_rfl
   rw [L];have M:∀ w:World,(Instr.typeAssert (.iface 224 (.agg #[])) 20 224 true).run prog w=.ok (.tuple #[.agg #[],.bool true]) w:=λ_=>by kernel_rfl
   have I:=(zr B.heap.size B).alloc (zn _) (.cells #[] 224);have J:=h.on I;have G:=zh J;clear J hu L h I;go_upto_region 7 with fail;clear M;generalize B.alloc (.cells #[] 224)=W at *
   obtain ⟨F,D,O⟩:=G.out;have T:W.cell? ⟨w.heap.size+1,0,none⟩=some (int i64 t):=by rw [zc F];rfl
   have U:W.cell? ⟨w.heap.size+2,0,none⟩=some (int i64 e):=by rw [zc D];rfl
   have S:W.frozen? ⟨w.heap.size+1,0,none⟩=false:=by simp [World.frozen?,F]
   have X:W.frozen? ⟨w.heap.size+2,0,none⟩=false:=by simp [World.frozen?,D]
   have C:=G.out.set 0 20;have N:=zh C;clear C F D O G;go_wp2_with fail;exact N.out
 · rintro H w' ⟨R,C⟩;cases c₀;simp_all [bodyPostS,results,results175]
theorem Z97 (p q:Addr)(w:World) : CallsD prog 175 #[.pointer (some p),.pointer (some q)] .returning w λe u' w'=>e=.returned (.tuple #[])/\u'=.returning/\w'=w:=by
 refine callsD_of_wpS func175 rfl λc₀ cs hu=>?_;apply wpS_seq;apply wpS_region;simp [wpOpsS,go_sem,recoverD,hu,ntmps175,Exit.thenS];refine Z5m (λC w'=>C.defers=[]/\w'=w) ?_ ?_
 · have B:∀ V:Value,(#[Value.pointer (some p),Value.pointer (some q)]++(Array.replicate 9 undef).setIfInBounds 3 V)=#[Value.pointer (some p),Value.pointer (some q),undef,undef,undef,V,undef,undef,undef,undef,undef]:=λ_=>by kernel_rfl
   rw [B];clear B hu;go_wp2_with fail
 · rintro C w' ⟨D,rfl⟩;cases c₀;simp_all [bodyPostS,results,results175]
theorem Zpa (w:World)(cs:Array Value)(t:TypeId):InfB w 0 0 (((w.alloc (.cells cs t)).alloc (.cells #[int i64 0] 3)).alloc (.cells #[int i64 0] 35)):=by
 refine ⟨?_,?_,(((zr _ _).alloc (zn _) _).alloc (by simp) _).alloc (by simp;omega) _⟩
 · rw [Below.heap_alloc _ _ _ (by simp)];have:=za (w.alloc (.cells cs t)) (.cells #[int i64 0] 3);simpa using this
 · have:=za ((w.alloc (.cells cs t)).alloc (.cells #[int i64 0] 3)) (.cells #[int i64 0] 35);simpa using this
def Z3A (a:Int × Int)(l:Fo):Int × Int:=if Z0i a.1 a.2 l then (typE a l,if typE a l=0 then 20 else 0) else (0,1)
def InferP (a:Int × Int)(l:Fo)(w:World)(e:Ending)(w':World):Prop:=e=.returned (.tuple #[int i64 (Z3A a l).1,int i64 (Z3A a l).2])/\Below w.heap.size w w'
theorem ZcG (op n:Int)(l:Fo)(v:Value)(w:World)(hv:FoV w w.heap.size v l):Calls prog 132 #[.agg #[int i64 op,int i64 n,v]] w (InferP (op,n) l w):=by
 obtain ⟨A,c,rfl,hA⟩:=hv;have bb:∀ (fn:Fn) (first cap:Array Value) (w:World),(Instr.makeFunc fn first cap).run prog w=.ok (.func fn first cap) w:=λ_ _ _ _=>rfl;have hI:=Zpa w #[int i64 op,int i64 n,slice A (flen l) c] 63;have hx:((((w.alloc (.cells #[int i64 op,int i64 n,slice A (flen l) c] 63)).alloc (.cells #[int i64 0] 3)).alloc (.cells #[int i64 0] 35))).heap[w.heap.size]?=some (.cells #[int i64 op,int i64 n,slice A (flen l) c] 63 (0,0)):=by rw [Below.heap_alloc _ _ _ (by simp;omega),Below.heap_alloc _ _ _ (by simp)];exact za w _
 have hF:FoAt (((w.alloc (.cells #[int i64 op,int i64 n,slice A (flen l) c] 63)).alloc (.cells #[int i64 0] 3)).alloc (.cells #[int i64 0] 35)) w.heap.size l A 0:=FoAt.keep (λp hp=>hI.2.2.cell hp) l A 0 hA;have HI:=zh hI;have HX:=zh hx;have HF:=zh hF;clear hI hx hF hA;go_enter_defers func132,ntmps132;go_wp2_with fail;generalize ((w.alloc (.cells #[int i64 op,int i64 n,slice A (flen l) c] 63)).alloc (.cells #[int i64 0] 3)).alloc (.cells #[int i64 0] 35)=W at *
 have bg:=HI.out.2.2.size;refine (Z3r op n l (slice A (flen l) c) W ⟨A,c,rfl,FoAt.up bg l A 0 HF.out⟩).mono ?_;rintro e C ⟨rfl,X⟩;have be:=HI.out.on X;have bf:=(X.block _ (zs HX.out)).trans HX.out;have bc:=FoAt.keep (λp hp=>X.cell (by omega)) l A 0 HF.out;have bj:=X.size;clear X;have U:=zh be;have Z:=zh bf;have F2:=zh bc;clear be bf bc HI HX HF;cases hvb:Z0i op n l with
 | false =>
  have M:Z3A (op,n) l=(0,1):=by simp [Z3A,hvb]
  obtain ⟨F,D,G⟩:=U.out;have a0:C.cell? ⟨w.heap.size+1,0,none⟩=some (int i64 0):=by rw [zc F];rfl
  have a1:C.cell? ⟨w.heap.size+2,0,none⟩=some (int i64 0):=by rw [zc D];rfl
  have a2:C.frozen? ⟨w.heap.size+1,0,none⟩=false:=by simp [World.frozen?,F]
  have a3:C.frozen? ⟨w.heap.size+2,0,none⟩=false:=by simp [World.frozen?,D]
  have hS:=U.out.set 0 1;have L:=zh M;have HS:=zh hS;clear M hS F D G U hvb bb;go_wp2_with fail;obtain ⟨F,D,G⟩:=HS.out;have I:=Z0x F;have J:=Z0x D;refine ⟨.tuple #[int i64 0,int i64 1],by simp [results,results132,go_sem,I,J],?_,G⟩;rw [L.out]
 | true =>
  obtain ⟨hf,hw⟩:=Z4k hvb;have M:Z3A (op,n) l=(typE (op,n) l,if typE (op,n) l=0 then 20 else 0):=by simp [Z3A,hvb]
  have x0:C.cell? ⟨w.heap.size,0,none⟩=some (int i64 op):=by rw [zc Z.out];rfl
  have x1:C.cell? ⟨w.heap.size,1,none⟩=some (int i64 n):=by rw [zc Z.out];rfl
  have x2:C.cell? ⟨w.heap.size,2,none⟩=some (slice A (flen l) c):=by rw [zc Z.out];rfl
  have L:=zh M;have bd:=zh hf;have HW:=zh hw;have bh:=zh hvb;clear M hf hw hvb;go_wp2_with fail;clear bb;have j:=λW r=>of_any (op,n) l W (slice A (flen l) c) w.heap.size r;refine wp_region_any (by kernel_rfl) ?_
  try (change wpAny _ _ _ _ _ _ _ (World.drew _))
  have m:C.drew.cell? ⟨w.heap.size,0,none⟩=some (int i64 op):=x0;have Y3:C.drew.cell? ⟨w.heap.size,1,none⟩=some (int i64 n):=x1;have q:C.drew.cell? ⟨w.heap.size,2,none⟩=some (slice A (flen l) c):=x2;have B3:Below C.heap.size C C.drew:=(zr _ _).drew;have T:w.heap.size<C.drew.heap.size:=(zs Z.out)
  have G3:=U.out.on B3;have F3:=FoAt.keep (λp hp=>B3.cell (by omega)) l A 0 F2.out;have g:=zh G3;have y:=zh F3;clear G3 F3 x0 x1 x2 U Z F2 B3;generalize C.drew=w3 at *
  refine wpAny_ready (rs:=[0,1]) (by kernel_rfl) (by simp) ?_;refine zF rfl (λK hK=>?_) ?_
  · go_simp;refine hK _ _ ?_;clear hK K;refine wpAny_ready (rs:=[1]) (by kernel_rfl) (by simp) ?_;refine zF rfl (λK hK=>?_) AllReady.nil;go_simp;refine (Zg0 w3).mono ?_;rintro e w4 ⟨r,rfl,d,M,B⟩;have x4:=(B.cell (p:=⟨w.heap.size,0,none⟩) T).trans m;have y4:=(B.cell (p:=⟨w.heap.size,1,none⟩) T).trans Y3;have z4:=(B.cell (p:=⟨w.heap.size,2,none⟩) T).trans q;have V:=g.out.on B;have Y:=FoAt.keep (λp hp=>B.cell (by omega)) l A 0 y.out;have s4:=B.size;have HO:=zh d;have I4:=zh V;have F4:=zh Y;clear d V Y m Y3 q g y B;refine hK _ _ ?_;clear hK K;refine wpAny_ready (rs:=[2]) (by kernel_rfl) (by simp) ?_;refine zF rfl (λK hK=>?_) AllReady.nil;go_simp;refine (j w4 r ⟨A,c,rfl,F4.out⟩ (by omega) HO.out bd.out HW.out).mono ?_;intro e w5 H;have R:=I4.out.on H.1;by_cases h0:typE (op,n) l=0
    · rw [h0] at H;obtain ⟨ba,rfl⟩:=H.no;have N:Z3A (op,n) l=(0,20):=by rw [L.out,h0];rfl
      refine leaves_cons (f:=175) (args:=#[.pointer (some ⟨w.heap.size+1,0,none⟩),.pointer (some ⟨w.heap.size+1+1,0,none⟩)]) (by simp) (by simp [go_sem]) ?_;refine (Z4p w w5 0 0 R).mono ?_;rintro en u' w6 ⟨rfl,rfl,F,D,G⟩;have I:=Z0x F;have J:=Z0x D;refine ⟨.tuple #[int i64 0,int i64 20],by simp [results,results132,go_sem,I,J],?_,G⟩;rw [N]
    · obtain ⟨ba,rfl⟩:=H.yes h0;have N:Z3A (op,n) l=(typE (op,n) l,0):=by rw [L.out,zf h0]
      generalize typE (op,n) l=t at *
      have i6:=R.set t 0;obtain ⟨O,S,jb⟩:=R;have a0:=Z0x O;have a1:=Z0x S;have a2:w5.frozen? ⟨w.heap.size+1,0,none⟩=false:=by simp [World.frozen?,O]
      have a3:w5.frozen? ⟨w.heap.size+2,0,none⟩=false:=by simp [World.frozen?,S]
      clear O S jb H h0 L j;refine hK _ _ ?_;clear hK K;refine wpAny_ready (rs:=[3]) (by kernel_rfl) (by simp) ?_;refine zF rfl (λK hK=>?_) AllReady.nil;go_simp;refine hK _ _ ?_;clear hK K;refine wpAny_ready (rs:=[4]) (by kernel_rfl) (by simp) ?_;refine zF rfl (λK hK=>?_) AllReady.nil;go_simp;refine hK _ _ ?_;clear hK K;refine wpAny_done (by kernel_rfl) ?_ _;go_wp2_with fail;refine leaves_cons (f:=175) (args:=#[.pointer (some ⟨w.heap.size+1,0,none⟩),.pointer (some ⟨w.heap.size+1+1,0,none⟩)]) (by simp) (by simp [go_sem]) ?_;refine (Z97 _ _ _).mono ?_;rintro en u' w6 ⟨rfl,rfl,rfl⟩;obtain ⟨F,D,G⟩:=i6;have I:=Z0x F;have J:=Z0x D;refine ⟨.tuple #[int i64 t,int i64 0],by simp [results,results132,go_sem,I,J],?_,G⟩;rw [N]
  · refine zF rfl (λK hK=>?_) AllReady.nil;go_simp;refine (Zg0 w3).mono ?_;rintro e w4 ⟨r,rfl,d,M,B⟩;have x4:=(B.cell (p:=⟨w.heap.size,0,none⟩) T).trans m;have y4:=(B.cell (p:=⟨w.heap.size,1,none⟩) T).trans Y3;have z4:=(B.cell (p:=⟨w.heap.size,2,none⟩) T).trans q;have V:=g.out.on B;have Y:=FoAt.keep (λp hp=>B.cell (by omega)) l A 0 y.out;have s4:=B.size;have HO:=zh d;have I4:=zh V;have F4:=zh Y;clear d V Y m Y3 q g y B;refine hK _ _ ?_;clear hK K;refine wpAny_ready (rs:=[0]) (by kernel_rfl) (by simp) ?_;refine zF rfl (λK hK=>?_) AllReady.nil;go_simp;refine hK _ _ ?_;clear hK K;refine wpAny_ready (rs:=[2]) (by kernel_rfl) (by simp) ?_;refine zF rfl (λK hK=>?_) AllReady.nil;go_simp;refine (j w4 r ⟨A,c,rfl,F4.out⟩ (by omega) HO.out bd.out HW.out).mono ?_;intro e w5 H;have R:=I4.out.on H.1;by_cases h0:typE (op,n) l=0
    · rw [h0] at H;obtain ⟨ba,rfl⟩:=H.no;have N:Z3A (op,n) l=(0,20):=by rw [L.out,h0];rfl
      refine leaves_cons (f:=175) (args:=#[.pointer (some ⟨w.heap.size+1,0,none⟩),.pointer (some ⟨w.heap.size+1+1,0,none⟩)]) (by simp) (by simp [go_sem]) ?_;refine (Z4p w w5 0 0 R).mono ?_;rintro en u' w6 ⟨rfl,rfl,F,D,G⟩;have I:=Z0x F;have J:=Z0x D;refine ⟨.tuple #[int i64 0,int i64 20],by simp [results,results132,go_sem,I,J],?_,G⟩;rw [N]
    · obtain ⟨ba,rfl⟩:=H.yes h0;have N:Z3A (op,n) l=(typE (op,n) l,0):=by rw [L.out,zf h0]
      generalize typE (op,n) l=t at *
      have i6:=R.set t 0;obtain ⟨O,S,jb⟩:=R;have a0:=Z0x O;have a1:=Z0x S;have a2:w5.frozen? ⟨w.heap.size+1,0,none⟩=false:=by simp [World.frozen?,O]
      have a3:w5.frozen? ⟨w.heap.size+2,0,none⟩=false:=by simp [World.frozen?,S]
      clear O S jb H h0 L j;refine hK _ _ ?_;clear hK K;refine wpAny_ready (rs:=[3]) (by kernel_rfl) (by simp) ?_;refine zF rfl (λK hK=>?_) AllReady.nil;go_simp;refine hK _ _ ?_;clear hK K;refine wpAny_ready (rs:=[4]) (by kernel_rfl) (by simp) ?_;refine zF rfl (λK hK=>?_) AllReady.nil;go_simp;refine hK _ _ ?_;clear hK K;refine wpAny_done (by kernel_rfl) ?_ _;go_wp2_with fail;refine leaves_cons (f:=175) (args:=#[.pointer (some ⟨w.heap.size+1,0,none⟩),.pointer (some ⟨w.heap.size+1+1,0,none⟩)]) (by simp) (by simp [go_sem]) ?_;refine (Z97 _ _ _).mono ?_;rintro en u' w6 ⟨rfl,rfl,rfl⟩;obtain ⟨F,D,G⟩:=i6;have I:=Z0x F;have J:=Z0x D;refine ⟨.tuple #[int i64 t,int i64 0],by simp [results,results132,go_sem,I,J],?_,G⟩;rw [N]
end
end Go.Proofs.YtnepkoepbapgeaaGreatDoor
