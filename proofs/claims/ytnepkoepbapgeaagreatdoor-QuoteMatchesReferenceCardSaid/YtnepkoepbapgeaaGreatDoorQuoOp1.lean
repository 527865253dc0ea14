import Derived.Test.YtnepkoepbapgeaaGreatDoorQuoRat3
namespace Go.Proofs.YtnepkoepbapgeaaGreatDoor
open _root_.Go.Proofs.Tryz
open Value (int slice)
open IntKind (i64)
set_option maxHeartbeats 4000000
set_option maxRecDepth 100000
open Go.RowKit Lx Px Qx
def Zh9 (k:Int):PanicEntry:={ v:=.iface 202 (.agg #[int i64 k]),recovered:=false }
def endV:V->Ending
 | .ok n d=>.returned (.agg #[int i64 n,int i64 d])
 | .no k=>.panicked [Zh9 k]
def VP (v:V)(w:World)(e:Ending)(w':World):Prop:=Below w.heap.size w w'/\e=endV v
theorem VP.isok {n d:Int}{w w':World}{e:Ending}(h:VP (.ok n d) w e w'):Below w.heap.size w w'/\e=.returned (.agg #[int i64 n,int i64 d]):=h
theorem VP.isno {k:Int}{w w':World}{e:Ending}(h:VP (.no k) w e w'):Below w.heap.size w w'/\e=.panicked [Zh9 k]:=h
theorem Z5f (v:V)(w:World)(h:∀ k,v=.no k->k≠0):Calls prog 189 #[.agg #[int i64 (vN v),int i64 (vD v)],int i64 (vE v)] w (VP v w):=by
 cases v with
 | ok n d =>show Calls prog _ #[.agg #[int i64 n,int i64 d],int i64 0] w _;go_enter func189,ntmps189;go_wp2_with fail;exact bodyPost_ret (v:=.agg #[int i64 n,int i64 d]) (by simp [results,results189,go_sem]) rfl ⟨((zr _ _).alloc (zn _) _).alloc (by simp) _,rfl⟩
 | no k =>
  have hk:=h k rfl;have D:(k==0)=false:=by simpa using hk
  have C:(k != 0)=true:=by simpa using hk
  show Calls prog _ #[.agg #[int i64 0,int i64 0],int i64 k] w _;have B:=zh hk;have H:=zh h;clear hk h;go_enter func189,ntmps189;go_wp2_with fail;exact ⟨rfl,((zr _ _).alloc (zn _) _).alloc (by simp) _,rfl⟩
theorem Z4G (b:Bool)(w:World):Calls prog 199 #[.bool b] w (VP (truV b) w):=by
 cases b with
 | true =>go_enter func199,ntmps199;go_wp2_with fail;exact bodyPost_ret (v:=.agg #[int i64 1,int i64 1]) (by simp [results,results199,go_sem]) rfl ⟨(zr _ _).alloc (zn _) _,rfl⟩
 | false =>go_enter func199,ntmps199;go_wp2_with fail;exact bodyPost_ret (v:=.agg #[int i64 0,int i64 1]) (by simp [results,results199,go_sem]) rfl ⟨(zr _ _).alloc (zn _) _,rfl⟩
theorem Z4H (a b c d:Int)(w:World)(B:ratB a b=true)(C:ratB c d=true):Calls prog 200 #[.agg #[int i64 a,int i64 b],.agg #[int i64 c,int i64 d]] w λe w'=>e=.returned (int i64 (cmpI a b c d))/\Below w.heap.size w w':=by
 have D:=λW=>Zed a b c d W B C;generalize cmpI a b c d=z at *
 have F:Below w.heap.size w ((w.alloc (.cells #[int i64 a,int i64 b] 60)).alloc (.cells #[int i64 c,int i64 d] 60)):=((zr _ _).alloc (zn _) _).alloc (by simp) _;have G:=zh D;have I:=zh F;have J:=zh B;have L:=zh C;clear D F B C;go_enter func200,ntmps200;go_wp2_with fail;refine (G.out _).mono ?_;rintro e M ⟨rfl,hb⟩;have H:=zh (Z00 I.out hb);clear hb;go_wp2_with fail;go_ret;exact ⟨rfl,H.out⟩
theorem Zha (a b c d:Int)(w:World)(B:ratB a b=true)(D:ratB c d=true):Calls prog 196 #[.agg #[int i64 a,int i64 b],.agg #[int i64 c,int i64 d]] w (RetV (divV a b c d) w):=by
 obtain ⟨⟨m,g⟩,⟨Y,R⟩,_,_⟩:=Z13 B D;obtain ⟨r,f,_,_,_⟩:=Z0F B;rw [Int.mul_comm c b] at Y R;have F:Below w.heap.size w (((w.alloc (.cells #[int i64 a,int i64 b] 60)).alloc (.cells #[int i64 c,int i64 d] 60)).alloc (.cells #[int i64 0,int i64 0] 60)):=(((zr _ _).alloc (zn _) _).alloc (by simp) _).alloc (by simp;omega) _;have G:=Z0k w a b c d 0 0;by_cases hc:c=0
 · subst hc;have H:divV a b 0 d=.no 22:=by unfold divV;rw [zp rfl]
   rw [H];have L:=zh F;have I:=zh G;have O:=zh B;have U:=zh D;have q:=zh H;clear F G B D H;go_enter func196,ntmps196;go_wp2_with fail;refine bodyPost_ret (v:=.tuple #[.agg #[int i64 0,int i64 0],int i64 22]) (by simp [results,results196,go_sem]) rfl ⟨rfl,?_⟩;exact (((zr _ _).alloc (zn _) _).alloc (by simp) _).alloc (by simp;omega) _
 · have j:(c==0)=false:=by simpa using hc
   have J:∀ W:World,Calls prog 161 #[int i64 (a*d),int i64 (b*c)] W (RetV (divV a b c d) W):=λW=>by have:=Zb1 (a*d) (b*c) W (by omega) (by omega) (by omega) (by omega) (Int.mul_ne_zero (by omega) hc);rwa [show divV a b c d=Z10 (a*d) (b*c) by unfold divV;rw [zf hc]]
   generalize divV a b c d=V at *
   have N:=zh J;have L:=zh F;have I:=zh G;have O:=zh B;have U:=zh D;have Z:=zh hc;clear J F G B D hc;go_enter func196,ntmps196;go_wp2_with fail;generalize ((w.alloc (.cells #[int i64 a,int i64 b] 60)).alloc (.cells #[int i64 c,int i64 d] 60)).alloc (.cells #[int i64 0,int i64 0] 60)=X at *
   refine (N.out X).mono ?_;rintro e A ⟨rfl,hb⟩;have C:=I.out.2.2.on hb;have S:=zh (Z00 L.out hb);have T:=C.c0;have M:=C.c1;have y:=C.fr 0;have l:=C.fr 1;clear C hb;go_wp2_with fail;refine bodyPost_ret (v:=.tuple #[.agg #[int i64 (vN V),int i64 (vD V)],int i64 (vE V)]) (by simp [results,results196,go_sem,T,M]) rfl ⟨rfl,Z01 S.out (by omega) _ _⟩
theorem ZqA (a b c d:Int)(w:World)(D:ratB a b=true)(F:ratB c d=true):Calls prog 188 #[.agg #[int i64 a,int i64 b],.agg #[int i64 c,int i64 d]] w (VP (addV a b c d) w):=by
 have J:Below w.heap.size w (((w.alloc (.cells #[int i64 a,int i64 b] 60)).alloc (.cells #[int i64 c,int i64 d] 60)).alloc (.cells #[int i64 0,int i64 0] 60)):=(((zr _ _).alloc (zn _) _).alloc (by simp) _).alloc (by simp;omega) _;have N:=Z0k w a b c d 0 0;have L:=λW=>Zrn a b c d W D F;have H:=λW=>Z5f (addV a b c d) W (λk e=>by have:=Z6y (op:=4) (a:=a) (b:=b) (c:=c) (d:=d) (e:=k) e;omega);generalize addV a b c d=V at *
 have T:=zh L;have R:=zh H;have M:=zh J;have G:=zh N;have f:=zh D;have l:=zh F;clear L H J N D F;go_enter func188,ntmps188;go_wp2_with fail;generalize ((w.alloc (.cells #[int i64 a,int i64 b] 60)).alloc (.cells #[int i64 c,int i64 d] 60)).alloc (.cells #[int i64 0,int i64 0] 60)=Y at *
 refine (T.out Y).mono ?_;rintro e m ⟨rfl,hb⟩;have U:=zh (G.out.2.2.on hb);have I:=zh (Z00 M.out hb);clear hb G M;go_wp2_with fail;refine (R.out _).mono ?_;cases V with
 | no k =>intro e Z C;obtain ⟨hb,rfl⟩:=C.isno;exact ⟨rfl,Z00 I.out hb,rfl⟩
 | ok x y =>intro e Z C;obtain ⟨hb,rfl⟩:=C.isok;clear C;have B:=U.out.on hb;have X:=zh (Z00 I.out hb);have S:=B.c0;have O:=B.c1;have j:=B.fr 0;have g:=B.fr 1;clear B hb;go_wp2_with fail;refine bodyPost_ret (v:=.agg #[int i64 x,int i64 y]) (by simp [results,results188,go_sem,S,O]) rfl ⟨Z01 X.out (by omega) _ _,rfl⟩
theorem ZqB (a b c d:Int)(w:World)(D:ratB a b=true)(F:ratB c d=true):Calls prog 191 #[.agg #[int i64 a,int i64 b],.agg #[int i64 c,int i64 d]] w (VP (subV a b c d) w):=by
 have J:Below w.heap.size w (((w.alloc (.cells #[int i64 a,int i64 b] 60)).alloc (.cells #[int i64 c,int i64 d] 60)).alloc (.cells #[int i64 0,int i64 0] 60)):=(((zr _ _).alloc (zn _) _).alloc (by simp) _).alloc (by simp;omega) _;have N:=Z0k w a b c d 0 0;have L:=λW=>Zrp a b c d W D F;have H:=λW=>Z5f (subV a b c d) W (λk e=>by have:=Z6y (op:=5) (a:=a) (b:=b) (c:=c) (d:=d) (e:=k) e;omega);generalize subV a b c d=V at *
 have T:=zh L;have R:=zh H;have M:=zh J;have G:=zh N;have f:=zh D;have l:=zh F;clear L H J N D F;go_enter func191,ntmps191;go_wp2_with fail;generalize ((w.alloc (.cells #[int i64 a,int i64 b] 60)).alloc (.cells #[int i64 c,int i64 d] 60)).alloc (.cells #[int i64 0,int i64 0] 60)=Y at *
 refine (T.out Y).mono ?_;rintro e m ⟨rfl,hb⟩;have U:=zh (G.out.2.2.on hb);have I:=zh (Z00 M.out hb);clear hb G M;go_wp2_with fail;refine (R.out _).mono ?_;cases V with
 | no k =>intro e Z C;obtain ⟨hb,rfl⟩:=C.isno;exact ⟨rfl,Z00 I.out hb,rfl⟩
 | ok x y =>intro e Z C;obtain ⟨hb,rfl⟩:=C.isok;clear C;have B:=U.out.on hb;have X:=zh (Z00 I.out hb);have S:=B.c0;have O:=B.c1;have j:=B.fr 0;have g:=B.fr 1;clear B hb;go_wp2_with fail;refine bodyPost_ret (v:=.agg #[int i64 x,int i64 y]) (by simp [results,results191,go_sem,S,O]) rfl ⟨Z01 X.out (by omega) _ _,rfl⟩
theorem ZqC (a b c d:Int)(w:World)(D:ratB a b=true)(F:ratB c d=true):Calls prog 193 #[.agg #[int i64 a,int i64 b],.agg #[int i64 c,int i64 d]] w (VP (mulV a b c d) w):=by
 have J:Below w.heap.size w (((w.alloc (.cells #[int i64 a,int i64 b] 60)).alloc (.cells #[int i64 c,int i64 d] 60)).alloc (.cells #[int i64 0,int i64 0] 60)):=(((zr _ _).alloc (zn _) _).alloc (by simp) _).alloc (by simp;omega) _;have N:=Z0k w a b c d 0 0;have L:=λW=>Zrq a b c d W D F;have H:=λW=>Z5f (mulV a b c d) W (λk e=>by have:=Z6y (op:=6) (a:=a) (b:=b) (c:=c) (d:=d) (e:=k) e;omega);generalize mulV a b c d=V at *
 have T:=zh L;have R:=zh H;have M:=zh J;have G:=zh N;have f:=zh D;have l:=zh F;clear L H J N D F;go_enter func193,ntmps193;go_wp2_with fail;generalize ((w.alloc (.cells #[int i64 a,int i64 b] 60)).alloc (.cells #[int i64 c,int i64 d] 60)).alloc (.cells #[int i64 0,int i64 0] 60)=Y at *
 refine (T.out Y).mono ?_;rintro e m ⟨rfl,hb⟩;have U:=zh (G.out.2.2.on hb);have I:=zh (Z00 M.out hb);clear hb G M;go_wp2_with fail;refine (R.out _).mono ?_;cases V with
 | no k =>intro e Z C;obtain ⟨hb,rfl⟩:=C.isno;exact ⟨rfl,Z00 I.out hb,rfl⟩
 | ok x y =>intro e Z C;obtain ⟨hb,rfl⟩:=C.isok;clear C;have B:=U.out.on hb;have X:=zh (Z00 I.out hb);have S:=B.c0;have O:=B.c1;have j:=B.fr 0;have g:=B.fr 1;clear B hb;go_wp2_with fail;refine bodyPost_ret (v:=.agg #[int i64 x,int i64 y]) (by simp [results,results193,go_sem,S,O]) rfl ⟨Z01 X.out (by omega) _ _,rfl⟩
theorem ZqD (a b c d:Int)(w:World)(D:ratB a b=true)(F:ratB c d=true):Calls prog 195 #[.agg #[int i64 a,int i64 b],.agg #[int i64 c,int i64 d]] w (VP (divV a b c d) w):=by
 have J:Below w.heap.size w (((w.alloc (.cells #[int i64 a,int i64 b] 60)).alloc (.cells #[int i64 c,int i64 d] 60)).alloc (.cells #[int i64 0,int i64 0] 60)):=(((zr _ _).alloc (zn _) _).alloc (by simp) _).alloc (by simp;omega) _;have N:=Z0k w a b c d 0 0;have L:=λW=>Zha a b c d W D F;have H:=λW=>Z5f (divV a b c d) W (λk e=>by have:=Z6y (op:=7) (a:=a) (b:=b) (c:=c) (d:=d) (e:=k) e;omega);generalize divV a b c d=V at *
 have T:=zh L;have R:=zh H;have M:=zh J;have G:=zh N;have f:=zh D;have l:=zh F;clear L H J N D F;go_enter func195,ntmps195;go_wp2_with fail;generalize ((w.alloc (.cells #[int i64 a,int i64 b] 60)).alloc (.cells #[int i64 c,int i64 d] 60)).alloc (.cells #[int i64 0,int i64 0] 60)=Y at *
 refine (T.out Y).mono ?_;rintro e m ⟨rfl,hb⟩;have U:=zh (G.out.2.2.on hb);have I:=zh (Z00 M.out hb);clear hb G M;go_wp2_with fail;refine (R.out _).mono ?_;cases V with
 | no k =>intro e Z C;obtain ⟨hb,rfl⟩:=C.isno;exact ⟨rfl,Z00 I.out hb,rfl⟩
 | ok x y =>intro e Z C;obtain ⟨hb,rfl⟩:=C.isok;clear C;have B:=U.out.on hb;have X:=zh (Z00 I.out hb);have S:=B.c0;have O:=B.c1;have j:=B.fr 0;have g:=B.fr 1;clear B hb;go_wp2_with fail;refine bodyPost_ret (v:=.agg #[int i64 x,int i64 y]) (by simp [results,results195,go_sem,S,O]) rfl ⟨Z01 X.out (by omega) _ _,rfl⟩
theorem ZqE (a b c d:Int)(w:World)(D:ratB a b=true)(F:ratB c d=true):Calls prog 198 #[.agg #[int i64 a,int i64 b],.agg #[int i64 c,int i64 d]] w (VP (truV (decide (cmpI a b c d<0))) w):=by
 have I:Below w.heap.size w (((w.alloc (.cells #[int i64 a,int i64 b] 60)).alloc (.cells #[int i64 c,int i64 d] 60)).alloc (.cells #[int i64 0,int i64 0] 60)):=(((zr _ _).alloc (zn _) _).alloc (by simp) _).alloc (by simp;omega) _;have R:=Z0k w a b c d 0 0;have L:=λW=>Z4H a b c d W D F;generalize cmpI a b c d=z at *
 obtain ⟨t,C⟩:∃ t,t=decide (z<0):=⟨_,rfl⟩
 have H:=λW=>Z4G (decide (z<0)) W;rw [<- C];obtain ⟨x,y,N⟩:∃ x y,truV t=.ok x y:=by cases t <;> exact ⟨_,_,rfl⟩
 have Y:=zh L;have T:=zh H;have O:=zh I;have G:=zh R;have j:=zh D;have q:=zh F;have U:=zh C;have J:=zh N;clear L H I R D F C N;go_enter func198,ntmps198;go_wp2_with fail;generalize ((w.alloc (.cells #[int i64 a,int i64 b] 60)).alloc (.cells #[int i64 c,int i64 d] 60)).alloc (.cells #[int i64 0,int i64 0] 60)=g at *
 refine (Y.out g).mono ?_;rintro e r ⟨rfl,hb⟩;have Z:=zh (G.out.2.2.on hb);have V:=zh (Z00 O.out hb);clear hb G O;go_wp2_with fail;refine (T.out _).mono ?_;rw [<- U.out,J.out];intro e A M;obtain ⟨hb,rfl⟩:=M.isok;clear M;have B:=Z.out.on hb;have f:=zh (Z00 V.out hb);have X:=B.c0;have S:=B.c1;have m:=B.fr 0;have l:=B.fr 1;clear B hb;go_wp2_with fail;refine bodyPost_ret (v:=.agg #[int i64 x,int i64 y]) (by simp [results,results198,go_sem,X,S]) rfl ⟨Z01 f.out (by omega) _ _,by rw [J.out];rfl⟩
theorem ZqF (a b c d:Int)(w:World)(D:ratB a b=true)(F:ratB c d=true):Calls prog 201 #[.agg #[int i64 a,int i64 b],.agg #[int i64 c,int i64 d]] w (VP (truV ((cmpI a b c d==0))) w):=by
 have I:Below w.heap.size w (((w.alloc (.cells #[int i64 a,int i64 b] 60)).alloc (.cells #[int i64 c,int i64 d] 60)).alloc (.cells #[int i64 0,int i64 0] 60)):=(((zr _ _).alloc (zn _) _).alloc (by simp) _).alloc (by simp;omega) _;have R:=Z0k w a b c d 0 0;have L:=λW=>Z4H a b c d W D F;generalize cmpI a b c d=z at *
 obtain ⟨t,C⟩:∃ t,t=(z==0):=⟨_,rfl⟩
 have H:=λW=>Z4G ((z==0)) W;rw [<- C];obtain ⟨x,y,N⟩:∃ x y,truV t=.ok x y:=by cases t <;> exact ⟨_,_,rfl⟩
 have Y:=zh L;have T:=zh H;have O:=zh I;have G:=zh R;have j:=zh D;have q:=zh F;have U:=zh C;have J:=zh N;clear L H I R D F C N;go_enter func201,ntmps201;go_wp2_with fail;generalize ((w.alloc (.cells #[int i64 a,int i64 b] 60)).alloc (.cells #[int i64 c,int i64 d] 60)).alloc (.cells #[int i64 0,int i64 0] 60)=g at *
 refine (Y.out g).mono ?_;rintro e r ⟨rfl,hb⟩;have Z:=zh (G.out.2.2.on hb);have V:=zh (Z00 O.out hb);clear hb G O;go_wp2_with fail;refine (T.out _).mono ?_;rw [<- U.out,J.out];intro e A M;obtain ⟨hb,rfl⟩:=M.isok;clear M;have B:=Z.out.on hb;have f:=zh (Z00 V.out hb);have X:=B.c0;have S:=B.c1;have m:=B.fr 0;have l:=B.fr 1;clear B hb;go_wp2_with fail;refine bodyPost_ret (v:=.agg #[int i64 x,int i64 y]) (by simp [results,results201,go_sem,X,S]) rfl ⟨Z01 f.out (by omega) _ _,by rw [J.out];rfl⟩
theorem ZqG (a b c d:Int)(w:World):Calls prog 202 #[.agg #[int i64 a,int i64 b],.agg #[int i64 c,int i64 d]] w (VP (truV (decide (a=1)&&decide (c=1))) w):=by
 have G:Below w.heap.size w (((w.alloc (.cells #[int i64 a,int i64 b] 60)).alloc (.cells #[int i64 c,int i64 d] 60)).alloc (.cells #[int i64 0,int i64 0] 60)):=(((zr _ _).alloc (zn _) _).alloc (by simp) _).alloc (by simp;omega) _;have I:=Z0k w a b c d 0 0;obtain ⟨p,C⟩:∃ p,p=decide (a=1):=⟨_,rfl⟩
 obtain ⟨q,D⟩:∃ q,q=decide (c=1):=⟨_,rfl⟩
 have V:(a==1)=p:=C.symm;have Z:(c==1)=q:=D.symm;have F:=λt W=>Z4G t W;rw [<- C,<- D];have L:=zh F;have S:=zh G;have M:=zh I;have T:=zh C;have X:=zh D;clear F G I C D;cases p <;> cases q
 all_goals
  go_enter func202,ntmps202;go_wp2_with fail;generalize ((w.alloc (.cells #[int i64 a,int i64 b] 60)).alloc (.cells #[int i64 c,int i64 d] 60)).alloc (.cells #[int i64 0,int i64 0] 60)=R at *
  refine (L.out _ R).mono ?_;intro e f H;obtain ⟨hb,rfl⟩:=VP.isok H;clear H;have B:=M.out.2.2.on hb;have O:=zh (Z00 S.out hb);have N:=B.c0;have J:=B.c1;have Y:=B.fr 0;have U:=B.fr 1;clear B hb;go_wp2_with fail;exact bodyPost_ret (by simp [results,results202,go_sem,N,J]) rfl ⟨Z01 O.out (by omega) _ _,rfl⟩
theorem ZqH (a b c d:Int)(w:World):Calls prog 203 #[.agg #[int i64 a,int i64 b],.agg #[int i64 c,int i64 d]] w (VP (truV (decide (a=1) || decide (c=1))) w):=by
 have G:Below w.heap.size w (((w.alloc (.cells #[int i64 a,int i64 b] 60)).alloc (.cells #[int i64 c,int i64 d] 60)).alloc (.cells #[int i64 0,int i64 0] 60)):=(((zr _ _).alloc (zn _) _).alloc (by simp) _).alloc (by simp;omega) _;have I:=Z0k w a b c d 0 0;obtain ⟨p,C⟩:∃ p,p=decide (a=1):=⟨_,rfl⟩
 obtain ⟨q,D⟩:∃ q,q=decide (c=1):=⟨_,rfl⟩
 have V:(a==1)=p:=C.symm;have Z:(c==1)=q:=D.symm;have F:=λt W=>Z4G t W;rw [<- C,<- D];have L:=zh F;have S:=zh G;have M:=zh I;have T:=zh C;have X:=zh D;clear F G I C D;cases p <;> cases q
 all_goals
  go_enter func203,ntmps203;go_wp2_with fail;generalize ((w.alloc (.cells #[int i64 a,int i64 b] 60)).alloc (.cells #[int i64 c,int i64 d] 60)).alloc (.cells #[int i64 0,int i64 0] 60)=R at *
  refine (L.out _ R).mono ?_;intro e f H;obtain ⟨hb,rfl⟩:=VP.isok H;clear H;have B:=M.out.2.2.on hb;have O:=zh (Z00 S.out hb);have N:=B.c0;have J:=B.c1;have Y:=B.fr 0;have U:=B.fr 1;clear B hb;go_wp2_with fail;exact bodyPost_ret (by simp [results,results203,go_sem,N,J]) rfl ⟨Z01 O.out (by omega) _ _,rfl⟩
def BetS (w:World)(p:Nat)(s a b c d:Int)(wx:World):Prop:=RatB wx w.heap.size a b/\RatB wx (w.heap.size+1) c d/\RatB wx (w.heap.size+2) 0 0/\Bx1 wx p s/\Below w.heap.size w wx
theorem BetS.on {w B C:World}{p:Nat}{s a b c d:Int}(h:BetS w p s a b c d B)(hb:Below B.heap.size B C):BetS w p s a b c d C:=⟨h.1.on hb,h.2.1.on hb,h.2.2.1.on hb,h.2.2.2.1.on hb,Z00 h.2.2.2.2 hb⟩
theorem BetS.drew {w B:World}{p:Nat}{s a b c d:Int}(h:BetS w p s a b c d B):BetS w p s a b c d B.drew:=h.on (zr _ _).drew
theorem Zk4 (a b c d:Int):cmpI a b c d = -1\/cmpI a b c d=0\/cmpI a b c d=1:=by unfold cmpI;repeat' split <;> omega
def betV (s a b c d:Int):V:=if 0<cmpI a b c d*s then .ok a b else .ok c d
theorem Ze2 (s a b c d:Int)(p:Nat)(w:World)(X:ratB a b=true)(Y:ratB c d=true)(hs:s=1\/s = -1)(G:Bx1 w p s) : Calls prog 251 #[.agg #[int i64 a,int i64 b],.agg #[int i64 c,int i64 d],.pointer (some ⟨p,0,none⟩)] w (VP (betV s a b c d) w):=by
 have L:Below w.heap.size w (((w.alloc (.cells #[int i64 a,int i64 b] 60)).alloc (.cells #[int i64 c,int i64 d] 60)).alloc (.cells #[int i64 0,int i64 0] 60)):=(((zr _ _).alloc (zn _) _).alloc (by simp) _).alloc (by simp;omega) _;have C:=Z0k w a b c d 0 0;have O:Bx1 _ p s:=G.on L;have V:=λW=>Z4H a b c d W X Y;have hv:=Zk4 a b c d;have J:betV s a b c d=if 0<cmpI a b c d*s then .ok a b else .ok c d:=rfl;have bc:p<w.heap.size:=(zs G)
 generalize cmpI a b c d=z at *
 have H:z*s=if s=1 then z else -z:=by rcases hs with rfl | rfl <;> simp
 obtain ⟨m,D⟩:∃ m,m=z*s:=⟨_,rfl⟩
 rw [<- D] at J;have ba : -1<=m/\m<=1:=by rw [D,H];split <;> omega
 have bb:IntKind.i64.wrap (z*s)=m:=by rw [<- D];exact zi _ (by omega)
 have HC:=zh V;have g:=zh L;have S:=zh C;have U:=zh J;have I:=zh O;have HM:=zh D;have HZ:=zh H;clear V L C J O D H G X Y;go_enter func251,ntmps251;go_wp2_with fail;generalize ((w.alloc (.cells #[int i64 a,int i64 b] 60)).alloc (.cells #[int i64 c,int i64 d] 60)).alloc (.cells #[int i64 0,int i64 0] 60)=f at *
 obtain ⟨C,F,R⟩:=S.out;have r:=C.c0;have A:=C.c1;have t2:=F.c0;have q:=F.c1;have l:f.cell? ⟨p,0,none⟩=some (int i64 s):=by rw [zc I.out];rfl
 have T:BetS w p s a b c d f:=⟨C,F,R,I.out,g.out⟩
 clear C F R;have Z:=zh T;clear T S g I;by_cases hgt:0<m
 all_goals
  first | (have dg:decide (0<m)=true:=by simpa using hgt) | (have dg:decide (0<m)=false:=by simpa using hgt)
  go_region_held3 (λw'=>w'.cell? ⟨w.heap.size,0,none⟩=some (int i64 a)/\w'.cell? ⟨w.heap.size,1,none⟩=some (int i64 b)/\w'.cell? ⟨w.heap.size+1,0,none⟩=some (int i64 c)/\w'.cell? ⟨w.heap.size+1,1,none⟩=some (int i64 d)/\w'.cell? ⟨p,0,none⟩=some (int i64 s)/\BetS w p s a b c d w') (first | (exact ⟨r,A,t2,q,l,Z.out.drew⟩) | (exact ⟨u0,u1,u2,y,u4,M.out⟩) | go_keep) ((go_at_call 200;refine (HC.out _).mono ?_;rintro e w' ⟨rfl,hb⟩;have B:=Z.out.drew.on hb;have u0:=B.1.c0;have u1:=B.1.c1;have u2:=B.2.1.c0;have y:=B.2.1.c1;have u4:=Z0x B.2.2.2.1;have M:=zh B;clear B hb));have B:=M.out;have z0:=B.2.2.1.c0;have j:=B.2.2.1.c1;have y0:=B.2.2.1.fr 0;have y1:=B.2.2.1.fr 1;clear B;first
   | (have N:betV s a b c d=.ok a b:=by rw [U.out,zp hgt])
   | (have N:betV s a b c d=.ok c d:=by rw [U.out,zf (by omega)])
  have HV:=zh N;clear N;go_wp2_with fail;rw [HV.out];exact bodyPost_ret (by simp [results,results251,go_sem,z0,j]) rfl ⟨Z01 M.out.2.2.2.2 (by omega) _ _,rfl⟩
theorem Z9H (s:Int)(w:World):Calls prog 197 #[int i64 s] w λe w'=>e=.returned (.func (.func 251) #[] #[.pointer (some ⟨w.heap.size,0,none⟩)])/\w'=w.alloc (.cells #[int i64 s] 3):=by
 have B:∀ (fn:Fn) (first cap:Array Value) (w:World),(Instr.makeFunc fn first cap).run prog w=.ok (.func fn first cap) w:=λ_ _ _ _=>rfl;go_enter func197,ntmps197;go_wp2_with fail;go_ret;exact ⟨rfl,rfl⟩
def RFn (W:World)(v:Value)(op:Int):Prop := ∃ g cap,v=.func (.func g) #[] cap/\(∀ args w,(callFunc g args).run prog w=.ok (.enter g args) w) /\ ∀ (W':World) (a b c d:Int),Below W.heap.size W W'->ratB a b=true->ratB c d=true->Calls prog g (#[.agg #[int i64 a,int i64 b],.agg #[int i64 c,int i64 d]]++cap) W' (VP (appV op a b c d) W')
theorem RFn.on {W B:World}{v:Value}{op:Int}(h:RFn W v op)(hb:Below W.heap.size W B):RFn B v op:=by
 obtain ⟨g,cap,e,D,C⟩:=h;exact ⟨g,cap,e,D,λW2 a b c d hb2=>C W2 a b c d (Z00 hb hb2)⟩
theorem Za0 {W:World}{p:Nat}{s op:Int}(h:Bx1 W p s)(B:s=1\/s = -1)(C:∀ a b c d,appV op a b c d=betV s a b c d):RFn W (.func (.func 251) #[] #[.pointer (some ⟨p,0,none⟩)]) op := ⟨_,_,rfl,enters_of func251 (by kernel_rfl) rfl,λW' a b c d hb h1 h2=>by rw [C];exact Ze2 s a b c d p W' h1 h2 B (h.on hb)⟩
theorem Zr0 (a b c d:Int):appV 8 a b c d=betV (-1) a b c d:=by
 show (if cmpI a b c d<0 then V.ok a b else .ok c d)=_;unfold betV;by_cases h:cmpI a b c d<0
 · rw [zp h,zp (by omega)]
 · rw [zf h,zf (by omega)]
theorem Zr1 (a b c d:Int):appV 9 a b c d=betV 1 a b c d:=by
 show (if 0<cmpI a b c d then V.ok a b else .ok c d)=_;unfold betV;rw [Int.mul_one]
theorem Zr2 (W:World):RFn W (.func (.func 188) #[] #[]) 4 := ⟨_,_,rfl,enters_of func188 (by kernel_rfl) rfl,λW' a b c d _ h1 h2=>by exact ZqA a b c d W' h1 h2⟩
theorem Zr3 (W:World):RFn W (.func (.func 191) #[] #[]) 5 := ⟨_,_,rfl,enters_of func191 (by kernel_rfl) rfl,λW' a b c d _ h1 h2=>by exact ZqB a b c d W' h1 h2⟩
theorem Zr4 (W:World):RFn W (.func (.func 193) #[] #[]) 6 := ⟨_,_,rfl,enters_of func193 (by kernel_rfl) rfl,λW' a b c d _ h1 h2=>by exact ZqC a b c d W' h1 h2⟩
theorem Zr5 (W:World):RFn W (.func (.func 195) #[] #[]) 7 := ⟨_,_,rfl,enters_of func195 (by kernel_rfl) rfl,λW' a b c d _ h1 h2=>by exact ZqD a b c d W' h1 h2⟩
theorem Zr6 (W:World):RFn W (.func (.func 198) #[] #[]) 11 := ⟨_,_,rfl,enters_of func198 (by kernel_rfl) rfl,λW' a b c d _ h1 h2=>by exact ZqE a b c d W' h1 h2⟩
theorem Zr7 (W:World):RFn W (.func (.func 201) #[] #[]) 12 := ⟨_,_,rfl,enters_of func201 (by kernel_rfl) rfl,λW' a b c d _ h1 h2=>by show Calls _ _ _ _ (VP (truV (decide (cmpI a b c d=0))) W');exact ZqF a b c d W' h1 h2⟩
theorem Zr8 (W:World):RFn W (.func (.func 202) #[] #[]) 13 := ⟨_,_,rfl,enters_of func202 (by kernel_rfl) rfl,λW' a b c d _ _ _=>ZqG a b c d W'⟩
theorem Zr9 (W:World):RFn W (.func (.func 203) #[] #[]) 14 := ⟨_,_,rfl,enters_of func203 (by kernel_rfl) rfl,λW' a b c d _ _ _=>ZqH a b c d W'⟩
def Za1 (w:World)(r:Nat):Prop:=∀ op,4<=op->op<=14->op≠10->∃ L1 V L2,Z3a w r (L1++(op,V)::L2)/\(∀ p∈L1,p.1≠op)/\RFn w V op
theorem Za1.on {w w':World}{r:Nat}(h:Za1 w r)(hb:Below w.heap.size w w'):Za1 w' r:=by
 intro op C F D;obtain ⟨G,V,L2,H,B,I⟩:=h op C F D;exact ⟨G,V,L2,H.on hb,B,I.on hb⟩
def ROpsP (w:World)(e:Ending)(w':World):Prop:=∃ r,e=.returned (.map (some r))/\Za1 w' r/\w.heap.size<=r/\Below w.heap.size w w'
theorem Z6m (w:World):Calls prog 148 #[] w (ROpsP w):=by
 have bj:=@run_makeMap prog;have h0:=Z3a.new w;have y:Below w.heap.size w (w.alloc (.map #[] 0)):=(zr _ _).alloc (zn _) _;have l0:w.heap.size<(w.alloc (.map #[] 0)).heap.size:=by simp
 go_enter func148,ntmps148;go_wp2_with fail;generalize w.alloc (.map #[] 0)=w0 at *
 clear bj;refine Z0f underlying203 underlying3 h0 (by simp) ?_;intro w1 g S;have g1:=y.trans (Z0a S (zl l0) (zn _));have l1:w.heap.size<w1.heap.size:=by have:=S.size;omega
 simp only [zn2] at g;clear h0 y l0 S;go_wp2_with fail;refine Z0f underlying203 underlying3 g (by simp) ?_;intro w2 l V;have g2:=g1.trans (Z0a V (zl l1) (zn _));have l2:w.heap.size<w2.heap.size:=by have:=V.size;omega
 simp only [zn2,zc2] at l;clear g g1 l1 V;go_wp2_with fail;refine Z0f underlying203 underlying3 l (by simp) ?_;intro w3 Z f;have g3:=g2.trans (Z0a f (zl l2) (zn _));have l3:w.heap.size<w3.heap.size:=by have:=f.size;omega
 simp only [zn2,zc2] at Z;clear l g2 l2 f;go_wp2_with fail;refine Z0f underlying203 underlying3 Z (by simp) ?_;intro F T Y;have g4:=g3.trans (Z0a Y (zl l3) (zn _));have l4:w.heap.size<F.heap.size:=by have:=Y.size;omega
 simp only [zn2,zc2] at T;clear Z g3 l3 Y;go_wp2_with fail;refine (Z9H (-1) _).mono ?_;rintro e w' ⟨rfl,rfl⟩;have d:=(zr F.heap.size F).alloc (zn _) (.cells #[int i64 (-1)] 3);have B:Bx1 (F.alloc (.cells #[int i64 (-1)] 3)) F.heap.size (-1):=za F _;have G:F.heap.size≠w.heap.size:=by omega
 have h4':=T.on d;have bc:=Z00 g4 d;have bd:w.heap.size<(F.alloc (.cells #[int i64 (-1)] 3)).heap.size:=by simp;omega
 clear T g4 l4 d;go_wp2_with fail;generalize bf:F.heap.size=x8 at *
 clear bf;generalize F.alloc (.cells #[int i64 (-1)] 3)=v4 at *
 refine Z0f underlying203 underlying3 h4' (by simp) ?_;intro w5 X R;have r:=bc.trans (Z0a R (zl bd) (zn _));have l5:w.heap.size<w5.heap.size:=by have:=R.size;omega
 replace B:=B.ins R G;simp only [zn2,zc2] at X;clear h4' bc bd R;go_wp2_with fail;refine (Z9H 1 _).mono ?_;rintro e w' ⟨rfl,rfl⟩;have O:=(zr w5.heap.size w5).alloc (zn _) (.cells #[int i64 1] 3);have D:Bx1 (w5.alloc (.cells #[int i64 1] 3)) w5.heap.size 1:=za w5 _;have L:w5.heap.size≠w.heap.size:=by omega
 have be:=X.on O;have bb:=Z00 r O;have ba:w.heap.size<(w5.alloc (.cells #[int i64 1] 3)).heap.size:=by simp;omega
 replace B:=B.on O;clear X r l5 O;go_wp2_with fail;generalize bg:w5.heap.size=x9 at *
 clear bg;generalize w5.alloc (.cells #[int i64 1] 3)=v5 at *
 refine Z0f underlying203 underlying3 be (by simp) ?_;intro w6 m I;have g6:=bb.trans (Z0a I (zl ba) (zn _));have l6:w.heap.size<w6.heap.size:=by have:=I.size;omega
 replace B:=B.ins I G;replace D:=D.ins I L;simp only [zn2,zc2] at m;clear be bb ba I;go_wp2_with fail;refine Z0f underlying203 underlying3 m (by simp) ?_;intro w7 q M;have g7:=g6.trans (Z0a M (zl l6) (zn _));have l7:w.heap.size<w7.heap.size:=by have:=M.size;omega
 replace B:=B.ins M G;replace D:=D.ins M L;simp only [zn2,zc2] at q;clear m g6 l6 M;go_wp2_with fail;refine Z0f underlying203 underlying3 q (by simp) ?_;intro w8 U H;have A:=g7.trans (Z0a H (zl l7) (zn _));have l8:w.heap.size<w8.heap.size:=by have:=H.size;omega
 replace B:=B.ins H G;replace D:=D.ins H L;simp only [zn2,zc2] at U;clear q g7 l7 H;go_wp2_with fail;refine Z0f underlying203 underlying3 U (by simp) ?_;intro w9 j J;have g9:=A.trans (Z0a J (zl l8) (zn _));have l9:w.heap.size<w9.heap.size:=by have:=J.size;omega
 replace B:=B.ins J G;replace D:=D.ins J L;simp only [zn2,zc2] at j;clear U A l8 J;go_wp2_with fail;refine Z0f underlying203 underlying3 j (by simp) ?_;intro bh C N;have bk:=g9.trans (Z0a N (zl l9) (zn _));have bp:w.heap.size<bh.heap.size:=by have:=N.size;omega
 replace B:=B.ins N G;replace D:=D.ins N L;simp only [zn2,zc2] at C;clear j g9 l9 N;go_wp2_with fail;go_ret;refine ⟨_,rfl,?_,zn _,bk⟩;intro op bq bm bn;rcases (show op=4\/op=5\/op=6\/op=7\/op=8\/op=9\/op=11\/op=12\/op=13\/op=14 by omega) with rfl | rfl | rfl | rfl | rfl | rfl | rfl | rfl | rfl | rfl
 · exact ⟨[],_,[(5,_),(6,_),(7,_),(8,_),(9,_),(11,_),(12,_),(13,_),(14,_)],C,by simp,Zr2 _⟩
 · exact ⟨[(4,_)],_,[(6,_),(7,_),(8,_),(9,_),(11,_),(12,_),(13,_),(14,_)],C,by simp,Zr3 _⟩
 · exact ⟨[(4,_),(5,_)],_,[(7,_),(8,_),(9,_),(11,_),(12,_),(13,_),(14,_)],C,by simp,Zr4 _⟩
 · exact ⟨[(4,_),(5,_),(6,_)],_,[(8,_),(9,_),(11,_),(12,_),(13,_),(14,_)],C,by simp,Zr5 _⟩
 · exact ⟨[(4,_),(5,_),(6,_),(7,_)],_,[(9,_),(11,_),(12,_),(13,_),(14,_)],C,by simp,Za0 B (.inr rfl) Zr0⟩
 · exact ⟨[(4,_),(5,_),(6,_),(7,_),(8,_)],_,[(11,_),(12,_),(13,_),(14,_)],C,by simp,Za0 D (.inl rfl) Zr1⟩
 · exact ⟨[(4,_),(5,_),(6,_),(7,_),(8,_),(9,_)],_,[(12,_),(13,_),(14,_)],C,by simp,Zr6 _⟩
 · exact ⟨[(4,_),(5,_),(6,_),(7,_),(8,_),(9,_),(11,_)],_,[(13,_),(14,_)],C,by simp,Zr7 _⟩
 · exact ⟨[(4,_),(5,_),(6,_),(7,_),(8,_),(9,_),(11,_),(12,_)],_,[(14,_)],C,by simp,Zr8 _⟩
 · exact ⟨[(4,_),(5,_),(6,_),(7,_),(8,_),(9,_),(11,_),(12,_),(13,_)],_,[],C,by simp,Zr9 _⟩
end Go.Proofs.YtnepkoepbapgeaaGreatDoor
