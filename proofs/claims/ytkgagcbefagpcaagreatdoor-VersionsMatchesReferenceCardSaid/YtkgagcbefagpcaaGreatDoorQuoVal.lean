import Derived.Test.YtkgagcbefagpcaaGreatDoorQuoRat3
namespace Go.Proofs.YtkgagcbefagpcaaGreatDoor
open _root_.Go.Proofs.Tryz
open Value (int slice)
open IntKind (i64)
set_option maxHeartbeats 8000000
set_option maxRecDepth 100000
section
open Go.RowKit Lx Px Qx
def Ziv (k:Int):PanicEntry:={ v:=.iface 230 (.agg #[vI k]),recovered:=false }
def endV:V->Ending
 | .ok n d=>.returned (.agg #[vI n,vI d])
 | .no k=>.panicked [Ziv k]
def VP (v:V)(w:World)(e:Ending)(w':World):Prop:=Below w.heap.size w w'/\e=endV v
theorem VP.isok {n d:Int}{w w':World}{e:Ending}(h:VP (.ok n d) w e w'):Below w.heap.size w w'/\e=.returned (.agg #[vI n,vI d]):=h
theorem VP.isno {k:Int}{w w':World}{e:Ending}(h:VP (.no k) w e w'):Below w.heap.size w w'/\e=.panicked [Ziv k]:=h
theorem Z5r (v:V)(w:World)(h:∀ k,v=.no k->k≠0):Calls prog 218 #[.agg #[vI (vN v),vI (vD v)],vI (vE v)] w (VP v w):=by
 cases v with
 | ok n d =>show Calls prog _ #[.agg #[vI n,vI d],vI 0] w _;go_enter func218,ntmps218;go_wp2_with fail;exact bodyPost_ret (v:=.agg #[vI n,vI d]) (by simp [results,results218,go_sem]) rfl ⟨((zr _ _).alloc (zn _) _).alloc (by simp) _,rfl⟩
 | no k =>
  have hk:=h k rfl;have C:(k==0)=false:=by simpa using hk
  have D:(k != 0)=true:=by simpa using hk
  show Calls prog _ #[.agg #[vI 0,vI 0],vI k] w _;have B:=zh hk;have H:=zh h;clear hk h;go_enter func218,ntmps218;go_wp2_with fail;exact ⟨rfl,((zr _ _).alloc (zn _) _).alloc (by simp) _,rfl⟩
theorem Z57 (b:Bool)(w:World):Calls prog 228 #[.bool b] w (VP (truV b) w):=by
 cases b with
 | true =>go_enter func228,ntmps228;go_wp2_with fail;exact bodyPost_ret (v:=.agg #[vI 1,vI 1]) (by simp [results,results228,go_sem]) rfl ⟨(zr _ _).alloc (zn _) _,rfl⟩
 | false =>go_enter func228,ntmps228;go_wp2_with fail;exact bodyPost_ret (v:=.agg #[vI 0,vI 1]) (by simp [results,results228,go_sem]) rfl ⟨(zr _ _).alloc (zn _) _,rfl⟩
theorem Z58 (a b c d:Int)(w:World)(C:ratB a b=true)(B:ratB c d=true):Calls prog 229 #[.agg #[vI a,vI b],.agg #[vI c,vI d]] w λe w'=>e=.returned (vI (cmpI a b c d))/\Below w.heap.size w w':=by
 have F:=λW=>Zex a b c d W C B;generalize cmpI a b c d=z at *
 have D:Below w.heap.size w ((w.alloc (.cells #[vI a,vI b] 76)).alloc (.cells #[vI c,vI d] 76)):=((zr _ _).alloc (zn _) _).alloc (by simp) _;obtain ⟨G,H,M,J⟩:=zh4 F D C B;clear F D C B;go_enter func229,ntmps229;go_wp2_with fail;refine (G.o _).mono ?_;rintro e L ⟨rfl,hb⟩;have I:=zh (Z00 H.o hb);clear hb;go_wp2_with fail;go_ret;exact ⟨rfl,I.o⟩
theorem Ziw (a b c d:Int)(w:World)(B:ratB a b=true)(C:ratB c d=true):Calls prog 225 #[.agg #[vI a,vI b],.agg #[vI c,vI d]] w (RetV (divV a b c d) w):=by
 obtain ⟨⟨m,A⟩,⟨T,U⟩,_,_⟩:=Z16 B C;obtain ⟨Z,r,_,_,_⟩:=Z11 B;rw [Int.mul_comm c b] at T U;have F:Below w.heap.size w (((w.alloc (.cells #[vI a,vI b] 76)).alloc (.cells #[vI c,vI d] 76)).alloc (.cells #[vI 0,vI 0] 76)):=(((zr _ _).alloc (zn _) _).alloc (by simp) _).alloc (by simp;omega) _;have G:=Z0h w a b c d 0 0;by_cases hc:c=0
 . subst hc;have H:divV a b 0 d=.no 22:=by unfold divV;rw [zp rfl]
   rw [H];obtain ⟨L,I,R,N,g⟩:=zh5 F G B C H;clear F G B C H;go_enter func225,ntmps225;go_wp2_with fail;refine bodyPost_ret (v:=.tuple #[.agg #[vI 0,vI 0],vI 22]) (by simp [results,results225,go_sem]) rfl ⟨rfl,?_⟩;exact (((zr _ _).alloc (zn _) _).alloc (by simp) _).alloc (by simp;omega) _
 . have f:(c==0)=false:=by simpa using hc
   have J:∀ W:World,Calls prog 114 #[vI (a*d),vI (b*c)] W (RetV (divV a b c d) W):=λW=>by have:=Zbf (a*d) (b*c) W (by omega) (by omega) (by omega) (by omega) (Int.mul_ne_zero (by omega) hc);rwa [show divV a b c d=Z14 (a*d) (b*c) by unfold divV;rw [zf hc]]
   generalize divV a b c d=V at *
   obtain ⟨X,L,I,R,N,q⟩:=zh6 J F G B C hc;clear J F G B C hc;go_enter func225,ntmps225;go_wp2_with fail;generalize ((w.alloc (.cells #[vI a,vI b] 76)).alloc (.cells #[vI c,vI d] 76)).alloc (.cells #[vI 0,vI 0] 76)=Y at *
   refine (X.o Y).mono ?_;rintro e l ⟨rfl,hb⟩;have D:=I.o.2.2.on hb;have M:=zh (Z00 L.o hb);have S:=D.c0;have O:=D.c1;have y:=D.fr 0;have j:=D.fr 1;clear D hb;go_wp2_with fail;refine bodyPost_ret (v:=.tuple #[.agg #[vI (vN V),vI (vD V)],vI (vE V)]) (by simp [results,results225,go_sem,S,O]) rfl ⟨rfl,Z01 M.o (by omega) _ _⟩
theorem ZsF (a b c d:Int)(w:World)(F:ratB a b=true)(D:ratB c d=true):Calls prog 217 #[.agg #[vI a,vI b],.agg #[vI c,vI d]] w (VP (addV a b c d) w):=by
 have L:Below w.heap.size w (((w.alloc (.cells #[vI a,vI b] 76)).alloc (.cells #[vI c,vI d] 76)).alloc (.cells #[vI 0,vI 0] 76)):=(((zr _ _).alloc (zn _) _).alloc (by simp) _).alloc (by simp;omega) _;have M:=Z0h w a b c d 0 0;have G:=λW=>Zsr a b c d W F D;have J:=λW=>Z5r (addV a b c d) W (λk e=>by have:=Z6x (op:=4) (a:=a) (b:=b) (c:=c) (d:=d) (e:=k) e;omega);generalize addV a b c d=V at *
 obtain ⟨U,Y,N,I,l,f⟩:=zh6 G J L M F D;clear G J L M F D;go_enter func217,ntmps217;go_wp2_with fail;generalize ((w.alloc (.cells #[vI a,vI b] 76)).alloc (.cells #[vI c,vI d] 76)).alloc (.cells #[vI 0,vI 0] 76)=Z at *
 refine (U.o Z).mono ?_;rintro e j ⟨rfl,hb⟩;have T:=zh (I.o.2.2.on hb);have H:=zh (Z00 N.o hb);clear hb I N;go_wp2_with fail;refine (Y.o _).mono ?_;cases V with
 | no k =>intro e O C;obtain ⟨hb,rfl⟩:=C.isno;exact ⟨rfl,Z00 H.o hb,rfl⟩
 | ok x y =>intro e O C;obtain ⟨hb,rfl⟩:=C.isok;clear C;have B:=T.o.on hb;have R:=zh (Z00 H.o hb);have X:=B.c0;have S:=B.c1;have m:=B.fr 0;have g:=B.fr 1;clear B hb;go_wp2_with fail;refine bodyPost_ret (v:=.agg #[vI x,vI y]) (by simp [results,results217,go_sem,X,S]) rfl ⟨Z01 R.o (by omega) _ _,rfl⟩
theorem ZsG (a b c d:Int)(w:World)(F:ratB a b=true)(D:ratB c d=true):Calls prog 220 #[.agg #[vI a,vI b],.agg #[vI c,vI d]] w (VP (subV a b c d) w):=by
 have L:Below w.heap.size w (((w.alloc (.cells #[vI a,vI b] 76)).alloc (.cells #[vI c,vI d] 76)).alloc (.cells #[vI 0,vI 0] 76)):=(((zr _ _).alloc (zn _) _).alloc (by simp) _).alloc (by simp;omega) _;have M:=Z0h w a b c d 0 0;have G:=λW=>Zss a b c d W F D;have J:=λW=>Z5r (subV a b c d) W (λk e=>by have:=Z6x (op:=5) (a:=a) (b:=b) (c:=c) (d:=d) (e:=k) e;omega);generalize subV a b c d=V at *
 obtain ⟨U,Y,N,I,l,f⟩:=zh6 G J L M F D;clear G J L M F D;go_enter func220,ntmps220;go_wp2_with fail;generalize ((w.alloc (.cells #[vI a,vI b] 76)).alloc (.cells #[vI c,vI d] 76)).alloc (.cells #[vI 0,vI 0] 76)=Z at *
 refine (U.o Z).mono ?_;rintro e j ⟨rfl,hb⟩;have T:=zh (I.o.2.2.on hb);have H:=zh (Z00 N.o hb);clear hb I N;go_wp2_with fail;refine (Y.o _).mono ?_;cases V with
 | no k =>intro e O C;obtain ⟨hb,rfl⟩:=C.isno;exact ⟨rfl,Z00 H.o hb,rfl⟩
 | ok x y =>intro e O C;obtain ⟨hb,rfl⟩:=C.isok;clear C;have B:=T.o.on hb;have R:=zh (Z00 H.o hb);have X:=B.c0;have S:=B.c1;have m:=B.fr 0;have g:=B.fr 1;clear B hb;go_wp2_with fail;refine bodyPost_ret (v:=.agg #[vI x,vI y]) (by simp [results,results220,go_sem,X,S]) rfl ⟨Z01 R.o (by omega) _ _,rfl⟩
theorem ZsH (a b c d:Int)(w:World)(F:ratB a b=true)(D:ratB c d=true):Calls prog 222 #[.agg #[vI a,vI b],.agg #[vI c,vI d]] w (VP (mulV a b c d) w):=by
 have L:Below w.heap.size w (((w.alloc (.cells #[vI a,vI b] 76)).alloc (.cells #[vI c,vI d] 76)).alloc (.cells #[vI 0,vI 0] 76)):=(((zr _ _).alloc (zn _) _).alloc (by simp) _).alloc (by simp;omega) _;have M:=Z0h w a b c d 0 0;have G:=λW=>Zst a b c d W F D;have J:=λW=>Z5r (mulV a b c d) W (λk e=>by have:=Z6x (op:=6) (a:=a) (b:=b) (c:=c) (d:=d) (e:=k) e;omega);generalize mulV a b c d=V at *
 obtain ⟨U,Y,N,I,l,f⟩:=zh6 G J L M F D;clear G J L M F D;go_enter func222,ntmps222;go_wp2_with fail;generalize ((w.alloc (.cells #[vI a,vI b] 76)).alloc (.cells #[vI c,vI d] 76)).alloc (.cells #[vI 0,vI 0] 76)=Z at *
 refine (U.o Z).mono ?_;rintro e j ⟨rfl,hb⟩;have T:=zh (I.o.2.2.on hb);have H:=zh (Z00 N.o hb);clear hb I N;go_wp2_with fail;refine (Y.o _).mono ?_;cases V with
 | no k =>intro e O C;obtain ⟨hb,rfl⟩:=C.isno;exact ⟨rfl,Z00 H.o hb,rfl⟩
 | ok x y =>intro e O C;obtain ⟨hb,rfl⟩:=C.isok;clear C;have B:=T.o.on hb;have R:=zh (Z00 H.o hb);have X:=B.c0;have S:=B.c1;have m:=B.fr 0;have g:=B.fr 1;clear B hb;go_wp2_with fail;refine bodyPost_ret (v:=.agg #[vI x,vI y]) (by simp [results,results222,go_sem,X,S]) rfl ⟨Z01 R.o (by omega) _ _,rfl⟩
theorem Zt0 (a b c d:Int)(w:World)(F:ratB a b=true)(D:ratB c d=true):Calls prog 224 #[.agg #[vI a,vI b],.agg #[vI c,vI d]] w (VP (divV a b c d) w):=by
 have L:Below w.heap.size w (((w.alloc (.cells #[vI a,vI b] 76)).alloc (.cells #[vI c,vI d] 76)).alloc (.cells #[vI 0,vI 0] 76)):=(((zr _ _).alloc (zn _) _).alloc (by simp) _).alloc (by simp;omega) _;have M:=Z0h w a b c d 0 0;have G:=λW=>Ziw a b c d W F D;have J:=λW=>Z5r (divV a b c d) W (λk e=>by have:=Z6x (op:=7) (a:=a) (b:=b) (c:=c) (d:=d) (e:=k) e;omega);generalize divV a b c d=V at *
 obtain ⟨U,Y,N,I,l,f⟩:=zh6 G J L M F D;clear G J L M F D;go_enter func224,ntmps224;go_wp2_with fail;generalize ((w.alloc (.cells #[vI a,vI b] 76)).alloc (.cells #[vI c,vI d] 76)).alloc (.cells #[vI 0,vI 0] 76)=Z at *
 refine (U.o Z).mono ?_;rintro e j ⟨rfl,hb⟩;have T:=zh (I.o.2.2.on hb);have H:=zh (Z00 N.o hb);clear hb I N;go_wp2_with fail;refine (Y.o _).mono ?_;cases V with
 | no k =>intro e O C;obtain ⟨hb,rfl⟩:=C.isno;exact ⟨rfl,Z00 H.o hb,rfl⟩
 | ok x y =>intro e O C;obtain ⟨hb,rfl⟩:=C.isok;clear C;have B:=T.o.on hb;have R:=zh (Z00 H.o hb);have X:=B.c0;have S:=B.c1;have m:=B.fr 0;have g:=B.fr 1;clear B hb;go_wp2_with fail;refine bodyPost_ret (v:=.agg #[vI x,vI y]) (by simp [results,results224,go_sem,X,S]) rfl ⟨Z01 R.o (by omega) _ _,rfl⟩
theorem Zt1 (a b c d:Int)(w:World)(F:ratB a b=true)(C:ratB c d=true):Calls prog 227 #[.agg #[vI a,vI b],.agg #[vI c,vI d]] w (VP (truV (decide (cmpI a b c d<0))) w):=by
 have N:Below w.heap.size w (((w.alloc (.cells #[vI a,vI b] 76)).alloc (.cells #[vI c,vI d] 76)).alloc (.cells #[vI 0,vI 0] 76)):=(((zr _ _).alloc (zn _) _).alloc (by simp) _).alloc (by simp;omega) _;have O:=Z0h w a b c d 0 0;have H:=λW=>Z58 a b c d W F C;generalize cmpI a b c d=z at *
 obtain ⟨t,D⟩:∃ t,t=decide (z<0):=⟨_,rfl⟩
 have M:=λW=>Z57 (decide (z<0)) W;rw [<- D];obtain ⟨x,y,L⟩:∃ x y,truV t=.ok x y:=by cases t <;> exact ⟨_,_,rfl⟩
 obtain ⟨Y,f,R,J,r,l,T,I⟩:=zh8 H M N O F C D L;clear H M N O F C D L;go_enter func227,ntmps227;go_wp2_with fail;generalize ((w.alloc (.cells #[vI a,vI b] 76)).alloc (.cells #[vI c,vI d] 76)).alloc (.cells #[vI 0,vI 0] 76)=g at *
 refine (Y.o g).mono ?_;rintro e q ⟨rfl,hb⟩;have X:=zh (J.o.2.2.on hb);have S:=zh (Z00 R.o hb);clear hb J R;go_wp2_with fail;refine (f.o _).mono ?_;rw [<- T.o,I.o];intro e j G;obtain ⟨hb,rfl⟩:=G.isok;clear G;have B:=X.o.on hb;have U:=zh (Z00 S.o hb);have Z:=B.c0;have V:=B.c1;have A:=B.fr 0;have m:=B.fr 1;clear B hb;go_wp2_with fail;refine bodyPost_ret (v:=.agg #[vI x,vI y]) (by simp [results,results227,go_sem,Z,V]) rfl ⟨Z01 U.o (by omega) _ _,by rw [I.o];rfl⟩
theorem Zt2 (a b c d:Int)(w:World)(F:ratB a b=true)(C:ratB c d=true):Calls prog 230 #[.agg #[vI a,vI b],.agg #[vI c,vI d]] w (VP (truV ((cmpI a b c d==0))) w):=by
 have N:Below w.heap.size w (((w.alloc (.cells #[vI a,vI b] 76)).alloc (.cells #[vI c,vI d] 76)).alloc (.cells #[vI 0,vI 0] 76)):=(((zr _ _).alloc (zn _) _).alloc (by simp) _).alloc (by simp;omega) _;have O:=Z0h w a b c d 0 0;have H:=λW=>Z58 a b c d W F C;generalize cmpI a b c d=z at *
 obtain ⟨t,D⟩:∃ t,t=(z==0):=⟨_,rfl⟩
 have M:=λW=>Z57 ((z==0)) W;rw [<- D];obtain ⟨x,y,L⟩:∃ x y,truV t=.ok x y:=by cases t <;> exact ⟨_,_,rfl⟩
 obtain ⟨Y,f,R,J,r,l,T,I⟩:=zh8 H M N O F C D L;clear H M N O F C D L;go_enter func230,ntmps230;go_wp2_with fail;generalize ((w.alloc (.cells #[vI a,vI b] 76)).alloc (.cells #[vI c,vI d] 76)).alloc (.cells #[vI 0,vI 0] 76)=g at *
 refine (Y.o g).mono ?_;rintro e q ⟨rfl,hb⟩;have X:=zh (J.o.2.2.on hb);have S:=zh (Z00 R.o hb);clear hb J R;go_wp2_with fail;refine (f.o _).mono ?_;rw [<- T.o,I.o];intro e j G;obtain ⟨hb,rfl⟩:=G.isok;clear G;have B:=X.o.on hb;have U:=zh (Z00 S.o hb);have Z:=B.c0;have V:=B.c1;have A:=B.fr 0;have m:=B.fr 1;clear B hb;go_wp2_with fail;refine bodyPost_ret (v:=.agg #[vI x,vI y]) (by simp [results,results230,go_sem,Z,V]) rfl ⟨Z01 U.o (by omega) _ _,by rw [I.o];rfl⟩
theorem Zt3 (a b c d:Int)(w:World):Calls prog 231 #[.agg #[vI a,vI b],.agg #[vI c,vI d]] w (VP (truV (decide (a=1)&&decide (c=1))) w):=by
 have H:Below w.heap.size w (((w.alloc (.cells #[vI a,vI b] 76)).alloc (.cells #[vI c,vI d] 76)).alloc (.cells #[vI 0,vI 0] 76)):=(((zr _ _).alloc (zn _) _).alloc (by simp) _).alloc (by simp;omega) _;have I:=Z0h w a b c d 0 0;obtain ⟨p,C⟩:∃ p,p=decide (a=1):=⟨_,rfl⟩
 obtain ⟨q,D⟩:∃ q,q=decide (c=1):=⟨_,rfl⟩
 have V:(a==1)=p:=C.symm;have X:(c==1)=q:=D.symm;have G:=λt W=>Z57 t W;rw [<- C,<- D];obtain ⟨O,R,N,Z,Y⟩:=zh5 G H I C D;clear G H I C D;cases p <;> cases q
 all_goals
  go_enter func231,ntmps231;go_wp2_with fail;generalize ((w.alloc (.cells #[vI a,vI b] 76)).alloc (.cells #[vI c,vI d] 76)).alloc (.cells #[vI 0,vI 0] 76)=S at *
  refine (O.o _ S).mono ?_;intro e T F;obtain ⟨hb,rfl⟩:=VP.isok F;clear F;have B:=N.o.2.2.on hb;have J:=zh (Z00 R.o hb);have M:=B.c0;have L:=B.c1;have f:=B.fr 0;have U:=B.fr 1;clear B hb;go_wp2_with fail;exact bodyPost_ret (by simp [results,results231,go_sem,M,L]) rfl ⟨Z01 J.o (by omega) _ _,rfl⟩
theorem Zt4 (a b c d:Int)(w:World):Calls prog 232 #[.agg #[vI a,vI b],.agg #[vI c,vI d]] w (VP (truV (decide (a=1) || decide (c=1))) w):=by
 have H:Below w.heap.size w (((w.alloc (.cells #[vI a,vI b] 76)).alloc (.cells #[vI c,vI d] 76)).alloc (.cells #[vI 0,vI 0] 76)):=(((zr _ _).alloc (zn _) _).alloc (by simp) _).alloc (by simp;omega) _;have I:=Z0h w a b c d 0 0;obtain ⟨p,C⟩:∃ p,p=decide (a=1):=⟨_,rfl⟩
 obtain ⟨q,D⟩:∃ q,q=decide (c=1):=⟨_,rfl⟩
 have V:(a==1)=p:=C.symm;have X:(c==1)=q:=D.symm;have G:=λt W=>Z57 t W;rw [<- C,<- D];obtain ⟨O,R,N,Z,Y⟩:=zh5 G H I C D;clear G H I C D;cases p <;> cases q
 all_goals
  go_enter func232,ntmps232;go_wp2_with fail;generalize ((w.alloc (.cells #[vI a,vI b] 76)).alloc (.cells #[vI c,vI d] 76)).alloc (.cells #[vI 0,vI 0] 76)=S at *
  refine (O.o _ S).mono ?_;intro e T F;obtain ⟨hb,rfl⟩:=VP.isok F;clear F;have B:=N.o.2.2.on hb;have J:=zh (Z00 R.o hb);have M:=B.c0;have L:=B.c1;have f:=B.fr 0;have U:=B.fr 1;clear B hb;go_wp2_with fail;exact bodyPost_ret (by simp [results,results232,go_sem,M,L]) rfl ⟨Z01 J.o (by omega) _ _,rfl⟩
def BetS (w:World)(p:Nat)(s a b c d:Int)(wx:World):Prop:=RatB wx w.heap.size a b/\RatB wx (w.heap.size+1) c d/\RatB wx (w.heap.size+2) 0 0/\Bx1 wx p s/\Below w.heap.size w wx
theorem BetS.on {w B C:World}{p:Nat}{s a b c d:Int}(h:BetS w p s a b c d B)(hb:Below B.heap.size B C):BetS w p s a b c d C:=⟨h.1.on hb,h.2.1.on hb,h.2.2.1.on hb,h.2.2.2.1.on hb,Z00 h.2.2.2.2 hb⟩
theorem BetS.drew {w B:World}{p:Nat}{s a b c d:Int}(h:BetS w p s a b c d B):BetS w p s a b c d B.drew:=h.on (zr _ _).drew
theorem Zn0 (a b c d:Int):cmpI a b c d = -1\/cmpI a b c d=0\/cmpI a b c d=1:=by unfold cmpI;repeat' split <;> omega
def betV (s a b c d:Int):V:=if 0<cmpI a b c d*s then .ok a b else .ok c d
theorem Zf0 (s a b c d:Int)(p:Nat)(w:World)(V:ratB a b=true)(R:ratB c d=true)(j:s=1\/s = -1)(H:Bx1 w p s) : Calls prog 263 #[.agg #[vI a,vI b],.agg #[vI c,vI d],.pointer (some ⟨p,0,none⟩)] w (VP (betV s a b c d) w):=by
 have L:Below w.heap.size w (((w.alloc (.cells #[vI a,vI b] 76)).alloc (.cells #[vI c,vI d] 76)).alloc (.cells #[vI 0,vI 0] 76)):=(((zr _ _).alloc (zn _) _).alloc (by simp) _).alloc (by simp;omega) _;have C:=Z0h w a b c d 0 0;have Y:Bx1 _ p s:=H.on L;have S:=λW=>Z58 a b c d W V R;have hv:=Zn0 a b c d;have G:betV s a b c d=if 0<cmpI a b c d*s then .ok a b else .ok c d:=rfl;have ba:p<w.heap.size:=(zF2.1 H).1;generalize cmpI a b c d=z at *
 have N:z*s=if s=1 then z else -z:=by rcases j with rfl | rfl <;> simp
 obtain ⟨m,D⟩:∃ m,m=z*s:=⟨_,rfl⟩
 rw [<- D] at G;have bc : -1<=m/\m<=1:=by rw [D,N];split <;> omega
 have bb:IntKind.i64.wrap (z*s)=m:=by rw [<- D];exact zi _ (by omega)
 obtain ⟨HC,f,X,T,J,HM,HZ⟩:=zh7 S L C G Y D N;clear S L C G Y D N H V R;go_enter func263,ntmps263;go_wp2_with fail;generalize ((w.alloc (.cells #[vI a,vI b] 76)).alloc (.cells #[vI c,vI d] 76)).alloc (.cells #[vI 0,vI 0] 76)=g at *
 obtain ⟨C,F,O⟩:=X.o;have t0:=C.c0;have t1:=C.c1;have t2:=F.c0;have y:=F.c1;have t4:g.cell? ⟨p,0,none⟩=some (vI s):=by rw [zH J.o];rfl
 have U:BetS w p s a b c d g:=⟨C,F,O,J.o,f.o⟩
 clear C F O;have Z:=zh U;clear U X f J;by_cases hgt:0<m
 all_goals
  first | (have dg:decide (0<m)=true:=by simpa using hgt) | (have dg:decide (0<m)=false:=by simpa using hgt)
  go_region_held3 (λw'=>w'.cell? ⟨w.heap.size,0,none⟩=some (vI a)/\w'.cell? ⟨w.heap.size,1,none⟩=some (vI b)/\w'.cell? ⟨w.heap.size+1,0,none⟩=some (vI c)/\w'.cell? ⟨w.heap.size+1,1,none⟩=some (vI d)/\w'.cell? ⟨p,0,none⟩=some (vI s)/\BetS w p s a b c d w') (first | (exact ⟨t0,t1,t2,y,t4,Z.o.drew⟩) | (exact ⟨u0,u1,u2,r,u4,M.o⟩) | go_keep) ((go_at_call 229;refine (HC.o _).mono ?_;rintro e w' ⟨rfl,hb⟩;have B:=Z.o.drew.on hb;have u0:=B.1.c0;have u1:=B.1.c1;have u2:=B.2.1.c0;have r:=B.2.1.c1;have u4:=Z0u B.2.2.2.1;have M:=zh B;clear B hb));have B:=M.o;have A:=B.2.2.1.c0;have q:=B.2.2.1.c1;have y0:=B.2.2.1.fr 0;have y1:=B.2.2.1.fr 1;clear B;first
   | (have I:betV s a b c d=.ok a b:=by rw [T.o,zp hgt])
   | (have I:betV s a b c d=.ok c d:=by rw [T.o,zf (by omega)])
  have l:=zh I;clear I;go_wp2_with fail;rw [l.o];exact bodyPost_ret (by simp [results,results263,go_sem,A,q]) rfl ⟨Z01 M.o.2.2.2.2 (by omega) _ _,rfl⟩
theorem Zas (s:Int)(w:World):Calls prog 226 #[vI s] w λe w'=>e=.returned (.func (.func 263) #[] #[.pointer (some ⟨w.heap.size,0,none⟩)])/\w'=w.alloc (.cells #[vI s] 3):=by
 have B:∀ (fn:Fn) (first cap:Array Value) (w:World),(Instr.makeFunc fn first cap).run prog w=.ok (.func fn first cap) w:=λ_ _ _ _=>rfl;go_enter func226,ntmps226;go_wp2_with fail;go_ret;exact ⟨rfl,rfl⟩
def RFn (W:World)(v:Value)(op:Int):Prop := ∃ g cap,v=.func (.func g) #[] cap/\(∀ args w,(callFunc g args).run prog w=.ok (.enter g args) w) /\ ∀ (W':World) (a b c d:Int),Below W.heap.size W W'->ratB a b=true->ratB c d=true->Calls prog g (#[.agg #[vI a,vI b],.agg #[vI c,vI d]]++cap) W' (VP (appV op a b c d) W')
theorem RFn.on {W B:World}{v:Value}{op:Int}(h:RFn W v op)(hb:Below W.heap.size W B):RFn B v op:=by
 obtain ⟨g,cap,e,C,D⟩:=h;exact ⟨g,cap,e,C,λW2 a b c d hb2=>D W2 a b c d (Z00 hb hb2)⟩
theorem Zat {W:World}{p:Nat}{s op:Int}(h:Bx1 W p s)(C:s=1\/s = -1)(B:∀ a b c d,appV op a b c d=betV s a b c d):RFn W (.func (.func 263) #[] #[.pointer (some ⟨p,0,none⟩)]) op := ⟨_,_,rfl,enters_of func263 (by kernel_rfl) rfl,λW' a b c d hb h1 h2=>by rw [B];exact Zf0 s a b c d p W' h1 h2 C (h.on hb)⟩
theorem Zt5 (a b c d:Int):appV 8 a b c d=betV (-1) a b c d:=by
 show (if cmpI a b c d<0 then V.ok a b else .ok c d)=_;unfold betV;by_cases h:cmpI a b c d<0
 . rw [zp h,zp (by omega)]
 . rw [zf h,zf (by omega)]
theorem Zt6 (a b c d:Int):appV 9 a b c d=betV 1 a b c d:=by
 show (if 0<cmpI a b c d then V.ok a b else .ok c d)=_;unfold betV;rw [Int.mul_one]
theorem Zt7 (W:World):RFn W (.func (.func 217) #[] #[]) 4 := ⟨_,_,rfl,enters_of func217 (by kernel_rfl) rfl,λW' a b c d _ h1 h2=>by exact ZsF a b c d W' h1 h2⟩
theorem Zt8 (W:World):RFn W (.func (.func 220) #[] #[]) 5 := ⟨_,_,rfl,enters_of func220 (by kernel_rfl) rfl,λW' a b c d _ h1 h2=>by exact ZsG a b c d W' h1 h2⟩
theorem Zt9 (W:World):RFn W (.func (.func 222) #[] #[]) 6 := ⟨_,_,rfl,enters_of func222 (by kernel_rfl) rfl,λW' a b c d _ h1 h2=>by exact ZsH a b c d W' h1 h2⟩
theorem Zta (W:World):RFn W (.func (.func 224) #[] #[]) 7 := ⟨_,_,rfl,enters_of func224 (by kernel_rfl) rfl,λW' a b c d _ h1 h2=>by exact Zt0 a b c d W' h1 h2⟩
theorem Ztb (W:World):RFn W (.func (.func 227) #[] #[]) 11 := ⟨_,_,rfl,enters_of func227 (by kernel_rfl) rfl,λW' a b c d _ h1 h2=>by exact Zt1 a b c d W' h1 h2⟩
theorem Ztc (W:World):RFn W (.func (.func 230) #[] #[]) 12 := ⟨_,_,rfl,enters_of func230 (by kernel_rfl) rfl,λW' a b c d _ h1 h2=>by show Calls _ _ _ _ (VP (truV (decide (cmpI a b c d=0))) W');exact Zt2 a b c d W' h1 h2⟩
theorem Ztd (W:World):RFn W (.func (.func 231) #[] #[]) 13 := ⟨_,_,rfl,enters_of func231 (by kernel_rfl) rfl,λW' a b c d _ _ _=>Zt3 a b c d W'⟩
theorem Zte (W:World):RFn W (.func (.func 232) #[] #[]) 14 := ⟨_,_,rfl,enters_of func232 (by kernel_rfl) rfl,λW' a b c d _ _ _=>Zt4 a b c d W'⟩
def Zau (w:World)(r:Nat):Prop:=∀ op,4<=op->op<=14->op≠10->∃ L1 V L2,Z3b w r (L1++(op,V)::L2)/\(∀ p∈L1,p.1≠op)/\RFn w V op
theorem Zau.on {w w':World}{r:Nat}(h:Zau w r)(hb:Below w.heap.size w w'):Zau w' r:=by
 intro op I B G;obtain ⟨F,V,L2,D,H,C⟩:=h op I B G;exact ⟨F,V,L2,D.on hb,H,C.on hb⟩
def ROpsP (w:World)(e:Ending)(w':World):Prop:=∃ r,e=.returned (.map (some r))/\Zau w' r/\w.heap.size<=r/\Below w.heap.size w w'
theorem Z70 (w:World):Calls prog 176 #[] w (ROpsP w):=by
 have bh:=@run_makeMap prog;have h0:=Z3b.new w;have g0:Below w.heap.size w (w.alloc (.map #[] 0)):=(zr _ _).alloc (zn _) _;have l0:w.heap.size<(w.alloc (.map #[] 0)).heap.size:=by simp
 go_enter func176,ntmps176;go_wp2_with fail;generalize w.alloc (.map #[] 0)=w0 at *
 clear bh;refine Z0d underlying231 underlying3 h0 (by simp) ?_;intro w1 f V;have r:=g0.trans (Z08 V (zl l0) (zn _));have l1:w.heap.size<w1.heap.size:=by have:=V.size;omega
 simp only [zn2] at f;clear h0 g0 l0 V;go_wp2_with fail;refine Z0d underlying231 underlying3 f (by simp) ?_;intro w2 T j;have g2:=r.trans (Z08 j (zl l1) (zn _));have y:w.heap.size<w2.heap.size:=by have:=j.size;omega
 simp only [zn2,zc2] at T;clear f r l1 j;go_wp2_with fail;refine Z0d underlying231 underlying3 T (by simp) ?_;intro w3 l d;have g3:=g2.trans (Z08 d (zl y) (zn _));have l3:w.heap.size<w3.heap.size:=by have:=d.size;omega
 simp only [zn2,zc2] at l;clear T g2 y d;go_wp2_with fail;refine Z0d underlying231 underlying3 l (by simp) ?_;intro F q S;have g4:=g3.trans (Z08 S (zl l3) (zn _));have l4:w.heap.size<F.heap.size:=by have:=S.size;omega
 simp only [zn2,zc2] at q;clear l g3 l3 S;go_wp2_with fail;refine (Zas (-1) _).mono ?_;rintro e w' ⟨rfl,rfl⟩;have g:=(zr F.heap.size F).alloc (zn _) (.cells #[vI (-1)] 3);have B:Bx1 (F.alloc (.cells #[vI (-1)] 3)) F.heap.size (-1):=za F _;have G:F.heap.size≠w.heap.size:=by omega
 have bd:=q.on g;have be:=Z00 g4 g;have ba:w.heap.size<(F.alloc (.cells #[vI (-1)] 3)).heap.size:=by simp;omega
 clear q g4 l4 g;go_wp2_with fail;generalize bj:F.heap.size=x8 at *
 clear bj;generalize F.alloc (.cells #[vI (-1)] 3)=v4 at *
 refine Z0d underlying231 underlying3 bd (by simp) ?_;intro w5 m R;have g5:=be.trans (Z08 R (zl ba) (zn _));have l5:w.heap.size<w5.heap.size:=by have:=R.size;omega
 replace B:=B.ins R G;simp only [zn2,zc2] at m;clear bd be ba R;go_wp2_with fail;refine (Zas 1 _).mono ?_;rintro e w' ⟨rfl,rfl⟩;have O:=(zr w5.heap.size w5).alloc (zn _) (.cells #[vI 1] 3);have C:Bx1 (w5.alloc (.cells #[vI 1] 3)) w5.heap.size 1:=za w5 _;have J:w5.heap.size≠w.heap.size:=by omega
 have bc:=m.on O;have bb:=Z00 g5 O;have l5':w.heap.size<(w5.alloc (.cells #[vI 1] 3)).heap.size:=by simp;omega
 replace B:=B.on O;clear m g5 l5 O;go_wp2_with fail;generalize bg:w5.heap.size=x9 at *
 clear bg;generalize w5.alloc (.cells #[vI 1] 3)=v5 at *
 refine Z0d underlying231 underlying3 bc (by simp) ?_;intro w6 Z M;have g6:=bb.trans (Z08 M (zl l5') (zn _));have l6:w.heap.size<w6.heap.size:=by have:=M.size;omega
 replace B:=B.ins M G;replace C:=C.ins M J;simp only [zn2,zc2] at Z;clear bc bb l5' M;go_wp2_with fail;refine Z0d underlying231 underlying3 Z (by simp) ?_;intro w7 U N;have g7:=g6.trans (Z08 N (zl l6) (zn _));have l7:w.heap.size<w7.heap.size:=by have:=N.size;omega
 replace B:=B.ins N G;replace C:=C.ins N J;simp only [zn2,zc2] at U;clear Z g6 l6 N;go_wp2_with fail;refine Z0d underlying231 underlying3 U (by simp) ?_;intro w8 X L;have g8:=g7.trans (Z08 L (zl l7) (zn _));have l8:w.heap.size<w8.heap.size:=by have:=L.size;omega
 replace B:=B.ins L G;replace C:=C.ins L J;simp only [zn2,zc2] at X;clear U g7 l7 L;go_wp2_with fail;refine Z0d underlying231 underlying3 X (by simp) ?_;intro w9 Y H;have g9:=g8.trans (Z08 H (zl l8) (zn _));have A:w.heap.size<w9.heap.size:=by have:=H.size;omega
 replace B:=B.ins H G;replace C:=C.ins H J;simp only [zn2,zc2] at Y;clear X g8 l8 H;go_wp2_with fail;refine Z0d underlying231 underlying3 Y (by simp) ?_;intro bk D I;have bf:=g9.trans (Z08 I (zl A) (zn _));have bn:w.heap.size<bk.heap.size:=by have:=I.size;omega
 replace B:=B.ins I G;replace C:=C.ins I J;simp only [zn2,zc2] at D;clear Y g9 A I;go_wp2_with fail;go_ret;refine ⟨_,rfl,?_,zn _,bf⟩;intro op bm bp bq;rcases (show op=4\/op=5\/op=6\/op=7\/op=8\/op=9\/op=11\/op=12\/op=13\/op=14 by omega) with rfl | rfl | rfl | rfl | rfl | rfl | rfl | rfl | rfl | rfl
 . exact ⟨[],_,[(5,_),(6,_),(7,_),(8,_),(9,_),(11,_),(12,_),(13,_),(14,_)],D,by simp,Zt7 _⟩
 . exact ⟨[(4,_)],_,[(6,_),(7,_),(8,_),(9,_),(11,_),(12,_),(13,_),(14,_)],D,by simp,Zt8 _⟩
 . exact ⟨[(4,_),(5,_)],_,[(7,_),(8,_),(9,_),(11,_),(12,_),(13,_),(14,_)],D,by simp,Zt9 _⟩
 . exact ⟨[(4,_),(5,_),(6,_)],_,[(8,_),(9,_),(11,_),(12,_),(13,_),(14,_)],D,by simp,Zta _⟩
 . exact ⟨[(4,_),(5,_),(6,_),(7,_)],_,[(9,_),(11,_),(12,_),(13,_),(14,_)],D,by simp,Zat B (.inr rfl) Zt5⟩
 . exact ⟨[(4,_),(5,_),(6,_),(7,_),(8,_)],_,[(11,_),(12,_),(13,_),(14,_)],D,by simp,Zat C (.inl rfl) Zt6⟩
 . exact ⟨[(4,_),(5,_),(6,_),(7,_),(8,_),(9,_)],_,[(12,_),(13,_),(14,_)],D,by simp,Ztb _⟩
 . exact ⟨[(4,_),(5,_),(6,_),(7,_),(8,_),(9,_),(11,_)],_,[(13,_),(14,_)],D,by simp,Ztc _⟩
 . exact ⟨[(4,_),(5,_),(6,_),(7,_),(8,_),(9,_),(11,_),(12,_)],_,[(14,_)],D,by simp,Ztd _⟩
 . exact ⟨[(4,_),(5,_),(6,_),(7,_),(8,_),(9,_),(11,_),(12,_),(13,_)],_,[],D,by simp,Zte _⟩
end
section
open Go.RowKit Lx Px Qx
def CB (w:World)(vs:Vs)(r:Nat)(op n:Int)(kv:Value)(wx:World):Prop := wx.heap[w.heap.size]?=some (.cells #[vI vs.a,vI vs.b,vI vs.c,vI vs.d,.map (some r)] 234 (0,0)) /\ wx.heap[w.heap.size+1]?=some (.cells #[vI op,vI n,kv] 79 (0,0))/\RatB wx (w.heap.size+2) 0 0/\Below w.heap.size w wx
theorem CB.on {w B F:World}{C:Vs}{r:Nat}{op n:Int}{D:Value}(h:CB w C r op n D B)(hb:Below B.heap.size B F):CB w C r op n D F := ⟨(hb.block _ (zF2.1 h.1).1).trans h.1,(hb.block _ (zF2.1 h.2.1).1).trans h.2.1,h.2.2.1.on hb,Z00 h.2.2.2 hb⟩
theorem CB.drew {w D:World}{B:Vs}{r:Nat}{op n:Int}{C:Value}(h:CB w B r op n C D):CB w B r op n C D.drew:=h.on (zr _ _).drew
theorem CB.c {w B:World}{C:Vs}{r:Nat}{op n:Int}{D:Value}(h:CB w C r op n D B):B.cell? ⟨w.heap.size,0,none⟩=some (vI C.a)/\B.cell? ⟨w.heap.size,1,none⟩=some (vI C.b)/\B.cell? ⟨w.heap.size,2,none⟩=some (vI C.c)/\B.cell? ⟨w.heap.size,3,none⟩=some (vI C.d)/\B.cell? ⟨w.heap.size,4,none⟩=some (.map (some r)):=by
 refine ⟨?_,?_,?_,?_,?_⟩ <;> (rw [zH h.1];rfl)
theorem CB.e {w B:World}{D:Vs}{r:Nat}{op n:Int}{C:Value}(h:CB w D r op n C B):B.cell? ⟨w.heap.size+1,0,none⟩=some (vI op)/\B.cell? ⟨w.heap.size+1,1,none⟩=some (vI n)/\B.cell? ⟨w.heap.size+1,2,none⟩=some C:=by
 refine ⟨?_,?_,?_⟩ <;> (rw [zH h.2.1];rfl)
theorem Zn1 (w:World)(B:Vs)(r:Nat)(op n:Int)(C:Value):CB w B r op n C (((w.alloc (.cells #[vI B.a,vI B.b,vI B.c,vI B.d,.map (some r)] 234)).alloc (.cells #[vI op,vI n,C] 79)).alloc (.cells #[vI 0,vI 0] 76)):=by
 obtain ⟨D,F⟩:=Z0F w (.cells #[vI B.a,vI B.b,vI B.c,vI B.d,.map (some r)] 234) (.cells #[vI op,vI n,C] 79);refine ⟨Z0w D _,Z0w F _,?_,(((zr _ _).alloc (zn _) _).alloc (by simp) _).alloc (by simp;omega) _⟩;have:=za ((w.alloc (.cells #[vI B.a,vI B.b,vI B.c,vI B.d,.map (some r)] 234)).alloc (.cells #[vI op,vI n,C] 79)) (.cells #[vI 0,vI 0] 76);simpa [RatB] using this
theorem Zix (a:Addr):a.add 0=a:=by unfold Addr.add;simp
theorem Zr6 {w:World}{B:Nat}{l:Fo}{A:Option Addr}(h:FoAt w B l A 0){k:Nat}(hk:k<flen l) : ∃ (g o:Nat) (G:Option Addr) (c:Nat),A=some ⟨g,o,none⟩/\g<B/\w.cell? ⟨g,o+k*3,none⟩=some (vI (getF l k).1.1)/\w.cell? ⟨g,o+k*3+1,none⟩=some (vI (getF l k).1.2)/\w.cell? ⟨g,o+k*3+2,none⟩=some (slice G (flen (getF l k).2) c)/\FoAt w B (getF l k).2 G 0:=by
 obtain ⟨D,_,_,M,_,C,_⟩:=FoAt.get l A 0 0 h (by omega);obtain ⟨ad,G,c,H,O,I,J,L,N⟩:=FoAt.get l A 0 k h hk;rw [M] at H;injection H with H
 subst H;have F:D.spot=none:=by
  have e:(D.add ((0+0)*3))=D:=Zix D;rw [e] at C;unfold World.cell? at C;split at C
  . split at C
    . cases C
    . rename_i F;cases hp:D.spot with
      | none=>rfl
      | some x=>rw [hp] at F;simp at F
  . cases C
 obtain ⟨g,o,s⟩:=D;cases F;rw [Nat.zero_add] at I J L;have R:((⟨g,o,none⟩:Addr).add (k*3))=⟨g,o+k*3,none⟩:=by
  unfold Addr.add;split
  . rename_i h;rw [h];rfl
  . rfl
 rw [R] at I J L;exact ⟨g,o,G,c,M,O,I,J,L,N⟩
def ValC (a:Int × Int)(l:Fo):Prop := ∀ (w:World) (v:Value) (B r:Nat) (vs:Vs),FoV w B v l->B<=w.heap.size->Zau w r->Z07 a.1 a.2 (flen l)=true->wfF l->(∀ i,0<=vs.at i/\vs.at i<=1000) -> Calls prog 177 #[.agg #[vI vs.a,vI vs.b,vI vs.c,vI vs.d,.map (some r)],.agg #[vI a.1,vI a.2,v]] w (VP (valE vs a l) w)
theorem Zn2 (op n:Int)(l:Fo)(h:op=1\/op=2):ValC (op,n) l:=by
 intro w v B r C Z q J G hw O;dsimp only at G;have hn:0<=n/\n<=1000000000:=by rcases h with rfl | rfl <;> (simp [Z07] at G;omega)
 have H:valE C (op,n) l=Z14 n 1:=by unfold valE opV;rw [zp h]
 have L:=λW=>Zbf n 1 W (by omega) (by omega) (by omega) (by omega) (by omega);have M:=λW=>Z5r (Z14 n 1) W (λk e=>by have:=Z55 e;omega);have R:=Zn1 w C r op n v;rw [H];generalize Z14 n 1=V at *
 obtain ⟨A,c,rfl,_⟩:=Z;obtain ⟨I,f,Y,m,HF,j,ba,HO⟩:=zh8 R L M H G hw O J;clear R L M H G hw O J;rcases h with rfl | rfl
 all_goals
  go_enter func177,ntmps177;go_wp2_with fail;generalize ((w.alloc (.cells #[vI C.a,vI C.b,vI C.c,vI C.d,.map (some r)] 234)).alloc (.cells #[vI _,vI n,slice A (flen l) c] 79)).alloc (.cells #[vI 0,vI 0] 76)=g at *
  refine (f.o g).mono ?_;rintro e w2 ⟨rfl,hb⟩;have N:=zh (I.o.on hb);clear hb I;go_wp2_with fail;refine (Y.o _).mono ?_;cases V with
  | no k =>intro e S F;obtain ⟨hb,rfl⟩:=F.isno;exact ⟨rfl,Z00 N.o.2.2.2 hb,rfl⟩
  | ok x y =>intro e S F;obtain ⟨hb,rfl⟩:=F.isok;clear F;have D:=N.o.on hb;have T:=zh D.2.2.2;have X:=D.2.2.1.c0;have U:=D.2.2.1.c1;have y0:=D.2.2.1.fr 0;have y1:=D.2.2.1.fr 1;clear D hb;go_wp2_with fail;exact bodyPost_ret (v:=.agg #[vI x,vI y]) (by simp [results,results177,go_sem,X,U]) rfl ⟨Z01 T.o (by omega) _ _,rfl⟩
theorem Ztf (n:Int)(l:Fo):ValC (3,n) l:=by
 intro w v B r C f hB L G hw I;dsimp only at G;have Y:n=1\/n=2\/n=3\/n=4:=by simp [Z07] at G;omega
 have H:valE C (3,n) l=Z14 (C.at n) 1:=by unfold valE opV;rw [zf (by simp),zp rfl]
 obtain ⟨q,q2⟩:=I n;have M:=λW=>Zbf (C.at n) 1 W (by omega) (by omega) (by omega) (by omega) (by omega);have N:=λW=>Z5r (Z14 (C.at n) 1) W (λk e=>by have:=Z55 e;omega);have R:=Zn1 w C r 3 n v;rw [H];generalize Z14 (C.at n) 1=V at *
 obtain ⟨A,c,rfl,_⟩:=f;obtain ⟨J,g,Z,HV,HF,m,ba,HO⟩:=zh8 R M N H G hw I L;clear R M N H G hw I L;rcases Y with rfl | rfl | rfl | rfl
 all_goals
  go_enter func177,ntmps177;go_wp2_with fail;generalize ((w.alloc (.cells #[vI C.a,vI C.b,vI C.c,vI C.d,.map (some r)] 234)).alloc (.cells #[vI 3,vI _,slice A (flen l) c] 79)).alloc (.cells #[vI 0,vI 0] 76)=j at *
  refine (g.o j).mono ?_;rintro e w2 ⟨rfl,hb⟩;have O:=zh (J.o.on hb);clear hb J;go_wp2_with fail;refine (Z.o _).mono ?_;cases V with
  | no k =>intro e S F;obtain ⟨hb,rfl⟩:=F.isno;exact ⟨rfl,Z00 O.o.2.2.2 hb,rfl⟩
  | ok x y =>intro e S F;obtain ⟨hb,rfl⟩:=F.isok;clear F;have D:=O.o.on hb;have T:=zh D.2.2.2;have X:=D.2.2.1.c0;have U:=D.2.2.1.c1;have y0:=D.2.2.1.fr 0;have y1:=D.2.2.1.fr 1;clear D hb;go_wp2_with fail;exact bodyPost_ret (v:=.agg #[vI x,vI y]) (by simp [results,results177,go_sem,X,U]) rfl ⟨Z01 T.o (by omega) _ _,rfl⟩
theorem ZgA {l:Fo}(F:∀ k,k<flen l->ValC (getF l k).1 (getF l k).2){w:World}{A:Option Addr}{B r:Nat}{C:Vs}(M:FoAt w B l A 0)(S:B<=w.heap.size)(I:Zau w r)(hw:wfF l)(G:∀ i,0<=C.at i/\C.at i<=1000){k:Nat}(hk:k<flen l) : ∃ (g o:Nat) (p q:Int) (kv:Value),A=some ⟨g,o,none⟩/\(∀ W,Below w.heap.size w W->W.cell? ⟨g,o+k*3,none⟩=some (vI p)/\W.cell? ⟨g,o+k*3+1,none⟩=some (vI q)/\W.cell? ⟨g,o+k*3+2,none⟩=some kv) /\ ∀ W,Below w.heap.size w W->Calls prog 177 #[.agg #[vI C.a,vI C.b,vI C.c,vI C.d,.map (some r)],.agg #[vI p,vI q,kv]] W (VP (valF C l k) W):=by
 obtain ⟨g,o,D,c,e,T,N,O,R,J⟩:=Zr6 M hk;obtain ⟨L,H⟩:=Zgv hw hk;refine ⟨g,o,_,_,_,e,λW hb=>⟨(hb.cell (p:=⟨g,o+k*3,none⟩) (by show g<_;omega)).trans N,(hb.cell (p:=⟨g,o+k*3+1,none⟩) (by show g<_;omega)).trans O,(hb.cell (p:=⟨g,o+k*3+2,none⟩) (by show g<_;omega)).trans R⟩,λW hb=>?_⟩;rw [Zgs C l k hk];exact F k hk W _ B r C ⟨D,c,rfl,FoAt.keep (λp hp=>hb.cell (by omega)) _ D 0 J⟩ (by have:=hb.size;omega) (I.on hb) L H G
structure CBH (w:World) (vs:Vs) (r:Nat) (op n:Int) (kv:Value) (wx:World):Prop where
 h:CB w vs r op n kv wx
theorem ZgB {w C:World}{D:Vs}{r:Nat}{op n:Int}{G:Value}{b F:Nat}(H:w.heap.size+2<F)(h:CB w D r op n G C)(hb:F<=b){x y:Value}:CB w D r op n G ((C.setCell ⟨b,0,none⟩ x).setCell ⟨b,1,none⟩ y):=by
 have B:Below (w.heap.size+3) C ((C.setCell ⟨b,0,none⟩ x).setCell ⟨b,1,none⟩ y):=((zr _ _).setCell (p:=⟨b,0,none⟩) (by show _<=b;omega) _).setCell (p:=⟨b,1,none⟩) (by show _<=b;omega) _;exact ⟨(B.block _ (by omega)).trans h.1,(B.block _ (by omega)).trans h.2.1,(B.block _ (by omega)).trans h.2.2.1,h.2.2.2.trans (B.mono (by omega))⟩
theorem Z2m {w:World}{b:Nat}{p q:Int}(h:RatB w b p q)(x y:Int):RatB ((w.setCell ⟨b,0,none⟩ (vI x)).setCell ⟨b,1,none⟩ (vI y)) b x y:=by
 have B:w.heap[b]?=_:=h;simp [RatB,World.setCell,zM,B]
structure CBL (w:World) (vs:Vs) (r:Nat) (op n:Int) (kv:Value) (wx:World):Prop where
 h0:wx.heap[w.heap.size]?=some (.cells #[vI vs.a,vI vs.b,vI vs.c,vI vs.d,.map (some r)] 234 (0,0))
 h1:wx.heap[w.heap.size+1]?=some (.cells #[vI op,vI n,kv] 79 (0,0))
 b:Below w.heap.size w wx
theorem CB.l {w D:World}{B:Vs}{r:Nat}{op n:Int}{C:Value}(h:CB w B r op n C D):CBL w B r op n C D:=⟨h.1,h.2.1,h.2.2.2⟩
theorem CBL.on {w B F:World}{C:Vs}{r:Nat}{op n:Int}{D:Value}(h:CBL w C r op n D B)(hb:Below B.heap.size B F):CBL w C r op n D F := ⟨(hb.block _ (zF2.1 h.h0).1).trans h.h0,(hb.block _ (zF2.1 h.h1).1).trans h.h1,Z00 h.b hb⟩
theorem CBL.drew {w D:World}{B:Vs}{r:Nat}{op n:Int}{C:Value}(h:CBL w B r op n C D):CBL w B r op n C D.drew:=h.on (zr _ _).drew
theorem CBL.c {w B:World}{C:Vs}{r:Nat}{op n:Int}{D:Value}(h:CBL w C r op n D B):B.cell? ⟨w.heap.size,0,none⟩=some (vI C.a)/\B.cell? ⟨w.heap.size,1,none⟩=some (vI C.b)/\B.cell? ⟨w.heap.size,2,none⟩=some (vI C.c)/\B.cell? ⟨w.heap.size,3,none⟩=some (vI C.d)/\B.cell? ⟨w.heap.size,4,none⟩=some (.map (some r)):=by
 refine ⟨?_,?_,?_,?_,?_⟩ <;> (rw [zH h.h0];rfl)
theorem CBL.e {w B:World}{D:Vs}{r:Nat}{op n:Int}{C:Value}(h:CBL w D r op n C B):B.cell? ⟨w.heap.size+1,0,none⟩=some (vI op)/\B.cell? ⟨w.heap.size+1,1,none⟩=some (vI n)/\B.cell? ⟨w.heap.size+1,2,none⟩=some C:=by
 refine ⟨?_,?_,?_⟩ <;> (rw [zH h.h1];rfl)
theorem CBL.store {w B:World}{D:Vs}{r:Nat}{op n:Int}{F:Value}(h:CBL w D r op n F B)(x y:Value):CBL w D r op n F ((B.setCell ⟨w.heap.size+2,0,none⟩ x).setCell ⟨w.heap.size+2,1,none⟩ y):=by
 have C:Below (w.heap.size+2) B ((B.setCell ⟨w.heap.size+2,0,none⟩ x).setCell ⟨w.heap.size+2,1,none⟩ y):=((zr _ _).setCell (p:=⟨w.heap.size+2,0,none⟩) (zn _) _).setCell (p:=⟨w.heap.size+2,1,none⟩) (zn _) _;exact ⟨(C.block _ (by omega)).trans h.h0,(C.block _ (by omega)).trans h.h1,h.b.trans (C.mono (by omega))⟩
theorem VP.parts {v:V}{w w':World}{e:Ending}(h:VP v w e w'):Below w.heap.size w w'/\((∃ n d,v=.ok n d/\e=.returned (.agg #[vI n,vI d]))\/(∃ k,v=.no k/\e=.panicked [Ziv k])):=by
 cases v with
 | ok n d=>exact ⟨h.1,.inl ⟨n,d,rfl,h.2⟩⟩
 | no k=>exact ⟨h.1,.inr ⟨k,rfl,h.2⟩⟩
structure CBR (w:World) (vs:Vs) (r:Nat) (op n:Int) (kv:Value) (b:Nat) (x y:Int) (wx:World):Prop where
 l:CBL w vs r op n kv wx
 r:RatB wx b x y
theorem CBR.on {w B F:World}{C:Vs}{r:Nat}{op n:Int}{D:Value}{b:Nat}{x y:Int}(h:CBR w C r op n D b x y B)(hb:Below B.heap.size B F):CBR w C r op n D b x y F:=⟨h.l.on hb,h.r.on hb⟩
theorem CBR.drew {w D:World}{B:Vs}{r:Nat}{op n:Int}{C:Value}{b:Nat}{x y:Int}(h:CBR w B r op n C b x y D):CBR w B r op n C b x y D.drew:=h.on (zr _ _).drew
theorem CBR.store {w D:World}{B:Vs}{r:Nat}{op n:Int}{C:Value}{b:Nat}{x y:Int}(h:CBR w B r op n C b x y D)(hb:w.heap.size+2<b)(u v:Value):CBR w B r op n C b x y ((D.setCell ⟨w.heap.size+2,0,none⟩ u).setCell ⟨w.heap.size+2,1,none⟩ v) := ⟨h.l.store u v,(zg _ _ _ _ (by show b≠w.heap.size+2;omega)).trans ((zg _ _ _ _ (by show b≠w.heap.size+2;omega)).trans h.r)⟩
theorem val_op (op n:Int)(l:Fo)(ih:∀ k,k<flen l->ValC (getF l k).1 (getF l k).2)(h1:op≠1)(h2:op≠2)(h3:op≠3):ValC (op,n) l:=by
 intro w v B r C hv hB hO hf hw bg;dsimp only at hf;obtain ⟨bu,bU,b0⟩:=Z6E hf;have bT:0<flen l:=by
  rw [bu];unfold arO
  repeat' split
  all_goals omega
 obtain ⟨A,c,rfl,hA⟩:=hv;have hV:valE C (op,n) l=opV C op n (valF C l 0) (valF C l 1) (valF C l 2):=rfl;obtain ⟨g,o,p0,q0,bI,rfl,bp,bJ⟩:=ZgA ih hA hB hO hw bg bT;have bz:=λk (hk:k<flen l)=>Z47 C l k;have bO:=Zn1 w C r op n (slice (some ⟨g,o,none⟩) (flen l) c);have bM:∀ k,k<flen l->∃ (p q:Int) (kv:Value),(∀ W,Below w.heap.size w W->W.cell? ⟨g,o+k*3,none⟩=some (vI p)/\W.cell? ⟨g,o+k*3+1,none⟩=some (vI q)/\W.cell? ⟨g,o+k*3+2,none⟩=some kv) /\ ∀ W,Below w.heap.size w W->Calls prog 177 #[.agg #[vI C.a,vI C.b,vI C.c,vI C.d,.map (some r)],.agg #[vI p,vI q,kv]] W (VP (valF C l k) W):=by
  intro k hk;obtain ⟨g',o',p,q,kv,e,f,a2⟩:=ZgA ih hA hB hO hw bg hk;injection e with e
  injection e with j I
  subst j I;exact ⟨p,q,kv,f,a2⟩
 rw [Nat.zero_mul] at bp;have d1:(op==1)=false:=by simpa using h1
 have d2:(op==2)=false:=by simpa using h2
 have d3:(op==3)=false:=by simpa using h3
 have bW:(0:Int)<(flen l:Int):=by omega
 have bF:∀ k y z,opV C op n (.no k) y z=.no k:=λk y z=>by unfold opV;rw [zf (by omega),zf h3]
 have bC:=zh bF;clear bF;rw [hV];obtain ⟨bq,bK,bB,bj,HO,HF,HW,b6,HV,HA,IH,bt,bf,H1,H2,H3⟩:=zh16 bO bp bJ bM hO hf hw bg hV hA ih bz bu h1 h2 h3;clear bO bp bJ bM hO hf hw bg hV hA ih bz bu h1 h2 h3;go_enter func177,ntmps177;go_upto_region 7 with fail;generalize ((w.alloc (.cells #[vI C.a,vI C.b,vI C.c,vI C.d,.map (some r)] 234)).alloc (.cells #[vI op,vI n,slice (some ⟨g,o,none⟩) (flen l) c] 79)).alloc (.cells #[vI 0,vI 0] 76)=W1 at *
 have F:Hid (∀ wx,CB w C r op n (slice (some ⟨g,o,none⟩) (flen l) c) wx->wx.cell? ⟨w.heap.size,0,none⟩=some (vI C.a)/\wx.cell? ⟨w.heap.size,1,none⟩=some (vI C.b)/\wx.cell? ⟨w.heap.size,2,none⟩=some (vI C.c)/\wx.cell? ⟨w.heap.size,3,none⟩=some (vI C.d)/\wx.cell? ⟨w.heap.size,4,none⟩=some (.map (some r)) /\ wx.cell? ⟨w.heap.size+1,2,none⟩=some (slice (some ⟨g,o,none⟩) (flen l) c)/\wx.cell? ⟨g,o,none⟩=some (vI p0)/\wx.cell? ⟨g,o+1,none⟩=some (vI q0)/\wx.cell? ⟨g,o+2,none⟩=some bI/\CBH w C r op n (slice (some ⟨g,o,none⟩) (flen l) c) wx):=λwx h=>by obtain ⟨c0,c1,c2,c3,c4⟩:=h.c;obtain ⟨_,_,I⟩:=h.e;obtain ⟨a0,f,a2⟩:=bK.o wx h.2.2.2;exact ⟨c0,c1,c2,c3,c4,I,a0,f,a2,⟨h⟩⟩
 have bm:w.heap.size+2<W1.heap.size:=bq.o.2.2.1.lt;go_region_held (λw'=>w'.cell? ⟨w.heap.size,0,none⟩=some (vI C.a)/\w'.cell? ⟨w.heap.size,1,none⟩=some (vI C.b)/\w'.cell? ⟨w.heap.size,2,none⟩=some (vI C.c)/\w'.cell? ⟨w.heap.size,3,none⟩=some (vI C.d)/\w'.cell? ⟨w.heap.size,4,none⟩=some (.map (some r)) /\ w'.cell? ⟨w.heap.size+1,2,none⟩=some (slice (some ⟨g,o,none⟩) (flen l) c)/\w'.cell? ⟨g,o,none⟩=some (vI p0)/\w'.cell? ⟨g,o+1,none⟩=some (vI q0)/\w'.cell? ⟨g,o+2,none⟩=some bI/\CBH w C r op n (slice (some ⟨g,o,none⟩) (flen l) c) w') (first | (with_reducible exact F.o _ bq.o.drew) | (with_reducible exact F.o _ T.h) | (exact F.o _ ((‹_/\_/\_/\_/\_/\_/\_/\_/\_/\CBH w C r op n _ _›).2.2.2.2.2.2.2.2.2.h.on ((zr _ _).alloc (zn _) _))) | (exact F.o _ (T.h.on ((zr _ _).alloc (zn _) _))) | (exact F.o _ (ZgB bm T.h (zn _)))) ((go_at_call 177;have bd:=(‹_/\_/\_/\_/\_/\_/\_/\_/\_/\CBH w C r op n _ _›).2.2.2.2.2.2.2.2.2.h;refine (bB.o _ bd.2.2.2).mono ?_;intro e w' H;obtain ⟨hb,⟨x,y,hx,rfl⟩ | ⟨k,hx,rfl⟩⟩:=H.parts;rotate_left;(have HX:=zh hx;exact ⟨rfl,Z00 bd.2.2.2 hb,by rw [HX.o,bC.o];rfl⟩);have HX:=zh hx;have T:=CBH.mk (bd.on hb);try (have hz:=(hb.block W1.heap.size (by simp [go_sem])).trans (za W1.drew (.cells #[vI 0,vI 0] 76));have HZ:Hid (RatB w' W1.heap.size 0 0):=hz;have z0:=HZ.o.c0;have m:=HZ.o.c1;have y0:=HZ.o.fr 0;have N:=HZ.o.fr 1;clear hz);clear hx H hb bd))
 all_goals
  first
   | (have M:=Z2m HZ.o x y
      have O:=ZgB bm T.h (zn W1.heap.size) (x:=vI x) (y:=vI y)
      clear z0 m y0 N HZ;generalize (w'.setCell ⟨W1.heap.size,0,none⟩ (vI x)).setCell ⟨W1.heap.size,1,none⟩ (vI y)=w5 at *
      generalize W1.heap.size=Y at *
      have bs:=bm)
   | (have bs:w.heap.size+2<w'.heap.size:=T.h.2.2.1.lt
      have M:=RatB.new w' x y
      have O:=T.h.on ((zr w'.heap.size w').alloc (zn _) (.cells #[vI x,vI y] 76))
      generalize w'.alloc (.cells #[vI x,vI y] 76)=w5 at *
      generalize w'.heap.size=Y at *)
  clear T bq F bB bK
  (try clear H);(try clear hx);(try clear hb);(try clear bd)
  by_cases h15:op=15
  . subst h15;have Z:opV C 15 n (valF C l 0) (valF C l 1) (valF C l 2)=truV (x==0):=by rw [HX.o];rfl
    obtain ⟨S,N,bG⟩:∃ S N,truV (x==0)=.ok S N:=by cases (x==0) <;> exact ⟨_,_,rfl⟩
    obtain ⟨X,j,I⟩:=O.e;have r0:=M.c0;have bv:=zh O;have ht:=λW=>Z57 (x==0) W;rw [Z];obtain ⟨bL,HT,HR⟩:=zh3 bG ht Z;clear bG ht Z O M;go_wp2_with fail;refine (HT.o _).mono ?_;rw [bL.o];intro e w6 H;obtain ⟨hb,rfl⟩:=H.isok;clear H;have D:=bv.o.on hb;have B6:=zh D.2.2.2;have z0:=D.2.2.1.c0;have m:=D.2.2.1.c1;have y0:=D.2.2.1.fr 0;have y2:=D.2.2.1.fr 1;clear D hb X j I r0 bv;go_wp2_with fail;exact bodyPost_ret (v:=.agg #[vI S,vI N]) (by simp [results,results177,go_sem,z0,m]) rfl ⟨Z01 B6.o (by omega) _ _,by rw [HR.o,bL.o];rfl⟩
  . have b2:(op==15)=false:=by simpa using h15
    by_cases h10:op=10
    . subst h10;by_cases G:x=1
      . subst G;obtain ⟨p1,q1,ba,R,bb⟩:=bj.o 1 (by have:=bf.o;simp [arO] at this;omega);have Z:opV C 10 n (valF C l 0) (valF C l 1) (valF C l 2)=valF C l 1:=by rw [HX.o];unfold opV;simp only;rfl
        have F:Hid (∀ wx,CBL w C r 10 n (slice (some ⟨g,o,none⟩) (flen l) c) wx->wx.cell? ⟨w.heap.size,0,none⟩=some (vI C.a)/\wx.cell? ⟨w.heap.size,1,none⟩=some (vI C.b)/\wx.cell? ⟨w.heap.size,2,none⟩=some (vI C.c)/\wx.cell? ⟨w.heap.size,3,none⟩=some (vI C.d)/\wx.cell? ⟨w.heap.size,4,none⟩=some (.map (some r)) /\ wx.cell? ⟨w.heap.size+1,2,none⟩=some (slice (some ⟨g,o,none⟩) (flen l) c)/\wx.cell? ⟨g,o+3,none⟩=some (vI p1)/\wx.cell? ⟨g,o+4,none⟩=some (vI q1)/\wx.cell? ⟨g,o+5,none⟩=some ba/\CBL w C r 10 n (slice (some ⟨g,o,none⟩) (flen l) c) wx):=λwx h=>by obtain ⟨c0,c1,c2,c3,c4⟩:=h.c;obtain ⟨_,_,I⟩:=h.e;obtain ⟨a0,f,a2⟩:=R wx h.b;exact ⟨c0,c1,c2,c3,c4,I,a0,f,a2,h⟩
        have bE:(1:Int)<(flen l:Int):=by have:=bf.o;simp [arO] at this;omega
        obtain ⟨X,j,I⟩:=O.e;have r0:=M.c0;obtain ⟨be,bP,HR,D,R6⟩:=zh5 bb R Z O M;clear bb R Z O M;go_upto_region 11 with fail;clear X j I r0;go_region_held (λw'=>w'.cell? ⟨w.heap.size,0,none⟩=some (vI C.a)/\w'.cell? ⟨w.heap.size,1,none⟩=some (vI C.b)/\w'.cell? ⟨w.heap.size,2,none⟩=some (vI C.c)/\w'.cell? ⟨w.heap.size,3,none⟩=some (vI C.d)/\w'.cell? ⟨w.heap.size,4,none⟩=some (.map (some r)) /\ w'.cell? ⟨w.heap.size+1,2,none⟩=some (slice (some ⟨g,o,none⟩) (flen l) c)/\w'.cell? ⟨g,o+3,none⟩=some (vI p1)/\w'.cell? ⟨g,o+4,none⟩=some (vI q1)/\w'.cell? ⟨g,o+5,none⟩=some ba/\CBL w C r 10 n (slice (some ⟨g,o,none⟩) (flen l) c) w') (first | (with_reducible exact F.o _ D.o.l.drew) | (with_reducible exact F.o _ U) | (exact F.o _ (U.store _ _))) ((go_at_call 177;refine (be.o _ D.o.drew.2.2.2).mono ?_;intro e w' H;obtain ⟨hb,⟨S,N,G,rfl⟩ | ⟨k,G,rfl⟩⟩:=H.parts;rotate_left;(have L:=zh G;exact ⟨rfl,Z00 D.o.drew.2.2.2 hb,by rw [HR.o,L.o];rfl⟩);have L:=zh G;have J:=D.o.drew.on hb;have U:=J.l;have z0:=J.2.2.1.c0;have m:=J.2.2.1.c1;have y0:=J.2.2.1.fr 0;have y2:=J.2.2.1.fr 1;clear J G H hb));go_wp2_with fail;exact bodyPost_ret (v:=.agg #[vI S,vI N]) (by simp [results,results177,go_sem,z0,m]) rfl ⟨Z01 U.b (by omega) _ _,by rw [HR.o,L.o];rfl⟩
      . have b4:(x==1)=false:=by simpa using G
        obtain ⟨p1,q1,ba,R,bb⟩:=bj.o 2 (by have:=bf.o;simp [arO] at this;omega);have Z:opV C 10 n (valF C l 0) (valF C l 1) (valF C l 2)=valF C l 2:=by rw [HX.o];unfold opV;simp only;simp [G]
        have F:Hid (∀ wx,CBL w C r 10 n (slice (some ⟨g,o,none⟩) (flen l) c) wx->wx.cell? ⟨w.heap.size,0,none⟩=some (vI C.a)/\wx.cell? ⟨w.heap.size,1,none⟩=some (vI C.b)/\wx.cell? ⟨w.heap.size,2,none⟩=some (vI C.c)/\wx.cell? ⟨w.heap.size,3,none⟩=some (vI C.d)/\wx.cell? ⟨w.heap.size,4,none⟩=some (.map (some r)) /\ wx.cell? ⟨w.heap.size+1,2,none⟩=some (slice (some ⟨g,o,none⟩) (flen l) c)/\wx.cell? ⟨g,o+6,none⟩=some (vI p1)/\wx.cell? ⟨g,o+7,none⟩=some (vI q1)/\wx.cell? ⟨g,o+8,none⟩=some ba/\CBL w C r 10 n (slice (some ⟨g,o,none⟩) (flen l) c) wx):=λwx h=>by obtain ⟨c0,c1,c2,c3,c4⟩:=h.c;obtain ⟨_,_,I⟩:=h.e;obtain ⟨a0,f,a2⟩:=R wx h.b;exact ⟨c0,c1,c2,c3,c4,I,a0,f,a2,h⟩
        have bE:(2:Int)<(flen l:Int):=by have:=bf.o;simp [arO] at this;omega
        obtain ⟨X,j,I⟩:=O.e;have r0:=M.c0;obtain ⟨be,bP,HR,D,R6⟩:=zh5 bb R Z O M;clear bb R Z O M;go_upto_region 13 with fail;clear X j I r0;go_region_held (λw'=>w'.cell? ⟨w.heap.size,0,none⟩=some (vI C.a)/\w'.cell? ⟨w.heap.size,1,none⟩=some (vI C.b)/\w'.cell? ⟨w.heap.size,2,none⟩=some (vI C.c)/\w'.cell? ⟨w.heap.size,3,none⟩=some (vI C.d)/\w'.cell? ⟨w.heap.size,4,none⟩=some (.map (some r)) /\ w'.cell? ⟨w.heap.size+1,2,none⟩=some (slice (some ⟨g,o,none⟩) (flen l) c)/\w'.cell? ⟨g,o+6,none⟩=some (vI p1)/\w'.cell? ⟨g,o+7,none⟩=some (vI q1)/\w'.cell? ⟨g,o+8,none⟩=some ba/\CBL w C r 10 n (slice (some ⟨g,o,none⟩) (flen l) c) w') (first | (with_reducible exact F.o _ D.o.l.drew) | (with_reducible exact F.o _ U) | (exact F.o _ (U.store _ _))) ((go_at_call 177;refine (be.o _ D.o.drew.2.2.2).mono ?_;intro e w' H;obtain ⟨hb,⟨S,N,G,rfl⟩ | ⟨k,G,rfl⟩⟩:=H.parts;rotate_left;(have L:=zh G;exact ⟨rfl,Z00 D.o.drew.2.2.2 hb,by rw [HR.o,L.o];rfl⟩);have L:=zh G;have J:=D.o.drew.on hb;have U:=J.l;have z0:=J.2.2.1.c0;have m:=J.2.2.1.c1;have y0:=J.2.2.1.fr 0;have y2:=J.2.2.1.fr 1;clear J G H hb));go_wp2_with fail;exact bodyPost_ret (v:=.agg #[vI S,vI N]) (by simp [results,results177,go_sem,z0,m]) rfl ⟨Z01 U.b (by omega) _ _,by rw [HR.o,L.o];rfl⟩
    . have bV:(op==10)=false:=by simpa using h10
      have hr:4<=op/\op<=14/\1<flen l:=by
       have h1:=H1.o;have h2:=H2.o;have h3:=H3.o;have ha:=bf.o;have hb:1<=op/\op<=15:=⟨by omega,by omega⟩
       refine ⟨by omega,by omega,?_⟩;rw [ha];unfold arO
       repeat' split
       all_goals omega
      obtain ⟨p1,q1,ba,R,bb⟩:=bj.o 1 hr.2.2;obtain ⟨L1,V,L2,hm,hn,gf,cap,rfl,b3,bA⟩:=HO.o op hr.1 hr.2.1 h10;have br:=bt.o 0 (by omega) x y HX.o;have bD:∀ k,valF C l 1=.no k->opV C op n (valF C l 0) (valF C l 1) (valF C l 2)=.no k:=λk e=>by rw [HX.o,e];unfold opV;rw [zf (by have:=H1.o;have:=H2.o;omega),zf H3.o];simp only;rw [zf h15,zf h10]
      have bH:∀ c d,valF C l 1=.ok c d->opV C op n (valF C l 0) (valF C l 1) (valF C l 2)=appV op x y c d:=λc d e=>by rw [HX.o,e];unfold opV;rw [zf (by have:=H1.o;have:=H2.o;omega),zf H3.o];simp only;rw [zf h15,zf h10]
      have bx:∀ (W:World) (c d:Int),Below w.heap.size w W->valF C l 1=.ok c d->Calls prog gf (#[.agg #[vI x,vI y],.agg #[vI c,vI d]]++cap) W (VP (appV op x y c d) W) := λW c d hb e=>bA W x y c d hb br (bt.o 1 hr.2.2 c d e);have F:Hid (∀ wx,CBR w C r op n (slice (some ⟨g,o,none⟩) (flen l) c) Y x y wx->wx.cell? ⟨w.heap.size,0,none⟩=some (vI C.a)/\wx.cell? ⟨w.heap.size,1,none⟩=some (vI C.b)/\wx.cell? ⟨w.heap.size,2,none⟩=some (vI C.c)/\wx.cell? ⟨w.heap.size,3,none⟩=some (vI C.d)/\wx.cell? ⟨w.heap.size,4,none⟩=some (.map (some r)) /\ wx.cell? ⟨w.heap.size+1,0,none⟩=some (vI op)/\wx.cell? ⟨w.heap.size+1,2,none⟩=some (slice (some ⟨g,o,none⟩) (flen l) c)/\wx.cell? ⟨g,o+3,none⟩=some (vI p1)/\wx.cell? ⟨g,o+4,none⟩=some (vI q1)/\wx.cell? ⟨g,o+5,none⟩=some ba /\ wx.cell? ⟨Y,0,none⟩=some (vI x)/\wx.cell? ⟨Y,1,none⟩=some (vI y)/\(Instr.lookup 231 (.map (some r)) (vI op) false).run prog wx=.ok (.func (.func gf) #[] cap) wx/\CBR w C r op n (slice (some ⟨g,o,none⟩) (flen l) c) Y x y wx):=λwx h=>by obtain ⟨c0,c1,c2,c3,c4⟩:=h.l.c;obtain ⟨X,_,I⟩:=h.l.e;obtain ⟨a0,f,a2⟩:=R wx h.l.b;exact ⟨c0,c1,c2,c3,c4,X,I,a0,f,a2,h.r.c0,h.r.c1,Zbj underlying231 underlying3 (hm.on h.l.b) hn,h⟩
      have bE:(1:Int)<(flen l:Int):=by omega
      obtain ⟨X,j,I⟩:=O.e;have r0:=M.c0;have r1:=M.c1;obtain ⟨be,bP,bS,bN,bQ,D,R6,bY,bX,bR⟩:=zh10 bb R bD bH bx O M hr br bs;clear bb R bD bH bx O M hr br bs hm hn bA HX bt bj HO bC;go_upto_region 14 with fail;clear X j I r0 r1;go_region_held (λw'=>w'.cell? ⟨w.heap.size,0,none⟩=some (vI C.a)/\w'.cell? ⟨w.heap.size,1,none⟩=some (vI C.b)/\w'.cell? ⟨w.heap.size,2,none⟩=some (vI C.c)/\w'.cell? ⟨w.heap.size,3,none⟩=some (vI C.d)/\w'.cell? ⟨w.heap.size,4,none⟩=some (.map (some r)) /\ w'.cell? ⟨w.heap.size+1,0,none⟩=some (vI op)/\w'.cell? ⟨w.heap.size+1,2,none⟩=some (slice (some ⟨g,o,none⟩) (flen l) c)/\w'.cell? ⟨g,o+3,none⟩=some (vI p1)/\w'.cell? ⟨g,o+4,none⟩=some (vI q1)/\w'.cell? ⟨g,o+5,none⟩=some ba /\ w'.cell? ⟨Y,0,none⟩=some (vI x)/\w'.cell? ⟨Y,1,none⟩=some (vI y)/\(Instr.lookup 231 (.map (some r)) (vI op) false).run prog w'=.ok (.func (.func gf) #[] cap) w'/\CBR w C r op n (slice (some ⟨g,o,none⟩) (flen l) c) Y x y w') (first | (with_reducible exact F.o _ (CBR.drew ⟨D.o.l,R6.o⟩)) | (with_reducible exact F.o _ bk) | (with_reducible exact F.o _ U) | (exact F.o _ (bk.store bR.o _ _))) (first
        | (go_at_call 177;refine (be.o _ D.o.drew.2.2.2).mono ?_;intro e w' H;obtain ⟨hb,⟨S,N,G,rfl⟩ | ⟨k,G,rfl⟩⟩:=H.parts;rotate_left;(have L:=zh G;exact ⟨rfl,Z00 D.o.drew.2.2.2 hb,by rw [bS.o k L.o];rfl⟩);have L:=zh G;have J:=D.o.drew.on hb;have T:=zh J;have U:CBR w C r op n (slice (some ⟨g,o,none⟩) (flen l) c) Y x y w':=⟨J.l,R6.o.on (Z00 (zr _ _).drew hb)⟩;clear J G H hb)
        | (refine (bQ.o _ S N T.o.2.2.2 L.o).mono ?_;intro e bZ H;obtain ⟨hb,⟨x2,y2,bh,rfl⟩ | ⟨k,bh,rfl⟩⟩:=H.parts;rotate_left;(have bn:=zh bh;exact ⟨rfl,Z00 T.o.2.2.2 hb,by rw [bN.o S N L.o,bn.o];rfl⟩);have bn:=zh bh;have bc:=T.o.on hb;have bk:=U.on hb;have z0:=bc.2.2.1.c0;have m:=bc.2.2.1.c1;have y0:=bc.2.2.1.fr 0;have b1:=bc.2.2.1.fr 1;clear bc bh H hb))
      all_goals go_wp2_with fail;exact bodyPost_ret (v:=.agg #[vI x2,vI y2]) (by simp [results,results177,go_sem,z0,m]) rfl ⟨Z01 bk.l.b (by omega) _ _,by rw [bN.o S N L.o,bn.o];rfl⟩
end
