import Derived.Test.YtnepkoepbapgeaaGreatDoorQuoRat3
namespace Go.Proofs.YtnepkoepbapgeaaGreatDoor
open _root_.Go.Proofs.Tryz
open Value (int slice)
open IntKind (i64)
set_option maxHeartbeats 8000000
set_option maxRecDepth 100000
section
open Go.RowKit Lx Px Qx
theorem Zcg (n d:Int)(D : -4000000000000000000<=n)(B:n<=4000000000000000000)(C:1<=d)(H:d<=4000000000000000000) : ∃ (g:Nat) (na p q pa:Int),(∀ W:World,Calls prog 167 #[int i64 n] W λe w'=>e=.returned (int i64 na)/\W=w')/\(∀ W:World,Calls prog 166 #[int i64 na,int i64 d] W λe w'=>e=.returned (int i64 (g:Nat))/\W=w')/\0<g/\n.tdiv (g:Int)=p/\d.tdiv (g:Int)=q /\ IntKind.i64.wrap p=p/\IntKind.i64.wrap q=q/\(∀ W:World,Calls prog 167 #[int i64 p] W λe w'=>e=.returned (int i64 pa)/\W=w') /\ ((1000000<q->ratV n d=.no 3)/\(1000000000<pa->ratV n d=.no 3)/\(¬ 1000000<q->¬ 1000000000<pa->ratV n d=.ok p q)):=by
 obtain ⟨I,J,L,M⟩:=Z5i n d D B C H;obtain ⟨c,F⟩:=zE2 (show 0<=d by omega);have G:0<Nat.gcd n.natAbs d.natAbs:=Nat.gcd_pos_of_pos_right _ (by omega);refine ⟨Nat.gcd n.natAbs d.natAbs,(n.natAbs:Nat),redN n d,redD n d,((redN n d).natAbs:Nat),λW=>Zfy n W D B,λW=>?_,G,rfl,rfl,zi _ (by omega),zi _ (by omega),λW=>Zfy _ W I J,λh=>?_,λh=>?_,λB C=>?_⟩
 · have:=Zp0 n.natAbs c W (by omega) (by omega);rw [F,Int.natAbs_natCast];exact this
 · unfold ratV;rw [zp (.inr h)]
 · unfold ratV;rw [zp (.inl (by omega))]
 · unfold ratV;rw [zf (by omega)]
theorem Z5e (n d:Int)(w:World)(h0 : -4000000000000000000<=n)(h1:n<=4000000000000000000)(h2 : -4000000000000000000<=d)(h3:d<=4000000000000000000)(hd:d≠0) : Calls prog 260 #[int i64 n,int i64 d] w (RetV (Z10 n d) w):=by
 have bb:=(zr w.heap.size w).alloc (zn _) (.cells #[int i64 0,int i64 0] 60);have ba:=RatB.new w 0 0;have X:=zh bb;have O:=zh ba;clear bb ba;by_cases hdn:d<0
 · have B:Z10 n d=ratV (-n) (-d):=zp hdn;have dd:decide (d<0)=true:=by simpa using hdn
   have wn:IntKind.i64.wrap (-n) = -n:=zi _ (by omega);have wd:IntKind.i64.wrap (-d) = -d:=zi _ (by omega);obtain ⟨g,na,p,q,pa,S,T,bd,Y,e2,l,w2,R,L,J,N⟩:=Zcg (-n) (-d) (by omega) (by omega) (by omega) (by omega);rw [<- B] at L J N;have A:¬ g=0:=by omega
   clear B;generalize Z10 n d=V at *
   have U:=zh T;have y:=zh R;have Z:=zh S;have m:=zh L;have j:=zh J;have r:=zh N;clear T R S L J N;go_enter func260,ntmps260;go_wp2_with fail;generalize w.alloc (.cells #[int i64 0,int i64 0] 60)=D at *
   refine (Z.out _).mono ?_;rintro e w' ⟨rfl,rfl⟩;go_wp2_with fail;refine (U.out _).mono ?_;rintro e w' ⟨rfl,rfl⟩;go_wp2_with fail;go_region;clear Y e2 l w2 A U;have I:=((zr D.heap.size D).alloc (zn _) (.cells #[int i64 p,int i64 q] 60)).drew;have G:RatB (D.alloc (.cells #[int i64 p,int i64 q] 60)).drew D.heap.size p q:=za D (.cells #[int i64 p,int i64 q] 60);have C:=O.out.on I;have F:=Z00 X.out I;have be:=O.out.lt;clear I X O;generalize (D.alloc (.cells #[int i64 p,int i64 q] 60)).drew=W3 at *
   generalize D.heap.size=f at *
   have bc:f≠w.heap.size:=by omega
   have a0:=G.c0;have a1:=G.c1;have M:=C.c0;have H:=C.c1;have f0:=C.fr 0;have f1:=C.fr 1;have bf:=C.lt;replace F:=zh F;replace G:=zh G;replace C:=zh C;by_cases c1:1000000<q
   · have d1:decide ((1000000:Int)<q)=true:=by simpa using c1
     have B:=m.out c1;subst B;go_wp2_with fail;refine bodyPost_ret (v:=.tuple #[.agg #[int i64 0,int i64 0],int i64 3]) (by simp [results,results260,go_sem,M,H]) rfl ⟨rfl,?_⟩
     repeat (first | exact F.out | (refine Below.setCell ?_ (by first | exact zn _ | exact Nat.le_add_right _ _ | (show _<=_;omega)) _) | (refine Below.alloc ?_ (by first | omega | (simp;omega) | (simp only [World.setCell,Array.size_modify];omega)) _))
   · have d1:decide ((1000000:Int)<q)=false:=by simpa using c1
     go_wp2_with fail;refine (y.out _).mono ?_;rintro e w' ⟨rfl,rfl⟩;by_cases c2:1000000000<pa
     · have d2:decide ((1000000000:Int)<pa)=true:=by simpa using c2
       have B:=j.out c2;subst B;go_wp2_with fail;refine bodyPost_ret (v:=.tuple #[.agg #[int i64 0,int i64 0],int i64 3]) (by simp [results,results260,go_sem,M,H]) rfl ⟨rfl,?_⟩
       repeat (first | exact F.out | (refine Below.setCell ?_ (by first | exact zn _ | exact Nat.le_add_right _ _ | (show _<=_;omega)) _) | (refine Below.alloc ?_ (by first | omega | (simp;omega) | (simp only [World.setCell,Array.size_modify];omega)) _))
     · have d2:decide ((1000000000:Int)<pa)=false:=by simpa using c2
       have B:=r.out (by omega) (by omega);subst B;go_wp2_with fail;refine bodyPost_ret (v:=.tuple #[.agg #[int i64 p,int i64 q],int i64 0]) (by simp [results,results260,go_sem,M,H]) rfl ⟨rfl,?_⟩
       repeat (first | exact F.out | (refine Below.setCell ?_ (by first | exact zn _ | exact Nat.le_add_right _ _ | (show _<=_;omega)) _) | (refine Below.alloc ?_ (by first | omega | (simp;omega) | (simp only [World.setCell,Array.size_modify];omega)) _))
 · have B:Z10 n d=ratV n d:=zf hdn;have dd:decide (d<0)=false:=by simpa using hdn
   obtain ⟨g,na,p,q,pa,S,T,bd,Y,e2,l,w2,R,L,J,N⟩:=Zcg n d (by omega) (by omega) (by omega) (by omega);rw [<- B] at L J N;have A:¬ g=0:=by omega
   clear B;generalize Z10 n d=V at *
   have U:=zh T;have y:=zh R;have Z:=zh S;have m:=zh L;have j:=zh J;have r:=zh N;clear T R S L J N;go_enter func260,ntmps260;go_wp2_with fail;generalize w.alloc (.cells #[int i64 0,int i64 0] 60)=D at *
   refine (Z.out _).mono ?_;rintro e w' ⟨rfl,rfl⟩;go_wp2_with fail;refine (U.out _).mono ?_;rintro e w' ⟨rfl,rfl⟩;go_wp2_with fail;go_region;clear Y e2 l w2 A U;have I:=((zr D.heap.size D).alloc (zn _) (.cells #[int i64 p,int i64 q] 60)).drew;have G:RatB (D.alloc (.cells #[int i64 p,int i64 q] 60)).drew D.heap.size p q:=za D (.cells #[int i64 p,int i64 q] 60);have C:=O.out.on I;have F:=Z00 X.out I;have be:=O.out.lt;clear I X O;generalize (D.alloc (.cells #[int i64 p,int i64 q] 60)).drew=W3 at *
   generalize D.heap.size=f at *
   have bc:f≠w.heap.size:=by omega
   have a0:=G.c0;have a1:=G.c1;have M:=C.c0;have H:=C.c1;have f0:=C.fr 0;have f1:=C.fr 1;have bf:=C.lt;replace F:=zh F;replace G:=zh G;replace C:=zh C;by_cases c1:1000000<q
   · have d1:decide ((1000000:Int)<q)=true:=by simpa using c1
     have B:=m.out c1;subst B;go_wp2_with fail;refine bodyPost_ret (v:=.tuple #[.agg #[int i64 0,int i64 0],int i64 3]) (by simp [results,results260,go_sem,M,H]) rfl ⟨rfl,?_⟩
     repeat (first | exact F.out | (refine Below.setCell ?_ (by first | exact zn _ | exact Nat.le_add_right _ _ | (show _<=_;omega)) _) | (refine Below.alloc ?_ (by first | omega | (simp;omega) | (simp only [World.setCell,Array.size_modify];omega)) _))
   · have d1:decide ((1000000:Int)<q)=false:=by simpa using c1
     go_wp2_with fail;refine (y.out _).mono ?_;rintro e w' ⟨rfl,rfl⟩;by_cases c2:1000000000<pa
     · have d2:decide ((1000000000:Int)<pa)=true:=by simpa using c2
       have B:=j.out c2;subst B;go_wp2_with fail;refine bodyPost_ret (v:=.tuple #[.agg #[int i64 0,int i64 0],int i64 3]) (by simp [results,results260,go_sem,M,H]) rfl ⟨rfl,?_⟩
       repeat (first | exact F.out | (refine Below.setCell ?_ (by first | exact zn _ | exact Nat.le_add_right _ _ | (show _<=_;omega)) _) | (refine Below.alloc ?_ (by first | omega | (simp;omega) | (simp only [World.setCell,Array.size_modify];omega)) _))
     · have d2:decide ((1000000000:Int)<pa)=false:=by simpa using c2
       have B:=r.out (by omega) (by omega);subst B;go_wp2_with fail;refine bodyPost_ret (v:=.tuple #[.agg #[int i64 p,int i64 q],int i64 0]) (by simp [results,results260,go_sem,M,H]) rfl ⟨rfl,?_⟩
       repeat (first | exact F.out | (refine Below.setCell ?_ (by first | exact zn _ | exact Nat.le_add_right _ _ | (show _<=_;omega)) _) | (refine Below.alloc ?_ (by first | omega | (simp;omega) | (simp only [World.setCell,Array.size_modify];omega)) _))
theorem Z7c (n d:Int)(w:World)(r : -1000000000000000<=n)(h1:n<=1000000000000000)(U : -1000000000000000<=d)(l:d<=1000000000000000)(L:d≠0) : Calls prog 223 #[int i64 n,int i64 d] w (RetV (Z10 n d) w):=by
 have N:=λW=>Z5e n d W (by omega) (by omega) (by omega) (by omega) L;generalize Z10 n d=V at *
 have q:(d==0)=false:=by simpa using L
 have d1:decide (n < -1000000000000000)=false:=by simp;omega
 have y:decide ((1000000000000000:Int)<n)=false:=by simp;omega
 have g:decide (d < -1000000000000000)=false:=by simp;omega
 have X:decide ((1000000000000000:Int)<d)=false:=by simp;omega
 have J:=(zr w.heap.size w).alloc (zn _) (.cells #[int i64 0,int i64 0] 60);have I:=RatB.new w 0 0;have O:=zh J;have G:=zh I;have M:=zh N;clear J I N;go_enter func223,ntmps223;go_wp2_with fail;generalize w.alloc (.cells #[int i64 0,int i64 0] 60)=W1 at *
 refine (M.out _).mono ?_;rintro e C ⟨rfl,hb⟩;have F:=Z00 hb ((zr C.heap.size C).alloc (zn _) (.cells #[int i64 (vN V),int i64 (vD V)] 60));have D:=RatB.new C (vN V) (vD V);have B:=G.out.on F;have H:=Z00 O.out F;have m:w.heap.size<C.heap.size:=by have U:=G.out.lt;have:=hb.size;omega
 replace D:=zh D;replace B:=zh B;replace H:=zh H;clear F hb O G M;go_upto_region 5 with fail;generalize C.alloc (.cells #[int i64 (vN V),int i64 (vD V)] 60)=Z at *
 generalize C.heap.size=S at *
 have j:S≠w.heap.size:=by omega
 have a0:=D.out.c0;have f:=D.out.c1;have T:=B.out.c0;have R:=B.out.c1;have A:=B.out.fr 0;have Y:=B.out.fr 1;go_wp2_with fail;refine bodyPost_ret (v:=.tuple #[.agg #[int i64 (vN V),int i64 (vD V)],int i64 (vE V)]) (by simp [results,results223,go_sem,T,R]) rfl ⟨rfl,?_⟩;exact Z01 H.out (zn _) _ _
theorem Z6i (a b c d:Int)(w:World)(F:ratB a b=true)(G:ratB c d=true) : Calls prog 284 #[.agg #[int i64 a,int i64 b],.agg #[int i64 c,int i64 d]] w λe w'=>e=.returned (.bool true)/\Below w.heap.size w w':=by
 have C:=λW=>Z1p a b W;have D:=λW=>Z1p c d W;rw [F] at C;rw [G] at D;have J:Below w.heap.size w ((w.alloc (.cells #[int i64 a,int i64 b] 60)).alloc (.cells #[int i64 c,int i64 d] 60)):=((zr _ _).alloc (zn _) _).alloc (by simp) _;have O:RatB _ w.heap.size a b/\RatB _ (w.heap.size+1) c d:=Z11 w (.cells #[int i64 a,int i64 b] 60) (.cells #[int i64 c,int i64 d] 60);have M:=zh C;have L:=zh D;have N:=zh J;have H:=zh O;have V:=zh F;have X:=zh G;clear C D J O F G;go_enter func284,ntmps284;go_wp2_with fail;generalize (w.alloc (.cells #[int i64 a,int i64 b] 60)).alloc (.cells #[int i64 c,int i64 d] 60)=U at *
 refine (M.out U).mono ?_;rintro e Y ⟨rfl,hb⟩;have B:=H.out.2.on hb;have I:=zh (Z00 N.out hb);have S:=B.c0;have R:=B.c1;clear hb H N M B;go_wp2_with fail;refine (L.out _).mono ?_;rintro e Z ⟨rfl,hb⟩;have T:=zh (Z00 I.out hb);clear hb S R I L;go_wp2_with fail;go_ret;exact ⟨rfl,T.out⟩
theorem Znb (a b c d:Int)(w:World)(G:ratB a b=true)(D:ratB c d=true) : Calls prog 262 #[.agg #[int i64 a,int i64 b],.agg #[int i64 c,int i64 d]] w (RetV (addV a b c d) w):=by
 obtain ⟨⟨A,l⟩,⟨k3,r⟩,⟨k5,j⟩,⟨k7,y⟩⟩:=Z13 G D;have U:Below w.heap.size w (((w.alloc (.cells #[int i64 a,int i64 b] 60)).alloc (.cells #[int i64 c,int i64 d] 60)).alloc (.cells #[int i64 0,int i64 0] 60)):=(((zr _ _).alloc (zn _) _).alloc (by simp) _).alloc (by simp;omega) _;have f:=Z0k w a b c d 0 0;have S:=λW=>Z6i a b c d W G D;have L:=λW=>Z5e (a*d+c*b) (b*d) W (by omega) (by omega) (by omega) (by omega) (by omega);have Y:Z10 (a*d+c*b) (b*d)=addV a b c d:=by unfold Z10 addV;rw [zf (by omega)]
 rw [Y] at L;have q0:IntKind.i64.wrap (a*d)=a*d:=zi _ (by omega);have q1:IntKind.i64.wrap (c*b)=c*b:=zi _ (by omega);have q2:IntKind.i64.wrap (a*d+c*b)=a*d+c*b:=zi _ (by omega);have q3:IntKind.i64.wrap (b*d)=b*d:=zi _ (by omega);clear Y;generalize addV a b c d=V at *
 have X:=zh S;have Z:=zh U;have F:=zh f;have H1:=zh G;have H2:=zh D;have R:=zh L;clear S U f G D L A l k3 r k5 j k7 y;go_enter func262,ntmps262;go_wp2_with fail;generalize ((w.alloc (.cells #[int i64 a,int i64 b] 60)).alloc (.cells #[int i64 c,int i64 d] 60)).alloc (.cells #[int i64 0,int i64 0] 60)=W1 at *
 refine (X.out W1).mono ?_;rintro e w2 ⟨rfl,hb⟩;have J:=F.out.1.on hb;have M:=F.out.2.1.on hb;have N:=zh (F.out.2.2.on hb);have T:=zh (Z00 Z.out hb);have u0:=J.c0;have u1:=J.c1;have u2:=M.c0;have m:=M.c1;clear hb F Z X J M;go_wp2_with fail;refine (R.out _).mono ?_;rintro e C ⟨rfl,hb⟩;have I:=Z00 hb ((zr C.heap.size C).alloc (zn _) (.cells #[int i64 (vN V),int i64 (vD V)] 60));have H:=RatB.new C (vN V) (vD V);have B:=N.out.on I;have O:=Z00 T.out I;have bb:w.heap.size+2<C.heap.size:=by have D:=N.out.lt;have:=hb.size;omega
 replace H:=zh H;replace B:=zh B;replace O:=zh O;clear I hb N T R u0 u1 u2 m;go_upto_region 4 with fail;generalize C.alloc (.cells #[int i64 (vN V),int i64 (vD V)] 60)=W3 at *
 generalize C.heap.size=q at *
 have ba:q≠w.heap.size+2:=by omega
 have a0:=H.out.c0;have a1:=H.out.c1;have z0:=B.out.c0;have g:=B.out.c1;have f0:=B.out.fr 0;have f1:=B.out.fr 1;go_wp2_with fail;refine bodyPost_ret (v:=.tuple #[.agg #[int i64 (vN V),int i64 (vD V)],int i64 (vE V)]) (by simp [results,results262,go_sem,z0,g]) rfl ⟨rfl,?_⟩;exact Z01 O.out (by omega) _ _
theorem Znc (a b c d:Int)(w:World)(G:ratB a b=true)(D:ratB c d=true) : Calls prog 263 #[.agg #[int i64 a,int i64 b],.agg #[int i64 c,int i64 d]] w (RetV (subV a b c d) w):=by
 obtain ⟨⟨A,l⟩,⟨k3,r⟩,⟨k5,j⟩,⟨k7,y⟩⟩:=Z13 G D;have U:Below w.heap.size w (((w.alloc (.cells #[int i64 a,int i64 b] 60)).alloc (.cells #[int i64 c,int i64 d] 60)).alloc (.cells #[int i64 0,int i64 0] 60)):=(((zr _ _).alloc (zn _) _).alloc (by simp) _).alloc (by simp;omega) _;have f:=Z0k w a b c d 0 0;have S:=λW=>Z6i a b c d W G D;have L:=λW=>Z5e (a*d - c*b) (b*d) W (by omega) (by omega) (by omega) (by omega) (by omega);have Y:Z10 (a*d - c*b) (b*d)=subV a b c d:=by unfold Z10 subV;rw [zf (by omega)]
 rw [Y] at L;have q0:IntKind.i64.wrap (a*d)=a*d:=zi _ (by omega);have q1:IntKind.i64.wrap (c*b)=c*b:=zi _ (by omega);have q2:IntKind.i64.wrap (a*d - c*b)=a*d - c*b:=zi _ (by omega);have q3:IntKind.i64.wrap (b*d)=b*d:=zi _ (by omega);clear Y;generalize subV a b c d=V at *
 have X:=zh S;have Z:=zh U;have F:=zh f;have H1:=zh G;have H2:=zh D;have R:=zh L;clear S U f G D L A l k3 r k5 j k7 y;go_enter func263,ntmps263;go_wp2_with fail;generalize ((w.alloc (.cells #[int i64 a,int i64 b] 60)).alloc (.cells #[int i64 c,int i64 d] 60)).alloc (.cells #[int i64 0,int i64 0] 60)=W1 at *
 refine (X.out W1).mono ?_;rintro e w2 ⟨rfl,hb⟩;have J:=F.out.1.on hb;have M:=F.out.2.1.on hb;have N:=zh (F.out.2.2.on hb);have T:=zh (Z00 Z.out hb);have u0:=J.c0;have u1:=J.c1;have u2:=M.c0;have m:=M.c1;clear hb F Z X J M;go_wp2_with fail;refine (R.out _).mono ?_;rintro e C ⟨rfl,hb⟩;have I:=Z00 hb ((zr C.heap.size C).alloc (zn _) (.cells #[int i64 (vN V),int i64 (vD V)] 60));have H:=RatB.new C (vN V) (vD V);have B:=N.out.on I;have O:=Z00 T.out I;have bb:w.heap.size+2<C.heap.size:=by have D:=N.out.lt;have:=hb.size;omega
 replace H:=zh H;replace B:=zh B;replace O:=zh O;clear I hb N T R u0 u1 u2 m;go_upto_region 4 with fail;generalize C.alloc (.cells #[int i64 (vN V),int i64 (vD V)] 60)=W3 at *
 generalize C.heap.size=q at *
 have ba:q≠w.heap.size+2:=by omega
 have a0:=H.out.c0;have a1:=H.out.c1;have z0:=B.out.c0;have g:=B.out.c1;have f0:=B.out.fr 0;have f1:=B.out.fr 1;go_wp2_with fail;refine bodyPost_ret (v:=.tuple #[.agg #[int i64 (vN V),int i64 (vD V)],int i64 (vE V)]) (by simp [results,results263,go_sem,z0,g]) rfl ⟨rfl,?_⟩;exact Z01 O.out (by omega) _ _
theorem Znd (a b c d:Int)(w:World)(G:ratB a b=true)(D:ratB c d=true) : Calls prog 264 #[.agg #[int i64 a,int i64 b],.agg #[int i64 c,int i64 d]] w (RetV (mulV a b c d) w):=by
 obtain ⟨⟨A,l⟩,⟨k3,r⟩,⟨k5,j⟩,⟨k7,y⟩⟩:=Z13 G D;have U:Below w.heap.size w (((w.alloc (.cells #[int i64 a,int i64 b] 60)).alloc (.cells #[int i64 c,int i64 d] 60)).alloc (.cells #[int i64 0,int i64 0] 60)):=(((zr _ _).alloc (zn _) _).alloc (by simp) _).alloc (by simp;omega) _;have f:=Z0k w a b c d 0 0;have S:=λW=>Z6i a b c d W G D;have L:=λW=>Z5e (a*c) (b*d) W (by omega) (by omega) (by omega) (by omega) (by omega);have Z:Z10 (a*c) (b*d)=mulV a b c d:=by unfold Z10 mulV;rw [zf (by omega)]
 rw [Z] at L;have q0:IntKind.i64.wrap (a*c)=a*c:=zi _ (by omega);have q1:IntKind.i64.wrap (b*d)=b*d:=zi _ (by omega);clear Z;generalize mulV a b c d=V at *
 have X:=zh S;have Y:=zh U;have F:=zh f;have H1:=zh G;have H2:=zh D;have R:=zh L;clear S U f G D L A l k3 r k5 j k7 y;go_enter func264,ntmps264;go_wp2_with fail;generalize ((w.alloc (.cells #[int i64 a,int i64 b] 60)).alloc (.cells #[int i64 c,int i64 d] 60)).alloc (.cells #[int i64 0,int i64 0] 60)=W1 at *
 refine (X.out W1).mono ?_;rintro e w2 ⟨rfl,hb⟩;have J:=F.out.1.on hb;have M:=F.out.2.1.on hb;have N:=zh (F.out.2.2.on hb);have T:=zh (Z00 Y.out hb);have u0:=J.c0;have u1:=J.c1;have u2:=M.c0;have m:=M.c1;clear hb F Y X J M;go_wp2_with fail;refine (R.out _).mono ?_;rintro e C ⟨rfl,hb⟩;have I:=Z00 hb ((zr C.heap.size C).alloc (zn _) (.cells #[int i64 (vN V),int i64 (vD V)] 60));have H:=RatB.new C (vN V) (vD V);have B:=N.out.on I;have O:=Z00 T.out I;have bb:w.heap.size+2<C.heap.size:=by have D:=N.out.lt;have:=hb.size;omega
 replace H:=zh H;replace B:=zh B;replace O:=zh O;clear I hb N T R u0 u1 u2 m;go_upto_region 4 with fail;generalize C.alloc (.cells #[int i64 (vN V),int i64 (vD V)] 60)=W3 at *
 generalize C.heap.size=q at *
 have ba:q≠w.heap.size+2:=by omega
 have a0:=H.out.c0;have a1:=H.out.c1;have z0:=B.out.c0;have g:=B.out.c1;have f0:=B.out.fr 0;have f1:=B.out.fr 1;go_wp2_with fail;refine bodyPost_ret (v:=.tuple #[.agg #[int i64 (vN V),int i64 (vD V)],int i64 (vE V)]) (by simp [results,results264,go_sem,z0,g]) rfl ⟨rfl,?_⟩;exact Z01 O.out (by omega) _ _
theorem Zjt (a b c d:Int)(w:World)(C:ratB a b=true)(D:ratB c d=true) : Calls prog 261 #[.agg #[int i64 a,int i64 b],.agg #[int i64 c,int i64 d]] w λe w'=>e=.returned (.tuple #[int i64 (cmpI a b c d),int i64 0])/\Below w.heap.size w w':=by
 obtain ⟨⟨y,j⟩,⟨k3,r⟩,_,_⟩:=Z13 C D;have N:=λW=>Z6i a b c d W C D;have O:Below w.heap.size w ((w.alloc (.cells #[int i64 a,int i64 b] 60)).alloc (.cells #[int i64 c,int i64 d] 60)):=((zr _ _).alloc (zn _) _).alloc (by simp) _;have V:RatB _ w.heap.size a b/\RatB _ (w.heap.size+1) c d:=Z11 w (.cells #[int i64 a,int i64 b] 60) (.cells #[int i64 c,int i64 d] 60);have F:cmpI a b c d=if a*d<c*b then -1 else if c*b<a*d then 1 else 0:=rfl;obtain ⟨R,T⟩:∃ R,cmpI a b c d=R:=⟨_,rfl⟩
 rw [T] at F |-
 have l:IntKind.i64.wrap (a*d)=a*d:=zi _ (by omega);have m:IntKind.i64.wrap (c*b)=c*b:=zi _ (by omega);have S:=zh N;have U:=zh O;have G:=zh V;have H:=zh F;have g:=zh C;have H2:=zh D;clear N O V F C D T;go_enter func261,ntmps261;go_wp2_with fail;generalize (w.alloc (.cells #[int i64 a,int i64 b] 60)).alloc (.cells #[int i64 c,int i64 d] 60)=f at *
 refine (S.out f).mono ?_;rintro e w2 ⟨rfl,hb⟩;have I:=G.out.1.on hb;have J:=G.out.2.on hb;have L:=zh (Z00 U.out hb);have u0:=I.c0;have u1:=I.c1;have A:=J.c0;have q:=J.c1;clear hb G U S I J;by_cases hlt:a*d<c*b
 · have Y:decide (a*d<c*b)=true:=by simpa using hlt
   have B:R = -1:=by rw [H.out,zp hlt]
   subst B;have M:=zh hlt;clear hlt;go_wp2_with fail;go_ret2;exact ⟨rfl,L.out⟩
 · have Y:decide (a*d<c*b)=false:=by simpa using hlt
   by_cases hgt:c*b<a*d
   · have X:decide (c*b<a*d)=true:=by simpa using hgt
     have B:R=1:=by rw [H.out,zf hlt,zp hgt]
     subst B;have M:=zh hlt;have Z:=zh hgt;clear hlt hgt;go_wp2_with fail;go_ret2;exact ⟨rfl,L.out⟩
   · have X:decide (c*b<a*d)=false:=by simpa using hgt
     have B:R=0:=by rw [H.out,zf hlt,zf hgt]
     subst B;have M:=zh hlt;have Z:=zh hgt;clear hlt hgt;go_wp2_with fail;go_ret2;exact ⟨rfl,L.out⟩
end
section
open Go.RowKit Lx Px Qx
theorem Z41 (b:Bool)(w:World):Calls prog 224 #[.bool b] w λe w'=>e=.returned (.agg #[int i64 (vN (truV b)),int i64 (vD (truV b))])/\Below w.heap.size w w':=by
 have H:Below w.heap.size w (w.alloc (.cells #[int i64 0,int i64 0] 60)):=(zr _ _).alloc (zn _) _;have I:=RatB.new w 0 0;have G:=zh H;have B:=zh I;clear H I;cases b
 · go_enter func224,ntmps224;go_upto_region 1 with fail;generalize w.alloc (.cells #[int i64 0,int i64 0] 60)=M at *
   have D:=B.out.c0;have C:=B.out.c1;have J:=B.out.fr 0;have L:=B.out.fr 1;have F:=B.out.lt;go_wp2_with fail;exact bodyPost_ret (v:=.agg #[int i64 0,int i64 1]) (by simp [results,results224,go_sem,D,C]) rfl ⟨rfl,Z01 G.out (zn _) _ _⟩
 · go_enter func224,ntmps224;go_upto_region 1 with fail;generalize w.alloc (.cells #[int i64 0,int i64 0] 60)=M at *
   have D:=B.out.c0;have C:=B.out.c1;have J:=B.out.fr 0;have L:=B.out.fr 1;have F:=B.out.lt;go_wp2_with fail;exact bodyPost_ret (v:=.agg #[int i64 1,int i64 1]) (by simp [results,results224,go_sem,D,C]) rfl ⟨rfl,Z01 G.out (zn _) _ _⟩
theorem Zch (b:Bool):vE (truV b)=0:=by cases b <;> rfl
theorem Zju {a b c d:Int}(B:ratB a b=true)(D:ratB c d=true)(h:c≠0):(-1000000000000000<=a*d/\a*d<=1000000000000000)/\(-1000000000000000<=b*c/\b*c<=1000000000000000)/\b*c≠0:=by
 obtain ⟨F,C,_,_⟩:=Z13 B D;obtain ⟨G,_⟩:=Z0F B;rw [Int.mul_comm] at C;exact ⟨F,C,Int.mul_ne_zero (by omega) h⟩
theorem ZgE (op a b c d:Int)(w:World)(h1:ratB a b=true)(h2:ratB c d=true)(bd:op=4\/op=5\/op=6\/op=7\/op=8\/op=9\/op=11\/op=12\/op=13\/op=14) : Calls prog 225 #[int i64 op,.agg #[int i64 a,int i64 b],.agg #[int i64 c,int i64 d]] w (RetV (appV op a b c d) w):=by
 have b1:Below w.heap.size w (((w.alloc (.cells #[int i64 a,int i64 b] 60)).alloc (.cells #[int i64 c,int i64 d] 60)).alloc (.cells #[int i64 0,int i64 0] 60)):=(((zr _ _).alloc (zn _) _).alloc (by simp) _).alloc (by simp;omega) _;have x1:=Z0k w a b c d 0 0;have bb:=λW=>Zjt a b c d W h1 h2;obtain ⟨j,bc⟩:∃ j,cmpI a b c d=j:=⟨_,rfl⟩
 rw [bc] at bb;have T:=zh b1;have F:=zh x1;have S:=zh bb;have ba:=zh bc;have H1:=zh h1;have H2:=zh h2;clear b1 x1 bb bc h1 h2;rcases bd with rfl | rfl | rfl | rfl | rfl | rfl | rfl | rfl | rfl | rfl
 · have M:appV 4 a b c d=addV a b c d:=rfl;rw [M];have U:=λW=>Znb a b c d W H1.out H2.out;generalize addV a b c d=V at *
   have l:=zh U;clear U M;go_enter func225,ntmps225;go_wp2_with fail;generalize ((w.alloc (.cells #[int i64 a,int i64 b] 60)).alloc (.cells #[int i64 c,int i64 d] 60)).alloc (.cells #[int i64 0,int i64 0] 60)=X at *
   refine (S.out X).mono ?_;rintro e m ⟨rfl,hb⟩;have G:=F.out.1.on hb;have H:=F.out.2.1.on hb;have B:=F.out.2.2.on hb;have C:=Z00 T.out hb;have g:=G.c0;have f:=G.c1;have Z:=H.c0;have Y:=H.c1;have J:=B.c0;have I:=B.c1;have R:=B.fr 0;have O:=B.fr 1;have L:=B.lt;replace B:=zh B;replace C:=zh C;clear hb F T S G H;go_wp2_with fail;refine (l.out _).mono ?_;rintro e A ⟨rfl,hb⟩;have D:=B.out.on hb;have N:=Z00 C.out hb;clear J I R O L;have J:=D.c0;have I:=D.c1;have R:=D.fr 0;have O:=D.fr 1;have L:=D.lt;replace N:=zh N;clear D hb B C g f Z Y;go_wp2_with fail;exact bodyPost_ret (v:=.tuple #[.agg #[int i64 (vN V),int i64 (vD V)],int i64 (vE V)]) (by simp [results,results225,go_sem,J,I]) rfl ⟨rfl,Z01 N.out (by omega) _ _⟩
 · have M:appV 5 a b c d=subV a b c d:=rfl;rw [M];have U:=λW=>Znc a b c d W H1.out H2.out;generalize subV a b c d=V at *
   have l:=zh U;clear U M;go_enter func225,ntmps225;go_wp2_with fail;generalize ((w.alloc (.cells #[int i64 a,int i64 b] 60)).alloc (.cells #[int i64 c,int i64 d] 60)).alloc (.cells #[int i64 0,int i64 0] 60)=X at *
   refine (S.out X).mono ?_;rintro e m ⟨rfl,hb⟩;have G:=F.out.1.on hb;have H:=F.out.2.1.on hb;have B:=F.out.2.2.on hb;have C:=Z00 T.out hb;have g:=G.c0;have f:=G.c1;have Z:=H.c0;have Y:=H.c1;have J:=B.c0;have I:=B.c1;have R:=B.fr 0;have O:=B.fr 1;have L:=B.lt;replace B:=zh B;replace C:=zh C;clear hb F T S G H;go_wp2_with fail;refine (l.out _).mono ?_;rintro e A ⟨rfl,hb⟩;have D:=B.out.on hb;have N:=Z00 C.out hb;clear J I R O L;have J:=D.c0;have I:=D.c1;have R:=D.fr 0;have O:=D.fr 1;have L:=D.lt;replace N:=zh N;clear D hb B C g f Z Y;go_wp2_with fail;exact bodyPost_ret (v:=.tuple #[.agg #[int i64 (vN V),int i64 (vD V)],int i64 (vE V)]) (by simp [results,results225,go_sem,J,I]) rfl ⟨rfl,Z01 N.out (by omega) _ _⟩
 · have M:appV 6 a b c d=mulV a b c d:=rfl;rw [M];have U:=λW=>Znd a b c d W H1.out H2.out;generalize mulV a b c d=V at *
   have l:=zh U;clear U M;go_enter func225,ntmps225;go_wp2_with fail;generalize ((w.alloc (.cells #[int i64 a,int i64 b] 60)).alloc (.cells #[int i64 c,int i64 d] 60)).alloc (.cells #[int i64 0,int i64 0] 60)=X at *
   refine (S.out X).mono ?_;rintro e m ⟨rfl,hb⟩;have G:=F.out.1.on hb;have H:=F.out.2.1.on hb;have B:=F.out.2.2.on hb;have C:=Z00 T.out hb;have g:=G.c0;have f:=G.c1;have Z:=H.c0;have Y:=H.c1;have J:=B.c0;have I:=B.c1;have R:=B.fr 0;have O:=B.fr 1;have L:=B.lt;replace B:=zh B;replace C:=zh C;clear hb F T S G H;go_wp2_with fail;refine (l.out _).mono ?_;rintro e A ⟨rfl,hb⟩;have D:=B.out.on hb;have N:=Z00 C.out hb;clear J I R O L;have J:=D.c0;have I:=D.c1;have R:=D.fr 0;have O:=D.fr 1;have L:=D.lt;replace N:=zh N;clear D hb B C g f Z Y;go_wp2_with fail;exact bodyPost_ret (v:=.tuple #[.agg #[int i64 (vN V),int i64 (vD V)],int i64 (vE V)]) (by simp [results,results225,go_sem,J,I]) rfl ⟨rfl,Z01 N.out (by omega) _ _⟩
 · by_cases h0:c=0
   · have M:appV 7 a b c d=.no 22:=by show divV a b c d=_;unfold divV;rw [zp h0]
     rw [M];have d0:(c==0)=true:=by simpa using h0
     clear M h0;go_enter func225,ntmps225;go_wp2_with fail;generalize ((w.alloc (.cells #[int i64 a,int i64 b] 60)).alloc (.cells #[int i64 c,int i64 d] 60)).alloc (.cells #[int i64 0,int i64 0] 60)=X at *
     refine (S.out X).mono ?_;rintro e m ⟨rfl,hb⟩;have G:=F.out.1.on hb;have H:=F.out.2.1.on hb;have B:=F.out.2.2.on hb;have C:=Z00 T.out hb;have g:=G.c0;have f:=G.c1;have Z:=H.c0;have Y:=H.c1;have J:=B.c0;have I:=B.c1;have R:=B.fr 0;have O:=B.fr 1;have L:=B.lt;replace B:=zh B;replace C:=zh C;clear hb F T S G H;go_wp2_with fail;exact bodyPost_ret (v:=.tuple #[.agg #[int i64 0,int i64 0],int i64 22]) (by simp [results,results225,go_sem,J,I]) rfl ⟨rfl,Z01 C.out (by omega) _ _⟩
   · have M:appV 7 a b c d=Z10 (a*d) (b*c):=by show divV a b c d=_;unfold divV;rw [zf h0]
     rw [M];have d0:(c==0)=false:=by simpa using h0
     obtain ⟨⟨k1,k2⟩,⟨k3,k4⟩,k5⟩:=Zju H1.out H2.out h0;have U:=λW=>Z7c (a*d) (b*c) W k1 k2 k3 k4 k5;have q1:IntKind.i64.wrap (a*d)=a*d:=zi _ (by omega);have q2:IntKind.i64.wrap (b*c)=b*c:=zi _ (by omega);generalize Z10 (a*d) (b*c)=V at *
     have l:=zh U;clear U M h0 k1 k2 k3 k4 k5;go_enter func225,ntmps225;go_wp2_with fail;generalize ((w.alloc (.cells #[int i64 a,int i64 b] 60)).alloc (.cells #[int i64 c,int i64 d] 60)).alloc (.cells #[int i64 0,int i64 0] 60)=X at *
     refine (S.out X).mono ?_;rintro e m ⟨rfl,hb⟩;have G:=F.out.1.on hb;have H:=F.out.2.1.on hb;have B:=F.out.2.2.on hb;have C:=Z00 T.out hb;have g:=G.c0;have f:=G.c1;have Z:=H.c0;have Y:=H.c1;have J:=B.c0;have I:=B.c1;have R:=B.fr 0;have O:=B.fr 1;have L:=B.lt;replace B:=zh B;replace C:=zh C;clear hb F T S G H;go_wp2_with fail;refine (l.out _).mono ?_;rintro e A ⟨rfl,hb⟩;have D:=B.out.on hb;have N:=Z00 C.out hb;clear J I R O L;have J:=D.c0;have I:=D.c1;have R:=D.fr 0;have O:=D.fr 1;have L:=D.lt;replace N:=zh N;clear D hb B C g f Z Y;go_wp2_with fail;exact bodyPost_ret (v:=.tuple #[.agg #[int i64 (vN V),int i64 (vD V)],int i64 (vE V)]) (by simp [results,results225,go_sem,J,I]) rfl ⟨rfl,Z01 N.out (by omega) _ _⟩
 · have M:appV 8 a b c d=if j<0 then .ok a b else .ok c d:=by rw [<- ba.out];rfl
   by_cases h0:j<0
   · rw [M,zp h0];have d0:decide (j<0)=true:=by simpa using h0
     clear M h0;go_enter func225,ntmps225;go_wp2_with fail;generalize ((w.alloc (.cells #[int i64 a,int i64 b] 60)).alloc (.cells #[int i64 c,int i64 d] 60)).alloc (.cells #[int i64 0,int i64 0] 60)=X at *
     refine (S.out X).mono ?_;rintro e m ⟨rfl,hb⟩;have G:=F.out.1.on hb;have H:=F.out.2.1.on hb;have B:=F.out.2.2.on hb;have C:=Z00 T.out hb;have g:=G.c0;have f:=G.c1;have Z:=H.c0;have Y:=H.c1;have J:=B.c0;have I:=B.c1;have R:=B.fr 0;have O:=B.fr 1;have L:=B.lt;replace B:=zh B;replace C:=zh C;clear hb F T S G H;go_wp2_with fail;exact bodyPost_ret (v:=.tuple #[.agg #[int i64 a,int i64 b],int i64 0]) (by simp [results,results225,go_sem,J,I]) rfl ⟨rfl,Z01 C.out (by omega) _ _⟩
   · rw [M,zf h0];have d0:decide (j<0)=false:=by simpa using h0
     clear M h0;go_enter func225,ntmps225;go_wp2_with fail;generalize ((w.alloc (.cells #[int i64 a,int i64 b] 60)).alloc (.cells #[int i64 c,int i64 d] 60)).alloc (.cells #[int i64 0,int i64 0] 60)=X at *
     refine (S.out X).mono ?_;rintro e m ⟨rfl,hb⟩;have G:=F.out.1.on hb;have H:=F.out.2.1.on hb;have B:=F.out.2.2.on hb;have C:=Z00 T.out hb;have g:=G.c0;have f:=G.c1;have Z:=H.c0;have Y:=H.c1;have J:=B.c0;have I:=B.c1;have R:=B.fr 0;have O:=B.fr 1;have L:=B.lt;replace B:=zh B;replace C:=zh C;clear hb F T S G H;go_wp2_with fail;exact bodyPost_ret (v:=.tuple #[.agg #[int i64 c,int i64 d],int i64 0]) (by simp [results,results225,go_sem,J,I]) rfl ⟨rfl,Z01 C.out (by omega) _ _⟩
 · have M:appV 9 a b c d=if 0<j then .ok a b else .ok c d:=by rw [<- ba.out];rfl
   by_cases h0:0<j
   · rw [M,zp h0];have d0:decide (0<j)=true:=by simpa using h0
     clear M h0;go_enter func225,ntmps225;go_wp2_with fail;generalize ((w.alloc (.cells #[int i64 a,int i64 b] 60)).alloc (.cells #[int i64 c,int i64 d] 60)).alloc (.cells #[int i64 0,int i64 0] 60)=X at *
     refine (S.out X).mono ?_;rintro e m ⟨rfl,hb⟩;have G:=F.out.1.on hb;have H:=F.out.2.1.on hb;have B:=F.out.2.2.on hb;have C:=Z00 T.out hb;have g:=G.c0;have f:=G.c1;have Z:=H.c0;have Y:=H.c1;have J:=B.c0;have I:=B.c1;have R:=B.fr 0;have O:=B.fr 1;have L:=B.lt;replace B:=zh B;replace C:=zh C;clear hb F T S G H;go_wp2_with fail;exact bodyPost_ret (v:=.tuple #[.agg #[int i64 a,int i64 b],int i64 0]) (by simp [results,results225,go_sem,J,I]) rfl ⟨rfl,Z01 C.out (by omega) _ _⟩
   · rw [M,zf h0];have d0:decide (0<j)=false:=by simpa using h0
     clear M h0;go_enter func225,ntmps225;go_wp2_with fail;generalize ((w.alloc (.cells #[int i64 a,int i64 b] 60)).alloc (.cells #[int i64 c,int i64 d] 60)).alloc (.cells #[int i64 0,int i64 0] 60)=X at *
     refine (S.out X).mono ?_;rintro e m ⟨rfl,hb⟩;have G:=F.out.1.on hb;have H:=F.out.2.1.on hb;have B:=F.out.2.2.on hb;have C:=Z00 T.out hb;have g:=G.c0;have f:=G.c1;have Z:=H.c0;have Y:=H.c1;have J:=B.c0;have I:=B.c1;have R:=B.fr 0;have O:=B.fr 1;have L:=B.lt;replace B:=zh B;replace C:=zh C;clear hb F T S G H;go_wp2_with fail;exact bodyPost_ret (v:=.tuple #[.agg #[int i64 c,int i64 d],int i64 0]) (by simp [results,results225,go_sem,J,I]) rfl ⟨rfl,Z01 C.out (by omega) _ _⟩
 · obtain ⟨t,ht⟩:∃ t,decide (j<0)=t:=⟨_,rfl⟩
   have M:appV 11 a b c d=truV t:=by rw [<- ht,<- ba.out];rfl
   rw [M];have de:(j==0)=decide (j=0):=by rw [zA];simp
   clear de;have U:=λW=>Z41 t W;have q:=Zch t;unfold RetV;rw [q];generalize truV t=V at *
   have l:=zh U;clear U M q;go_enter func225,ntmps225;go_wp2_with fail;generalize ((w.alloc (.cells #[int i64 a,int i64 b] 60)).alloc (.cells #[int i64 c,int i64 d] 60)).alloc (.cells #[int i64 0,int i64 0] 60)=X at *
   refine (S.out X).mono ?_;rintro e m ⟨rfl,hb⟩;have G:=F.out.1.on hb;have H:=F.out.2.1.on hb;have B:=F.out.2.2.on hb;have C:=Z00 T.out hb;have g:=G.c0;have f:=G.c1;have Z:=H.c0;have Y:=H.c1;have J:=B.c0;have I:=B.c1;have R:=B.fr 0;have O:=B.fr 1;have L:=B.lt;replace B:=zh B;replace C:=zh C;clear hb F T S G H;go_wp2_with fail;refine (l.out _).mono ?_;rintro e A ⟨rfl,hb⟩;have D:=B.out.on hb;have N:=Z00 C.out hb;clear J I R O L;have J:=D.c0;have I:=D.c1;have R:=D.fr 0;have O:=D.fr 1;have L:=D.lt;replace N:=zh N;clear D hb B C g f Z Y;go_wp2_with fail;exact bodyPost_ret (v:=.tuple #[.agg #[int i64 (vN V),int i64 (vD V)],int i64 0]) (by simp [results,results225,go_sem,J,I]) rfl ⟨rfl,Z01 N.out (by omega) _ _⟩
 · obtain ⟨t,ht⟩:∃ t,decide (j=0)=t:=⟨_,rfl⟩
   have M:appV 12 a b c d=truV t:=by rw [<- ht,<- ba.out];rfl
   rw [M];have de:(j==0)=decide (j=0):=by rw [zA];simp
   rw [ht] at de;have U:=λW=>Z41 t W;have q:=Zch t;unfold RetV;rw [q];generalize truV t=V at *
   have l:=zh U;clear U M q;go_enter func225,ntmps225;go_wp2_with fail;generalize ((w.alloc (.cells #[int i64 a,int i64 b] 60)).alloc (.cells #[int i64 c,int i64 d] 60)).alloc (.cells #[int i64 0,int i64 0] 60)=X at *
   refine (S.out X).mono ?_;rintro e m ⟨rfl,hb⟩;have G:=F.out.1.on hb;have H:=F.out.2.1.on hb;have B:=F.out.2.2.on hb;have C:=Z00 T.out hb;have g:=G.c0;have f:=G.c1;have Z:=H.c0;have Y:=H.c1;have J:=B.c0;have I:=B.c1;have R:=B.fr 0;have O:=B.fr 1;have L:=B.lt;replace B:=zh B;replace C:=zh C;clear hb F T S G H;go_wp2_with fail;refine (l.out _).mono ?_;rintro e A ⟨rfl,hb⟩;have D:=B.out.on hb;have N:=Z00 C.out hb;clear J I R O L;have J:=D.c0;have I:=D.c1;have R:=D.fr 0;have O:=D.fr 1;have L:=D.lt;replace N:=zh N;clear D hb B C g f Z Y;go_wp2_with fail;exact bodyPost_ret (v:=.tuple #[.agg #[int i64 (vN V),int i64 (vD V)],int i64 0]) (by simp [results,results225,go_sem,J,I]) rfl ⟨rfl,Z01 N.out (by omega) _ _⟩
 · have M:appV 13 a b c d=truV (decide (a=1)&&decide (c=1)):=rfl;rw [M];have da:(a==1)=decide (a=1):=by rw [zA];simp
   have dc:(c==1)=decide (c=1):=by rw [zA];simp
   generalize decide (a=1)=r at *
   generalize decide (c=1)=y at *
   have U:=λW=>Z41 (r&&y) W;have q:=Zch (r&&y);unfold RetV;rw [q];clear M q;cases r <;> cases y
   all_goals
    simp only [Bool.and_self,Bool.and_true,Bool.and_false] at U |-
    generalize truV _=V at *
    have l:=zh U;clear U;go_enter func225,ntmps225;go_wp2_with fail;generalize ((w.alloc (.cells #[int i64 a,int i64 b] 60)).alloc (.cells #[int i64 c,int i64 d] 60)).alloc (.cells #[int i64 0,int i64 0] 60)=X at *
    refine (S.out X).mono ?_;rintro e m ⟨rfl,hb⟩;have G:=F.out.1.on hb;have H:=F.out.2.1.on hb;have B:=F.out.2.2.on hb;have C:=Z00 T.out hb;have g:=G.c0;have f:=G.c1;have Z:=H.c0;have Y:=H.c1;have J:=B.c0;have I:=B.c1;have R:=B.fr 0;have O:=B.fr 1;have L:=B.lt;replace B:=zh B;replace C:=zh C;clear hb F T S G H;go_wp2_with fail;refine (l.out _).mono ?_;rintro e A ⟨rfl,hb⟩;have D:=B.out.on hb;have N:=Z00 C.out hb;clear J I R O L;have J:=D.c0;have I:=D.c1;have R:=D.fr 0;have O:=D.fr 1;have L:=D.lt;replace N:=zh N;clear D hb B C g f Z Y;go_wp2_with fail;exact bodyPost_ret (v:=.tuple #[.agg #[int i64 (vN V),int i64 (vD V)],int i64 0]) (by simp [results,results225,go_sem,J,I]) rfl ⟨rfl,Z01 N.out (by omega) _ _⟩
 · have M:appV 14 a b c d=truV (decide (a=1) || decide (c=1)):=rfl;rw [M];have da:(a==1)=decide (a=1):=by rw [zA];simp
   have dc:(c==1)=decide (c=1):=by rw [zA];simp
   generalize decide (a=1)=r at *
   generalize decide (c=1)=y at *
   have U:=λW=>Z41 (r || y) W;have q:=Zch (r || y);unfold RetV;rw [q];clear M q;cases r <;> cases y
   all_goals
    simp only [Bool.or_self,Bool.or_true,Bool.or_false] at U |-
    generalize truV _=V at *
    have l:=zh U;clear U;go_enter func225,ntmps225;go_wp2_with fail;generalize ((w.alloc (.cells #[int i64 a,int i64 b] 60)).alloc (.cells #[int i64 c,int i64 d] 60)).alloc (.cells #[int i64 0,int i64 0] 60)=X at *
    refine (S.out X).mono ?_;rintro e m ⟨rfl,hb⟩;have G:=F.out.1.on hb;have H:=F.out.2.1.on hb;have B:=F.out.2.2.on hb;have C:=Z00 T.out hb;have g:=G.c0;have f:=G.c1;have Z:=H.c0;have Y:=H.c1;have J:=B.c0;have I:=B.c1;have R:=B.fr 0;have O:=B.fr 1;have L:=B.lt;replace B:=zh B;replace C:=zh C;clear hb F T S G H;go_wp2_with fail;refine (l.out _).mono ?_;rintro e A ⟨rfl,hb⟩;have D:=B.out.on hb;have N:=Z00 C.out hb;clear J I R O L;have J:=D.c0;have I:=D.c1;have R:=D.fr 0;have O:=D.fr 1;have L:=D.lt;replace N:=zh N;clear D hb B C g f Z Y;go_wp2_with fail;exact bodyPost_ret (v:=.tuple #[.agg #[int i64 (vN V),int i64 (vD V)],int i64 0]) (by simp [results,results225,go_sem,J,I]) rfl ⟨rfl,Z01 N.out (by omega) _ _⟩
end
end Go.Proofs.YtnepkoepbapgeaaGreatDoor
