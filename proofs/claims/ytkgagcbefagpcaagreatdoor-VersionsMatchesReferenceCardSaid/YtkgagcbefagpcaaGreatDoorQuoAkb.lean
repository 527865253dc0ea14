import Derived.Test.YtkgagcbefagpcaaGreatDoorQuoDig
import Derived.Test.YtkgagcbefagpcaaGreatDoorQuoR12c
namespace Go.Proofs.YtkgagcbefagpcaaGreatDoor
open _root_.Go.Proofs.Tryz
open Value (int slice)
open IntKind (i64)
set_option maxHeartbeats 16000000
set_option maxRecDepth 100000
section
open Go.RowKit Lx Px Qx
theorem Zcm (n d:Int)(C : -4000000000000000000<=n)(B:n<=4000000000000000000)(D:1<=d)(J:d<=4000000000000000000) : ∃ (g:Nat) (na p q pa:Int),(∀ W:World,Calls prog 101 #[vI n] W λe w'=>e=.returned (vI na)/\W=w')/\(∀ W:World,Calls prog 100 #[vI na,vI d] W λe w'=>e=.returned (vI (g:Nat))/\W=w')/\0<g/\n.tdiv (g:Int)=p/\d.tdiv (g:Int)=q /\ IntKind.i64.wrap p=p/\IntKind.i64.wrap q=q/\(∀ W:World,Calls prog 101 #[vI p] W λe w'=>e=.returned (vI pa)/\W=w') /\ ((1000000<q->ratV n d=.no 3)/\(1000000000<pa->ratV n d=.no 3)/\(¬ 1000000<q->¬ 1000000000<pa->ratV n d=.ok p q)):=by
 obtain ⟨F,I,L,M⟩:=Z5n n d C B D J;obtain ⟨c,G⟩:=zE2 (show 0<=d by omega);have H:0<Nat.gcd n.natAbs d.natAbs:=Nat.gcd_pos_of_pos_right _ (by omega);refine ⟨Nat.gcd n.natAbs d.natAbs,(n.natAbs:Nat),redN n d,redD n d,((redN n d).natAbs:Nat),λW=>Zgm n W C B,λW=>?_,H,rfl,rfl,zi _ (by omega),zi _ (by omega),λW=>Zgm _ W F I,λh=>?_,λh=>?_,λB D=>?_⟩
 . have:=Zq6 n.natAbs c W (by omega) (by omega);rw [G,Int.natAbs_natCast];exact this
 . unfold ratV;rw [zp (.inr h)]
 . unfold ratV;rw [zp (.inl (by omega))]
 . unfold ratV;rw [zf (by omega)]
theorem Z5h (n d:Int)(w:World)(h0 : -4000000000000000000<=n)(h1:n<=4000000000000000000)(h2 : -4000000000000000000<=d)(h3:d<=4000000000000000000)(hd:d≠0) : Calls prog 234 #[vI n,vI d] w (RetV (Z14 n d) w):=by
 have X:=zh ((zr w.heap.size w).alloc (zn _) (.cells #[vI 0,vI 0] 76));have O:=zh (RatB.new w 0 0);by_cases hdn:d<0
 . have B:Z14 n d=ratV (-n) (-d):=zp hdn;have dd:decide (d<0)=true:=by simpa using hdn
   have wn:IntKind.i64.wrap (-n) = -n:=zi _ (by omega);have wd:IntKind.i64.wrap (-d) = -d:=zi _ (by omega);obtain ⟨g,na,p,q,pa,R,S,bc,f,Y,Z,m,U,M,J,H⟩:=Zcm (-n) (-d) (by omega) (by omega) (by omega) (by omega);rw [<- B] at M J H;have y:¬ g=0:=by omega
   clear B;generalize Z14 n d=V at *
   obtain ⟨T,HA,j,ba,r,HR3⟩:=zh6 S U R M J H;clear S U R M J H;go_enter func234,ntmps234;go_wp2_with fail;generalize w.alloc (.cells #[vI 0,vI 0] 76)=D at *
   refine (j.o _).mono ?_;rintro e w' ⟨rfl,rfl⟩;go_wp2_with fail;refine (T.o _).mono ?_;rintro e w' ⟨rfl,rfl⟩;go_wp2_with fail;go_region;clear f Y Z m y T;have N:=((zr D.heap.size D).alloc (zn _) (.cells #[vI p,vI q] 76)).drew;have G:RatB (D.alloc (.cells #[vI p,vI q] 76)).drew D.heap.size p q:=za D (.cells #[vI p,vI q] 76);have C:=O.o.on N;have F:=Z00 X.o N;have bd:=O.o.lt;clear N X O;generalize (D.alloc (.cells #[vI p,vI q] 76)).drew=W3 at *
   generalize D.heap.size=l at *
   have bb:l≠w.heap.size:=by omega
   have a0:=G.c0;have a1:=G.c1;have L:=C.c0;have I:=C.c1;have f0:=C.fr 0;have f1:=C.fr 1;have be:=C.lt;replace F:=zh F;replace G:=zh G;replace C:=zh C;by_cases c1:1000000<q
   . have d1:decide ((1000000:Int)<q)=true:=by simpa using c1
     have B:=ba.o c1;subst B;go_wp2_with fail;refine bodyPost_ret (v:=.tuple #[.agg #[vI 0,vI 0],vI 3]) (by simp [results,results234,go_sem,L,I]) rfl ⟨rfl,?_⟩
     repeat (first | exact F.o | (refine Below.setCell ?_ (by first | exact zn _ | exact Nat.le_add_right _ _ | (show _<=_;omega)) _) | (refine Below.alloc ?_ (by first | omega | (simp;omega) | (simp only [World.setCell,Array.size_modify];omega)) _))
   . have d1:decide ((1000000:Int)<q)=false:=by simpa using c1
     go_wp2_with fail;refine (HA.o _).mono ?_;rintro e w' ⟨rfl,rfl⟩;by_cases c2:1000000000<pa
     . have A:decide ((1000000000:Int)<pa)=true:=by simpa using c2
       have B:=r.o c2;subst B;go_wp2_with fail;refine bodyPost_ret (v:=.tuple #[.agg #[vI 0,vI 0],vI 3]) (by simp [results,results234,go_sem,L,I]) rfl ⟨rfl,?_⟩
       repeat (first | exact F.o | (refine Below.setCell ?_ (by first | exact zn _ | exact Nat.le_add_right _ _ | (show _<=_;omega)) _) | (refine Below.alloc ?_ (by first | omega | (simp;omega) | (simp only [World.setCell,Array.size_modify];omega)) _))
     . have A:decide ((1000000000:Int)<pa)=false:=by simpa using c2
       have B:=HR3.o (by omega) (by omega);subst B;go_wp2_with fail;refine bodyPost_ret (v:=.tuple #[.agg #[vI p,vI q],vI 0]) (by simp [results,results234,go_sem,L,I]) rfl ⟨rfl,?_⟩
       repeat (first | exact F.o | (refine Below.setCell ?_ (by first | exact zn _ | exact Nat.le_add_right _ _ | (show _<=_;omega)) _) | (refine Below.alloc ?_ (by first | omega | (simp;omega) | (simp only [World.setCell,Array.size_modify];omega)) _))
 . have B:Z14 n d=ratV n d:=zf hdn;have dd:decide (d<0)=false:=by simpa using hdn
   obtain ⟨g,na,p,q,pa,R,S,bc,f,Y,Z,m,U,M,J,H⟩:=Zcm n d (by omega) (by omega) (by omega) (by omega);rw [<- B] at M J H;have y:¬ g=0:=by omega
   clear B;generalize Z14 n d=V at *
   obtain ⟨T,HA,j,ba,r,HR3⟩:=zh6 S U R M J H;clear S U R M J H;go_enter func234,ntmps234;go_wp2_with fail;generalize w.alloc (.cells #[vI 0,vI 0] 76)=D at *
   refine (j.o _).mono ?_;rintro e w' ⟨rfl,rfl⟩;go_wp2_with fail;refine (T.o _).mono ?_;rintro e w' ⟨rfl,rfl⟩;go_wp2_with fail;go_region;clear f Y Z m y T;have N:=((zr D.heap.size D).alloc (zn _) (.cells #[vI p,vI q] 76)).drew;have G:RatB (D.alloc (.cells #[vI p,vI q] 76)).drew D.heap.size p q:=za D (.cells #[vI p,vI q] 76);have C:=O.o.on N;have F:=Z00 X.o N;have bd:=O.o.lt;clear N X O;generalize (D.alloc (.cells #[vI p,vI q] 76)).drew=W3 at *
   generalize D.heap.size=l at *
   have bb:l≠w.heap.size:=by omega
   have a0:=G.c0;have a1:=G.c1;have L:=C.c0;have I:=C.c1;have f0:=C.fr 0;have f1:=C.fr 1;have be:=C.lt;replace F:=zh F;replace G:=zh G;replace C:=zh C;by_cases c1:1000000<q
   . have d1:decide ((1000000:Int)<q)=true:=by simpa using c1
     have B:=ba.o c1;subst B;go_wp2_with fail;refine bodyPost_ret (v:=.tuple #[.agg #[vI 0,vI 0],vI 3]) (by simp [results,results234,go_sem,L,I]) rfl ⟨rfl,?_⟩
     repeat (first | exact F.o | (refine Below.setCell ?_ (by first | exact zn _ | exact Nat.le_add_right _ _ | (show _<=_;omega)) _) | (refine Below.alloc ?_ (by first | omega | (simp;omega) | (simp only [World.setCell,Array.size_modify];omega)) _))
   . have d1:decide ((1000000:Int)<q)=false:=by simpa using c1
     go_wp2_with fail;refine (HA.o _).mono ?_;rintro e w' ⟨rfl,rfl⟩;by_cases c2:1000000000<pa
     . have A:decide ((1000000000:Int)<pa)=true:=by simpa using c2
       have B:=r.o c2;subst B;go_wp2_with fail;refine bodyPost_ret (v:=.tuple #[.agg #[vI 0,vI 0],vI 3]) (by simp [results,results234,go_sem,L,I]) rfl ⟨rfl,?_⟩
       repeat (first | exact F.o | (refine Below.setCell ?_ (by first | exact zn _ | exact Nat.le_add_right _ _ | (show _<=_;omega)) _) | (refine Below.alloc ?_ (by first | omega | (simp;omega) | (simp only [World.setCell,Array.size_modify];omega)) _))
     . have A:decide ((1000000000:Int)<pa)=false:=by simpa using c2
       have B:=HR3.o (by omega) (by omega);subst B;go_wp2_with fail;refine bodyPost_ret (v:=.tuple #[.agg #[vI p,vI q],vI 0]) (by simp [results,results234,go_sem,L,I]) rfl ⟨rfl,?_⟩
       repeat (first | exact F.o | (refine Below.setCell ?_ (by first | exact zn _ | exact Nat.le_add_right _ _ | (show _<=_;omega)) _) | (refine Below.alloc ?_ (by first | omega | (simp;omega) | (simp only [World.setCell,Array.size_modify];omega)) _))
theorem Z7g (n d:Int)(w:World)(g : -1000000000000000<=n)(j:n<=1000000000000000)(N : -1000000000000000<=d)(y:d<=1000000000000000)(L:d≠0) : Calls prog 184 #[vI n,vI d] w (RetV (Z14 n d) w):=by
 have I:=λW=>Z5h n d W (by omega) (by omega) (by omega) (by omega) L;generalize Z14 n d=V at *
 have T:(d==0)=false:=by simpa using L
 have A:decide (n < -1000000000000000)=false:=by simp;omega
 have m:decide ((1000000000000000:Int)<n)=false:=by simp;omega
 have f:decide (d < -1000000000000000)=false:=by simp;omega
 have U:decide ((1000000000000000:Int)<d)=false:=by simp;omega
 have M:=zh ((zr w.heap.size w).alloc (zn _) (.cells #[vI 0,vI 0] 76));have G:=zh (RatB.new w 0 0);have J:=zh I;clear I;go_enter func184,ntmps184;go_wp2_with fail;generalize w.alloc (.cells #[vI 0,vI 0] 76)=W1 at *
 refine (J.o _).mono ?_;rintro e C ⟨rfl,hb⟩;have H:=Z00 hb ((zr C.heap.size C).alloc (zn _) (.cells #[vI (vN V),vI (vD V)] 76));have D:=RatB.new C (vN V) (vD V);have B:=G.o.on H;have F:=Z00 M.o H;have hlt:w.heap.size<C.heap.size:=by have N:=G.o.lt;have:=hb.size;omega
 replace D:=zh D;replace B:=zh B;replace F:=zh F;clear H hb M G J;go_upto_region 5 with fail;generalize C.alloc (.cells #[vI (vN V),vI (vD V)] 76)=r at *
 generalize C.heap.size=O at *
 have Y:O≠w.heap.size:=by omega
 have l:=D.o.c0;have X:=D.o.c1;have S:=B.o.c0;have R:=B.o.c1;have q:=B.o.fr 0;have Z:=B.o.fr 1;go_wp2_with fail;refine bodyPost_ret (v:=.tuple #[.agg #[vI (vN V),vI (vD V)],vI (vE V)]) (by simp [results,results184,go_sem,S,R]) rfl ⟨rfl,?_⟩;exact Z01 F.o (zn _) _ _
theorem Z6m (a b c d:Int)(w:World)(F:ratB a b=true)(B:ratB c d=true) : Calls prog 265 #[.agg #[vI a,vI b],.agg #[vI c,vI d]] w λe w'=>e=.returned (.bool true)/\Below w.heap.size w w':=by
 have G:=λW=>Z1r a b W;have C:=λW=>Z1r c d W;rw [F] at G;rw [B] at C;have M:Below w.heap.size w ((w.alloc (.cells #[vI a,vI b] 76)).alloc (.cells #[vI c,vI d] 76)):=((zr _ _).alloc (zn _) _).alloc (by simp) _;have N:RatB _ w.heap.size a b/\RatB _ (w.heap.size+1) c d:=Z0F w (.cells #[vI a,vI b] 76) (.cells #[vI c,vI d] 76);obtain ⟨H,J,O,L,Z,X⟩:=zh6 G C M N F B;clear G C M N F B;go_enter func265,ntmps265;go_wp2_with fail;generalize (w.alloc (.cells #[vI a,vI b] 76)).alloc (.cells #[vI c,vI d] 76)=U at *
 refine (H.o U).mono ?_;rintro e Y ⟨rfl,hb⟩;have D:=L.o.2.on hb;have I:=zh (Z00 O.o hb);have T:=D.c0;have S:=D.c1;clear hb L O H D;go_wp2_with fail;refine (J.o _).mono ?_;rintro e V ⟨rfl,hb⟩;have R:=zh (Z00 I.o hb);clear hb T S I J;go_wp2_with fail;go_ret;exact ⟨rfl,R.o⟩
theorem Zpb (a b c d:Int)(w:World)(G:ratB a b=true)(D:ratB c d=true) : Calls prog 236 #[.agg #[vI a,vI b],.agg #[vI c,vI d]] w (RetV (addV a b c d) w):=by
 obtain ⟨⟨A,k2⟩,⟨r,k4⟩,⟨y,k6⟩,⟨k7,g⟩⟩:=Z16 G D;have U:Below w.heap.size w (((w.alloc (.cells #[vI a,vI b] 76)).alloc (.cells #[vI c,vI d] 76)).alloc (.cells #[vI 0,vI 0] 76)):=(((zr _ _).alloc (zn _) _).alloc (by simp) _).alloc (by simp;omega) _;have X:=Z0h w a b c d 0 0;have Y:=λW=>Z6m a b c d W G D;have M:=λW=>Z5h (a*d+c*b) (b*d) W (by omega) (by omega) (by omega) (by omega) (by omega);have T:Z14 (a*d+c*b) (b*d)=addV a b c d:=by unfold Z14 addV;rw [zf (by omega)]
 rw [T] at M;have q0:IntKind.i64.wrap (a*d)=a*d:=zi _ (by omega);have q1:IntKind.i64.wrap (c*b)=c*b:=zi _ (by omega);have q2:IntKind.i64.wrap (a*d+c*b)=a*d+c*b:=zi _ (by omega);have q3:IntKind.i64.wrap (b*d)=b*d:=zi _ (by omega);clear T;generalize addV a b c d=V at *
 obtain ⟨S,Z,H,H1,H2,f⟩:=zh6 Y U X G D M;clear Y U X G D M A k2 r k4 y k6 k7 g;go_enter func236,ntmps236;go_wp2_with fail;generalize ((w.alloc (.cells #[vI a,vI b] 76)).alloc (.cells #[vI c,vI d] 76)).alloc (.cells #[vI 0,vI 0] 76)=W1 at *
 refine (S.o W1).mono ?_;rintro e w2 ⟨rfl,hb⟩;have N:=H.o.1.on hb;have L:=H.o.2.1.on hb;have J:=zh (H.o.2.2.on hb);have R:=zh (Z00 Z.o hb);have u0:=N.c0;have u1:=N.c1;have u2:=L.c0;have m:=L.c1;clear hb H Z S N L;go_wp2_with fail;refine (f.o _).mono ?_;rintro e B ⟨rfl,hb⟩;have O:=Z00 hb ((zr B.heap.size B).alloc (zn _) (.cells #[vI (vN V),vI (vD V)] 76));have F:=RatB.new B (vN V) (vD V);have C:=J.o.on O;have I:=Z00 R.o O;have bb:w.heap.size+2<B.heap.size:=by have D:=J.o.lt;have:=hb.size;omega
 replace F:=zh F;replace C:=zh C;replace I:=zh I;clear O hb J R f u0 u1 u2 m;go_upto_region 4 with fail;generalize B.alloc (.cells #[vI (vN V),vI (vD V)] 76)=W3 at *
 generalize B.heap.size=j at *
 have ba:j≠w.heap.size+2:=by omega
 have a0:=F.o.c0;have a1:=F.o.c1;have q:=C.o.c0;have l:=C.o.c1;have f0:=C.o.fr 0;have f1:=C.o.fr 1;go_wp2_with fail;refine bodyPost_ret (v:=.tuple #[.agg #[vI (vN V),vI (vD V)],vI (vE V)]) (by simp [results,results236,go_sem,q,l]) rfl ⟨rfl,?_⟩;exact Z01 I.o (by omega) _ _
theorem Zpc (a b c d:Int)(w:World)(G:ratB a b=true)(D:ratB c d=true) : Calls prog 237 #[.agg #[vI a,vI b],.agg #[vI c,vI d]] w (RetV (subV a b c d) w):=by
 obtain ⟨⟨A,k2⟩,⟨r,k4⟩,⟨y,k6⟩,⟨k7,g⟩⟩:=Z16 G D;have U:Below w.heap.size w (((w.alloc (.cells #[vI a,vI b] 76)).alloc (.cells #[vI c,vI d] 76)).alloc (.cells #[vI 0,vI 0] 76)):=(((zr _ _).alloc (zn _) _).alloc (by simp) _).alloc (by simp;omega) _;have X:=Z0h w a b c d 0 0;have Y:=λW=>Z6m a b c d W G D;have M:=λW=>Z5h (a*d - c*b) (b*d) W (by omega) (by omega) (by omega) (by omega) (by omega);have T:Z14 (a*d - c*b) (b*d)=subV a b c d:=by unfold Z14 subV;rw [zf (by omega)]
 rw [T] at M;have q0:IntKind.i64.wrap (a*d)=a*d:=zi _ (by omega);have q1:IntKind.i64.wrap (c*b)=c*b:=zi _ (by omega);have q2:IntKind.i64.wrap (a*d - c*b)=a*d - c*b:=zi _ (by omega);have q3:IntKind.i64.wrap (b*d)=b*d:=zi _ (by omega);clear T;generalize subV a b c d=V at *
 obtain ⟨S,Z,H,H1,H2,f⟩:=zh6 Y U X G D M;clear Y U X G D M A k2 r k4 y k6 k7 g;go_enter func237,ntmps237;go_wp2_with fail;generalize ((w.alloc (.cells #[vI a,vI b] 76)).alloc (.cells #[vI c,vI d] 76)).alloc (.cells #[vI 0,vI 0] 76)=W1 at *
 refine (S.o W1).mono ?_;rintro e w2 ⟨rfl,hb⟩;have N:=H.o.1.on hb;have L:=H.o.2.1.on hb;have J:=zh (H.o.2.2.on hb);have R:=zh (Z00 Z.o hb);have u0:=N.c0;have u1:=N.c1;have u2:=L.c0;have m:=L.c1;clear hb H Z S N L;go_wp2_with fail;refine (f.o _).mono ?_;rintro e B ⟨rfl,hb⟩;have O:=Z00 hb ((zr B.heap.size B).alloc (zn _) (.cells #[vI (vN V),vI (vD V)] 76));have F:=RatB.new B (vN V) (vD V);have C:=J.o.on O;have I:=Z00 R.o O;have bb:w.heap.size+2<B.heap.size:=by have D:=J.o.lt;have:=hb.size;omega
 replace F:=zh F;replace C:=zh C;replace I:=zh I;clear O hb J R f u0 u1 u2 m;go_upto_region 4 with fail;generalize B.alloc (.cells #[vI (vN V),vI (vD V)] 76)=W3 at *
 generalize B.heap.size=j at *
 have ba:j≠w.heap.size+2:=by omega
 have a0:=F.o.c0;have a1:=F.o.c1;have q:=C.o.c0;have l:=C.o.c1;have f0:=C.o.fr 0;have f1:=C.o.fr 1;go_wp2_with fail;refine bodyPost_ret (v:=.tuple #[.agg #[vI (vN V),vI (vD V)],vI (vE V)]) (by simp [results,results237,go_sem,q,l]) rfl ⟨rfl,?_⟩;exact Z01 I.o (by omega) _ _
theorem Zpd (a b c d:Int)(w:World)(G:ratB a b=true)(D:ratB c d=true) : Calls prog 238 #[.agg #[vI a,vI b],.agg #[vI c,vI d]] w (RetV (mulV a b c d) w):=by
 obtain ⟨⟨A,k2⟩,⟨r,k4⟩,⟨y,k6⟩,⟨k7,g⟩⟩:=Z16 G D;have U:Below w.heap.size w (((w.alloc (.cells #[vI a,vI b] 76)).alloc (.cells #[vI c,vI d] 76)).alloc (.cells #[vI 0,vI 0] 76)):=(((zr _ _).alloc (zn _) _).alloc (by simp) _).alloc (by simp;omega) _;have X:=Z0h w a b c d 0 0;have Y:=λW=>Z6m a b c d W G D;have M:=λW=>Z5h (a*c) (b*d) W (by omega) (by omega) (by omega) (by omega) (by omega);have T:Z14 (a*c) (b*d)=mulV a b c d:=by unfold Z14 mulV;rw [zf (by omega)]
 rw [T] at M;have q0:IntKind.i64.wrap (a*c)=a*c:=zi _ (by omega);have q1:IntKind.i64.wrap (b*d)=b*d:=zi _ (by omega);clear T;generalize mulV a b c d=V at *
 obtain ⟨S,Z,H,H1,H2,f⟩:=zh6 Y U X G D M;clear Y U X G D M A k2 r k4 y k6 k7 g;go_enter func238,ntmps238;go_wp2_with fail;generalize ((w.alloc (.cells #[vI a,vI b] 76)).alloc (.cells #[vI c,vI d] 76)).alloc (.cells #[vI 0,vI 0] 76)=W1 at *
 refine (S.o W1).mono ?_;rintro e w2 ⟨rfl,hb⟩;have N:=H.o.1.on hb;have L:=H.o.2.1.on hb;have J:=zh (H.o.2.2.on hb);have R:=zh (Z00 Z.o hb);have u0:=N.c0;have u1:=N.c1;have u2:=L.c0;have m:=L.c1;clear hb H Z S N L;go_wp2_with fail;refine (f.o _).mono ?_;rintro e B ⟨rfl,hb⟩;have O:=Z00 hb ((zr B.heap.size B).alloc (zn _) (.cells #[vI (vN V),vI (vD V)] 76));have F:=RatB.new B (vN V) (vD V);have C:=J.o.on O;have I:=Z00 R.o O;have bb:w.heap.size+2<B.heap.size:=by have D:=J.o.lt;have:=hb.size;omega
 replace F:=zh F;replace C:=zh C;replace I:=zh I;clear O hb J R f u0 u1 u2 m;go_upto_region 4 with fail;generalize B.alloc (.cells #[vI (vN V),vI (vD V)] 76)=W3 at *
 generalize B.heap.size=j at *
 have ba:j≠w.heap.size+2:=by omega
 have a0:=F.o.c0;have a1:=F.o.c1;have q:=C.o.c0;have l:=C.o.c1;have f0:=C.o.fr 0;have f1:=C.o.fr 1;go_wp2_with fail;refine bodyPost_ret (v:=.tuple #[.agg #[vI (vN V),vI (vD V)],vI (vE V)]) (by simp [results,results238,go_sem,q,l]) rfl ⟨rfl,?_⟩;exact Z01 I.o (by omega) _ _
theorem Zk4 (a b c d:Int)(w:World)(D:ratB a b=true)(C:ratB c d=true) : Calls prog 235 #[.agg #[vI a,vI b],.agg #[vI c,vI d]] w λe w'=>e=.returned (.tuple #[vI (cmpI a b c d),vI 0])/\Below w.heap.size w w':=by
 obtain ⟨⟨y,k2⟩,⟨r,k4⟩,_,_⟩:=Z16 D C;have S:=λW=>Z6m a b c d W D C;have N:Below w.heap.size w ((w.alloc (.cells #[vI a,vI b] 76)).alloc (.cells #[vI c,vI d] 76)):=((zr _ _).alloc (zn _) _).alloc (by simp) _;have O:RatB _ w.heap.size a b/\RatB _ (w.heap.size+1) c d:=Z0F w (.cells #[vI a,vI b] 76) (.cells #[vI c,vI d] 76);have L:cmpI a b c d=if a*d<c*b then -1 else if c*b<a*d then 1 else 0:=rfl;obtain ⟨R,V⟩:∃ R,cmpI a b c d=R:=⟨_,rfl⟩
 rw [V] at L |-
 have g:IntKind.i64.wrap (a*d)=a*d:=zi _ (by omega);have A:IntKind.i64.wrap (c*b)=c*b:=zi _ (by omega);obtain ⟨M,U,I,G,m,j⟩:=zh6 S N O L D C;clear S N O L D C V;go_enter func235,ntmps235;go_wp2_with fail;generalize (w.alloc (.cells #[vI a,vI b] 76)).alloc (.cells #[vI c,vI d] 76)=f at *
 refine (M.o f).mono ?_;rintro e l ⟨rfl,hb⟩;have J:=I.o.1.on hb;have H:=I.o.2.on hb;have F:=zh (Z00 U.o hb);have u0:=J.c0;have u1:=J.c1;have u2:=H.c0;have q:=H.c1;clear hb I U M J H;by_cases hlt:a*d<c*b
 . have Z:decide (a*d<c*b)=true:=by simpa using hlt
   have B:R = -1:=by rw [G.o,zp hlt]
   subst B;have T:=zh hlt;clear hlt;go_wp2_with fail;go_ret2;exact ⟨rfl,F.o⟩
 . have Z:decide (a*d<c*b)=false:=by simpa using hlt
   by_cases hgt:c*b<a*d
   . have Y:decide (c*b<a*d)=true:=by simpa using hgt
     have B:R=1:=by rw [G.o,zf hlt,zp hgt]
     subst B;have T:=zh hlt;have X:=zh hgt;clear hlt hgt;go_wp2_with fail;go_ret2;exact ⟨rfl,F.o⟩
   . have Y:decide (c*b<a*d)=false:=by simpa using hgt
     have B:R=0:=by rw [G.o,zf hlt,zf hgt]
     subst B;have T:=zh hlt;have X:=zh hgt;clear hlt hgt;go_wp2_with fail;go_ret2;exact ⟨rfl,F.o⟩
end
section
open Go.RowKit Lx Px Qx
theorem Z43 (b:Bool)(w:World):Calls prog 185 #[.bool b] w λe w'=>e=.returned (.agg #[vI (vN (truV b)),vI (vD (truV b))])/\Below w.heap.size w w':=by
 have F:Below w.heap.size w (w.alloc (.cells #[vI 0,vI 0] 76)):=(zr _ _).alloc (zn _) _;have G:=zh F;have B:=zh (RatB.new w 0 0);clear F;cases b
 . go_enter func185,ntmps185;go_upto_region 1 with fail;generalize w.alloc (.cells #[vI 0,vI 0] 76)=L at *
   have D:=B.o.c0;have C:=B.o.c1;have I:=B.o.fr 0;have H:=B.o.fr 1;have J:=B.o.lt;go_wp2_with fail;exact bodyPost_ret (v:=.agg #[vI 0,vI 1]) (by simp [results,results185,go_sem,D,C]) rfl ⟨rfl,Z01 G.o (zn _) _ _⟩
 . go_enter func185,ntmps185;go_upto_region 1 with fail;generalize w.alloc (.cells #[vI 0,vI 0] 76)=L at *
   have D:=B.o.c0;have C:=B.o.c1;have I:=B.o.fr 0;have H:=B.o.fr 1;have J:=B.o.lt;go_wp2_with fail;exact bodyPost_ret (v:=.agg #[vI 1,vI 1]) (by simp [results,results185,go_sem,D,C]) rfl ⟨rfl,Z01 G.o (zn _) _ _⟩
theorem Zcn (b:Bool):vE (truV b)=0:=by cases b <;> rfl
theorem Zk5 {a b c d:Int}(C:ratB a b=true)(D:ratB c d=true)(h:c≠0):(-1000000000000000<=a*d/\a*d<=1000000000000000)/\(-1000000000000000<=b*c/\b*c<=1000000000000000)/\b*c≠0:=by
 obtain ⟨F,B,_,_⟩:=Z16 C D;obtain ⟨G,_⟩:=Z11 C;rw [Int.mul_comm] at B;exact ⟨F,B,Int.mul_ne_zero (by omega) h⟩
theorem Zhp (op a b c d:Int)(w:World)(h1:ratB a b=true)(h2:ratB c d=true)(bd:op=4\/op=5\/op=6\/op=7\/op=8\/op=9\/op=11\/op=12\/op=13\/op=14) : Calls prog 186 #[vI op,.agg #[vI a,vI b],.agg #[vI c,vI d]] w (RetV (appV op a b c d) w):=by
 have b1:Below w.heap.size w (((w.alloc (.cells #[vI a,vI b] 76)).alloc (.cells #[vI c,vI d] 76)).alloc (.cells #[vI 0,vI 0] 76)):=(((zr _ _).alloc (zn _) _).alloc (by simp) _).alloc (by simp;omega) _;have x1:=Z0h w a b c d 0 0;have bc:=λW=>Zk4 a b c d W h1 h2;obtain ⟨j,bb⟩:∃ j,cmpI a b c d=j:=⟨_,rfl⟩
 rw [bb] at bc;obtain ⟨T,F,S,ba,H1,H2⟩:=zh6 b1 x1 bc bb h1 h2;clear b1 x1 bc bb h1 h2;rcases bd with rfl | rfl | rfl | rfl | rfl | rfl | rfl | rfl | rfl | rfl
 . have L:appV 4 a b c d=addV a b c d:=rfl;rw [L];have U:=λW=>Zpb a b c d W H1.o H2.o;generalize addV a b c d=V at *
   have l:=zh U;clear U L;go_enter func186,ntmps186;go_wp2_with fail;generalize ((w.alloc (.cells #[vI a,vI b] 76)).alloc (.cells #[vI c,vI d] 76)).alloc (.cells #[vI 0,vI 0] 76)=X at *
   refine (S.o X).mono ?_;rintro e m ⟨rfl,hb⟩;have H:=F.o.1.on hb;have G:=F.o.2.1.on hb;have B:=F.o.2.2.on hb;have C:=Z00 T.o hb;have g:=H.c0;have Z:=H.c1;have f:=G.c0;have Y:=G.c1;have J:=B.c0;have I:=B.c1;have R:=B.fr 0;have N:=B.fr 1;have O:=B.lt;replace B:=zh B;replace C:=zh C;clear hb F T S H G;go_wp2_with fail;refine (l.o _).mono ?_;rintro e r ⟨rfl,hb⟩;have D:=B.o.on hb;have M:=Z00 C.o hb;clear J I R N O;have J:=D.c0;have I:=D.c1;have R:=D.fr 0;have N:=D.fr 1;have O:=D.lt;replace M:=zh M;clear D hb B C g Z f Y;go_wp2_with fail;exact bodyPost_ret (v:=.tuple #[.agg #[vI (vN V),vI (vD V)],vI (vE V)]) (by simp [results,results186,go_sem,J,I]) rfl ⟨rfl,Z01 M.o (by omega) _ _⟩
 . have L:appV 5 a b c d=subV a b c d:=rfl;rw [L];have U:=λW=>Zpc a b c d W H1.o H2.o;generalize subV a b c d=V at *
   have l:=zh U;clear U L;go_enter func186,ntmps186;go_wp2_with fail;generalize ((w.alloc (.cells #[vI a,vI b] 76)).alloc (.cells #[vI c,vI d] 76)).alloc (.cells #[vI 0,vI 0] 76)=X at *
   refine (S.o X).mono ?_;rintro e m ⟨rfl,hb⟩;have H:=F.o.1.on hb;have G:=F.o.2.1.on hb;have B:=F.o.2.2.on hb;have C:=Z00 T.o hb;have g:=H.c0;have Z:=H.c1;have f:=G.c0;have Y:=G.c1;have J:=B.c0;have I:=B.c1;have R:=B.fr 0;have N:=B.fr 1;have O:=B.lt;replace B:=zh B;replace C:=zh C;clear hb F T S H G;go_wp2_with fail;refine (l.o _).mono ?_;rintro e r ⟨rfl,hb⟩;have D:=B.o.on hb;have M:=Z00 C.o hb;clear J I R N O;have J:=D.c0;have I:=D.c1;have R:=D.fr 0;have N:=D.fr 1;have O:=D.lt;replace M:=zh M;clear D hb B C g Z f Y;go_wp2_with fail;exact bodyPost_ret (v:=.tuple #[.agg #[vI (vN V),vI (vD V)],vI (vE V)]) (by simp [results,results186,go_sem,J,I]) rfl ⟨rfl,Z01 M.o (by omega) _ _⟩
 . have L:appV 6 a b c d=mulV a b c d:=rfl;rw [L];have U:=λW=>Zpd a b c d W H1.o H2.o;generalize mulV a b c d=V at *
   have l:=zh U;clear U L;go_enter func186,ntmps186;go_wp2_with fail;generalize ((w.alloc (.cells #[vI a,vI b] 76)).alloc (.cells #[vI c,vI d] 76)).alloc (.cells #[vI 0,vI 0] 76)=X at *
   refine (S.o X).mono ?_;rintro e m ⟨rfl,hb⟩;have H:=F.o.1.on hb;have G:=F.o.2.1.on hb;have B:=F.o.2.2.on hb;have C:=Z00 T.o hb;have g:=H.c0;have Z:=H.c1;have f:=G.c0;have Y:=G.c1;have J:=B.c0;have I:=B.c1;have R:=B.fr 0;have N:=B.fr 1;have O:=B.lt;replace B:=zh B;replace C:=zh C;clear hb F T S H G;go_wp2_with fail;refine (l.o _).mono ?_;rintro e r ⟨rfl,hb⟩;have D:=B.o.on hb;have M:=Z00 C.o hb;clear J I R N O;have J:=D.c0;have I:=D.c1;have R:=D.fr 0;have N:=D.fr 1;have O:=D.lt;replace M:=zh M;clear D hb B C g Z f Y;go_wp2_with fail;exact bodyPost_ret (v:=.tuple #[.agg #[vI (vN V),vI (vD V)],vI (vE V)]) (by simp [results,results186,go_sem,J,I]) rfl ⟨rfl,Z01 M.o (by omega) _ _⟩
 . by_cases h0:c=0
   . have L:appV 7 a b c d=.no 22:=by show divV a b c d=_;unfold divV;rw [zp h0]
     rw [L];have d0:(c==0)=true:=by simpa using h0
     clear L h0;go_enter func186,ntmps186;go_wp2_with fail;generalize ((w.alloc (.cells #[vI a,vI b] 76)).alloc (.cells #[vI c,vI d] 76)).alloc (.cells #[vI 0,vI 0] 76)=X at *
     refine (S.o X).mono ?_;rintro e m ⟨rfl,hb⟩;have H:=F.o.1.on hb;have G:=F.o.2.1.on hb;have B:=F.o.2.2.on hb;have C:=Z00 T.o hb;have g:=H.c0;have Z:=H.c1;have f:=G.c0;have Y:=G.c1;have J:=B.c0;have I:=B.c1;have R:=B.fr 0;have N:=B.fr 1;have O:=B.lt;replace B:=zh B;replace C:=zh C;clear hb F T S H G;go_wp2_with fail;exact bodyPost_ret (v:=.tuple #[.agg #[vI 0,vI 0],vI 22]) (by simp [results,results186,go_sem,J,I]) rfl ⟨rfl,Z01 C.o (by omega) _ _⟩
   . have L:appV 7 a b c d=Z14 (a*d) (b*c):=by show divV a b c d=_;unfold divV;rw [zf h0]
     rw [L];have d0:(c==0)=false:=by simpa using h0
     obtain ⟨⟨k1,k2⟩,⟨k3,k4⟩,k5⟩:=Zk5 H1.o H2.o h0;have U:=λW=>Z7g (a*d) (b*c) W k1 k2 k3 k4 k5;have q1:IntKind.i64.wrap (a*d)=a*d:=zi _ (by omega);have q2:IntKind.i64.wrap (b*c)=b*c:=zi _ (by omega);generalize Z14 (a*d) (b*c)=V at *
     have l:=zh U;clear U L h0 k1 k2 k3 k4 k5;go_enter func186,ntmps186;go_wp2_with fail;generalize ((w.alloc (.cells #[vI a,vI b] 76)).alloc (.cells #[vI c,vI d] 76)).alloc (.cells #[vI 0,vI 0] 76)=X at *
     refine (S.o X).mono ?_;rintro e m ⟨rfl,hb⟩;have H:=F.o.1.on hb;have G:=F.o.2.1.on hb;have B:=F.o.2.2.on hb;have C:=Z00 T.o hb;have g:=H.c0;have Z:=H.c1;have f:=G.c0;have Y:=G.c1;have J:=B.c0;have I:=B.c1;have R:=B.fr 0;have N:=B.fr 1;have O:=B.lt;replace B:=zh B;replace C:=zh C;clear hb F T S H G;go_wp2_with fail;refine (l.o _).mono ?_;rintro e r ⟨rfl,hb⟩;have D:=B.o.on hb;have M:=Z00 C.o hb;clear J I R N O;have J:=D.c0;have I:=D.c1;have R:=D.fr 0;have N:=D.fr 1;have O:=D.lt;replace M:=zh M;clear D hb B C g Z f Y;go_wp2_with fail;exact bodyPost_ret (v:=.tuple #[.agg #[vI (vN V),vI (vD V)],vI (vE V)]) (by simp [results,results186,go_sem,J,I]) rfl ⟨rfl,Z01 M.o (by omega) _ _⟩
 . have L:appV 8 a b c d=if j<0 then .ok a b else .ok c d:=by rw [<- ba.o];rfl
   by_cases h0:j<0
   . rw [L,zp h0];have d0:decide (j<0)=true:=by simpa using h0
     clear L h0;go_enter func186,ntmps186;go_wp2_with fail;generalize ((w.alloc (.cells #[vI a,vI b] 76)).alloc (.cells #[vI c,vI d] 76)).alloc (.cells #[vI 0,vI 0] 76)=X at *
     refine (S.o X).mono ?_;rintro e m ⟨rfl,hb⟩;have H:=F.o.1.on hb;have G:=F.o.2.1.on hb;have B:=F.o.2.2.on hb;have C:=Z00 T.o hb;have g:=H.c0;have Z:=H.c1;have f:=G.c0;have Y:=G.c1;have J:=B.c0;have I:=B.c1;have R:=B.fr 0;have N:=B.fr 1;have O:=B.lt;replace B:=zh B;replace C:=zh C;clear hb F T S H G;go_wp2_with fail;exact bodyPost_ret (v:=.tuple #[.agg #[vI a,vI b],vI 0]) (by simp [results,results186,go_sem,J,I]) rfl ⟨rfl,Z01 C.o (by omega) _ _⟩
   . rw [L,zf h0];have d0:decide (j<0)=false:=by simpa using h0
     clear L h0;go_enter func186,ntmps186;go_wp2_with fail;generalize ((w.alloc (.cells #[vI a,vI b] 76)).alloc (.cells #[vI c,vI d] 76)).alloc (.cells #[vI 0,vI 0] 76)=X at *
     refine (S.o X).mono ?_;rintro e m ⟨rfl,hb⟩;have H:=F.o.1.on hb;have G:=F.o.2.1.on hb;have B:=F.o.2.2.on hb;have C:=Z00 T.o hb;have g:=H.c0;have Z:=H.c1;have f:=G.c0;have Y:=G.c1;have J:=B.c0;have I:=B.c1;have R:=B.fr 0;have N:=B.fr 1;have O:=B.lt;replace B:=zh B;replace C:=zh C;clear hb F T S H G;go_wp2_with fail;exact bodyPost_ret (v:=.tuple #[.agg #[vI c,vI d],vI 0]) (by simp [results,results186,go_sem,J,I]) rfl ⟨rfl,Z01 C.o (by omega) _ _⟩
 . have L:appV 9 a b c d=if 0<j then .ok a b else .ok c d:=by rw [<- ba.o];rfl
   by_cases h0:0<j
   . rw [L,zp h0];have d0:decide (0<j)=true:=by simpa using h0
     clear L h0;go_enter func186,ntmps186;go_wp2_with fail;generalize ((w.alloc (.cells #[vI a,vI b] 76)).alloc (.cells #[vI c,vI d] 76)).alloc (.cells #[vI 0,vI 0] 76)=X at *
     refine (S.o X).mono ?_;rintro e m ⟨rfl,hb⟩;have H:=F.o.1.on hb;have G:=F.o.2.1.on hb;have B:=F.o.2.2.on hb;have C:=Z00 T.o hb;have g:=H.c0;have Z:=H.c1;have f:=G.c0;have Y:=G.c1;have J:=B.c0;have I:=B.c1;have R:=B.fr 0;have N:=B.fr 1;have O:=B.lt;replace B:=zh B;replace C:=zh C;clear hb F T S H G;go_wp2_with fail;exact bodyPost_ret (v:=.tuple #[.agg #[vI a,vI b],vI 0]) (by simp [results,results186,go_sem,J,I]) rfl ⟨rfl,Z01 C.o (by omega) _ _⟩
   . rw [L,zf h0];have d0:decide (0<j)=false:=by simpa using h0
     clear L h0;go_enter func186,ntmps186;go_wp2_with fail;generalize ((w.alloc (.cells #[vI a,vI b] 76)).alloc (.cells #[vI c,vI d] 76)).alloc (.cells #[vI 0,vI 0] 76)=X at *
     refine (S.o X).mono ?_;rintro e m ⟨rfl,hb⟩;have H:=F.o.1.on hb;have G:=F.o.2.1.on hb;have B:=F.o.2.2.on hb;have C:=Z00 T.o hb;have g:=H.c0;have Z:=H.c1;have f:=G.c0;have Y:=G.c1;have J:=B.c0;have I:=B.c1;have R:=B.fr 0;have N:=B.fr 1;have O:=B.lt;replace B:=zh B;replace C:=zh C;clear hb F T S H G;go_wp2_with fail;exact bodyPost_ret (v:=.tuple #[.agg #[vI c,vI d],vI 0]) (by simp [results,results186,go_sem,J,I]) rfl ⟨rfl,Z01 C.o (by omega) _ _⟩
 . obtain ⟨t,ht⟩:∃ t,decide (j<0)=t:=⟨_,rfl⟩
   have L:appV 11 a b c d=truV t:=by rw [<- ht,<- ba.o];rfl
   rw [L];have de:(j==0)=decide (j=0):=by rw [zA];simp
   clear de;have U:=λW=>Z43 t W;have q:=Zcn t;unfold RetV;rw [q];generalize truV t=V at *
   have l:=zh U;clear U L q;go_enter func186,ntmps186;go_wp2_with fail;generalize ((w.alloc (.cells #[vI a,vI b] 76)).alloc (.cells #[vI c,vI d] 76)).alloc (.cells #[vI 0,vI 0] 76)=X at *
   refine (S.o X).mono ?_;rintro e m ⟨rfl,hb⟩;have H:=F.o.1.on hb;have G:=F.o.2.1.on hb;have B:=F.o.2.2.on hb;have C:=Z00 T.o hb;have g:=H.c0;have Z:=H.c1;have f:=G.c0;have Y:=G.c1;have J:=B.c0;have I:=B.c1;have R:=B.fr 0;have N:=B.fr 1;have O:=B.lt;replace B:=zh B;replace C:=zh C;clear hb F T S H G;go_wp2_with fail;refine (l.o _).mono ?_;rintro e r ⟨rfl,hb⟩;have D:=B.o.on hb;have M:=Z00 C.o hb;clear J I R N O;have J:=D.c0;have I:=D.c1;have R:=D.fr 0;have N:=D.fr 1;have O:=D.lt;replace M:=zh M;clear D hb B C g Z f Y;go_wp2_with fail;exact bodyPost_ret (v:=.tuple #[.agg #[vI (vN V),vI (vD V)],vI 0]) (by simp [results,results186,go_sem,J,I]) rfl ⟨rfl,Z01 M.o (by omega) _ _⟩
 . obtain ⟨t,ht⟩:∃ t,decide (j=0)=t:=⟨_,rfl⟩
   have L:appV 12 a b c d=truV t:=by rw [<- ht,<- ba.o];rfl
   rw [L];have de:(j==0)=decide (j=0):=by rw [zA];simp
   rw [ht] at de;have U:=λW=>Z43 t W;have q:=Zcn t;unfold RetV;rw [q];generalize truV t=V at *
   have l:=zh U;clear U L q;go_enter func186,ntmps186;go_wp2_with fail;generalize ((w.alloc (.cells #[vI a,vI b] 76)).alloc (.cells #[vI c,vI d] 76)).alloc (.cells #[vI 0,vI 0] 76)=X at *
   refine (S.o X).mono ?_;rintro e m ⟨rfl,hb⟩;have H:=F.o.1.on hb;have G:=F.o.2.1.on hb;have B:=F.o.2.2.on hb;have C:=Z00 T.o hb;have g:=H.c0;have Z:=H.c1;have f:=G.c0;have Y:=G.c1;have J:=B.c0;have I:=B.c1;have R:=B.fr 0;have N:=B.fr 1;have O:=B.lt;replace B:=zh B;replace C:=zh C;clear hb F T S H G;go_wp2_with fail;refine (l.o _).mono ?_;rintro e r ⟨rfl,hb⟩;have D:=B.o.on hb;have M:=Z00 C.o hb;clear J I R N O;have J:=D.c0;have I:=D.c1;have R:=D.fr 0;have N:=D.fr 1;have O:=D.lt;replace M:=zh M;clear D hb B C g Z f Y;go_wp2_with fail;exact bodyPost_ret (v:=.tuple #[.agg #[vI (vN V),vI (vD V)],vI 0]) (by simp [results,results186,go_sem,J,I]) rfl ⟨rfl,Z01 M.o (by omega) _ _⟩
 . have L:appV 13 a b c d=truV (decide (a=1)&&decide (c=1)):=rfl;rw [L];have da:(a==1)=decide (a=1):=by rw [zA];simp
   have dc:(c==1)=decide (c=1):=by rw [zA];simp
   generalize decide (a=1)=A at *
   generalize decide (c=1)=y at *
   have U:=λW=>Z43 (A&&y) W;have q:=Zcn (A&&y);unfold RetV;rw [q];clear L q;cases A <;> cases y
   all_goals
    simp only [Bool.and_self,Bool.and_true,Bool.and_false] at U |-
    generalize truV _=V at *
    have l:=zh U;clear U;go_enter func186,ntmps186;go_wp2_with fail;generalize ((w.alloc (.cells #[vI a,vI b] 76)).alloc (.cells #[vI c,vI d] 76)).alloc (.cells #[vI 0,vI 0] 76)=X at *
    refine (S.o X).mono ?_;rintro e m ⟨rfl,hb⟩;have H:=F.o.1.on hb;have G:=F.o.2.1.on hb;have B:=F.o.2.2.on hb;have C:=Z00 T.o hb;have g:=H.c0;have Z:=H.c1;have f:=G.c0;have Y:=G.c1;have J:=B.c0;have I:=B.c1;have R:=B.fr 0;have N:=B.fr 1;have O:=B.lt;replace B:=zh B;replace C:=zh C;clear hb F T S H G;go_wp2_with fail;refine (l.o _).mono ?_;rintro e r ⟨rfl,hb⟩;have D:=B.o.on hb;have M:=Z00 C.o hb;clear J I R N O;have J:=D.c0;have I:=D.c1;have R:=D.fr 0;have N:=D.fr 1;have O:=D.lt;replace M:=zh M;clear D hb B C g Z f Y;go_wp2_with fail;exact bodyPost_ret (v:=.tuple #[.agg #[vI (vN V),vI (vD V)],vI 0]) (by simp [results,results186,go_sem,J,I]) rfl ⟨rfl,Z01 M.o (by omega) _ _⟩
 . have L:appV 14 a b c d=truV (decide (a=1) || decide (c=1)):=rfl;rw [L];have da:(a==1)=decide (a=1):=by rw [zA];simp
   have dc:(c==1)=decide (c=1):=by rw [zA];simp
   generalize decide (a=1)=A at *
   generalize decide (c=1)=y at *
   have U:=λW=>Z43 (A || y) W;have q:=Zcn (A || y);unfold RetV;rw [q];clear L q;cases A <;> cases y
   all_goals
    simp only [Bool.or_self,Bool.or_true,Bool.or_false] at U |-
    generalize truV _=V at *
    have l:=zh U;clear U;go_enter func186,ntmps186;go_wp2_with fail;generalize ((w.alloc (.cells #[vI a,vI b] 76)).alloc (.cells #[vI c,vI d] 76)).alloc (.cells #[vI 0,vI 0] 76)=X at *
    refine (S.o X).mono ?_;rintro e m ⟨rfl,hb⟩;have H:=F.o.1.on hb;have G:=F.o.2.1.on hb;have B:=F.o.2.2.on hb;have C:=Z00 T.o hb;have g:=H.c0;have Z:=H.c1;have f:=G.c0;have Y:=G.c1;have J:=B.c0;have I:=B.c1;have R:=B.fr 0;have N:=B.fr 1;have O:=B.lt;replace B:=zh B;replace C:=zh C;clear hb F T S H G;go_wp2_with fail;refine (l.o _).mono ?_;rintro e r ⟨rfl,hb⟩;have D:=B.o.on hb;have M:=Z00 C.o hb;clear J I R N O;have J:=D.c0;have I:=D.c1;have R:=D.fr 0;have N:=D.fr 1;have O:=D.lt;replace M:=zh M;clear D hb B C g Z f Y;go_wp2_with fail;exact bodyPost_ret (v:=.tuple #[.agg #[vI (vN V),vI (vD V)],vI 0]) (by simp [results,results186,go_sem,J,I]) rfl ⟨rfl,Z01 M.o (by omega) _ _⟩
end
section
open Go.RowKit Lx Px Qx
structure EvB (w:World) (vs:Vs) (op n:Int) (kv:Value) (wx:World):Prop where
 x:wx.heap[w.heap.size]?=some (.cells #[vI op,vI n,kv] 79 (0,0))
 v:wx.heap[w.heap.size+1]?=some (.cells #[vI vs.a,vI vs.b,vI vs.c,vI vs.d] 187 (0,0))
 b:Below w.heap.size w wx
theorem EvB.on {w B F:World}{C:Vs}{op n:Int}{D:Value}(h:EvB w C op n D B)(hb:Below B.heap.size B F):EvB w C op n D F := ⟨(hb.block _ (zF2.1 h.x).1).trans h.x,(hb.block _ (zF2.1 h.v).1).trans h.v,Z00 h.b hb⟩
theorem EvB.drew {w D:World}{B:Vs}{op n:Int}{C:Value}(h:EvB w B op n C D):EvB w B op n C D.drew:=h.on (zr _ _).drew
theorem EvB.c {w C:World}{B:Vs}{op n:Int}{D:Value}(h:EvB w B op n D C):C.cell? ⟨w.heap.size+1,0,none⟩=some (vI B.a)/\C.cell? ⟨w.heap.size+1,1,none⟩=some (vI B.b)/\C.cell? ⟨w.heap.size+1,2,none⟩=some (vI B.c)/\C.cell? ⟨w.heap.size+1,3,none⟩=some (vI B.d):=by
 refine ⟨?_,?_,?_,?_⟩ <;> (rw [zH h.v];rfl)
theorem EvB.e {w B:World}{D:Vs}{op n:Int}{C:Value}(h:EvB w D op n C B):B.cell? ⟨w.heap.size,0,none⟩=some (vI op)/\B.cell? ⟨w.heap.size,1,none⟩=some (vI n)/\B.cell? ⟨w.heap.size,2,none⟩=some C:=by
 refine ⟨?_,?_,?_⟩ <;> (rw [zH h.x];rfl)
theorem EvB.store {w B:World}{D:Vs}{op n:Int}{F:Value}{b:Nat}(h:EvB w D op n F B)(hb:w.heap.size+2<=b)(x y:Value):EvB w D op n F ((B.setCell ⟨b,0,none⟩ x).setCell ⟨b,1,none⟩ y):=by
 have C:Below (w.heap.size+2) B ((B.setCell ⟨b,0,none⟩ x).setCell ⟨b,1,none⟩ y):=((zr _ _).setCell (p:=⟨b,0,none⟩) hb _).setCell (p:=⟨b,1,none⟩) hb _;exact ⟨(C.block _ (by omega)).trans h.x,(C.block _ (by omega)).trans h.v,h.b.trans (C.mono (by omega))⟩
theorem Ze8 (w:World)(B:Vs)(op n:Int)(C:Value):EvB w B op n C (((w.alloc (.cells #[vI op,vI n,C] 79)).alloc (.cells #[vI B.a,vI B.b,vI B.c,vI B.d] 187)).alloc (.cells #[vI 0,vI 0] 76))/\RatB (((w.alloc (.cells #[vI op,vI n,C] 79)).alloc (.cells #[vI B.a,vI B.b,vI B.c,vI B.d] 187)).alloc (.cells #[vI 0,vI 0] 76)) (w.heap.size+2) 0 0:=by
 obtain ⟨D,F⟩:=Z0F w (.cells #[vI op,vI n,C] 79) (.cells #[vI B.a,vI B.b,vI B.c,vI B.d] 187);refine ⟨⟨Z0w D _,Z0w F _,(((zr _ _).alloc (zn _) _).alloc (by simp) _).alloc (by simp;omega) _⟩,?_⟩;have:=za ((w.alloc (.cells #[vI op,vI n,C] 79)).alloc (.cells #[vI B.a,vI B.b,vI B.c,vI B.d] 187)) (.cells #[vI 0,vI 0] 76);simpa [RatB] using this
structure EvR (w:World) (vs:Vs) (op n:Int) (kv:Value) (b:Nat) (x y:Int) (wx:World):Prop where
 l:EvB w vs op n kv wx
 r:RatB wx b x y
theorem EvR.on {w B F:World}{C:Vs}{op n:Int}{D:Value}{b:Nat}{x y:Int}(h:EvR w C op n D b x y B)(hb:Below B.heap.size B F):EvR w C op n D b x y F:=⟨h.l.on hb,h.r.on hb⟩
theorem EvR.drew {w D:World}{B:Vs}{op n:Int}{C:Value}{b:Nat}{x y:Int}(h:EvR w B op n C b x y D):EvR w B op n C b x y D.drew:=h.on (zr _ _).drew
structure EvS (w:World) (vs:Vs) (op n:Int) (kv:Value) (b:Nat) (x y:Int) (wx:World):Prop where
 l:EvB w vs op n kv wx
 r:RatB wx b x y
 z:RatB wx (w.heap.size+2) 0 0
theorem EvS.on {w B F:World}{C:Vs}{op n:Int}{D:Value}{b:Nat}{x y:Int}(h:EvS w C op n D b x y B)(hb:Below B.heap.size B F):EvS w C op n D b x y F:=⟨h.l.on hb,h.r.on hb,h.z.on hb⟩
theorem EvS.drew {w D:World}{B:Vs}{op n:Int}{C:Value}{b:Nat}{x y:Int}(h:EvS w B op n C b x y D):EvS w B op n C b x y D.drew:=h.on (zr _ _).drew
theorem Z3d {w:World}{b g:Nat}{p q:Int}(h:RatB w b p q)(B:b≠g)(u v:Value):RatB ((w.setCell ⟨g,0,none⟩ u).setCell ⟨g,1,none⟩ v) b p q := (zg _ _ _ _ (by show b≠g;exact B)).trans ((zg _ _ _ _ (by show b≠g;exact B)).trans h)
theorem Zk6 (v:V)(h:∀ e,v=.no e->e=3\/e=22):(vE v=0->v=.ok (vN v) (vD v))/\(vE v≠0->v=.no (vE v)):=by
 cases v with
 | ok n d=>exact ⟨λ_=>rfl,λh=>absurd rfl h⟩
 | no e=>exact ⟨λh0=>by have B:e=0:=h0;have:=h e rfl;omega,λ_=>rfl⟩
def EvC (a:Int × Int)(l:Fo):Prop := ∀ (w:World) (v:Value) (B:Nat) (vs:Vs),FoV w B v l->B<=w.heap.size->Z07 a.1 a.2 (flen l)=true->wfF l->(∀ i,0<=vs.at i/\vs.at i<=1000) -> Calls prog 140 #[.agg #[vI a.1,vI a.2,v],.agg #[vI vs.a,vI vs.b,vI vs.c,vI vs.d]] w (RetV (valE vs a l) w)
theorem Zfx (op n:Int)(l:Fo)(h:op=1\/op=2):EvC (op,n) l:=by
 intro w v B C U Z F hw N;dsimp only at F;have r:0<=n/\n<=1000000000:=by rcases h with rfl | rfl <;> (simp [Z07] at F;omega)
 have L:valE C (op,n) l=Z14 n 1:=by unfold valE opV;rw [zp h]
 have M:=λW=>Z7g (n) 1 W (by omega) (by omega) (by omega) (by omega) (by omega);obtain ⟨O,H⟩:=Ze8 w C op n v;rw [L];generalize Z14 (n) 1=V at *
 obtain ⟨A,c,rfl,_⟩:=U;obtain ⟨I,J,R,j,Y,m⟩:=zh6 O H M F hw N;clear O H M F hw N L;rcases h with rfl | rfl
 all_goals
  go_enter func140,ntmps140;go_wp2_with fail;generalize ((w.alloc (.cells #[vI _,vI _,slice A (flen l) c] 79)).alloc (.cells #[vI C.a,vI C.b,vI C.c,vI C.d] 187)).alloc (.cells #[vI 0,vI 0] 76)=X at *
  refine (R.o X).mono ?_;rintro e g ⟨rfl,hb⟩;have G:=I.o.on hb;have D:=J.o.on hb;have T:=D.c0;have S:=D.c1;have y:=D.fr 0;have f:=D.fr 1;have q:=D.lt;replace G:=zh G;clear hb I J D R;go_wp2_with fail;exact bodyPost_ret (v:=.tuple #[.agg #[vI (vN V),vI (vD V)],vI (vE V)]) (by simp [results,results140,go_sem,T,S]) rfl ⟨rfl,Z01 G.o.b (by omega) _ _⟩
theorem Zfy (n:Int)(l:Fo):EvC (3,n) l:=by
 intro w v B C X g F hw H;dsimp only at F;have U:n=1\/n=2\/n=3\/n=4:=by simp [Z07] at F;omega
 have M:valE C (3,n) l=Z14 (C.at n) 1:=by unfold valE opV;rw [zf (by simp),zp rfl]
 obtain ⟨f,q⟩:=H n;have N:=λW=>Z7g (C.at n) 1 W (by omega) (by omega) (by omega) (by omega) (by omega);obtain ⟨O,I⟩:=Ze8 w C 3 n v;rw [M];generalize Z14 (C.at n) 1=V at *
 obtain ⟨A,c,rfl,_⟩:=X;obtain ⟨J,L,R,r,Z,y⟩:=zh6 O I N F hw H;clear O I N F hw H M;rcases U with rfl | rfl | rfl | rfl
 all_goals
  go_enter func140,ntmps140;go_wp2_with fail;generalize ((w.alloc (.cells #[vI _,vI _,slice A (flen l) c] 79)).alloc (.cells #[vI C.a,vI C.b,vI C.c,vI C.d] 187)).alloc (.cells #[vI 0,vI 0] 76)=Y at *
  refine (R.o Y).mono ?_;rintro e m ⟨rfl,hb⟩;have G:=J.o.on hb;have D:=L.o.on hb;have T:=D.c0;have S:=D.c1;have y0:=D.fr 0;have j:=D.fr 1;have hl:=D.lt;replace G:=zh G;clear hb J L D R;go_wp2_with fail;exact bodyPost_ret (v:=.tuple #[.agg #[vI (vN V),vI (vD V)],vI (vE V)]) (by simp [results,results140,go_sem,T,S]) rfl ⟨rfl,Z01 G.o.b (by omega) _ _⟩
theorem Zcp {l:Fo}(F:∀ k,k<flen l->EvC (getF l k).1 (getF l k).2){w:World}{A:Option Addr}{B:Nat}{C:Vs}(L:FoAt w B l A 0)(R:B<=w.heap.size)(hw:wfF l)(G:∀ i,0<=C.at i/\C.at i<=1000){k:Nat}(hk:k<flen l) : ∃ (g o:Nat) (p q:Int) (kv:Value),A=some ⟨g,o,none⟩/\(∀ W,Below w.heap.size w W->W.cell? ⟨g,o+k*3,none⟩=some (vI p)/\W.cell? ⟨g,o+k*3+1,none⟩=some (vI q)/\W.cell? ⟨g,o+k*3+2,none⟩=some kv) /\ ∀ W,Below w.heap.size w W->Calls prog 140 #[.agg #[vI p,vI q,kv],.agg #[vI C.a,vI C.b,vI C.c,vI C.d]] W (RetV (valF C l k) W):=by
 obtain ⟨g,o,D,c,e,S,M,N,O,I⟩:=Zr6 L hk;obtain ⟨J,H⟩:=Zgv hw hk;refine ⟨g,o,_,_,_,e,λW hb=>⟨(hb.cell (p:=⟨g,o+k*3,none⟩) (by show g<_;omega)).trans M,(hb.cell (p:=⟨g,o+k*3+1,none⟩) (by show g<_;omega)).trans N,(hb.cell (p:=⟨g,o+k*3+2,none⟩) (by show g<_;omega)).trans O⟩,λW hb=>?_⟩;rw [Zgs C l k hk];exact F k hk W _ B C ⟨D,c,rfl,FoAt.keep (λp hp=>hb.cell (by omega)) _ D 0 I⟩ (by have:=hb.size;omega) J H G
theorem Zk7 (op n:Int)(l:Fo)(ih:∀ k,k<flen l->EvC (getF l k).1 (getF l k).2)(h1:op≠1)(h2:op≠2)(h3:op≠3):EvC (op,n) l:=by
 intro w v B C hv hB hf hw bj;dsimp only at hf;obtain ⟨bz,b3,ca⟩:=Z6E hf;have bS:0<flen l:=by
  rw [bz];unfold arO
  repeat' split
  all_goals omega
 obtain ⟨A,c,rfl,hA⟩:=hv;have hV:valE C (op,n) l=opV C op n (valF C l 0) (valF C l 1) (valF C l 2):=rfl;obtain ⟨g,o,p0,q0,bL,rfl,br,bk⟩:=Zcp ih hA hB hw bj bS;have bn:=λk (hk:k<flen l)=>Z47 C l k;have bm:=λk=>Zk6 (valF C l k) (λe h=>Z8q C l k e h);obtain ⟨bT,bB⟩:=Ze8 w C op n (slice (some ⟨g,o,none⟩) (flen l) c);have bQ:∀ k,k<flen l->∃ (p q:Int) (kv:Value),(∀ W,Below w.heap.size w W->W.cell? ⟨g,o+k*3,none⟩=some (vI p)/\W.cell? ⟨g,o+k*3+1,none⟩=some (vI q)/\W.cell? ⟨g,o+k*3+2,none⟩=some kv) /\ ∀ W,Below w.heap.size w W->Calls prog 140 #[.agg #[vI p,vI q,kv],.agg #[vI C.a,vI C.b,vI C.c,vI C.d]] W (RetV (valF C l k) W):=by
  intro k hk;obtain ⟨g',o',p,q,kv,e,f,m⟩:=Zcp ih hA hB hw bj hk;injection e with e
  injection e with e1 M
  subst e1 M;exact ⟨p,q,kv,f,m⟩
 rw [Nat.zero_mul] at br;have d1:(op==1)=false:=by simpa using h1
 have d2:(op==2)=false:=by simpa using h2
 have d3:(op==3)=false:=by simpa using h3
 have b7:(0:Int)<(flen l:Int):=by omega
 have bH:∀ k y z,opV C op n (.no k) y z=.no k:=λk y z=>by unfold opV;rw [zf (by omega),zf h3]
 have bG:∀ a b y z,opV C op n (.ok a b) y z=if op=15 then truV (decide (a=0)) else if op=10 then (if a=1 then y else z) else match y with | .no e=>.no e | .ok c d=>appV op a b c d:=λa b y z=>by unfold opV;rw [zf (by omega),zf h3];rfl
 rw [hV];clear hV;obtain ⟨T,bs⟩:∃ T,opV C op n (valF C l 0) (valF C l 1) (valF C l 2)=T:=⟨_,rfl⟩
 rw [bs];have bt:=bm 0;have bR:=bn 0 bS;obtain ⟨x,hx⟩:∃ x,vN (valF C l 0)=x:=⟨_,rfl⟩
 obtain ⟨y,hy⟩:∃ y,vD (valF C l 0)=y:=⟨_,rfl⟩
 obtain ⟨er,bg⟩:∃ er,vE (valF C l 0)=er:=⟨_,rfl⟩
 unfold RetV at bk;rw [hx,hy,bg] at bk bt;obtain ⟨bI,bp,bO,bA,be,HF,HW,cc,HA,IH,bU,bP,bv,bJ,bh,H1⟩:=zh16 bT bB br bk bQ hf hw bj hA ih bn bm bt bR bz h1;obtain ⟨H2,H3,bW,bY,bq⟩:=zh5 h2 h3 bH bG bs;clear bT bB br bk bQ hf hw bj hA ih bn bm bt bR bz h1 h2 h3 bH bG bs hx hy bg;go_enter func140,ntmps140;go_upto_region 8 with fail;generalize ((w.alloc (.cells #[vI op,vI n,(slice (some ⟨g,o,none⟩) (flen l) c)] 79)).alloc (.cells #[vI C.a,vI C.b,vI C.c,vI C.d] 187)).alloc (.cells #[vI 0,vI 0] 76)=W1 at *
 have G:Hid (∀ wx,EvR w C op n (slice (some ⟨g,o,none⟩) (flen l) c) (w.heap.size+2) 0 0 wx->wx.cell? ⟨w.heap.size+1,0,none⟩=some (vI C.a)/\wx.cell? ⟨w.heap.size+1,1,none⟩=some (vI C.b)/\wx.cell? ⟨w.heap.size+1,2,none⟩=some (vI C.c)/\wx.cell? ⟨w.heap.size+1,3,none⟩=some (vI C.d)/\wx.cell? ⟨w.heap.size,2,none⟩=some (slice (some ⟨g,o,none⟩) (flen l) c)/\wx.cell? ⟨g,o,none⟩=some (vI p0)/\wx.cell? ⟨g,o+1,none⟩=some (vI q0)/\wx.cell? ⟨g,o+2,none⟩=some bL/\EvR w C op n (slice (some ⟨g,o,none⟩) (flen l) c) (w.heap.size+2) 0 0 wx):=λwx h=>by obtain ⟨c0,c1,c2,c3⟩:=h.l.c;obtain ⟨_,_,M⟩:=h.l.e;obtain ⟨a0,f,m⟩:=bO.o wx h.l.b;exact ⟨c0,c1,c2,c3,M,a0,f,m,h⟩
 have bV:w.heap.size+2<W1.heap.size:=bp.o.lt;go_region_held (λw'=>w'.cell? ⟨w.heap.size+1,0,none⟩=some (vI C.a)/\w'.cell? ⟨w.heap.size+1,1,none⟩=some (vI C.b)/\w'.cell? ⟨w.heap.size+1,2,none⟩=some (vI C.c)/\w'.cell? ⟨w.heap.size+1,3,none⟩=some (vI C.d)/\w'.cell? ⟨w.heap.size,2,none⟩=some (slice (some ⟨g,o,none⟩) (flen l) c)/\w'.cell? ⟨g,o,none⟩=some (vI p0)/\w'.cell? ⟨g,o+1,none⟩=some (vI q0)/\w'.cell? ⟨g,o+2,none⟩=some bL/\EvR w C op n (slice (some ⟨g,o,none⟩) (flen l) c) (w.heap.size+2) 0 0 w') (first | (with_reducible exact G.o _ (EvR.drew ⟨bI.o,bp.o⟩)) | (with_reducible exact G.o _ L.o) | (exact G.o _ ((‹_/\_/\_/\_/\_/\_/\_/\_/\EvR w C op n _ _ _ _ _›).2.2.2.2.2.2.2.2.on ((zr _ _).alloc (zn _) _))) | (exact G.o _ (L.o.on ((zr _ _).alloc (zn _) _))) | (exact G.o _ ⟨L.o.l.store (by omega) _ _,Z3d L.o.r (by omega) _ _⟩)) ((go_at_call 140;have bb:=(‹_/\_/\_/\_/\_/\_/\_/\_/\EvR w C op n _ _ _ _ _›).2.2.2.2.2.2.2.2;refine (bA.o _ bb.l.b).mono ?_;intro e w' hh;obtain ⟨rfl,hb⟩:=hh;have L:=zh (bb.on hb);try (have hz:=(hb.block W1.heap.size (by simp [go_sem])).trans (za W1.drew (.cells #[vI 0,vI 0] 76));have U:Hid (RatB w' W1.heap.size 0 0):=hz;have J:=U.o.c0;have I:=U.o.c1;have O:=U.o.fr 0;have S:=U.o.fr 1;clear hz);clear hb bb))
 all_goals
  first
   | (have j:=Z2m U.o x y
      have H:EvR w C op n (slice (some ⟨g,o,none⟩) (flen l) c) (w.heap.size+2) 0 0 _:=⟨L.o.l.store (b:=W1.heap.size) (by omega) (vI x) (vI y),Z3d L.o.r (by omega) (vI x) (vI y)⟩
      clear J I O S U;generalize (w'.setCell ⟨W1.heap.size,0,none⟩ (vI x)).setCell ⟨W1.heap.size,1,none⟩ (vI y)=w5 at *
      generalize W1.heap.size=b5 at *
      have b1:=bV)
   | (have b1:w.heap.size+2<w'.heap.size:=L.o.r.lt
      have j:=RatB.new w' x y
      have H:=L.o.on ((zr w'.heap.size w').alloc (zn _) (.cells #[vI x,vI y] 76))
      generalize w'.alloc (.cells #[vI x,vI y] 76)=w5 at *
      generalize w'.heap.size=b5 at *)
  clear L bI bp G bA bO;obtain ⟨e0,e1,M⟩:=H.l.e;have r0:=j.c0;have r1:=j.c1;have J:=H.r.c0;have I:=H.r.c1;have O:=H.r.fr 0;have S:=H.r.fr 1;have Z:=H.r.lt;replace H:=zh H;replace j:=zh j;by_cases he:er=0
  . subst he;have hX:=bv.o.1 rfl;have D:=bq.o;rw [hX,bY.o] at D;have HX:=zh hX;have bX:=zh (bJ.o x y hX);clear hX bv bJ bq;by_cases h15:op=15
    . subst h15;rw [zp rfl] at D;have dx:(x==0)=decide (x=0):=by rw [zA];simp
      obtain ⟨t,bM⟩:∃ t,decide (x=0)=t:=⟨_,rfl⟩
      rw [bM] at dx D;have ht:=λW=>Z43 t W;have hE:=Zcn t;rw [D] at ht hE;have HT:=zh ht;clear ht J I O S Z bM D;go_wp2_with fail;refine (HT.o _).mono ?_;rintro e w6 ⟨rfl,hb⟩;have F:=H.o.on hb;have J:=F.r.c0;have I:=F.r.c1;have O:=F.r.fr 0;have S:=F.r.fr 1;have Z:=F.r.lt;replace F:=zh F;have HE:=zh hE;clear hE hb e0 e1 M r0 r1 H j;go_wp2_with fail;exact bodyPost_ret (v:=.tuple #[.agg #[vI (vN T),vI (vD T)],vI 0]) (by simp [results,results140,go_sem,J,I]) rfl ⟨by rw [HE.o],Z01 F.o.l.b (by omega) _ _⟩
    . rw [zf h15] at D;have cb:(op==15)=false:=by simpa using h15
      by_cases h10:op=10
      . subst h10;rw [zp rfl] at D;by_cases bc:x=1
        . rw [zp bc] at D;have b2:(x==1)=true:=by simpa using bc
          obtain ⟨p1,q1,ba,V,R⟩:=be.o 1 (by have:=bh.o;simp [arO] at this;omega);rw [D] at R;clear D;have G:Hid (∀ wx,EvB w C 10 n (slice (some ⟨g,o,none⟩) (flen l) c) wx->wx.cell? ⟨w.heap.size+1,0,none⟩=some (vI C.a)/\wx.cell? ⟨w.heap.size+1,1,none⟩=some (vI C.b)/\wx.cell? ⟨w.heap.size+1,2,none⟩=some (vI C.c)/\wx.cell? ⟨w.heap.size+1,3,none⟩=some (vI C.d)/\wx.cell? ⟨w.heap.size,2,none⟩=some (slice (some ⟨g,o,none⟩) (flen l) c)/\wx.cell? ⟨g,o+3,none⟩=some (vI p1)/\wx.cell? ⟨g,o+4,none⟩=some (vI q1)/\wx.cell? ⟨g,o+5,none⟩=some ba/\EvB w C 10 n (slice (some ⟨g,o,none⟩) (flen l) c) wx):=λwx h=>by obtain ⟨c0,c1,c2,c3⟩:=h.c;obtain ⟨_,_,M⟩:=h.e;obtain ⟨a0,f,m⟩:=V wx h.b;exact ⟨c0,c1,c2,c3,M,a0,f,m,h⟩
          have bF:(1:Int)<(flen l:Int):=by have:=bh.o;simp [arO] at this;omega
          unfold RetV at R;have bd:=zh R;have bx:=zh V;clear R V J I O S Z be;go_upto_region 14 with fail;clear e0 e1 M r0 r1;go_region_held (λw'=>w'.cell? ⟨w.heap.size+1,0,none⟩=some (vI C.a)/\w'.cell? ⟨w.heap.size+1,1,none⟩=some (vI C.b)/\w'.cell? ⟨w.heap.size+1,2,none⟩=some (vI C.c)/\w'.cell? ⟨w.heap.size+1,3,none⟩=some (vI C.d)/\w'.cell? ⟨w.heap.size,2,none⟩=some (slice (some ⟨g,o,none⟩) (flen l) c)/\w'.cell? ⟨g,o+3,none⟩=some (vI p1)/\w'.cell? ⟨g,o+4,none⟩=some (vI q1)/\w'.cell? ⟨g,o+5,none⟩=some ba/\EvB w C 10 n (slice (some ⟨g,o,none⟩) (flen l) c) w') (first | (with_reducible exact G.o _ H.o.l.drew) | (with_reducible exact G.o _ HL.o) | (exact G.o _ (HL.o.store (zn _) _ _))) ((go_at_call 140;refine (bd.o _ H.o.l.drew.b).mono ?_;rintro e w' ⟨rfl,hb⟩;have N:=H.o.drew.on hb;have HL:=zh N.l;have J:=N.r.c0;have I:=N.r.c1;have O:=N.r.fr 0;have S:=N.r.fr 1;have Z:=N.r.lt;clear N hb));go_wp2_with fail;exact bodyPost_ret (v:=.tuple #[.agg #[vI (vN T),vI (vD T)],vI (vE T)]) (by simp [results,results140,go_sem,J,I]) rfl ⟨rfl,Z01 HL.o.b (by omega) _ _⟩
        . rw [zf bc] at D;have b2:(x==1)=false:=by simpa using bc
          obtain ⟨p1,q1,ba,V,R⟩:=be.o 2 (by have:=bh.o;simp [arO] at this;omega);rw [D] at R;clear D;have G:Hid (∀ wx,EvB w C 10 n (slice (some ⟨g,o,none⟩) (flen l) c) wx->wx.cell? ⟨w.heap.size+1,0,none⟩=some (vI C.a)/\wx.cell? ⟨w.heap.size+1,1,none⟩=some (vI C.b)/\wx.cell? ⟨w.heap.size+1,2,none⟩=some (vI C.c)/\wx.cell? ⟨w.heap.size+1,3,none⟩=some (vI C.d)/\wx.cell? ⟨w.heap.size,2,none⟩=some (slice (some ⟨g,o,none⟩) (flen l) c)/\wx.cell? ⟨g,o+6,none⟩=some (vI p1)/\wx.cell? ⟨g,o+7,none⟩=some (vI q1)/\wx.cell? ⟨g,o+8,none⟩=some ba/\EvB w C 10 n (slice (some ⟨g,o,none⟩) (flen l) c) wx):=λwx h=>by obtain ⟨c0,c1,c2,c3⟩:=h.c;obtain ⟨_,_,M⟩:=h.e;obtain ⟨a0,f,m⟩:=V wx h.b;exact ⟨c0,c1,c2,c3,M,a0,f,m,h⟩
          have bF:(2:Int)<(flen l:Int):=by have:=bh.o;simp [arO] at this;omega
          unfold RetV at R;have bd:=zh R;have bx:=zh V;clear R V J I O S Z be;go_upto_region 16 with fail;clear e0 e1 M r0 r1;go_region_held (λw'=>w'.cell? ⟨w.heap.size+1,0,none⟩=some (vI C.a)/\w'.cell? ⟨w.heap.size+1,1,none⟩=some (vI C.b)/\w'.cell? ⟨w.heap.size+1,2,none⟩=some (vI C.c)/\w'.cell? ⟨w.heap.size+1,3,none⟩=some (vI C.d)/\w'.cell? ⟨w.heap.size,2,none⟩=some (slice (some ⟨g,o,none⟩) (flen l) c)/\w'.cell? ⟨g,o+6,none⟩=some (vI p1)/\w'.cell? ⟨g,o+7,none⟩=some (vI q1)/\w'.cell? ⟨g,o+8,none⟩=some ba/\EvB w C 10 n (slice (some ⟨g,o,none⟩) (flen l) c) w') (first | (with_reducible exact G.o _ H.o.l.drew) | (with_reducible exact G.o _ HL.o) | (exact G.o _ (HL.o.store (zn _) _ _))) ((go_at_call 140;refine (bd.o _ H.o.l.drew.b).mono ?_;rintro e w' ⟨rfl,hb⟩;have N:=H.o.drew.on hb;have HL:=zh N.l;have J:=N.r.c0;have I:=N.r.c1;have O:=N.r.fr 0;have S:=N.r.fr 1;have Z:=N.r.lt;clear N hb));go_wp2_with fail;exact bodyPost_ret (v:=.tuple #[.agg #[vI (vN T),vI (vD T)],vI (vE T)]) (by simp [results,results140,go_sem,J,I]) rfl ⟨rfl,Z01 HL.o.b (by omega) _ _⟩
      . rw [zf h10] at D;have b4:(op==10)=false:=by simpa using h10
        have hr:4<=op/\op<=14/\1<flen l:=by
         have h1:=H1.o;have h2:=H2.o;have h3:=H3.o;have ha:=bh.o;refine ⟨by omega,by omega,?_⟩;rw [ha];unfold arO
         repeat' split
         all_goals omega
        obtain ⟨p1,q1,ba,V,R⟩:=be.o 1 hr.2.2;have bu:=bP.o 1;have bC:=bU.o 1 hr.2.2;generalize valF C l 1=V1 at *
        obtain ⟨Y,bc⟩:∃ x,vN V1=x:=⟨_,rfl⟩
        obtain ⟨X,bN⟩:∃ y,vD V1=y:=⟨_,rfl⟩
        obtain ⟨er,bg⟩:∃ er,vE V1=er:=⟨_,rfl⟩
        unfold RetV at R;rw [bc,bN,bg] at R bu;clear bc bN bg;have G:Hid (∀ wx,EvS w C op n (slice (some ⟨g,o,none⟩) (flen l) c) b5 x y wx->wx.cell? ⟨w.heap.size+1,0,none⟩=some (vI C.a)/\wx.cell? ⟨w.heap.size+1,1,none⟩=some (vI C.b)/\wx.cell? ⟨w.heap.size+1,2,none⟩=some (vI C.c)/\wx.cell? ⟨w.heap.size+1,3,none⟩=some (vI C.d)/\wx.cell? ⟨w.heap.size,2,none⟩=some (slice (some ⟨g,o,none⟩) (flen l) c)/\wx.cell? ⟨g,o+3,none⟩=some (vI p1)/\wx.cell? ⟨g,o+4,none⟩=some (vI q1)/\wx.cell? ⟨g,o+5,none⟩=some ba/\EvS w C op n (slice (some ⟨g,o,none⟩) (flen l) c) b5 x y wx):=λwx h=>by obtain ⟨c0,c1,c2,c3⟩:=h.l.c;obtain ⟨_,_,M⟩:=h.l.e;obtain ⟨a0,f,m⟩:=V wx h.l.b;exact ⟨c0,c1,c2,c3,M,a0,f,m,h⟩
        have bF:(1:Int)<(flen l:Int):=by omega
        have b8:b5<w5.heap.size:=j.o.lt;have bD:op=4\/op=5\/op=6\/op=7\/op=8\/op=9\/op=11\/op=12\/op=13\/op=14:=by omega
        obtain ⟨bd,bx,bE,b0,b9,bZ⟩:=zh6 R V bu bC hr bD;clear R V bu bC hr bD J I O S Z be bU bP;go_upto_region 17 with fail;clear e0 e1 M r0 r1;go_region_held (λw'=>w'.cell? ⟨w.heap.size+1,0,none⟩=some (vI C.a)/\w'.cell? ⟨w.heap.size+1,1,none⟩=some (vI C.b)/\w'.cell? ⟨w.heap.size+1,2,none⟩=some (vI C.c)/\w'.cell? ⟨w.heap.size+1,3,none⟩=some (vI C.d)/\w'.cell? ⟨w.heap.size,2,none⟩=some (slice (some ⟨g,o,none⟩) (flen l) c)/\w'.cell? ⟨g,o+3,none⟩=some (vI p1)/\w'.cell? ⟨g,o+4,none⟩=some (vI q1)/\w'.cell? ⟨g,o+5,none⟩=some ba/\EvS w C op n (slice (some ⟨g,o,none⟩) (flen l) c) b5 x y w') (first | (with_reducible exact G.o _ (EvS.drew ⟨H.o.l,j.o,H.o.r⟩)) | (with_reducible exact G.o _ L.o) | (exact G.o _ ((‹_/\_/\_/\_/\_/\_/\_/\_/\EvS w C op n _ _ _ _ _›).2.2.2.2.2.2.2.2.on ((zr _ _).alloc (zn _) _))) | (exact G.o _ (L.o.on ((zr _ _).alloc (zn _) _))) | (exact G.o _ ⟨L.o.l.store (by omega) _ _,Z3d L.o.r (by omega) _ _,Z3d L.o.z (by omega) _ _⟩)) ((go_at_call 140;have bb:=(‹_/\_/\_/\_/\_/\_/\_/\_/\EvS w C op n _ _ _ _ _›).2.2.2.2.2.2.2.2;refine (bd.o _ bb.l.b).mono ?_;intro e w' hh;obtain ⟨rfl,hb⟩:=hh;have L:=zh (bb.on hb);try (have hz:=(hb.block w5.heap.size (by simp [go_sem])).trans (za w5.drew (.cells #[vI 0,vI 0] 76));have U:Hid (RatB w' w5.heap.size 0 0):=hz;have J:=U.o.c0;have I:=U.o.c1;have O:=U.o.fr 0;have S:=U.o.fr 1;clear hz);clear hb bb))
        all_goals
         first
          | (have R6:=Z2m U.o Y X
             have F:EvS w C op n (slice (some ⟨g,o,none⟩) (flen l) c) b5 x y _:=⟨L.o.l.store (b:=w5.heap.size) (by omega) (vI Y) (vI X),Z3d L.o.r (by omega) (vI Y) (vI X),Z3d L.o.z (by omega) (vI Y) (vI X)⟩
             clear J I O S U;generalize (w'.setCell ⟨w5.heap.size,0,none⟩ (vI Y)).setCell ⟨w5.heap.size,1,none⟩ (vI X)=w6 at *
             generalize w5.heap.size=b6 at *)
          | (have R6:=RatB.new w' Y X
             have F:=L.o.on ((zr w'.heap.size w').alloc (zn _) (.cells #[vI Y,vI X] 76))
             generalize w'.alloc (.cells #[vI Y,vI X] 76)=w6 at *
             generalize w'.heap.size=b6 at *)
         clear L G bd bx j H;obtain ⟨e0,e1,M⟩:=F.l.e;have r0:=F.r.c0;have r1:=F.r.c1;have s0:=R6.c0;have s1:=R6.c1;have J:=F.z.c0;have I:=F.z.c1;have O:=F.z.fr 0;have S:=F.z.fr 1;have Z:=F.z.lt;replace F:=zh F;replace R6:=zh R6;by_cases he:er=0
         . subst he;have bf:=bE.o.1 rfl;rw [bf] at D;dsimp only at D;have bK:=b0.o Y X bf;have hc:=λW=>Zhp op x y Y X W bX.o bK bZ.o;rw [D] at hc;have HC:=zh hc;clear hc bf bK J I O S Z D;go_wp2_with fail;refine (HC.o _).mono ?_;rintro e w7 ⟨rfl,hb⟩;have C7:=F.o.on hb;have J:=C7.z.c0;have I:=C7.z.c1;have O:=C7.z.fr 0;have S:=C7.z.fr 1;have Z:=C7.z.lt;replace C7:=zh C7;clear hb e0 e1 M r0 r1 s0 s1 F R6;go_wp2_with fail;exact bodyPost_ret (v:=.tuple #[.agg #[vI (vN T),vI (vD T)],vI (vE T)]) (by simp [results,results140,go_sem,J,I]) rfl ⟨rfl,Z01 C7.o.l.b (by omega) _ _⟩
         . have bf:=bE.o.2 he;rw [bf] at D;dsimp only at D;subst D;have de:(er != 0)=true:=by simpa using he
           clear bf he;go_wp2_with fail;exact bodyPost_ret (v:=.tuple #[.agg #[vI 0,vI 0],vI er]) (by simp [results,results140,go_sem,J,I]) rfl ⟨rfl,Z01 F.o.l.b (by omega) _ _⟩
  . have hX:=bv.o.2 he;have D:=bq.o;rw [hX,bW.o] at D;subst D;have de:(er != 0)=true:=by simpa using he
    clear hX he;go_wp2_with fail;exact bodyPost_ret (v:=.tuple #[.agg #[vI 0,vI 0],vI er]) (by simp [results,results140,go_sem,J,I]) rfl ⟨rfl,Z01 H.o.l.b (by omega) _ _⟩
theorem Zpe:∀ (l:Fo) (k:Nat),k<flen l->EvC (getF l k).1 (getF l k).2:=by
 intro l;induction l with
 | nil=>intro k h;simp [flen] at h
 | node b o a s r ihs ihr =>
  intro k h;cases k with
  | zero =>
   show EvC a s;obtain ⟨op,n⟩:=a;by_cases h12:op=1\/op=2
   . exact Zfx op n s h12
   . by_cases h3:op=3
     . subst h3;exact Zfy n s
     . exact Zk7 op n s ihs (λh=>h12 (.inl h)) (λh=>h12 (.inr h)) h3
  | succ k=>exact ihr k (by simp [flen] at h;omega)
theorem Zfz (op n:Int)(l:Fo):EvC (op,n) l:=by
 by_cases h12:op=1\/op=2
 . exact Zfx op n l h12
 . by_cases h3:op=3
   . subst h3;exact Zfy n l
   . exact Zk7 op n l (Zpe l) (λh=>h12 (.inl h)) (λh=>h12 (.inr h)) h3
end
section
open Go.RowKit Lx Px Qx
theorem Z7E (n:Int)(w:World)(C:0<=n)(B:n<=366):Calls prog 187 #[vI n] w λe w'=>e=.returned (.tuple #[vI (wday n),vI 0])/\w=w':=by
 have G:decide (n<0)=false:=by simpa using C
 have F:decide (n > 366)=false:=by simpa using B
 have D:decide (366<n)=false:=by simpa using B
 go_enter func187,ntmps187;go_wp2_with fail;go_ret2;exact ⟨rfl,rfl⟩
theorem Zcq (a:Qx.Ask)(n:Int)(w:World)(I:a.okB=true)(O:a.fr<=n)(V:n<a.un):Calls prog 141 #[askV a,vI n] w λe w'=>e=.returned (vsV (Z0t a n))/\Below w.heap.size w w':=by
 obtain ⟨G,fr,D,F⟩:=a;obtain ⟨L,R,f,X,M,Z,g,N⟩:=Z1w I;dsimp only at O V L R f X M Z g N;have hw:=λW=>Z7E n W (by omega) (by omega);have l:IntKind.i64.wrap (D - fr)=D - fr:=zi _ (by omega);have r:IntKind.i64.wrap (n - fr)=n - fr:=zi _ (by omega);have hb:Below w.heap.size w ((w.alloc (.cells #[vI G,vI fr,vI D,vI F] 25)).alloc (.cells #[vI 0,vI 0,vI 0,vI 0] 187)) := ((zr w.heap.size w).alloc (zn _) _).alloc (by simp) _;have H:=Z0F w (.cells #[vI G,vI fr,vI D,vI F] 25) (.cells #[vI 0,vI 0,vI 0,vI 0] 187);dsimp only [askV,vsV,Z0t];generalize wday n=d at *
 obtain ⟨J,j,B⟩:=zh3 hw hb H;clear hw hb H I;go_enter func141,ntmps141;go_wp2_with fail;generalize (w.alloc (.cells #[vI G,vI fr,vI D,vI F] 25)).alloc (.cells #[vI 0,vI 0,vI 0,vI 0] 187)=C at *
 refine (J.o _).mono ?_;rintro e w' ⟨rfl,rfl⟩;have m:C.cell? ⟨w.heap.size,1,none⟩=some (vI fr):=by rw [zH B.o.1];rfl
 have A:C.cell? ⟨w.heap.size,2,none⟩=some (vI D):=by rw [zH B.o.1];rfl
 have k2:C.cell? ⟨w.heap.size,3,none⟩=some (vI F):=by rw [zH B.o.1];rfl
 have T:C.cell? ⟨w.heap.size+1,0,none⟩=some (vI 0):=by rw [zH B.o.2];rfl
 have S:C.cell? ⟨w.heap.size+1,1,none⟩=some (vI 0):=by rw [zH B.o.2];rfl
 have U:C.cell? ⟨w.heap.size+1,2,none⟩=some (vI 0):=by rw [zH B.o.2];rfl
 have Y:C.cell? ⟨w.heap.size+1,3,none⟩=some (vI 0):=by rw [zH B.o.2];rfl
 have f0:=zO B.o.2 0;have q:=zO B.o.2 1;have f2:=zO B.o.2 2;have y:=zO B.o.2 3;have hl:w.heap.size+1<C.heap.size:=(zF2.1 B.o.2).1;go_wp2_with fail;refine bodyPost_ret (v:=.agg #[vI (D - fr),vI F,vI (n - fr),vI d]) (by simp [results,results141,go_sem,T,S,U,Y]) rfl ⟨rfl,?_⟩
 repeat (first | exact j.o | (refine Below.setCell ?_ (by first | exact zn _ | exact Nat.le_add_right _ _ | (show _<=_;omega)) _) | (refine Below.alloc ?_ (by first | omega | (simp;omega) | (simp only [World.setCell,Array.size_modify];omega)) _))
theorem Zpf (B C:Int)(w:World)(I:0<=B)(U:B<=1000)(N:0<=C)(X:C<=6):Calls prog 233 #[vI B,vI C] w λe w'=>e=.returned (.bool (bitB B C.toNat))/\w=w':=by
 obtain ⟨d,rfl⟩:=zE2 N;rw [zB];obtain ⟨F,D⟩:∃ F,bitB B d=F:=⟨_,rfl⟩
 rw [D];have J:=zh D;clear D;go_enter func233,ntmps233;go_wp2_with fail;go_loop [0,5] (λx i=>∃ k:Nat,k<=d/\i=vI k/\x=vI (B / 2 ^ k)) (λ_ i=>d - (intOf i).toNat)
 case atStart=>exact ⟨0,Nat.zero_le _,rfl,by simp⟩
 case round =>
  obtain ⟨k,hk,rfl,rfl⟩:=hrel;have V:(0:Int)<2 ^ k:=Int.pow_pos (by decide);have L:0<=B / 2 ^ k:=Int.ediv_nonneg I (by omega);have Y:B / 2 ^ k<=B:=Int.ediv_le_self _ I;by_cases hlt:k<d
  . have S:decide ((k:Int)<d)=true:=by simpa using hlt
    have G:B / 2 ^ k / 2=B / 2 ^ (k+1):=by rw [Int.ediv_ediv_of_nonneg (by omega),<- Int.pow_succ]
    obtain ⟨u,H⟩:∃ u,B / 2 ^ (k+1)=u:=⟨_,rfl⟩
    rw [H] at G;generalize B / 2 ^ k=y at *
    have R:y.tdiv 2=u:=by rw [Int.tdiv_eq_ediv_of_nonneg L];exact G
    have T:IntKind.i64.wrap u=u:=zi _ (by omega);have M:¬ (2:Int)=0:=by decide
    go_wp2_with fail;go_round
    case rel=>exact ⟨k+1,by omega,by go_num,by rw [H]⟩
    case measure=>simp [intOf];omega
  . have O:k=d:=by omega
    subst O;have S:decide ((k:Int)<k)=false:=by simp
    have hb:F=(B / 2 ^ k % 2==1):=by rw [<- J.o];unfold bitB;rw [zA];simp
    clear J;generalize B / 2 ^ k=y at *
    subst hb;have R:y.tmod 2=y % 2:=Int.tmod_eq_emod_of_nonneg L;have M:¬ (2:Int)=0:=by decide
    have T:IntKind.i64.wrap (y % 2)=y % 2:=zi _ (by omega);go_wp2_with fail;go_ret;exact ⟨rfl,rfl⟩
theorem Zk8 (r:Rt)(T pv:Value)(a:Qx.Ask)(D:Int)(w:World)(bb:FoV w w.heap.size T r.wl)(q:FoV w w.heap.size pv r.pl)(y:Z17 r=0)(ha:a.okB=true) : Calls prog 183 #[rtV r T pv,askV a,vI D] w λe w'=>e=.returned (.bool (Z9p r a D))/\Below w.heap.size w w':=by
 obtain ⟨I,H,rfl,_⟩:=bb;obtain ⟨G,J,rfl,_⟩:=q;obtain ⟨f1,f2,f3,f4,f5,f6,f7,f8,f9,g1,g2,_,_,_,g6,g7,g8⟩:=Z3e (Z12 y);obtain ⟨a1,a2,a3,a4,a5,a6,a7,a8⟩:=Z1w ha;have Z:=λW=>Z7E a.fr W (by omega) (by omega);have hd:=Z7p a.fr;have d:=λW=>Zpf r.ar (wday a.fr) W (by omega) (by omega) (by omega) (by omega);have f:=Zed w #[vI r.id,vI r.lv,vI r.kd,vI r.fr,vI r.un,vI r.ls,vI r.mo,vI r.ar,vI r.kn,vI r.kq,vI r.wo,vI r.wn,slice I (flen r.wl) H,vI r.po,vI r.pn,slice G (flen r.pl) J] a;obtain ⟨R,C⟩:∃ R:Array Value,R=#[vI r.id,vI r.lv,vI r.kd,vI r.fr,vI r.un,vI r.ls,vI r.mo,vI r.ar,vI r.kn,vI r.kq,vI r.wo,vI r.wn,slice I (flen r.wl) H,vI r.po,vI r.pn,slice G (flen r.pl) J]:=⟨_,rfl⟩
 have O:R[2]?=some (vI r.kd):=by rw [C];rfl
 have S:R[3]?=some (vI r.fr):=by rw [C];rfl
 have Y:R[4]?=some (vI r.un):=by rw [C];rfl
 have N:R[5]?=some (vI r.ls):=by rw [C];rfl
 have V:R[6]?=some (vI r.mo):=by rw [C];rfl
 have U:R[7]?=some (vI r.ar):=by rw [C];rfl
 have M:=λW=>Z52 (a.un - a.fr) r.ls r.mo W;have w1:IntKind.i64.wrap (a.un - a.fr)=a.un - a.fr:=zi _ (by omega);have L:Z9p r a D=(decide (r.kd=a.kind)&&decide (r.fr<=D)&&decide (D<r.un)&&Z1d (a.un - a.fr) r.ls r.mo&&bitB r.ar (wday a.fr).toNat):=by unfold Z9p Z1d;simp only [Bool.and_assoc]
 rw [L];have dk:(r.kd==a.kind)=decide (r.kd=a.kind):=by rw [zA];simp
 generalize Z1d (a.un - a.fr) r.ls r.mo=s2 at *
 generalize bitB r.ar (wday a.fr).toNat=s3 at *
 generalize wday a.fr=dd at *
 obtain ⟨b1,F⟩:∃ b,decide (r.kd=a.kind)=b:=⟨_,rfl⟩
 obtain ⟨b2,g⟩:∃ b,decide (r.fr<=D)=b:=⟨_,rfl⟩
 obtain ⟨m,l⟩:∃ b,decide (D<r.un)=b:=⟨_,rfl⟩
 rw [F] at dk;rw [F,g,l];obtain ⟨j,ba,X,A⟩:=zh4 Z M f d;clear Z M f d L F;dsimp only [rtV,askV];go_enter func183,ntmps183;go_upto_region 1 with fail;generalize (w.alloc (.cells #[vI r.id,vI r.lv,vI r.kd,vI r.fr,vI r.un,vI r.ls,vI r.mo,vI r.ar,vI r.kn,vI r.kq,vI r.wo,vI r.wn,slice I (flen r.wl) H,vI r.po,vI r.pn,slice G (flen r.pl) J] 81)).alloc (.cells #[vI a.kind,vI a.fr,vI a.un,vI a.pers] 25)=W at *
 have B:Hid (ApB w R a W):=by rw [C];exact X.o
 clear X C;obtain ⟨k0,k1,k2,k3⟩:=B.o.asks;have c2:=B.o.cell 2 _ O;have c3:=B.o.cell 3 _ S;have c4:=B.o.cell 4 _ Y;have c5:=B.o.cell 5 _ N;have c6:=B.o.cell 6 _ V;have c7:=B.o.cell 7 _ U;clear O S Y N V U;go_wp2_with fail;refine (j.o _).mono ?_;rintro e w' ⟨rfl,rfl⟩;go_wp2_with fail;refine (A.o _).mono ?_;rintro e w' ⟨rfl,rfl⟩;cases b1
 . go_wp2_with fail;go_ret;exact ⟨rfl,B.o.b⟩
 . cases b2
   . go_wp2_with fail;go_ret;exact ⟨rfl,B.o.b⟩
   . cases m
     . go_wp2_with fail;go_ret;exact ⟨rfl,B.o.b⟩
     . go_wp2_with fail;refine (ba.o _).mono ?_;rintro e w' ⟨rfl,rfl⟩;cases s2
       . go_wp2_with fail;go_ret;exact ⟨rfl,B.o.b⟩
       . go_wp2_with fail;go_ret;exact ⟨rfl,B.o.b⟩
theorem Zcr (r:Rt)(O pv:Value)(a:Qx.Ask)(B:Int)(w:World)(bG:FoV w w.heap.size O r.wl)(bj:FoV w w.heap.size pv r.pl)(hr:Z17 r=0)(T:a.okB=true)(h0:a.fr<=B)(h1:B<a.un) : Calls prog 139 #[rtV r O pv,askV a,vI B] w λe w'=>e=.returned (apO (apR r a B))/\Below w.heap.size w w':=by
 have m:=λW (hb:Below w.heap.size w W)=>(bG.on hb).up hb.size;have ba:=λW (hb:Below w.heap.size w W)=>(bj.on hb).up hb.size;have q:=λW hb=>Z9h r O pv W (m W hb) (ba W hb);have A:=λW hb=>Zk8 r O pv a B W (m W hb) (ba W hb) hr T;rw [hr,show ((0:Int)==0)=true from rfl] at q;obtain ⟨vw,_⟩:=Z2k (Z12 hr);obtain ⟨bn,bE⟩:=Z4q vw;obtain ⟨a1,a2,a3,a4,a5,a6,a7,a8⟩:=Z1w T;have bu:=Z5j T h0 h1;have l:=λW=>Z8n a W;rw [T] at l;have hin:=λW=>Z52 B a.fr (a.un - 1) W;have bO:Z1d B a.fr (a.un - 1)=true:=by unfold Z1d;simp;omega
 rw [bO] at hin;have wu:IntKind.i64.wrap (a.un - 1)=a.un - 1:=zi _ (by omega);have bf:=λW=>Zcq a B W T h0 h1;have hval:∀ W,Below w.heap.size w W->Calls prog 140 #[.agg #[vI r.wo,vI r.wn,O],vsV (Z0t a B)] W (RetV (valE (Z0t a B) (r.wo,r.wn) r.wl) W):=λW hb=>Zfz r.wo r.wn r.wl W O W.heap.size (Z0t a B) (m W hb) (zn _) bn bE bu;unfold RetV at hval;obtain ⟨H,L,rfl,bI⟩:=bG;obtain ⟨f,j,rfl,_⟩:=bj;have bg:Z9p r a B=false->apR r a B=0:=λh=>by unfold apR;rw [h];rfl
 have bA:Z9p r a B=true->apR r a B=match valE (Z0t a B) (r.wo,r.wn) r.wl with | .ok n _=>if n=1 then 1 else 0 | .no e=>-e:=λh=>by unfold apR;rw [h];rfl
 have br:∀ e,valE (Z0t a B) (r.wo,r.wn) r.wl=.no e->e=3\/e=22:=λe h=>Z3B h;have bt:=Zed w #[vI r.id,vI r.lv,vI r.kd,vI r.fr,vI r.un,vI r.ls,vI r.mo,vI r.ar,vI r.kn,vI r.kq,vI r.wo,vI r.wn,slice H (flen r.wl) L,vI r.po,vI r.pn,slice f (flen r.pl) j] a;obtain ⟨R,I⟩:∃ R:Array Value,R=#[vI r.id,vI r.lv,vI r.kd,vI r.fr,vI r.un,vI r.ls,vI r.mo,vI r.ar,vI r.kn,vI r.kq,vI r.wo,vI r.wn,slice H (flen r.wl) L,vI r.po,vI r.pn,slice f (flen r.pl) j]:=⟨_,rfl⟩
 have bm:rtV r (slice H (flen r.wl) L) (slice f (flen r.pl) j)=.agg R:=by rw [I];rfl
 rw [bm] at q A;have bx:R.size=16:=by rw [I];rfl
 have bD:R[10]?=some (vI r.wo):=by rw [I];rfl
 have bh:R[11]?=some (vI r.wn):=by rw [I];rfl
 have bz:R[12]?=some (slice H (flen r.wl) L):=by rw [I];rfl
 generalize valE (Z0t a B) (r.wo,r.wn) r.wl=V at *
 generalize apR r a B=X at *
 generalize Z9p r a B=ft at *
 simp only [askV] at l bf A;obtain ⟨bN,bQ,bb,be,bK,bC,bs,bq,bH,bk,bB,bJ,bM,bL⟩:=zh14 bf hval bg bA br bt q A l hin bx bD bh bz;clear bf hval bg bA br bt q A l hin bx bD bh bz bI vw bn bE bu m ba bm;dsimp only [rtV,askV];go_enter func139,ntmps139;go_upto_region 1 with fail;generalize (w.alloc (.cells #[vI r.id,vI r.lv,vI r.kd,vI r.fr,vI r.un,vI r.ls,vI r.mo,vI r.ar,vI r.kn,vI r.kq,vI r.wo,vI r.wn,slice H (flen r.wl) L,vI r.po,vI r.pn,slice f (flen r.pl) j] 81)).alloc (.cells #[vI a.kind,vI a.fr,vI a.un,vI a.pers] 25)=W at *
 have g:Hid (ApB w R a W):=by rw [I];exact bC.o
 clear bC I;go_wp2_with (refine Z3F rfl _ rfl w.heap.size rfl R bB.o g.o.r ?_);refine (bs.o W g.o.b).mono ?_;rintro e w2 ⟨rfl,bv⟩;have bc:=zh (g.o.on bv);clear bv g bs;obtain ⟨Y,Z,U,S⟩:=bc.o.asks;go_wp2_with fail;refine (bH.o _).mono ?_;rintro e w3 ⟨rfl,bp⟩;have d:=zh (bc.o.on bp);clear bp bc bH Y Z U S;obtain ⟨Y,Z,U,S⟩:=d.o.asks;go_wp2_with fail;refine (bk.o _).mono ?_;rintro e w' ⟨rfl,rfl⟩;go_wp2_with (refine Z3F rfl _ rfl w.heap.size rfl R bB.o d.o.r ?_);refine (bq.o _ d.o.b).mono ?_;rintro e F ⟨rfl,bF⟩;have y:=zh (d.o.on bF);clear bF d bq Y Z U S bk;cases ft with
 | false =>have hX:=bb.o rfl;subst hX;clear bb be;go_wp2_with fail;go_ret2;exact ⟨rfl,y.o.b⟩
 | true =>
  have HX:=zh (be.o rfl);clear bb be;go_upto_region 8 with fail;have D:Hid (∀ wx,ApB w R a wx->wx.cell? ⟨w.heap.size,10,none⟩=some (vI r.wo)/\wx.cell? ⟨w.heap.size,11,none⟩=some (vI r.wn)/\wx.cell? ⟨w.heap.size,12,none⟩=some (slice H (flen r.wl) L)/\wx.cell? ⟨w.heap.size+1,0,none⟩=some (vI a.kind)/\wx.cell? ⟨w.heap.size+1,1,none⟩=some (vI a.fr)/\wx.cell? ⟨w.heap.size+1,2,none⟩=some (vI a.un)/\wx.cell? ⟨w.heap.size+1,3,none⟩=some (vI a.pers)/\ApB w R a wx):=λwx h=>by obtain ⟨Y,Z,U,S⟩:=h.asks;exact ⟨h.cell 10 _ bJ.o,h.cell 11 _ bM.o,h.cell 12 _ bL.o,Y,Z,U,S,h⟩
  have bR:w.heap.size+1<F.heap.size:=y.o.lt;go_region_held3 (λw'=>w'.cell? ⟨w.heap.size,10,none⟩=some (vI r.wo)/\w'.cell? ⟨w.heap.size,11,none⟩=some (vI r.wn)/\w'.cell? ⟨w.heap.size,12,none⟩=some (slice H (flen r.wl) L)/\w'.cell? ⟨w.heap.size+1,0,none⟩=some (vI a.kind)/\w'.cell? ⟨w.heap.size+1,1,none⟩=some (vI a.fr)/\w'.cell? ⟨w.heap.size+1,2,none⟩=some (vI a.un)/\w'.cell? ⟨w.heap.size+1,3,none⟩=some (vI a.pers)/\ApB w R a w') (first | (with_reducible exact D.o _ y.o.drew) | (with_reducible exact D.o _ (y.o.alloc _).drew) | (with_reducible exact D.o _ J) | (with_reducible exact D.o _ M) | (with_reducible exact D.o _ (J.alloc _)) | (with_reducible exact D.o _ (M.alloc _)) | (exact D.o _ ((‹_/\_/\_/\_/\_/\_/\_/\ApB w R a _›).2.2.2.2.2.2.2.alloc _)) | (exact D.o _ ((J.set (b:=F.heap.size) (by omega) 0 _).set (b:=F.heap.size) (by omega) 1 _)) | (exact D.o _ ((J.set (b:=w5.heap.size) (by have:=M.lt;omega) 0 _).set (b:=w5.heap.size) (by have:=M.lt;omega) 1 _)) | fail) (first
    | (go_at_call 141;have G:=(‹_/\_/\_/\_/\_/\_/\_/\ApB w R a _›).2.2.2.2.2.2.2;refine (bN.o _).mono ?_;rintro e w5 ⟨rfl,bd⟩;have M:=G.on bd;try (have C:=(bd.block F.heap.size (by simp [go_sem])).trans (za F (.cells #[vI 0,vI 0] 76));have bP:Hid (RatB w5 F.heap.size 0 0):=C;clear C);clear bd G)
    | (go_at_call 140;have G:=(‹_/\_/\_/\_/\_/\_/\_/\ApB w R a _›).2.2.2.2.2.2.2;refine (bQ.o _ G.b).mono ?_;rintro e w6 ⟨rfl,N⟩;have J:=G.on N;first | (have C:=bP.o.on N;have z0:=C.c0;have z1:=C.c1;have y0:=C.fr 0;have y1:=C.fr 1;clear C N G) | (have C:RatB w6 w5.heap.size 0 0:=(N.block w5.heap.size (by simp [go_sem])).trans (za w5 (.cells #[vI 0,vI 0] 76));have z0:=C.c0;have z1:=C.c1;have y0:=C.fr 0;have y1:=C.fr 1;clear C N G) | (clear N G)))
  all_goals
   have HO:=zh (ZqB HX.o bK.o);go_wp2_with fail;refine bodyPost_ret (v:=.tuple #[.bool (vN V==1),vI (vE V)]) (by simp [results,results139,go_sem]) rfl ?_;refine ⟨by rw [apO,HO.o.1,HO.o.2],?_⟩
   first
    | exact (J.alloc _).b
    | exact ((J.set (b:=F.heap.size) (by omega) 0 _).set (b:=F.heap.size) (by omega) 1 _).b
    | exact ((J.set (b:=w5.heap.size) (by have:=M.lt;omega) 0 _).set (b:=w5.heap.size) (by have:=M.lt;omega) 1 _).b
end
section
open Go.RowKit Lx Px Qx
theorem Zhq (n d:Int)(B:1<=d):(if n.tmod d<0 then n.tdiv d - 1 else n.tdiv d)=n / d:=by
 rw [<- ZfD n d B];have h:=Int.mul_tdiv_add_tmod n d;rw [Int.mul_comm] at h;by_cases c:n.tmod d<0
 . rw [zp c,zp (by omega)]
 . rw [zf c,zf (by omega)]
theorem Zhr (n d:Int)(w:World)(L : -4000000000000000000<=n)(U:n<=4000000000000000000)(H:1<=d)(T:d<=1000000) : Calls prog 188 #[vI n,vI d] w λe w'=>e=.returned (vI (n / d))/\w=w':=by
 have B:=Zhq n d H;have S:¬ d=0:=by omega
 have D:=Int.natAbs_tdiv_le_natAbs n d;have J:=Int.mul_tdiv_add_tmod n d;have I : -1000000<=n.tmod d/\n.tmod d<=1000000:=by have h4:=Int.tmod_lt_of_pos n (show 0<d by omega);have R:=Int.lt_tmod_of_pos n (show 0<d by omega);omega
 obtain ⟨q,C⟩:∃ q,n.tdiv d=q:=⟨_,rfl⟩
 obtain ⟨r,F⟩:∃ r,n.tmod d=r:=⟨_,rfl⟩
 rw [C,F] at B;rw [F] at I;rw [C] at D;have O:IntKind.i64.wrap q=q:=zi _ (by omega);have N:IntKind.i64.wrap r=r:=zi _ (by omega);have M:IntKind.i64.wrap (q - 1)=q - 1:=zi _ (by omega);generalize n / d=f at *
 clear D J;by_cases c:r<0
 . have G:decide (r<0)=true:=by simpa using c
   rw [zp c] at B;subst B;go_enter func188,ntmps188;go_wp2_with fail;go_ret;exact ⟨rfl,rfl⟩
 . have G:decide (r<0)=false:=by simpa using c
   rw [zf c] at B;subst B;go_enter func188,ntmps188;go_wp2_with fail;go_ret;exact ⟨rfl,rfl⟩
theorem Zpg (q:Int):(q.tmod 2 != 0)=decide (q % 2=1):=by
 have h:q.tmod 2=0 ↔ q % 2=0:=by
  constructor
  . intro h;have:=Int.mul_tdiv_add_tmod q 2;omega
  . intro h;exact Int.tmod_eq_zero_of_dvd (Int.dvd_of_emod_eq_zero h)
 rw [zA];simp only [bne_iff_ne,ne_eq,decide_eq_true_eq];rw [h];omega
theorem Z7F (n d:Int)(w:World)(O : -4000000000000000000<=n)(T:n<=4000000000000000000)(F:1<=d)(X:d<=1000000) : Calls prog 143 #[vI n,vI d,vI 3] w λe w'=>e=.returned (vI (rndE n d))/\w=w':=by
 have L:=λW=>Zhr n d W O T F X;have q:=Int.emod_nonneg n (show d≠0 by omega);have ba:=Int.emod_lt_of_pos n (show 0<d by omega);have J:=Int.mul_ediv_add_emod n d;have I:n - n / d*d=n % d:=by rw [Int.mul_comm];omega
 have M:rndE n d=if d<2*(n % d)\/2*(n % d)=d/\(n / d) % 2=1 then n / d+1 else n / d:=rfl;have G:=Zpg (n / d);have Z : -4000000000001000001<=n / d/\n / d<=4000000000000000000:=by
  have A:d*(n / d)<=n:=by omega
  have hup:n<d*(n / d)+d:=by omega
  constructor
  . rcases Int.lt_or_le (n / d) (-4000000000001000001) with h | h
    . have:d*(n / d)<=1*(n / d):=Int.mul_le_mul_of_nonpos_right F (by omega);omega
    . exact h
  . rcases Int.lt_or_le 4000000000000000000 (n / d) with h | h
    . have:1*(n / d)<=d*(n / d):=Int.mul_le_mul_of_nonneg_right F (by omega);omega
    . exact h
 have j:IntKind.i64.wrap (n / d*d)=n / d*d:=zi _ (by omega);have l:IntKind.i64.wrap (n - n / d*d)=n % d:=by rw [I];exact zi _ (by omega)
 generalize rndE n d=R at *
 generalize n / d=f at *
 generalize n % d=r at *
 have Y:IntKind.i64.wrap (d - r)=d - r:=zi _ (by omega);have w4:IntKind.i64.wrap (f+1)=f+1:=zi _ (by omega);have m:¬ (2:Int)=0:=by decide
 obtain ⟨t,S⟩:∃ t,f.tmod 2=t:=⟨_,rfl⟩
 have tb : -1<=t/\t<=1:=by have h4:=Int.tmod_lt_of_pos f (show 0<(2:Int) by omega);have h5:=Int.lt_tmod_of_pos f (show 0<(2:Int) by omega);omega
 have wt:IntKind.i64.wrap t=t:=zi _ (by omega);rw [S] at G;obtain ⟨C,y,g,D⟩:=zh4 L J I M;clear L J I M;by_cases c1:r > d - r
 . have H:decide (r > d - r)=true:=by simpa using c1
   have U:decide (d - r<r)=true:=H;have B:=D.o;rw [zp (.inl (by omega))] at B;subst B;go_enter func143,ntmps143;go_wp2_with fail;refine (C.o _).mono ?_;rintro e w' ⟨rfl,rfl⟩;go_wp2_with fail;go_ret;exact ⟨rfl,rfl⟩
 . have H:decide (r > d - r)=false:=by simpa using c1
   have U:decide (d - r<r)=false:=H;by_cases c2:r=d - r
   . have V:(r==d - r)=true:=by simpa using c2
     by_cases c3:f % 2=1
     . have N:(t != 0)=true:=by rw [G];simpa using c3
       have B:=D.o;rw [zp (.inr ⟨by omega,c3⟩)] at B;subst B;clear c2;go_enter func143,ntmps143;go_wp2_with fail;refine (C.o _).mono ?_;rintro e w' ⟨rfl,rfl⟩;go_wp2_with fail;go_ret;exact ⟨rfl,rfl⟩
     . have N:(t != 0)=false:=by rw [G];simpa using c3
       have B:=D.o;rw [zf (by rintro (h | ⟨_,h⟩);omega;exact c3 h)] at B;subst B;clear c2;go_enter func143,ntmps143;go_wp2_with fail;refine (C.o _).mono ?_;rintro e w' ⟨rfl,rfl⟩;go_wp2_with fail;go_ret;exact ⟨rfl,rfl⟩
   . have V:(r==d - r)=false:=by simpa using c2
     have B:=D.o;rw [zf (by rintro (h | ⟨h,_⟩) <;> omega)] at B;subst B;clear c2;go_enter func143,ntmps143;go_wp2_with fail;refine (C.o _).mono ?_;rintro e w' ⟨rfl,rfl⟩;go_wp2_with fail;go_ret;exact ⟨rfl,rfl⟩
theorem Ze9 (n d:Int)(w:World)(B:ratB n d=true):Calls prog 142 #[.agg #[vI n,vI d],vI 3] w λe w'=>e=.returned (.tuple #[vI (rndE n d),vI 0])/\Below w.heap.size w w':=by
 obtain ⟨S,O,U,V,_⟩:=Z11 B;have G:=RatB.new w n d;have D:=λW=>Z1r n d W;rw [B] at D;have I:=λW=>Z7F n d W (by omega) (by omega) S O;have J:Below w.heap.size w (w.alloc (.cells #[vI n,vI d] 76)):=(zr w.heap.size w).alloc (zn _) _;generalize rndE n d=z at *
 obtain ⟨N,R,H,L⟩:=zh4 D I G J;clear D I G J B;go_enter func142,ntmps142;go_wp2_with fail;generalize w.alloc (.cells #[vI n,vI d] 76)=Y at *
 refine (N.o _).mono ?_;rintro e T ⟨rfl,F⟩;have C:=H.o.on F;have c0:=C.c0;have c1:=C.c1;have M:=zh (Z00 L.o F);clear C F H L;go_wp2_with fail;refine (R.o _).mono ?_;rintro e X ⟨rfl,rfl⟩;go_wp2_with fail;go_ret2;exact ⟨rfl,M.o⟩
theorem Zhs (m n d:Int)(w:World)(N:0<=m)(V:m<=1000000000)(C:ratB n d=true)(T:0<=n)(f:n<=d):Calls prog 104 #[vI m,.agg #[vI n,vI d],vI 3] w λe w'=>e=.returned (.tuple #[vI (rndE (m*n) d),vI 0])/\Below w.heap.size w w':=by
 obtain ⟨S,L,y,r4,_⟩:=Z11 C;have H:=RatB.new w n d;have F:=λW=>Z1r n d W;have U:0<=m*n:=Int.mul_nonneg N T;have B:m*n<=m*d:=Int.mul_le_mul_of_nonneg_left f N;have I:m*d<=1000000000*1000000:=Int.mul_le_mul V L (by omega) (by omega);have bd:m*n<=1000000000000000:=by omega
 obtain ⟨z0,q⟩:=Z7u (n:=m*n) (d:=d) (m:=m) S U B;have M:=λW=>Z7F (m*n) d W (by omega) (by omega) S L;have j:IntKind.i64.wrap (m*n)=m*n:=zi _ (by omega);rw [C] at F;have O:Below w.heap.size w (w.alloc (.cells #[vI n,vI d] 76)):=(zr w.heap.size w).alloc (zn _) _;generalize rndE (m*n) d=z at *
 have dz:decide (z > 1000000000)=false:=by simp;omega
 have bb:decide ((1000000000:Int)<z)=false:=by simp;omega
 have be:decide (z < -1000000000)=false:=by simp;omega
 have l:decide (m < -1000000000)=false:=by simp;omega
 have bc:decide (m > 1000000000)=false:=by simp;omega
 have A:decide ((1000000000:Int)<m)=false:=by simp;omega
 obtain ⟨Y,Z,J,R,g,ba⟩:=zh6 F M H O B I;clear F M H O B I C;go_enter func104,ntmps104;go_wp2_with fail;generalize w.alloc (.cells #[vI n,vI d] 76)=W1 at *
 refine (Y.o _).mono ?_;rintro e r ⟨rfl,G⟩;have D:=J.o.on G;have c0:=D.c0;have c1:=D.c1;have X:=zh (Z00 R.o G);clear D G J R;go_wp2_with fail;refine (Z.o _).mono ?_;rintro e w4 ⟨rfl,rfl⟩;go_wp2_with fail;go_ret2;exact ⟨rfl,X.o⟩
end
section
open Go.RowKit Lx Px Qx
structure AkB (p:Nat) (a:Qx.Ask) (W:World):Prop where
 h:W.heap[p]?=some (.cells #[vI a.kind,vI a.fr,vI a.un,vI a.pers] 25 (0,0))
theorem AkB.on {p:Nat}{a:Qx.Ask}{W B:World}(h:AkB p a W)(hb:Below W.heap.size W B):AkB p a B:=⟨(hb.block _ (zF2.1 h.h).1).trans h.h⟩
theorem AkB.c {p:Nat}{a:Qx.Ask}{W:World}(h:AkB p a W):W.cell? ⟨p,0,none⟩=some (vI a.kind)/\W.cell? ⟨p,1,none⟩=some (vI a.fr)/\W.cell? ⟨p,2,none⟩=some (vI a.un)/\W.cell? ⟨p,3,none⟩=some (vI a.pers) := ⟨by rw [zH h.h];rfl,by rw [zH h.h];rfl,by rw [zH h.h];rfl,by rw [zH h.h];rfl⟩
end
