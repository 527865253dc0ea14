import Derived.Test.YtnepkoepbapgeaaGreatDoorQuoTyp7
namespace Go.Proofs.YtnepkoepbapgeaaGreatDoor
open _root_.Go.Proofs.Tryz
open Value (int slice)
open IntKind (i64)
set_option maxHeartbeats 1000000
set_option maxRecDepth 100000
section
open Go.RowKit Lx Px Qx
theorem Zp0 (a b:Nat)(w:World)(F:a<=4000000000000000000)(hb:b<=4000000000000000000):Calls prog 166 #[int i64 a,int i64 b] w λe w'=>e=.returned (int i64 (Nat.gcd a b))/\w=w':=by
 go_enter func166,ntmps166;go_wp2_with fail;go_loop [0,1] (λx y=>∃ p q:Nat,x=int i64 p/\y=int i64 q/\p<=4000000000000000000/\q<=4000000000000000000/\Hid (Nat.gcd p q=Nat.gcd a b)) (λ_ y=>(intOf y).toNat)
 case atStart=>exact ⟨a,b,rfl,rfl,F,hb,rfl⟩
 case round =>
  obtain ⟨p,q,rfl,rfl,J,H,C⟩:=hrel;by_cases h0:0<q
  · have t:((q:Int) != 0)=true:=by simp;omega
    have L:p % q<q:=Nat.mod_lt _ h0;have I:((p:Int) % (q:Int))=((p % q:Nat):Int):=by simp
    go_wp2_with fail;go_round
    case rel=>exact ⟨q,p % q,rfl,by first | rfl | simp,H,by omega,by rw [<- C.out,Z81 p q h0];rfl⟩
    case measure=>simp [intOf];omega
  · have t:((q:Int) != 0)=false:=by simp;omega
    have D:q=0:=by omega
    have B:=C.out;rw [D,Nat.gcd_zero_right] at B;have G:=zh B;clear B C D;go_wp2_with fail;go_ret;rw [<- G.out];exact ⟨rfl,rfl⟩
theorem Zfy (n:Int)(w:World)(C : -4000000000000000000<=n)(B:n<=4000000000000000000):Calls prog 167 #[int i64 n] w λe w'=>e=.returned (int i64 (n.natAbs:Nat))/\w=w':=by
 by_cases h:n<0
 · have d:decide (n<0)=true:=by simpa using h
   go_enter func167,ntmps167;go_wp2_with fail;go_ret;exact ⟨Z4e (by omega),rfl⟩
 · have d:decide (n<0)=false:=by simpa using h
   go_enter func167,ntmps167;go_wp2_with fail;go_ret;exact ⟨Z4e (by omega),rfl⟩
theorem Z6r (n:Int)(w:World)(C : -4000000000000000000<=n)(B:n<=4000000000000000000):Calls prog 113 #[int i64 n] w λe w'=>e=.returned (int i64 (n.natAbs:Nat))/\w=w':=by
 go_enter func113,ntmps113;go_wp2_with fail;go_ret;exact ⟨Z4e (by omega),rfl⟩
theorem Zhp (k:Nat):∀ (a b:Nat) (p:Addr) (w:World),b<=k->a<=4000000000000000000->b<=4000000000000000000->w.cell? p=some (.func (.func 204) #[] #[.pointer (some p)]) -> Calls prog 204 #[int i64 a,int i64 b,.pointer (some p)] w λe w'=>e=.returned (int i64 (Nat.gcd a b))/\∃ m,w'=w.drewN m:=by
 induction k with
 | zero =>
  intro a b p w hk H hb F;have B:b=0:=by omega
  subst B;rw [Nat.gcd_zero_right];go_enter func204,ntmps204;go_wp2_with fail;go_ret;exact ⟨rfl,0,rfl⟩
 | succ k ih =>
  intro a b p w hk H hb F;by_cases B:0<b
  · have t:((b:Int)==0)=false:=by simp;omega
    obtain ⟨r,C⟩:∃ r,r=a % b:=⟨_,rfl⟩
    have N:r<b:=by rw [C];exact Nat.mod_lt _ B
    have G:((a:Int) % (b:Int))=(r:Int):=by rw [C];simp
    have M:(a:Int).tmod (b:Int)=(r:Int):=by rw [Int.tmod_eq_emod_of_nonneg (by omega)];exact G
    have D:=Z81 a b B;rw [<- C] at D;have I:=zh D;have J:=zh ih;clear D ih C;have R:¬ (b:Int)=0:=by omega
    have O:(0:Int)<=(a:Int):=by omega
    go_enter func204,ntmps204;go_wp2_with fail;go_quiet ((go_at_call 204;exact Calls.quiet_of (J.out b r p _ (by omega) (by omega) (by omega) (by simpa using F))));go_wp2_with fail;go_ret;rw [I.out];exact ⟨rfl,_,rfl⟩
  · have L:b=0:=by omega
    subst L;rw [Nat.gcd_zero_right];go_enter func204,ntmps204;go_wp2_with fail;go_ret;exact ⟨rfl,0,rfl⟩
theorem Z60 (n d:Int)(w:World)(q : -4000000000000000000<=n)(h1:n<=4000000000000000000)(h2:1<=d)(h3:d<=4000000000000000000) : Calls prog 154 #[.agg #[int i64 n,int i64 d]] w λe w'=>e=.returned (.agg #[int i64 (n.tdiv (Nat.gcd n.natAbs d.natAbs:Nat)),int i64 (d.tdiv (Nat.gcd n.natAbs d.natAbs:Nat))])/\Below w.heap.size w w':=by
 have U:∀ (fn:Fn) (first cap:Array Value) (w:World),(Instr.makeFunc fn first cap).run prog w=.ok (.func fn first cap) w:=λ_ _ _ _=>rfl;obtain ⟨B,rfl⟩:=zE2 (show 0<=d by omega);obtain ⟨g,F⟩:∃ g,g=Nat.gcd n.natAbs B:=⟨_,rfl⟩
 have bb:0<g:=by rw [F];exact Nat.gcd_pos_of_pos_right _ (by omega)
 have ba:g<=B:=by rw [F];exact Nat.le_of_dvd (by omega) (Nat.gcd_dvd_right _ _)
 rw [Int.natAbs_natCast,<- F];have S:=zh F;clear F;have r:(Nat.gcd n.natAbs B:Int)=(g:Int):=by rw [S.out]
 go_enter func154,ntmps154;go_wp2_with fail;go_quiet (first | (go_at_call 113;exact Calls.quiet_of_same ((Z6r n _ q h1).mono λ_ _ h=>⟨h.1,h.2.symm⟩)) | (go_at_call 204;exact Calls.quiet_of (Zhp B n.natAbs B ⟨w.heap.size+1+1,0,none⟩ _ (zn _) (by omega) (by omega) (by simp [go_sem]))));go_wp2_with fail;rw [show n.natAbs.gcd B=g from S.out.symm];obtain ⟨W,C⟩:∃ W,W=(((w.alloc (.cells #[int i64 n,int i64 B] 158)).alloc (.cells #[int i64 0,int i64 0] 158)).alloc (.cells #[.func (.func 204) #[] #[.pointer (some ⟨w.heap.size+1+1,0,none⟩)]] 110)).drewN nq:=⟨_,rfl⟩
 rw [<- C];have c0:W.cell? ⟨w.heap.size,0,none⟩=some (int i64 n):=by rw [C];simp [go_sem]
 have c1:W.cell? ⟨w.heap.size,1,none⟩=some (int i64 B):=by rw [C];simp [go_sem]
 have J:W.heap[w.heap.size+1]?=some (.cells #[int i64 0,int i64 0] 158 (0,0)):=by rw [C];show (((w.alloc _).alloc _).alloc _).heap[w.heap.size+1]?=_;have:=Z0A (za (w.alloc (.cells #[int i64 n,int i64 B] 158)) (.cells #[int i64 0,int i64 0] 158)) (.cells #[.func (.func 204) #[] #[.pointer (some ⟨w.heap.size+1+1,0,none⟩)]] 110);simpa using this
 have N:Below w.heap.size w W:=by rw [C];exact Z0e ((((zr _ _).alloc (zn _) _).alloc (by simp) _).alloc (by simp;omega) _) _
 have O:=zh N;have M:=zh J;clear C N J U r;have hz:¬ g=0:=by omega
 go_still_tail 9,(by kernel_rfl)
 change wpList _ _ _ _ _ W.drew;have I:=O.out.drew;have D:W.drew.heap[w.heap.size+1]?=_:=M.out;clear O M c0 c1;generalize W.drew=G at *
 have m:G.cell? ⟨w.heap.size+1,0,none⟩=some (int i64 0):=by rw [zc D];rfl
 have A:G.cell? ⟨w.heap.size+1,1,none⟩=some (int i64 0):=by rw [zc D];rfl
 have Z:=zO D 0;have X:=zO D 1;have f:=zh I;have V:=zh D;clear I D;go_wp2_with fail;have l:(0:Int)<=(B:Int) / (g:Int):=Int.ediv_nonneg (by omega) (by omega);have j:(B:Int) / (g:Int)<=(B:Int):=Int.ediv_le_self _ (by omega);have hw:wrap64 ((B:Int) / (g:Int))=(B:Int).tdiv (g:Int):=by rw [IntWalk.wrap64_in _ ⟨by omega,by omega⟩,Int.tdiv_eq_ediv_of_nonneg (by omega)]
 rw [hw];have H:((G.setCell ⟨w.heap.size+1,0,none⟩ (int i64 (n.tdiv g))).setCell ⟨w.heap.size+1,1,none⟩ (int i64 ((B:Int).tdiv g))).heap[w.heap.size+1]?=some (.cells #[int i64 (n.tdiv g),int i64 ((B:Int).tdiv g)] 158 (0,0)):=by rw [Z36 (Z36 V.out _) _];rfl
 have R:Below w.heap.size w ((G.setCell ⟨w.heap.size+1,0,none⟩ (int i64 (n.tdiv g))).setCell ⟨w.heap.size+1,1,none⟩ (int i64 ((B:Int).tdiv g))) := (f.out.setCell (p:=⟨w.heap.size+1,0,none⟩) (by show _<=_+1;omega) _).setCell (p:=⟨w.heap.size+1,1,none⟩) (by show _<=_+1;omega) _;have y:=zh R;clear hw l j R m A Z X;generalize (G.setCell ⟨w.heap.size+1,0,none⟩ (int i64 (n.tdiv g))).setCell ⟨w.heap.size+1,1,none⟩ (int i64 ((B:Int).tdiv g))=L at *
 have T:L.cell? ⟨w.heap.size+1,0,none⟩=some (int i64 (n.tdiv g)):=by rw [zc H];rfl
 have Y:L.cell? ⟨w.heap.size+1,1,none⟩=some (int i64 ((B:Int).tdiv g)):=by rw [zc H];rfl
 clear H;exact bodyPost_ret (v:=.agg #[int i64 (n.tdiv g),int i64 ((B:Int).tdiv g)]) (by simp [results,results154,go_sem,T,Y]) rfl ⟨rfl,y.out⟩
def retV:V->Value
 | .ok n d=>.tuple #[.agg #[int i64 n,int i64 d],int i64 0]
 | .no e=>.tuple #[.agg #[int i64 0,int i64 0],int i64 e]
theorem Z5i (n d:Int)(L : -4000000000000000000<=n)(F:n<=4000000000000000000)(J:1<=d)(G:d<=4000000000000000000) : -4000000000000000000<=redN n d/\redN n d<=4000000000000000000/\1<=redD n d/\redD n d<=4000000000000000000:=by
 have B:0<Nat.gcd n.natAbs d.natAbs:=Nat.gcd_pos_of_pos_right _ (by omega);have C:=Nat.gcd_dvd_right n.natAbs d.natAbs;unfold redN redD;generalize Nat.gcd n.natAbs d.natAbs=g at *
 have I:(n.tdiv (g:Int)).natAbs<=n.natAbs:=by rw [Int.natAbs_tdiv];exact Nat.div_le_self _ _
 obtain ⟨m,rfl⟩:=zE2 (show 0<=d by omega);have D:((m:Int)).tdiv (g:Int)=((m / g:Nat):Int):=by rw [Int.tdiv_eq_ediv_of_nonneg (by omega)];rfl
 rw [D];have M:=Nat.div_le_self m g;have H:0<m / g:=Nat.div_pos (Nat.le_of_dvd (by omega) C) B;omega
theorem Zri (n d:Int)(w:World)(L : -4000000000000000000<=n)(M:n<=4000000000000000000)(N:1<=d)(J:d<=4000000000000000000)(f:1000000000<(redN n d).natAbs) : Calls prog 215 #[.agg #[int i64 n,int i64 d]] w λe w'=>e=.returned (.tuple #[.agg #[int i64 0,int i64 0],int i64 3])/\Below w.heap.size w w':=by
 obtain ⟨U,Y,q,r⟩:=Z5i n d L M N J;have G:∀ W:World,Calls prog 154 #[.agg #[int i64 n,int i64 d]] W λe w'=>e=.returned (.agg #[int i64 (redN n d),int i64 (redD n d)])/\Below W.heap.size W w':=λW=>Z60 n d W L M N J;generalize redN n d=a at *
 generalize redD n d=b at *
 have D:=λW:World=>Z6r a W U Y;obtain ⟨m,H⟩:∃ m:Int,m=(a.natAbs:Int):=⟨_,rfl⟩
 rw [<- H] at D;have V:=zh G;have T:=zh D;have c1:1000000000<m:=by omega
 have A:decide (1000000000<m)=true:=by simpa using c1
 clear G D H f;have I:Below w.heap.size w ((w.alloc (.cells #[int i64 n,int i64 d] 158)).alloc (.cells #[int i64 0,int i64 0] 60)):=((zr _ _).alloc (zn _) _).alloc (by simp) _;have O:=Z11 w (.cells #[int i64 n,int i64 d] 158) (.cells #[int i64 0,int i64 0] 60);have j:=zh I;have F:=zh O;clear I O;go_enter func215,ntmps215;go_wp2_with fail;generalize (w.alloc (.cells #[int i64 n,int i64 d] 158)).alloc (.cells #[int i64 0,int i64 0] 60)=g at *
 refine (V.out g).mono ?_;rintro e C ⟨rfl,hb⟩;have B:=(hb.block _ (zs F.out.2)).trans F.out.2;have X:=zh (Z00 j.out hb);have S:w.heap.size+1<C.heap.size:=(zs B)
 have Z:C.cell? ⟨w.heap.size+1,0,none⟩=some (int i64 0):=by rw [zc B];rfl
 have R:C.cell? ⟨w.heap.size+1,1,none⟩=some (int i64 0):=by rw [zc B];rfl
 have y:C.frozen? ⟨w.heap.size+1,0,none⟩=false:=by simp [World.frozen?,B]
 have l:C.frozen? ⟨w.heap.size+1,1,none⟩=false:=by simp [World.frozen?,B]
 clear B hb;go_wp2_with (go_at_call 113;refine (T.out _).mono ?_;rintro e w' ⟨rfl,rfl⟩);refine bodyPost_ret (v:=.tuple #[.agg #[int i64 0,int i64 0],int i64 3]) (by simp [results,results215,go_sem,Z,R,S]) rfl ⟨rfl,?_⟩;exact ((X.out.setCell (p:=⟨w.heap.size+1,0,none⟩) (by show w.heap.size<=w.heap.size+1;omega) _).setCell (p:=⟨w.heap.size+1,1,none⟩) (by show w.heap.size<=w.heap.size+1;omega) _).alloc (by simp only [World.setCell,Array.size_modify];omega) _
theorem Zrj (n d:Int)(w:World)(L : -4000000000000000000<=n)(M:n<=4000000000000000000)(N:1<=d)(J:d<=4000000000000000000)(g:(redN n d).natAbs<=1000000000)(Z:1000000<redD n d) : Calls prog 215 #[.agg #[int i64 n,int i64 d]] w λe w'=>e=.returned (.tuple #[.agg #[int i64 0,int i64 0],int i64 3])/\Below w.heap.size w w':=by
 obtain ⟨U,Y,r,y⟩:=Z5i n d L M N J;have G:∀ W:World,Calls prog 154 #[.agg #[int i64 n,int i64 d]] W λe w'=>e=.returned (.agg #[int i64 (redN n d),int i64 (redD n d)])/\Below W.heap.size W w':=λW=>Z60 n d W L M N J;generalize redN n d=a at *
 generalize redD n d=b at *
 have D:=λW:World=>Z6r a W U Y;obtain ⟨m,H⟩:∃ m:Int,m=(a.natAbs:Int):=⟨_,rfl⟩
 rw [<- H] at D;have V:=zh G;have T:=zh D;have c1:¬ 1000000000<m:=by omega
 have d1:decide (1000000000<m)=false:=by simpa using c1
 have d2:decide (1000000<b)=true:=by simpa using Z
 clear G D H g;have I:Below w.heap.size w ((w.alloc (.cells #[int i64 n,int i64 d] 158)).alloc (.cells #[int i64 0,int i64 0] 60)):=((zr _ _).alloc (zn _) _).alloc (by simp) _;have O:=Z11 w (.cells #[int i64 n,int i64 d] 158) (.cells #[int i64 0,int i64 0] 60);have l:=zh I;have F:=zh O;clear I O;go_enter func215,ntmps215;go_wp2_with fail;generalize (w.alloc (.cells #[int i64 n,int i64 d] 158)).alloc (.cells #[int i64 0,int i64 0] 60)=j at *
 refine (V.out j).mono ?_;rintro e C ⟨rfl,hb⟩;have B:=(hb.block _ (zs F.out.2)).trans F.out.2;have X:=zh (Z00 l.out hb);have S:w.heap.size+1<C.heap.size:=(zs B)
 have f:C.cell? ⟨w.heap.size+1,0,none⟩=some (int i64 0):=by rw [zc B];rfl
 have R:C.cell? ⟨w.heap.size+1,1,none⟩=some (int i64 0):=by rw [zc B];rfl
 have A:C.frozen? ⟨w.heap.size+1,0,none⟩=false:=by simp [World.frozen?,B]
 have q:C.frozen? ⟨w.heap.size+1,1,none⟩=false:=by simp [World.frozen?,B]
 clear B hb;go_wp2_with (go_at_call 113;refine (T.out _).mono ?_;rintro e w' ⟨rfl,rfl⟩);refine bodyPost_ret (v:=.tuple #[.agg #[int i64 0,int i64 0],int i64 3]) (by simp [results,results215,go_sem,f,R,S]) rfl ⟨rfl,?_⟩;exact ((X.out.setCell (p:=⟨w.heap.size+1,0,none⟩) (by show w.heap.size<=w.heap.size+1;omega) _).setCell (p:=⟨w.heap.size+1,1,none⟩) (by show w.heap.size<=w.heap.size+1;omega) _).alloc (by simp only [World.setCell,Array.size_modify];omega) _
theorem rat_ok (n d:Int)(w:World)(L : -4000000000000000000<=n)(M:n<=4000000000000000000)(N:1<=d)(J:d<=4000000000000000000)(f:(redN n d).natAbs<=1000000000)(y:redD n d<=1000000) : Calls prog 215 #[.agg #[int i64 n,int i64 d]] w λe w'=>e=.returned (.tuple #[.agg #[int i64 (redN n d),int i64 (redD n d)],int i64 0])/\Below w.heap.size w w':=by
 obtain ⟨U,Y,q,r⟩:=Z5i n d L M N J;have G:∀ W:World,Calls prog 154 #[.agg #[int i64 n,int i64 d]] W λe w'=>e=.returned (.agg #[int i64 (redN n d),int i64 (redD n d)])/\Below W.heap.size W w':=λW=>Z60 n d W L M N J;generalize redN n d=a at *
 generalize redD n d=b at *
 have D:=λW:World=>Z6r a W U Y;obtain ⟨m,H⟩:∃ m:Int,m=(a.natAbs:Int):=⟨_,rfl⟩
 rw [<- H] at D;have V:=zh G;have T:=zh D;have c1:¬ 1000000000<m:=by omega
 have d1:decide (1000000000<m)=false:=by simpa using c1
 have d2:decide (1000000<b)=false:=by simp;omega
 clear G D H f;have I:Below w.heap.size w ((w.alloc (.cells #[int i64 n,int i64 d] 158)).alloc (.cells #[int i64 0,int i64 0] 60)):=((zr _ _).alloc (zn _) _).alloc (by simp) _;have O:=Z11 w (.cells #[int i64 n,int i64 d] 158) (.cells #[int i64 0,int i64 0] 60);have j:=zh I;have F:=zh O;clear I O;go_enter func215,ntmps215;go_wp2_with fail;generalize (w.alloc (.cells #[int i64 n,int i64 d] 158)).alloc (.cells #[int i64 0,int i64 0] 60)=g at *
 refine (V.out g).mono ?_;rintro e C ⟨rfl,hb⟩;have B:=(hb.block _ (zs F.out.2)).trans F.out.2;have X:=zh (Z00 j.out hb);have S:w.heap.size+1<C.heap.size:=(zs B)
 have Z:C.cell? ⟨w.heap.size+1,0,none⟩=some (int i64 0):=by rw [zc B];rfl
 have R:C.cell? ⟨w.heap.size+1,1,none⟩=some (int i64 0):=by rw [zc B];rfl
 have A:C.frozen? ⟨w.heap.size+1,0,none⟩=false:=by simp [World.frozen?,B]
 have l:C.frozen? ⟨w.heap.size+1,1,none⟩=false:=by simp [World.frozen?,B]
 clear B hb;go_wp2_with (go_at_call 113;refine (T.out _).mono ?_;rintro e w' ⟨rfl,rfl⟩);refine bodyPost_ret (v:=.tuple #[.agg #[int i64 a,int i64 b],int i64 0]) (by simp [results,results215,go_sem,Z,R,S]) rfl ⟨rfl,?_⟩;exact ((X.out.setCell (p:=⟨w.heap.size+1,0,none⟩) (by show w.heap.size<=w.heap.size+1;omega) _).setCell (p:=⟨w.heap.size+1,1,none⟩) (by show w.heap.size<=w.heap.size+1;omega) _).alloc (by simp only [World.setCell,Array.size_modify];omega) _
theorem Zrk (n d:Int)(w:World)(F : -4000000000000000000<=n)(D:n<=4000000000000000000)(C:1<=d)(B:d<=4000000000000000000) : Calls prog 215 #[.agg #[int i64 n,int i64 d]] w λe w'=>e=.returned (retV (ratV n d))/\Below w.heap.size w w':=by
 unfold ratV;by_cases c1:1000000000<(redN n d).natAbs
 · rw [zp (.inl c1)];exact Zri n d w F D C B c1
 · by_cases c2:1000000<redD n d
   · rw [zp (.inr c2)];exact Zrj n d w F D C B (by omega) c2
   · rw [zf (by omega)];exact rat_ok n d w F D C B (by omega) (by omega)
end
section
open Go.RowKit Lx Px Qx
namespace Qx
def vN:V->Int
 | .ok n _=>n
 | .no _=>0
def vD:V->Int
 | .ok _ d=>d
 | .no _=>0
def vE:V->Int
 | .ok _ _=>0
 | .no e=>e
end Qx
theorem Zrm (v:V):retV v=.tuple #[.agg #[int i64 (vN v),int i64 (vD v)],int i64 (vE v)]:=by cases v <;> rfl
def RetV (v:V)(w:World)(e:Ending)(w':World):Prop:=e=.returned (.tuple #[.agg #[int i64 (vN v),int i64 (vD v)],int i64 (vE v)])/\Below w.heap.size w w'
theorem Zec (n d:Int)(w:World)(F : -4000000000000000000<=n)(D:n<=4000000000000000000)(C:1<=d)(B:d<=4000000000000000000) : Calls prog 215 #[.agg #[int i64 n,int i64 d]] w (RetV (ratV n d) w):=by
 have:=Zrk n d w F D C B;rw [Zrm] at this;exact this
def RatB (w:World)(b:Nat)(n d:Int):Prop:=w.heap[b]?=some (.cells #[int i64 n,int i64 d] 60 (0,0))
theorem RatB.on {w w':World}{b:Nat}{n d:Int}(h:RatB w b n d)(hb:Below w.heap.size w w'):RatB w' b n d:=(hb.block b (zs h)).trans h
theorem RatB.lt {w:World}{b:Nat}{n d:Int}(h:RatB w b n d):b<w.heap.size:=(zs h)
theorem RatB.c0 {w:World}{b:Nat}{n d:Int}(h:RatB w b n d):w.cell? ⟨b,0,none⟩=some (int i64 n):=by rw [zc h];rfl
theorem RatB.c1 {w:World}{b:Nat}{n d:Int}(h:RatB w b n d):w.cell? ⟨b,1,none⟩=some (int i64 d):=by rw [zc h];rfl
theorem RatB.fr {w:World}{b:Nat}{n d:Int}(h:RatB w b n d)(i:Nat):w.frozen? ⟨b,i,none⟩=false:=by
 have B:w.heap[b]?=_:=h;simp [World.frozen?,B]
theorem RatB.new (w:World)(n d:Int):RatB (w.alloc (.cells #[int i64 n,int i64 d] 60)) w.heap.size n d:=za w _
theorem Z01 {w w':World}{b:Nat}(h:Below w.heap.size w w')(hb:w.heap.size<=b)(x y:Value):Below w.heap.size w ((w'.setCell ⟨b,0,none⟩ x).setCell ⟨b,1,none⟩ y) := (h.setCell (p:=⟨b,0,none⟩) hb _).setCell (p:=⟨b,1,none⟩) hb _
theorem ZpB (k:Int)(w:World)(C : -1000000000000000<=k)(B:k<=1000000000000000):Calls prog 214 #[int i64 k] w λe w'=>e=.returned (.bool false)/\w=w':=by
 have D:decide (k < -1000000000000000)=false:=by simpa using C
 have F:decide ((1000000000000000:Int)<k)=false:=by simpa using B
 go_enter func214,ntmps214;go_wp2_with fail;go_ret;exact ⟨rfl,rfl⟩
theorem Zb1 (n d:Int)(w:World)(f : -1000000000000000<=n)(g:n<=1000000000000000)(j : -1000000000000000<=d)(Z:d<=1000000000000000)(D:d≠0) : Calls prog 161 #[int i64 n,int i64 d] w (RetV (Z10 n d) w):=by
 have F:Below w.heap.size w (w.alloc (.cells #[int i64 0,int i64 0] 60)):=(zr _ _).alloc (zn _) _;have G:=RatB.new w 0 0;have Y:(d==0)=false:=by simpa using D
 by_cases hd:d<0
 · have C:∀ W:World,Calls prog 215 #[.agg #[int i64 (-n),int i64 (-d)]] W (RetV (Z10 n d) W):=λW=>by have:=Zec (-n) (-d) W (by omega) (by omega) (by omega) (by omega);rwa [show Z10 n d=ratV (-n) (-d) by unfold Z10;rw [zp hd]]
   generalize Z10 n d=V at *
   have T:decide (d<0)=true:=by simpa using hd
   have J:=zh C;have O:=zh F;have I:=zh G;have X:=zh D;clear C F G D;go_enter func161,ntmps161;go_wp2_with (go_at_call 214;refine (ZpB _ _ (by omega) (by omega)).mono ?_;rintro e w' ⟨rfl,rfl⟩);generalize w.alloc (.cells #[int i64 0,int i64 0] 60)=N at *
   refine (J.out N).mono ?_;rintro e U ⟨rfl,hb⟩;have B:=I.out.on hb;have L:=zh (Z00 O.out hb);have M:=B.c0;have H:=B.c1;have S:=B.fr 0;have R:=B.fr 1;clear B hb;go_wp2_with fail;refine bodyPost_ret (v:=.tuple #[.agg #[int i64 (vN V),int i64 (vD V)],int i64 (vE V)]) (by simp [results,results161,go_sem,M,H]) rfl ⟨rfl,Z01 L.out (zn _) _ _⟩
 · have C:∀ W:World,Calls prog 215 #[.agg #[int i64 n,int i64 d]] W (RetV (Z10 n d) W):=λW=>by have:=Zec n d W (by omega) (by omega) (by omega) (by omega);rwa [show Z10 n d=ratV n d by unfold Z10;rw [zf hd]]
   generalize Z10 n d=V at *
   have T:decide (d<0)=false:=by simpa using hd
   have J:=zh C;have O:=zh F;have I:=zh G;have X:=zh D;clear C F G D;go_enter func161,ntmps161;go_wp2_with (go_at_call 214;refine (ZpB _ _ (by omega) (by omega)).mono ?_;rintro e w' ⟨rfl,rfl⟩);generalize w.alloc (.cells #[int i64 0,int i64 0] 60)=N at *
   refine (J.out N).mono ?_;rintro e U ⟨rfl,hb⟩;have B:=I.out.on hb;have L:=zh (Z00 O.out hb);have M:=B.c0;have H:=B.c1;have S:=B.fr 0;have R:=B.fr 1;clear B hb;go_wp2_with fail;refine bodyPost_ret (v:=.tuple #[.agg #[int i64 (vN V),int i64 (vD V)],int i64 (vE V)]) (by simp [results,results161,go_sem,M,H]) rfl ⟨rfl,Z01 L.out (zn _) _ _⟩
theorem Z0k (w:World)(a b c d e f:Int):RatB (((w.alloc (.cells #[int i64 a,int i64 b] 60)).alloc (.cells #[int i64 c,int i64 d] 60)).alloc (.cells #[int i64 e,int i64 f] 60)) w.heap.size a b /\ RatB (((w.alloc (.cells #[int i64 a,int i64 b] 60)).alloc (.cells #[int i64 c,int i64 d] 60)).alloc (.cells #[int i64 e,int i64 f] 60)) (w.heap.size+1) c d /\ RatB (((w.alloc (.cells #[int i64 a,int i64 b] 60)).alloc (.cells #[int i64 c,int i64 d] 60)).alloc (.cells #[int i64 e,int i64 f] 60)) (w.heap.size+2) e f:=by
 obtain ⟨B,C⟩:=Z11 w (.cells #[int i64 a,int i64 b] 60) (.cells #[int i64 c,int i64 d] 60);refine ⟨Z0A B _,Z0A C _,?_⟩;have:=za ((w.alloc (.cells #[int i64 a,int i64 b] 60)).alloc (.cells #[int i64 c,int i64 d] 60)) (.cells #[int i64 e,int i64 f] 60);simpa [RatB] using this
theorem Zb2 (a b c d n m:Int)(g:FuncId)(cap:Array Value)(w:World)(hg:∀ args w,(callFunc g args).run prog w=.ok (.enter g args) w)(F:ratB a b=true)(J:ratB c d=true) (U:∀ W:World,Below w.heap.size w W->Calls prog g cap W λe w'=>e=.returned (.agg #[int i64 n,int i64 m])/\Below W.heap.size W w') (h0 : -4000000000000000000<=n) (h1:n<=4000000000000000000) (h2:1<=m) (h3:m<=4000000000000000000) : Calls prog 247 #[.agg #[int i64 a,int i64 b],.agg #[int i64 c,int i64 d],.func (.func g) #[] cap] w (RetV (ratV n m) w):=by
 have O:=λW=>Zec n m W h0 h1 h2 h3;generalize ratV n m=V at *
 have I:=λW=>Z16 a b W;have L:=λW=>Z16 c d W;rw [F] at I;rw [J] at L;have X:Below w.heap.size w (((w.alloc (.cells #[int i64 a,int i64 b] 60)).alloc (.cells #[int i64 c,int i64 d] 60)).alloc (.cells #[int i64 0,int i64 0] 60)):=(((zr _ _).alloc (zn _) _).alloc (by simp) _).alloc (by simp;omega) _;have C:=Z0k w a b c d 0 0;have r:=zh O;have Y:=zh I;have A:=zh L;have q:=zh X;have S:=zh C;have HF:=zh U;have HA:=zh F;have HC:=zh J;clear O I L X C U F J;go_enter func247,ntmps247;go_wp2_with fail;generalize ((w.alloc (.cells #[int i64 a,int i64 b] 60)).alloc (.cells #[int i64 c,int i64 d] 60)).alloc (.cells #[int i64 0,int i64 0] 60)=W1 at *
 refine (Y.out W1).mono ?_;rintro e w2 ⟨rfl,hb⟩;obtain ⟨C,N,R⟩:=S.out;have H:=zh (N.on hb);have f:=zh (R.on hb);have T:=zh (Z00 q.out hb);clear C N R hb S q Y;have G:=H.out.c0;have D:=H.out.c1;go_wp2_with fail;refine (A.out _).mono ?_;rintro e w3 ⟨rfl,hb⟩;have l:=zh (f.out.on hb);have M:=zh (Z00 T.out hb);clear hb H f T G D;go_wp2_with fail;refine (HF.out _ M.out).mono ?_;rintro e w4 ⟨rfl,hb⟩;have Z:=zh (l.out.on hb);have j:=zh (Z00 M.out hb);clear hb l M;go_wp2_with fail;refine (r.out _).mono ?_;rintro e w5 ⟨rfl,hb⟩;have B:=Z.out.on hb;have y:=zh (Z00 j.out hb);have G:=B.c0;have D:=B.c1;have y0:=B.fr 0;have y1:=B.fr 1;clear B hb Z j;go_wp2_with fail;refine bodyPost_ret (v:=.tuple #[.agg #[int i64 (vN V),int i64 (vD V)],int i64 (vE V)]) (by simp [results,results247,go_sem,G,D]) rfl ⟨rfl,Z01 y.out (by omega) _ _⟩
end
section
open Go.RowKit Lx Px Qx
theorem Z13 {a b c d:Int}(F:ratB a b=true)(H:ratB c d=true):(-1000000000000000<=a*d/\a*d<=1000000000000000)/\(-1000000000000000<=c*b/\c*b<=1000000000000000)/\(1<=b*d/\b*d<=1000000000000)/\(-1000000000000000000<=a*c/\a*c<=1000000000000000000):=by
 obtain ⟨R,B,J,C,_⟩:=Z0F F;obtain ⟨M,D,c1,c2,_⟩:=Z0F H;have I:=Z5x (x:=d) (y:=a) (a:=1000000) (b:=1000000000) (by omega) D J C (by omega);have L:=Z5x (x:=b) (y:=c) (a:=1000000) (b:=1000000000) (by omega) B c1 c2 (by omega);have O:=Z5x (x:=b) (y:=d) (a:=1000000) (b:=1000000) (by omega) B (by omega) D (by omega);have N:1<=b*d:=Int.mul_pos (by omega) (by omega);have G : -1000000000000000000<=a*c/\a*c<=1000000000000000000:=by
  by_cases ha:0<=a
  · have:=Z5x (x:=a) (y:=c) (a:=1000000000) (b:=1000000000) ha C c1 c2 (by omega);omega
  · have:=Z5x (x:=-a) (y:=c) (a:=1000000000) (b:=1000000000) (by omega) (by omega) c1 c2 (by omega);rw [Int.neg_mul] at this;omega
 rw [Int.mul_comm d a] at I;rw [Int.mul_comm b c] at L;refine ⟨?_,?_,?_,G⟩ <;> omega
theorem Zp1 (a b c d:Int)(p q:Nat)(w:World)(D:ratB a b=true)(F:ratB c d=true)(B:RatB w p a b)(C:RatB w q c d) : Calls prog 248 #[.pointer (some ⟨p,0,none⟩),.pointer (some ⟨q,0,none⟩)] w λe w'=>e=.returned (.agg #[int i64 (a*d+c*b),int i64 (b*d)])/\Below w.heap.size w w':=by
 obtain ⟨⟨T,R⟩,⟨U,L⟩,⟨M,I⟩,⟨N,O⟩⟩:=Z13 D F;have G:=B.c0;have J:=B.c1;have H:=C.c0;have X:=C.c1;have V:=B.lt;have S:=C.lt;clear D F B C;go_enter func248,ntmps248;go_wp2_with fail;exact bodyPost_ret (v:=.agg #[int i64 (a*d+c*b),int i64 (b*d)]) (by simp [results,results248,go_sem]) rfl ⟨rfl,(zr _ _).alloc (zn _) _⟩
theorem Zrn (a b c d:Int)(w:World)(C:ratB a b=true)(D:ratB c d=true) : Calls prog 190 #[.agg #[int i64 a,int i64 b],.agg #[int i64 c,int i64 d]] w (RetV (addV a b c d) w):=by
 have j:∀ (fn:Fn) (first cap:Array Value) (w:World),(Instr.makeFunc fn first cap).run prog w=.ok (.func fn first cap) w:=λ_ _ _ _=>rfl;obtain ⟨⟨S,M⟩,⟨g,N⟩,⟨U,L⟩,⟨Z,R⟩⟩:=Z13 C D;have G:Below w.heap.size w (((w.alloc (.cells #[int i64 a,int i64 b] 60)).alloc (.cells #[int i64 c,int i64 d] 60)).alloc (.cells #[int i64 0,int i64 0] 60)):=(((zr _ _).alloc (zn _) _).alloc (by simp) _).alloc (by simp;omega) _;have I:=Z0k w a b c d 0 0;have H:∀ W:World,RatB W w.heap.size a b->RatB W (w.heap.size+1) c d->Calls prog 247 #[.agg #[int i64 a,int i64 b],.agg #[int i64 c,int i64 d],.func (.func 248) #[] #[.pointer (some ⟨w.heap.size,0,none⟩),.pointer (some ⟨w.heap.size+1,0,none⟩)]] W (RetV (addV a b c d) W):=λW q1 q2 =>Zb2 a b c d (a*d+c*b) (b*d) 248 _ W (enters_of func248 (by kernel_rfl) rfl) C D (λW' hb=>Zp1 a b c d _ _ W' C D (q1.on hb) (q2.on hb)) (by omega) (by omega) (by omega) (by omega);generalize addV a b c d=V at *
 have O:=zh H;have Y:=zh G;have F:=zh I;have l:=zh C;have r:=zh D;clear H G I C D S M g N U L Z R;go_enter func190,ntmps190;go_wp2_with fail;generalize ((w.alloc (.cells #[int i64 a,int i64 b] 60)).alloc (.cells #[int i64 c,int i64 d] 60)).alloc (.cells #[int i64 0,int i64 0] 60)=f at *
 refine (O.out f F.out.1 F.out.2.1).mono ?_;rintro e y ⟨rfl,hb⟩;have B:=F.out.2.2.on hb;have T:=zh (Z00 Y.out hb);have X:=B.c0;have J:=B.c1;have q:=B.fr 0;have m:=B.fr 1;clear B hb;go_wp2_with fail;refine bodyPost_ret (v:=.tuple #[.agg #[int i64 (vN V),int i64 (vD V)],int i64 (vE V)]) (by simp [results,results190,go_sem,X,J]) rfl ⟨rfl,Z01 T.out (by omega) _ _⟩
theorem Zp2 (a b c d:Int)(p q:Nat)(w:World)(D:ratB a b=true)(F:ratB c d=true)(B:RatB w p a b)(C:RatB w q c d) : Calls prog 249 #[.pointer (some ⟨p,0,none⟩),.pointer (some ⟨q,0,none⟩)] w λe w'=>e=.returned (.agg #[int i64 (a*d - c*b),int i64 (b*d)])/\Below w.heap.size w w':=by
 obtain ⟨⟨T,R⟩,⟨U,L⟩,⟨M,I⟩,⟨N,O⟩⟩:=Z13 D F;have G:=B.c0;have J:=B.c1;have H:=C.c0;have X:=C.c1;have V:=B.lt;have S:=C.lt;clear D F B C;go_enter func249,ntmps249;go_wp2_with fail;exact bodyPost_ret (v:=.agg #[int i64 (a*d - c*b),int i64 (b*d)]) (by simp [results,results249,go_sem]) rfl ⟨rfl,(zr _ _).alloc (zn _) _⟩
theorem Zrp (a b c d:Int)(w:World)(C:ratB a b=true)(D:ratB c d=true) : Calls prog 192 #[.agg #[int i64 a,int i64 b],.agg #[int i64 c,int i64 d]] w (RetV (subV a b c d) w):=by
 have j:∀ (fn:Fn) (first cap:Array Value) (w:World),(Instr.makeFunc fn first cap).run prog w=.ok (.func fn first cap) w:=λ_ _ _ _=>rfl;obtain ⟨⟨S,M⟩,⟨g,N⟩,⟨U,L⟩,⟨Z,R⟩⟩:=Z13 C D;have G:Below w.heap.size w (((w.alloc (.cells #[int i64 a,int i64 b] 60)).alloc (.cells #[int i64 c,int i64 d] 60)).alloc (.cells #[int i64 0,int i64 0] 60)):=(((zr _ _).alloc (zn _) _).alloc (by simp) _).alloc (by simp;omega) _;have I:=Z0k w a b c d 0 0;have H:∀ W:World,RatB W w.heap.size a b->RatB W (w.heap.size+1) c d->Calls prog 247 #[.agg #[int i64 a,int i64 b],.agg #[int i64 c,int i64 d],.func (.func 249) #[] #[.pointer (some ⟨w.heap.size,0,none⟩),.pointer (some ⟨w.heap.size+1,0,none⟩)]] W (RetV (subV a b c d) W):=λW q1 q2 =>Zb2 a b c d (a*d - c*b) (b*d) 249 _ W (enters_of func249 (by kernel_rfl) rfl) C D (λW' hb=>Zp2 a b c d _ _ W' C D (q1.on hb) (q2.on hb)) (by omega) (by omega) (by omega) (by omega);generalize subV a b c d=V at *
 have O:=zh H;have Y:=zh G;have F:=zh I;have l:=zh C;have r:=zh D;clear H G I C D S M g N U L Z R;go_enter func192,ntmps192;go_wp2_with fail;generalize ((w.alloc (.cells #[int i64 a,int i64 b] 60)).alloc (.cells #[int i64 c,int i64 d] 60)).alloc (.cells #[int i64 0,int i64 0] 60)=f at *
 refine (O.out f F.out.1 F.out.2.1).mono ?_;rintro e y ⟨rfl,hb⟩;have B:=F.out.2.2.on hb;have T:=zh (Z00 Y.out hb);have X:=B.c0;have J:=B.c1;have q:=B.fr 0;have m:=B.fr 1;clear B hb;go_wp2_with fail;refine bodyPost_ret (v:=.tuple #[.agg #[int i64 (vN V),int i64 (vD V)],int i64 (vE V)]) (by simp [results,results192,go_sem,X,J]) rfl ⟨rfl,Z01 T.out (by omega) _ _⟩
theorem Zp3 (a b c d:Int)(p q:Nat)(w:World)(D:ratB a b=true)(F:ratB c d=true)(B:RatB w p a b)(C:RatB w q c d) : Calls prog 250 #[.pointer (some ⟨p,0,none⟩),.pointer (some ⟨q,0,none⟩)] w λe w'=>e=.returned (.agg #[int i64 (a*c),int i64 (b*d)])/\Below w.heap.size w w':=by
 obtain ⟨⟨T,R⟩,⟨U,L⟩,⟨M,I⟩,⟨N,O⟩⟩:=Z13 D F;have G:=B.c0;have J:=B.c1;have H:=C.c0;have X:=C.c1;have V:=B.lt;have S:=C.lt;clear D F B C;go_enter func250,ntmps250;go_wp2_with fail;exact bodyPost_ret (v:=.agg #[int i64 (a*c),int i64 (b*d)]) (by simp [results,results250,go_sem]) rfl ⟨rfl,(zr _ _).alloc (zn _) _⟩
theorem Zrq (a b c d:Int)(w:World)(C:ratB a b=true)(D:ratB c d=true) : Calls prog 194 #[.agg #[int i64 a,int i64 b],.agg #[int i64 c,int i64 d]] w (RetV (mulV a b c d) w):=by
 have j:∀ (fn:Fn) (first cap:Array Value) (w:World),(Instr.makeFunc fn first cap).run prog w=.ok (.func fn first cap) w:=λ_ _ _ _=>rfl;obtain ⟨⟨S,M⟩,⟨g,N⟩,⟨U,L⟩,⟨Z,R⟩⟩:=Z13 C D;have G:Below w.heap.size w (((w.alloc (.cells #[int i64 a,int i64 b] 60)).alloc (.cells #[int i64 c,int i64 d] 60)).alloc (.cells #[int i64 0,int i64 0] 60)):=(((zr _ _).alloc (zn _) _).alloc (by simp) _).alloc (by simp;omega) _;have I:=Z0k w a b c d 0 0;have H:∀ W:World,RatB W w.heap.size a b->RatB W (w.heap.size+1) c d->Calls prog 247 #[.agg #[int i64 a,int i64 b],.agg #[int i64 c,int i64 d],.func (.func 250) #[] #[.pointer (some ⟨w.heap.size,0,none⟩),.pointer (some ⟨w.heap.size+1,0,none⟩)]] W (RetV (mulV a b c d) W):=λW q1 q2 =>Zb2 a b c d (a*c) (b*d) 250 _ W (enters_of func250 (by kernel_rfl) rfl) C D (λW' hb=>Zp3 a b c d _ _ W' C D (q1.on hb) (q2.on hb)) (by omega) (by omega) (by omega) (by omega);generalize mulV a b c d=V at *
 have O:=zh H;have Y:=zh G;have F:=zh I;have l:=zh C;have r:=zh D;clear H G I C D S M g N U L Z R;go_enter func194,ntmps194;go_wp2_with fail;generalize ((w.alloc (.cells #[int i64 a,int i64 b] 60)).alloc (.cells #[int i64 c,int i64 d] 60)).alloc (.cells #[int i64 0,int i64 0] 60)=f at *
 refine (O.out f F.out.1 F.out.2.1).mono ?_;rintro e y ⟨rfl,hb⟩;have B:=F.out.2.2.on hb;have T:=zh (Z00 Y.out hb);have X:=B.c0;have J:=B.c1;have q:=B.fr 0;have m:=B.fr 1;clear B hb;go_wp2_with fail;refine bodyPost_ret (v:=.tuple #[.agg #[int i64 (vN V),int i64 (vD V)],int i64 (vE V)]) (by simp [results,results194,go_sem,X,J]) rfl ⟨rfl,Z01 T.out (by omega) _ _⟩
theorem Zed (a b c d:Int)(w:World)(F:ratB a b=true)(G:ratB c d=true) : Calls prog 252 #[.agg #[int i64 a,int i64 b],.agg #[int i64 c,int i64 d]] w λe w'=>e=.returned (.tuple #[int i64 (cmpI a b c d),int i64 0])/\Below w.heap.size w w':=by
 obtain ⟨⟨k1,k2⟩,⟨k3,k4⟩,_,_⟩:=Z13 F G;have L:=λW=>Z16 a b W;have M:=λW=>Z16 c d W;rw [F] at L;rw [G] at M;have V:Below w.heap.size w ((w.alloc (.cells #[int i64 a,int i64 b] 60)).alloc (.cells #[int i64 c,int i64 d] 60)):=((zr _ _).alloc (zn _) _).alloc (by simp) _;have Z:RatB _ w.heap.size a b/\RatB _ (w.heap.size+1) c d:=Z11 w (.cells #[int i64 a,int i64 b] 60) (.cells #[int i64 c,int i64 d] 60);have S:cmpI a b c d=if a*d<c*b then -1 else if c*b<a*d then 1 else 0:=rfl;have X:=zh L;have q:=zh M;have Y:=zh V;have H:=zh Z;have I:=zh S;have H1:=zh F;have H2:=zh G;clear L M V Z S F G;go_enter func252,ntmps252;go_wp2_with fail;generalize (w.alloc (.cells #[int i64 a,int i64 b] 60)).alloc (.cells #[int i64 c,int i64 d] 60)=W1 at *
 refine (X.out W1).mono ?_;rintro e w2 ⟨rfl,hb⟩;have T:=zh (H.out.1.on hb);have D:=zh (H.out.2.on hb);have U:=zh (Z00 Y.out hb);clear hb H Y X;have A:=D.out.c0;have f:=D.out.c1;go_wp2_with fail;refine (q.out _).mono ?_;rintro e w3 ⟨rfl,hb⟩;have N:=T.out.on hb;have J:=D.out.on hb;have O:=zh (Z00 U.out hb);clear hb T D U A f;have u0:=N.c0;have r:=N.c1;have m:=J.c0;have j:=J.c1;have g:IntKind.i64.wrap (a*d)=a*d:=zi _ (by omega);have l:IntKind.i64.wrap (c*b)=c*b:=zi _ (by omega);clear N J;go_wp2_with fail;go_quiet (fail);clear u0 r m j g l;generalize a*d=x at *
 generalize c*b=y at *
 by_cases hlt:x<y
 · have d1:decide (x<y)=true:=by simpa using hlt
   have B:cmpI a b c d = -1:=by rw [I.out,zp hlt]
   have C:=zh B;have R:=zh hlt;clear B hlt;go_wp2_with fail;go_ret2;rw [C.out];exact ⟨rfl,Z0e O.out _⟩
 · have d1:decide (x<y)=false:=by simpa using hlt
   by_cases hgt:y<x
   · have d2:decide (y<x)=true:=by simpa using hgt
     have B:cmpI a b c d=1:=by rw [I.out,zf hlt,zp hgt]
     have C:=zh B;have R:=zh hlt;have HG:=zh hgt;clear B hlt hgt;go_wp2_with fail;go_ret2;rw [C.out];exact ⟨rfl,Z0e O.out _⟩
   · have d2:decide (y<x)=false:=by simpa using hgt
     have B:cmpI a b c d=0:=by rw [I.out,zf hlt,zf hgt]
     have C:=zh B;have R:=zh hlt;have HG:=zh hgt;clear B hlt hgt;go_wp2_with fail;go_ret2;rw [C.out];exact ⟨rfl,Z0e O.out _⟩
end
end Go.Proofs.YtnepkoepbapgeaaGreatDoor
