import Derived.Laws.Bits64
import Derived.Test.YtnepkoepbapgeaaGreatDoorQuoVal2
namespace Go.Proofs.YtnepkoepbapgeaaGreatDoor
open _root_.Go.Proofs.Tryz
open Value (int slice)
open IntKind (i64)
set_option maxHeartbeats 8000000
set_option maxRecDepth 100000
section
open Go.RowKit Lx Px Qx
theorem Zfz (n:Int):bits .and .i64 n 1=n % 2:=by
 have B:(BitVec.ofInt 64 1).toNat=2 ^ 1 - 1:=by decide
 have key:(BitVec.ofInt 64 n &&& BitVec.ofInt 64 1).toNat=(n % ((2 ^ 64:Nat):Int)).toNat % 2 ^ 1:=by rw [BitVec.toNat_and,BitVec.toNat_ofInt,B,Nat.and_two_pow_sub_one_eq_mod]
 show IntKind.i64.wrap ((BitVec.ofInt 64 n &&& BitVec.ofInt 64 1).toNat:Nat)=n % 2;rw [key,IntKind.wrap_i64];omega
namespace Qx
theorem ZfA (n d:Int)(I:1<=d):(if n<n.tdiv d*d then n.tdiv d - 1 else n.tdiv d)=n / d:=by
 have M:=Int.emod_nonneg n (show d≠0 by omega);have L:=Int.emod_lt_of_pos n (show 0<d by omega);have H:=Int.mul_ediv_add_emod n d;rcases Int.lt_or_le n 0 with h | h
 · obtain ⟨m,rfl⟩:∃ m,n = -m:=⟨-n,by omega⟩
   have C:(-m).tdiv d = -(m / d):=by rw [Int.neg_tdiv,Int.tdiv_eq_ediv_of_nonneg (by omega)]
   have O:=Int.emod_nonneg m (show d≠0 by omega);have J:=Int.emod_lt_of_pos m (show 0<d by omega);have N:=Int.mul_ediv_add_emod m d;rw [C];generalize m / d=e at *
   generalize m % d=r at *
   generalize (-m) / d=f at *
   generalize (-m) % d=s at *
   have hk:d*(f+e) = -(r+s):=by rw [Int.mul_add];omega
   have G:f+e=0\/f+e = -1:=by
    generalize f+e=k at *
    rcases Int.lt_or_le 0 k with B | B
    · have:=Int.mul_le_mul_of_nonneg_left (show (1:Int)<=k by omega) (show 0<=d by omega);omega
    · rcases Int.lt_or_le k (-1) with F | F
      · have:=Int.mul_le_mul_of_nonneg_left (show k <= -2 by omega) (show 0<=d by omega);omega
      · omega
   have D : -e*d = -(d*e):=by rw [Int.neg_mul,Int.mul_comm]
   rw [D];rcases G with B | B
   · rw [B] at hk;rw [zf (by omega)];omega
   · rw [B] at hk;rw [zp (by omega)];omega
 · have C:n.tdiv d=n / d:=Int.tdiv_eq_ediv_of_nonneg h;rw [C,zf];rw [Int.mul_comm];omega
theorem Zku (n d:Int)(H:1<=d):(0<=n->0<=n.tdiv d*d/\n.tdiv d*d<=n)/\(n<=0->n<=n.tdiv d*d/\n.tdiv d*d<=0):=by
 have F:=Int.mul_tdiv_add_tmod n d;have G:d*n.tdiv d=n.tdiv d*d:=Int.mul_comm _ _;constructor
 · intro h;have C:=Int.tmod_nonneg d h;have B:0<=n.tdiv d:=Int.tdiv_nonneg h (by omega);have D:=Int.mul_nonneg B (show 0<=d by omega);omega
 · intro h;have C:n.tmod d<=0:=by have:=Int.tmod_nonneg d (show 0 <= -n by omega);rw [Int.neg_tmod] at this;omega
   have B:n.tdiv d<=0:=by have:=Int.tdiv_nonneg (show 0 <= -n by omega) (show 0<=d by omega);rw [Int.neg_tdiv] at this;omega
   have D:=Int.mul_le_mul_of_nonneg_right B (show 0<=d by omega);omega
def upB (b r d:Int):Bool:=decide (d<2*r) || decide (2*r=d)&&decide (b % 2=1)
theorem Zrr (n d:Int):rndE n d=if upB (n / d) (n % d) d then n / d+1 else n / d:=by
 unfold rndE upB;congr 1;simp
end Qx
theorem Zp4 (b r d:Int)(w:World)(L:0<=r)(J:r<=1000000):Calls prog 153 #[int i64 b,int i64 r,int i64 d] w λe w'=>e=.returned (.bool (upB b r d))/\w=w':=by
 have hb:=Zfz b;unfold upB;by_cases c1:d<2*r
 · have C:decide (d<2*r)=true:=by simpa using c1
   have G:decide (2*r > d)=true:=by simpa using c1
   rw [C];clear hb;go_enter func153,ntmps153;go_wp2_with fail;go_ret;exact ⟨rfl,rfl⟩
 · have C:decide (d<2*r)=false:=by simpa using c1
   have G:decide (2*r > d)=false:=by simpa using c1
   rw [C];by_cases c2:2*r=d
   · have H:(2*r==d)=true:=by simpa using c2
     have B:decide (2*r=d)=true:=by simpa using c2
     obtain ⟨F,I⟩:∃ x,(b % 2==1)=x:=⟨_,rfl⟩
     have D:decide (b % 2=1)=F:=by rw [<- I];rfl
     rw [B,D];clear D c2;cases F
     all_goals go_enter func153,ntmps153;go_wp2_with fail;go_ret;exact ⟨rfl,rfl⟩
   · have H:(2*r==d)=false:=by simpa using c2
     have B:decide (2*r=d)=false:=by simpa using c2
     rw [B];clear hb;go_enter func153,ntmps153;go_wp2_with fail;go_ret;exact ⟨rfl,rfl⟩
def Zee:Value:=.agg #[.func (.func 153) #[] #[]]
theorem Za6 (n d:Int)(w:World)(l : -4000000000000000000<=n)(r:n<=4000000000000000000)(L:1<=d)(g:d<=1000000) : Calls prog 112 #[.agg #[int i64 n,int i64 d],Zee] w λe w'=>e=.returned (int i64 (rndE n d))/\Below w.heap.size w w':=by
 have B:=ZfA n d L;obtain ⟨H,I⟩:=Zku n d L;have U:=Int.emod_nonneg n (show d≠0 by omega);have Y:=Int.emod_lt_of_pos n (show 0<d by omega);have F:=Int.mul_ediv_add_emod n d;have m:n - n / d*d=n % d:=by rw [Int.mul_comm];omega
 have D:=λW=>Zp4 (n / d) (n % d) d W U (by omega);have hb:Below w.heap.size w ((w.alloc (.cells #[int i64 n,int i64 d] 158)).alloc (.cells #[.func (.func 153) #[] #[]] 152)) := ((zr w.heap.size w).alloc (zn _) _).alloc (by simp) _;have S : -4000000000000000000<=n.tdiv d*d/\n.tdiv d*d<=4000000000000000000:=by
  rcases Int.le_total 0 n with h | h
  · have:=H h;omega
  · have:=I h;omega
 have M:(-4000000000000000000<=n.tdiv d/\n.tdiv d<=4000000000000000000):=by have t1:=Int.natAbs_tdiv_le_natAbs n d;omega
 have j : -4000000000000000001<=n / d/\n / d<=4000000000000000000:=by rw [<- B];split <;> omega
 have X : -4000000000001000001<=n / d*d/\n / d*d<=4000000000000000000:=by omega
 have Z:(d==0)=false:=by have:d≠0:=(by omega);simpa using this
 rw [Zrr];obtain ⟨u,C⟩:∃ u,upB (n / d) (n % d) d=u:=⟨_,rfl⟩
 rw [C] at D |-
 unfold Zee;obtain ⟨q,N⟩:∃ q,n.tdiv d=q:=⟨_,rfl⟩
 rw [N] at B S M;by_cases c:n<q*d
 · have R:decide (q*d > n)=true:=by simpa using c
   rw [zp c] at B;generalize n / d=f at *
   generalize n % d=O at *
   have G:=zh D;have J:=zh hb;have T:=zh F;have V:=zh C;clear D hb F C H I c;cases u
   all_goals go_enter func112,ntmps112;go_wp2_with fail;refine (G.out _).mono ?_;rintro e w' ⟨rfl,rfl⟩;go_wp2_with fail;go_ret;exact ⟨rfl,J.out⟩
 · have R:decide (q*d > n)=false:=by simpa using c
   rw [zf c] at B;generalize n / d=f at *
   generalize n % d=O at *
   subst B;have G:=zh D;have J:=zh hb;have T:=zh F;have V:=zh C;clear D hb F C H I c;cases u
   all_goals go_enter func112,ntmps112;go_wp2_with fail;refine (G.out _).mono ?_;rintro e w' ⟨rfl,rfl⟩;go_wp2_with fail;go_ret;exact ⟨rfl,J.out⟩
theorem Z95 {P:Program}{t k e:TypeId}(F:P.underlying t=some (.map k e))(hk:P.underlying k=some (.int .i64)){w:World}{r:Nat}{L L2:List (Int × Value)}{op:Int}{V:Value}(h:Z3a w r (L++(op,V)::L2))(B:∀ p∈L,p.1≠op) : (Instr.lookup t (.map (some r)) (int i64 op) true).run P w=.ok (.tuple #[V,.bool true]) w:=by
 have G:w.heap[r]?=some (.map (esOf (L++(op,V)::L2) 0).toArray (L++(op,V)::L2).length):=h;have D:=Z79 op V L L2 0 0 B;have C:(Instr.checkKey (esOf (L++(op,V)::L2) 0).toArray.isEmpty (9999+1) k (int i64 op)).run P w=.ok () w:=Go.MapKept.run_checkKey hk (by simp [MapKept.IsKey]) _ 9999;simp only [Instr.lookup,Instr.findKey,Sem.run_bind,Sem.run_pure,zy F,zy hk,Go.MapKept.run_getObj_map G,C,D,Result.andThen_ok];rfl
theorem Z7y (w:World):Calls prog 110 #[] w λe w'=>∃ r V1 V2,e=.returned (.map (some r))/\Z3a w' r [(1,V1),(2,V2),(3,Zee)]/\Below w.heap.size w w':=by
 have T:=@run_makeMap prog;have N:=Z3a.new w;have G:Below w.heap.size w (w.alloc (.map #[] 0)):=(zr _ _).alloc (zn _) _;have J:w.heap.size<(w.alloc (.map #[] 0)).heap.size:=by simp
 go_enter func110,ntmps110;go_wp2_with fail;generalize w.alloc (.map #[] 0)=X at *
 clear T;refine Z0f underlying154 underlying3 N (by simp) ?_;intro S D B;have H:=G.trans (Z0a B (zl J) (zn _));have R:w.heap.size<S.heap.size:=by have:=B.size;omega
 simp only [zn2] at D;clear N G J B;go_wp2_with fail;refine Z0f underlying154 underlying3 D (by simp) ?_;intro V F C;have L:=H.trans (Z0a C (zl R) (zn _));have I:w.heap.size<V.heap.size:=by have:=C.size;omega
 simp only [zn2,zc2] at F;clear D H R C;go_wp2_with fail;refine Z0f underlying154 underlying3 F (by simp) ?_;intro Y M O;have U:=L.trans (Z0a O (zl I) (zn _));simp only [zn2,zc2] at M;clear F L I O;go_wp2_with fail;go_ret;exact ⟨_,_,_,rfl,M,U⟩
theorem Zhq (n d:Int)(w:World)(H:ratB n d=true):Calls prog 109 #[.agg #[int i64 n,int i64 d],int i64 3] w λe w'=>e=.returned (.tuple #[int i64 (rndE n d),int i64 0])/\Below w.heap.size w w':=by
 obtain ⟨r1,r2,r3,r4,_⟩:=Z0F H;have Y:=RatB.new w n d;have J:=λW=>Z16 n d W;have I:=λW=>Za6 n d W (by omega) (by omega) r1 r2;rw [H] at J;have O:Below w.heap.size w (w.alloc (.cells #[int i64 n,int i64 d] 60)):=(zr w.heap.size w).alloc (zn _) _;generalize rndE n d=z at *
 unfold Zee at I;have A:=zh J;have HF:=zh I;have S:=zh Y;have j:=zh O;clear J I Y O H;go_enter func109,ntmps109;go_wp2_with fail;refine (Z7y _).mono ?_;rintro e D ⟨r,V1,V2,rfl,X,M⟩;have Z:=Z95 underlying154 underlying3 (L:=[(1,V1),(2,V2)]) (L2:=[]) X (by simp);have f:=S.out.on M;have R:=Z00 j.out M;have N:=(zr D.heap.size D).alloc (zn _) (.cells #[.func (.func 153) #[] #[]] 152);have B:=f.on N;have l:=Z00 R N;have V:(D.alloc (.cells #[.func (.func 153) #[] #[]] 152)).heap[D.heap.size]?=some (.cells #[.func (.func 153) #[] #[]] 152 (0,0)):=za _ _;have c0:=B.c0;have c1:=B.c1;have T:=zh B;have q:=zh l;have F:=zh V;clear B l V X M f R N S j;unfold Zee at Z;go_wp2_with fail;refine (A.out _).mono ?_;rintro e w3 ⟨rfl,C⟩;have G:=T.out.on C;have y:=Z00 q.out C;have n0:=Z0x ((C.block _ (zs F.out)).trans F.out);clear c0 c1;have c0:=G.c0;have c1:=G.c1;have m:=zh y;clear y G C T q F Z;go_wp2_with fail;refine (HF.out _).mono ?_;rintro e w4 ⟨rfl,g⟩;have U:=Z00 m.out g;have B5:=zh U;clear U g m;go_wp2_with fail;go_ret2;exact ⟨rfl,B5.out⟩
theorem Zkv (z:Int)(h:0<=z):(z.natAbs:Int)=z:=by omega
theorem Zkw (m n d:Int)(w:World)(f:0<=m)(be:m<=1000000000)(H:ratB n d=true)(bd:0<=n)(bc:n<=d):Calls prog 67 #[int i64 m,.agg #[int i64 n,int i64 d],int i64 3] w λe w'=>e=.returned (.tuple #[int i64 (rndE (m*n) d),int i64 0])/\Below w.heap.size w w':=by
 obtain ⟨r1,r2,r3,r4,_⟩:=Z0F H;have g:=RatB.new w n d;have J:=λW=>Z16 n d W;have bf:0<=m*n:=Int.mul_nonneg f bd;have R:m*n<=m*d:=Int.mul_le_mul_of_nonneg_left bc f;have A:m*d<=1000000000*1000000:=Int.mul_le_mul be r2 (by omega) (by omega);have bj:m*n<=1000000000000000:=by omega
 obtain ⟨z0,z1⟩:=Z7n (n:=m*n) (d:=d) (m:=m) r1 bf R;have I:=λW=>Za6 (m*n) d W (by omega) (by omega) r1 r2;have N:=λW=>Z6r (rndE (m*n) d) W (by omega) (by omega);rw [H] at J;have S:Below w.heap.size w (w.alloc (.cells #[int i64 n,int i64 d] 60)):=(zr w.heap.size w).alloc (zn _) _;generalize rndE (m*n) d=z at *
 rw [Zkv z z0] at N;have dz:decide (z > 1000000000)=false:=by simp;omega
 have bn:decide ((1000000000:Int)<z)=false:=by simp;omega
 have bg:decide (m < -1000000000)=false:=by simp;omega
 have bp:decide (m > 1000000000)=false:=by simp;omega
 have bm:decide ((1000000000:Int)<m)=false:=by simp;omega
 unfold Zee at I;have HV:=zh J;have HF:=zh I;have U:=zh g;have y:=zh S;have HS:=zh N;have bh:=zh R;have bk:=zh A;clear J I g S N R A H;go_enter func67,ntmps67;go_wp2_with fail;refine (Z7y _).mono ?_;rintro e D ⟨r,V1,V2,rfl,Z,M⟩;have j:=Z95 underlying154 underlying3 (L:=[(1,V1),(2,V2)]) (L2:=[]) Z (by simp);have l:=U.out.on M;have T:=Z00 y.out M;have O:=(zr D.heap.size D).alloc (zn _) (.cells #[.func (.func 153) #[] #[]] 152);have B:=l.on O;have ba:=Z00 T O;have Y:(D.alloc (.cells #[.func (.func 153) #[] #[]] 152)).heap[D.heap.size]?=some (.cells #[.func (.func 153) #[] #[]] 152 (0,0)):=za _ _;have c0:=B.c0;have c1:=B.c1;have V:=zh B;have B3:=zh ba;have F:=zh Y;clear B ba Y Z M l T O U y;unfold Zee at j;go_wp2_with fail;refine (HV.out _).mono ?_;rintro e w3 ⟨rfl,C⟩;have G:=V.out.on C;have bb:=Z00 B3.out C;have n0:=Z0x ((C.block _ (zs F.out)).trans F.out);clear c0 c1;have c0:=G.c0;have c1:=G.c1;have B4:=zh bb;clear bb G C V B3 F j;go_wp2_with fail;refine (HF.out _).mono ?_;rintro e w4 ⟨rfl,q⟩;have X:=Z00 B4.out q;have B5:=zh X;clear X q B4;go_wp2_with fail;refine (HS.out _).mono ?_;rintro e w5 ⟨rfl,rfl⟩;go_wp2_with fail;go_ret2;exact ⟨rfl,B5.out⟩
theorem Zp5 (l:List Int)(A:Option Addr)(c:Nat)(w:World)(B:l.length<=c):Calls prog 68 #[slice A l.length c] w λe w'=>e=.returned (slice A l.length l.length)/\w=w':=by
 have D:(0:Int)<=(l.length:Int):=by omega
 have C:(l.length:Int)<=(c:Int):=by omega
 go_enter func68,ntmps68;go_wp2_with fail;go_ret;exact ⟨rfl,rfl⟩
end
section
open Go.RowKit Lx Px Qx
structure ApB (w:World) (R:Array Value) (a:Qx.Ask) (wx:World):Prop where
 r:wx.heap[w.heap.size]?=some (.cells R 65 (0,0))
 a:wx.heap[w.heap.size+1]?=some (.cells #[int i64 a.kind,int i64 a.fr,int i64 a.un,int i64 a.pers] 26 (0,0))
 b:Below w.heap.size w wx
theorem ApB.on {w B C:World}{R:Array Value}{a:Qx.Ask}(h:ApB w R a B)(hb:Below B.heap.size B C):ApB w R a C := ⟨(hb.block _ (zs h.r)).trans h.r,(hb.block _ (zs h.a)).trans h.a,Z00 h.b hb⟩
theorem ApB.drew {w B:World}{R:Array Value}{a:Qx.Ask}(h:ApB w R a B):ApB w R a B.drew:=h.on (zr _ _).drew
theorem ApB.alloc {w B:World}{R:Array Value}{a:Qx.Ask}(h:ApB w R a B)(o:Obj):ApB w R a (B.alloc o):=h.on ((zr _ _).alloc (zn _) _)
theorem ApB.set {w B:World}{R:Array Value}{a:Qx.Ask}(h:ApB w R a B){b:Nat}(hb:w.heap.size+2<=b)(o:Nat)(v:Value):ApB w R a (B.setCell ⟨b,o,none⟩ v) := ⟨(zg _ _ _ _ (by show _≠b;omega)).trans h.r,(zg _ _ _ _ (by show _≠b;omega)).trans h.a,h.b.setCell (p:=⟨b,o,none⟩) (by show _<=b;omega) _⟩
theorem ApB.cell {w B:World}{R:Array Value}{a:Qx.Ask}(h:ApB w R a B)(i:Nat)(v:Value)(C:R[i]?=some v):B.cell? ⟨w.heap.size,i,none⟩=some v:=by rw [zc h.r,C]
theorem ApB.lt {w B:World}{R:Array Value}{a:Qx.Ask}(h:ApB w R a B):w.heap.size+1<B.heap.size:=(zs h.a)
theorem ApB.asks {w B:World}{R:Array Value}{a:Qx.Ask}(h:ApB w R a B):B.cell? ⟨w.heap.size+1,0,none⟩=some (int i64 a.kind)/\B.cell? ⟨w.heap.size+1,1,none⟩=some (int i64 a.fr)/\B.cell? ⟨w.heap.size+1,2,none⟩=some (int i64 a.un)/\B.cell? ⟨w.heap.size+1,3,none⟩=some (int i64 a.pers):=by
 refine ⟨?_,?_,?_,?_⟩ <;> (rw [zc h.a];rfl)
theorem Zef (w:World)(R:Array Value)(a:Qx.Ask):ApB w R a ((w.alloc (.cells R 65)).alloc (.cells #[int i64 a.kind,int i64 a.fr,int i64 a.un,int i64 a.pers] 26)):=by
 refine ⟨?_,?_,((zr _ _).alloc (zn _) _).alloc (by simp) _⟩
 · rw [Below.heap_alloc _ _ _ (by simp)];exact za w _
 · have:=za (w.alloc (.cells R 65)) (.cells #[int i64 a.kind,int i64 a.fr,int i64 a.un,int i64 a.pers] 26);simpa using this
theorem Z1u {a:Qx.Ask}(h:a.okB=true):0<=a.fr/\a.fr<a.un/\a.un<=366/\a.un - a.fr<=60/\1<=a.kind/\a.kind<=20/\1<=a.pers/\a.pers<=8:=by
 simp only [Ask.okB,zd,decide_eq_true_eq] at h;obtain ⟨⟨⟨⟨⟨⟨⟨I,G⟩,H⟩,J⟩,F⟩,C⟩,B⟩,D⟩:=h;exact ⟨I,G,H,J,F,C,B,D⟩
theorem Z5j {a:Qx.Ask}{n:Int}(B:a.okB=true)(N:a.fr<=n)(C:n<a.un):∀ i,0<=(Z0w a n).at i/\(Z0w a n).at i<=1000:=by
 obtain ⟨L,H,J,M,G,F,D,I⟩:=Z1u B;have:=Z7e n;intro i;unfold Vs.at Z0w;dsimp only
 repeat' split
 all_goals omega
theorem Z3e {r:Rt}(h:Z4t r=true):1<=r.id/\r.id<=1000000/\0<=r.lv/\r.lv<=100/\1<=r.kd/\r.kd<=20/\1<=r.ar/\r.ar<=127/\0<=r.fr/\r.fr<r.un/\r.un<=366/\ratB r.kn r.kq=true/\0<=r.kn/\r.kn<=r.kq/\1<=r.ls/\r.ls<=r.mo/\r.mo<=60:=by
 simp only [Z4t,zd,decide_eq_true_eq] at h;obtain ⟨⟨⟨⟨⟨⟨⟨⟨⟨⟨⟨⟨⟨⟨⟨⟨⟨⟨O,M⟩,N⟩,R⟩,G⟩,F⟩,C⟩,J⟩,L⟩,S⟩,D⟩,B⟩,b4⟩,I⟩,T⟩,U⟩,H⟩,V⟩,c1⟩:=h;exact ⟨O,M,N,R,G,F,C,J,L,S,D,B,b4,I,T,U,H⟩
theorem Zkx (r:Rt)(a:Qx.Ask)(B:Int):Z8H r a B=(decide (r.kd=a.kind)&&Z18 B r.fr (r.un - 1)&&Z18 (a.un - a.fr) r.ls r.mo&&bitB r.ar (wday a.fr).toNat):=by
 have h:decide (B<r.un)=decide (B<=r.un - 1):=by rw [zA];simp;omega
 unfold Z8H Z18;rw [h];simp only [Bool.and_assoc]
theorem ZpC {V:Qx.V}{X:Int}(h:X=match V with | .ok n _=>if n=1 then 1 else 0 | .no e=>-e)(he:∀ e,V=.no e->e=3\/e=22):(vN V==1)=(X==1)/\vE V=(if X<0 then -X else 0):=by
 cases V with
 | ok n d =>
  dsimp only at h;by_cases h1:n=1
  · rw [zp h1] at h;subst h h1;exact ⟨rfl,rfl⟩
  · rw [zf h1] at h;subst h;exact ⟨by simpa [vN] using h1,rfl⟩
 | no e =>dsimp only at h;rcases he e rfl with rfl | rfl <;> (subst h;exact ⟨rfl,rfl⟩)
def apO (x:Int):Value:=.tuple #[.bool (x==1),int i64 (if x<0 then -x else 0)]
theorem Zeg (r:Rt)(wv pv:Value)(a:Qx.Ask)(C:Int)(w:World)(bx:FoV w w.heap.size wv r.wl)(bv:FoV w w.heap.size pv r.pl)(hr:Z15 r=0)(y:a.okB=true)(h0:a.fr<=C)(h1:C<a.un) : Calls prog 146 #[rtV r wv pv,askV a,int i64 C] w λe w'=>e=.returned (apO (apR r a C))/\Below w.heap.size w w':=by
 obtain ⟨I,J,rfl,bf⟩:=bx;obtain ⟨f,l,rfl,_⟩:=bv;have hfo:=Z0G hr;obtain ⟨f1,f2,f3,f4,f5,f6,f7,f8,f9,g1,g2,_,_,_,g6,g7,g8⟩:=Z3e hfo;obtain ⟨vw,_⟩:=Z2r hfo;obtain ⟨ba,br⟩:=Z4k vw;obtain ⟨a1,a2,a3,a4,a5,a6,a7,a8⟩:=Z1u y;have bn:=Z5j y h0 h1;have g:=λW=>Zft a C W y h0 h1;simp only [askV] at g;have bt:∀ W,Below w.heap.size w W->FoV W w.heap.size (slice I (flen r.wl) J) r.wl:=λW hb=>⟨I,J,rfl,FoAt.keep (λp hp=>hb.cell hp) r.wl I 0 bf⟩
 have be:=λW (hb:Below w.heap.size w W)=>Zac r.wo r.wn r.wl (slice I (flen r.wl) J) (Z0w a C) W ((bt W hb).up hb.size) ba br bn;have Y:Z8H r a C=false->apR r a C=0:=λh=>by unfold apR;rw [h];rfl
 have Z:Z8H r a C=true->apR r a C=match valE (Z0w a C) (r.wo,r.wn) r.wl with | .ok n _=>if n=1 then 1 else 0 | .no e=>-e:=λh=>by unfold apR;rw [h];rfl
 rw [Zkx] at Y Z;have bg:∀ e,valE (Z0w a C) (r.wo,r.wn) r.wl=.no e->e=3\/e=22:=λe h=>Z3B h;have bh:=λW=>Z92 a.fr W (by omega) (by omega);have hd:=Z7e a.fr;have bb:=Zef w #[int i64 r.id,int i64 r.lv,int i64 r.kd,int i64 r.fr,int i64 r.un,int i64 r.ls,int i64 r.mo,int i64 r.ar,int i64 r.kn,int i64 r.kq,int i64 r.wo,int i64 r.wn,slice I (flen r.wl) J,int i64 r.po,int i64 r.pn,slice f (flen r.pl) l] a;obtain ⟨R,F⟩:∃ R:Array Value,R=#[int i64 r.id,int i64 r.lv,int i64 r.kd,int i64 r.fr,int i64 r.un,int i64 r.ls,int i64 r.mo,int i64 r.ar,int i64 r.kn,int i64 r.kq,int i64 r.wo,int i64 r.wn,slice I (flen r.wl) J,int i64 r.po,int i64 r.pn,slice f (flen r.pl) l]:=⟨_,rfl⟩
 have r2:R[2]?=some (int i64 r.kd):=by rw [F];rfl
 have r3:R[3]?=some (int i64 r.fr):=by rw [F];rfl
 have r4:R[4]?=some (int i64 r.un):=by rw [F];rfl
 have r5:R[5]?=some (int i64 r.ls):=by rw [F];rfl
 have r6:R[6]?=some (int i64 r.mo):=by rw [F];rfl
 have r7:R[7]?=some (int i64 r.ar):=by rw [F];rfl
 have bu:R[10]?=some (int i64 r.wo):=by rw [F];rfl
 have bc:R[11]?=some (int i64 r.wn):=by rw [F];rfl
 have bm:R[12]?=some (slice I (flen r.wl) J):=by rw [F];rfl
 have bq:=λW=>Z4h C r.fr (r.un - 1) W;have bs:=λW=>Z4h (a.un - a.fr) r.ls r.mo W;generalize Z18 C r.fr (r.un - 1)=s1 at *
 generalize Z18 (a.un - a.fr) r.ls r.mo=s2 at *
 have bp:bitB r.ar (wday a.fr).toNat=decide (r.ar / 2 ^ (wday a.fr).toNat % 2=1):=rfl;rw [bp] at Y Z;have bI:=Zfz (r.ar / 2 ^ (wday a.fr).toNat);have bj:r.ar / 2 ^ (wday a.fr).toNat % 2=0\/r.ar / 2 ^ (wday a.fr).toNat % 2=1:=by omega
 generalize wday a.fr=dd at *
 generalize r.ar / 2 ^ dd.toNat % 2=z at *
 generalize valE (Z0w a C) (r.wo,r.wn) r.wl=V at *
 generalize apR r a C=X at *
 have bA:=zh g;have bD:=zh be;have G:=zh Y;have N:=zh Z;have bB:=zh bg;have bF:=zh bh;have bC:=zh bq;have bd:=zh bs;have bk:=zh bb;have bz:=zh bj;have bH:=zh bu;have bJ:=zh bc;have bE:=zh bm;clear g be Y Z bg bh bq bs bb bj bu bc bm bf hfo vw ba br bn bt bp;dsimp only [rtV,askV];go_enter func146,ntmps146;go_upto_region 1 with fail;generalize (w.alloc (.cells #[int i64 r.id,int i64 r.lv,int i64 r.kd,int i64 r.fr,int i64 r.un,int i64 r.ls,int i64 r.mo,int i64 r.ar,int i64 r.kn,int i64 r.kq,int i64 r.wo,int i64 r.wn,slice I (flen r.wl) J,int i64 r.po,int i64 r.pn,slice f (flen r.pl) l] 65)).alloc (.cells #[int i64 a.kind,int i64 a.fr,int i64 a.un,int i64 a.pers] 26)=W at *
 have D:Hid (ApB w R a W):=by rw [F];exact bk.out
 clear bk F;obtain ⟨d,m,A,j⟩:=D.out.asks;have e2:=D.out.cell 2 _ r2;have e3:=D.out.cell 3 _ r3;have e4:=D.out.cell 4 _ r4;have e5:=D.out.cell 5 _ r5;have e6:=D.out.cell 6 _ r6;have e7:=D.out.cell 7 _ r7;clear r2 r3 r4 r5 r6 r7;go_wp2_with fail;refine (bF.out _).mono ?_;rintro e w' ⟨rfl,rfl⟩;go_wp2_with fail;refine (bC.out _).mono ?_;rintro e w' ⟨rfl,rfl⟩;by_cases hk:r.kd=a.kind
 · have dk:(r.kd != a.kind)=false:=by simpa using hk
   have U:decide (r.kd=a.kind)=true:=by simpa using hk
   rw [U] at G N;clear hk U;cases s1
   · have H:=G.out rfl;subst H;clear G N;go_wp2_with fail;go_ret2;exact ⟨rfl,D.out.b⟩
   · go_wp2_with fail;refine (bd.out _).mono ?_;rintro e w' ⟨rfl,rfl⟩;cases s2
     · have H:=G.out rfl;subst H;clear G N;go_wp2_with fail;go_ret2;exact ⟨rfl,D.out.b⟩
     · rcases bz.out with B | B
       · subst B;have H:=G.out rfl;subst H;clear G N;go_wp2_with fail;go_ret2;exact ⟨rfl,D.out.b⟩
       · subst B;have H:=N.out rfl;have HX:=zh H;clear H G N;go_upto_region 5 with fail;clear e2 e3 e4 e5 e6 e7 d m A j bI;have L:Hid (∀ wx,ApB w R a wx->wx.cell? ⟨w.heap.size,10,none⟩=some (int i64 r.wo)/\wx.cell? ⟨w.heap.size,11,none⟩=some (int i64 r.wn)/\wx.cell? ⟨w.heap.size,12,none⟩=some (slice I (flen r.wl) J)/\wx.cell? ⟨w.heap.size+1,0,none⟩=some (int i64 a.kind)/\wx.cell? ⟨w.heap.size+1,1,none⟩=some (int i64 a.fr)/\wx.cell? ⟨w.heap.size+1,2,none⟩=some (int i64 a.un)/\wx.cell? ⟨w.heap.size+1,3,none⟩=some (int i64 a.pers)/\ApB w R a wx):=λwx h=>by obtain ⟨d,m,A,j⟩:=h.asks;exact ⟨h.cell 10 _ bH.out,h.cell 11 _ bJ.out,h.cell 12 _ bE.out,d,m,A,j,h⟩
         have bK:w.heap.size+1<W.heap.size:=D.out.lt;go_region_held3 (λw'=>w'.cell? ⟨w.heap.size,10,none⟩=some (int i64 r.wo)/\w'.cell? ⟨w.heap.size,11,none⟩=some (int i64 r.wn)/\w'.cell? ⟨w.heap.size,12,none⟩=some (slice I (flen r.wl) J)/\w'.cell? ⟨w.heap.size+1,0,none⟩=some (int i64 a.kind)/\w'.cell? ⟨w.heap.size+1,1,none⟩=some (int i64 a.fr)/\w'.cell? ⟨w.heap.size+1,2,none⟩=some (int i64 a.un)/\w'.cell? ⟨w.heap.size+1,3,none⟩=some (int i64 a.pers)/\ApB w R a w') (first | (with_reducible exact L.out _ D.out.drew) | (with_reducible exact L.out _ (D.out.alloc _).drew) | (with_reducible exact L.out _ O) | (with_reducible exact L.out _ T) | (with_reducible exact L.out _ (O.alloc _)) | (with_reducible exact L.out _ (T.alloc _)) | (exact L.out _ ((‹_/\_/\_/\_/\_/\_/\_/\ApB w R a _›).2.2.2.2.2.2.2.alloc _)) | (exact L.out _ ((O.set (b:=W.heap.size) (by omega) 0 _).set (b:=W.heap.size) (by omega) 1 _)) | (exact L.out _ ((O.set (b:=w5.heap.size) (by have:=T.lt;omega) 0 _).set (b:=w5.heap.size) (by have:=T.lt;omega) 1 _)) | fail) (first
           | (go_at_call 108;have M:=(‹_/\_/\_/\_/\_/\_/\_/\ApB w R a _›).2.2.2.2.2.2.2;refine (bA.out _).mono ?_;rintro e w5 ⟨rfl,q⟩;have T:=M.on q;try (have B:=(q.block W.heap.size (by simp [go_sem])).trans (za W (.cells #[int i64 0,int i64 0] 60));have bG:Hid (RatB w5 W.heap.size 0 0):=B;clear B);clear q M)
           | (go_at_call 107;have M:=(‹_/\_/\_/\_/\_/\_/\_/\ApB w R a _›).2.2.2.2.2.2.2;refine (bD.out _ M.b).mono ?_;rintro e w6 ⟨rfl,S⟩;have O:=M.on S;first | (have B:=bG.out.on S;have z0:=B.c0;have z1:=B.c1;have y0:=B.fr 0;have y1:=B.fr 1;clear B S M) | (have B:RatB w6 w5.heap.size 0 0:=(S.block w5.heap.size (by simp [go_sem])).trans (za w5 (.cells #[int i64 0,int i64 0] 60));have z0:=B.c0;have z1:=B.c1;have y0:=B.fr 0;have y1:=B.fr 1;clear B S M) | (clear S M)))
         all_goals
          have ho:=ZpC HX.out bB.out;have HO:=zh ho;clear ho;go_wp2_with fail;refine bodyPost_ret (v:=.tuple #[.bool (vN V==1),int i64 (vE V)]) (by simp [results,results146,go_sem]) rfl ?_;refine ⟨by rw [apO,HO.out.1,HO.out.2],?_⟩
          first
           | exact (O.alloc _).b
           | exact ((O.set (b:=W.heap.size) (by omega) 0 _).set (b:=W.heap.size) (by omega) 1 _).b
           | exact ((O.set (b:=w5.heap.size) (by have:=T.lt;omega) 0 _).set (b:=w5.heap.size) (by have:=T.lt;omega) 1 _).b
 · have dk:(r.kd != a.kind)=true:=by simpa using hk
   have U:decide (r.kd=a.kind)=false:=by simpa using hk
   rw [U] at G;have H:=G.out rfl;subst H;clear G N hk U;cases s1
   · go_wp2_with fail;go_ret2;exact ⟨rfl,D.out.b⟩
   · go_wp2_with fail;refine (bd.out _).mono ?_;rintro e w' ⟨rfl,rfl⟩;go_wp2_with fail;go_ret2;exact ⟨rfl,D.out.b⟩
end
end Go.Proofs.YtnepkoepbapgeaaGreatDoor
