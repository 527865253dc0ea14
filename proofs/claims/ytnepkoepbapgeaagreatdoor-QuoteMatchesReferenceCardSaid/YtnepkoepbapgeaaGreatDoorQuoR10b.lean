import Derived.Test.YtnepkoepbapgeaaGreatDoorQuoVal
import Derived.Carry
namespace Go.Proofs.YtnepkoepbapgeaaGreatDoor
open _root_.Go.Proofs.Tryz
open Value (int slice)
open IntKind (i64)
set_option maxRecDepth 100000
section
open Go.RowKit Lx Px Qx
def Z18 (n lo hi:Int):Bool:=decide (lo<=n)&&decide (n<=hi)
theorem Z4h (n lo B:Int)(w:World):Calls prog 73 #[int i64 n,int i64 lo,int i64 B] w λe w'=>e=.returned (.bool (Z18 n lo B))/\w=w':=by
 unfold Z18;obtain ⟨G,C⟩:∃ b,decide (lo<=n)=b:=⟨_,rfl⟩
 obtain ⟨D,F⟩:∃ b,decide (n<=B)=b:=⟨_,rfl⟩
 rw [C,F];cases G <;> cases D
 all_goals go_enter func73,ntmps73;go_wp2_with fail;go_ret;exact ⟨rfl,rfl⟩
def askV (a:Qx.Ask):Value:=.agg #[int i64 a.kind,int i64 a.fr,int i64 a.un,int i64 a.pers]
theorem Zkj (a:Qx.Ask)(w:World):Calls prog 65 #[askV a] w λe w'=>e=.returned (.bool a.okB)/\Below w.heap.size w w':=by
 obtain ⟨D,fr,B,F⟩:=a;have hb:=(zr w.heap.size w).alloc (zn _) (.cells #[int i64 D,int i64 fr,int i64 B,int i64 F] 26);have hk:=λW=>Z4h D 1 20 W;have G:=λW=>Z4h F 1 8 W;have M:Z18 D 1 20=(decide (1<=D)&&decide (D<=20)):=rfl;have N:Z18 F 1 8=(decide (1<=F)&&decide (F<=8)):=rfl;have L:(⟨D,fr,B,F⟩:Qx.Ask).okB=((decide (0<=fr)&&decide (fr<B)&&decide (B<=366)&&decide (B - fr<=60))&&Z18 D 1 20&&Z18 F 1 8):=by rw [M,N];simp only [Ask.okB,Bool.and_assoc]
 rw [L];generalize Z18 D 1 20=S at *
 generalize Z18 F 1 8=U at *
 clear M N L;dsimp only [askV];by_cases h1:0<=fr
 · have H:decide (0<=fr)=true:=by simpa using h1
   by_cases h2:fr<B
   · have I:decide (fr<B)=true:=by simpa using h2
     by_cases h3:B<=366
     · have J:decide (B<=366)=true:=by simpa using h3
       obtain ⟨b4,R⟩:∃ b,decide (B - fr<=60)=b:=⟨_,rfl⟩
       rw [H,I,J,R];have O:=zh hk;have T:=zh G;have C:=zh hb;clear hk G hb;cases b4
       · go_enter func65,ntmps65;go_wp2_with fail;go_ret;exact ⟨rfl,C.out⟩
       · cases S
         · go_enter func65,ntmps65;go_wp2_with fail;refine (O.out _).mono ?_;rintro e w' ⟨rfl,rfl⟩;go_wp2_with fail;go_ret;exact ⟨rfl,C.out⟩
         · go_enter func65,ntmps65;go_wp2_with fail;refine (O.out _).mono ?_;rintro e w' ⟨rfl,rfl⟩;go_wp2_with fail;refine (T.out _).mono ?_;rintro e w' ⟨rfl,rfl⟩;go_wp2_with fail;go_ret;exact ⟨by simp,C.out⟩
     · have J:decide (B<=366)=false:=by simpa using h3
       rw [H,I,J];have C:=zh hb;clear hb hk G;go_enter func65,ntmps65;go_wp2_with fail;go_ret;exact ⟨rfl,C.out⟩
   · have I:decide (fr<B)=false:=by simpa using h2
     rw [H,I];have C:=zh hb;clear hb hk G;go_enter func65,ntmps65;go_wp2_with fail;go_ret;exact ⟨rfl,C.out⟩
 · have H:decide (0<=fr)=false:=by simpa using h1
   rw [H];have C:=zh hb;clear hb hk G;go_enter func65,ntmps65;go_wp2_with fail;go_ret;exact ⟨rfl,C.out⟩
theorem Z92 (n:Int)(w:World)(C:0<=n)(B:n<=366):Calls prog 150 #[int i64 n] w λe w'=>e=.returned (.tuple #[int i64 (wday n),int i64 0])/\w=w':=by
 have F:decide (n<0)=false:=by simpa using C
 have D:decide (n > 366)=false:=by simpa using B
 have G:decide (366<n)=false:=by simpa using B
 go_enter func150,ntmps150;go_wp2_with fail;go_ret2;exact ⟨rfl,rfl⟩
theorem Z7e (n:Int):0<=wday n/\wday n<=6:=by unfold wday;omega
def vsV (v:Vs):Value:=.agg #[int i64 v.a,int i64 v.b,int i64 v.c,int i64 v.d]
theorem Zft (a:Qx.Ask)(n:Int)(w:World)(D:a.okB=true)(J:a.fr<=n)(H:n<a.un):Calls prog 108 #[askV a,int i64 n] w λe w'=>e=.returned (vsV (Z0w a n))/\Below w.heap.size w w':=by
 obtain ⟨G,fr,B,C⟩:=a;simp only [Ask.okB,zd,decide_eq_true_eq] at D;dsimp only at J H;obtain ⟨⟨⟨⟨⟨⟨⟨T,R⟩,S⟩,U⟩,N⟩,M⟩,L⟩,O⟩:=D;have hw:=λW=>Z92 n W (by omega) (by omega);have hb:Below w.heap.size w ((w.alloc (.cells #[int i64 G,int i64 fr,int i64 B,int i64 C] 26)).alloc (.cells #[int i64 (B - fr),int i64 C,int i64 (n - fr),int i64 (wday n)] 148)) := ((zr w.heap.size w).alloc (zn _) _).alloc (by simp) _;dsimp only [askV,vsV,Z0w];generalize wday n=d at *
 have I:=zh hw;have F:=zh hb;clear hw hb;go_enter func108,ntmps108;go_wp2_with fail;refine (I.out _).mono ?_;rintro e w' ⟨rfl,rfl⟩;go_wp2_with fail;exact bodyPost_ret (v:=.agg #[int i64 (B - fr),int i64 C,int i64 (n - fr),int i64 d]) (by simp [results,results108,go_sem]) rfl ⟨rfl,F.out⟩
end
section
open Go.RowKit Lx Px Qx
def qtV (q:Qt)(nv:Value):Value:=.agg #[int i64 q.ver,int i64 q.time,int i64 q.total,int i64 q.keep,int i64 q.ask.kind,int i64 q.ask.fr,int i64 q.ask.un,int i64 q.ask.pers,nv,.int .u64 (q.dig:Nat),int i64 q.sE,int i64 q.sS]
def QtV (w:World)(B:Nat)(V:Value)(q:Qt):Prop:=∃ A c,V=qtV q (slice A q.nights.length c)/\Z03 w B (slice A q.nights.length c) q.nights
theorem QtV.on {w w':World}{B:Nat}{V:Value}{q:Qt}(h:QtV w B V q)(hb:Below B w w'):QtV w' B V q:=by
 obtain ⟨A,c,e,h⟩:=h;exact ⟨A,c,e,h.on hb⟩
theorem QtV.up {w:World}{B C:Nat}{V:Value}{q:Qt}(h:QtV w B V q)(hb:B<=C):QtV w C V q:=by
 obtain ⟨A,c,e,h⟩:=h;exact ⟨A,c,e,h.up hb⟩
def Qx.Qt.i64 (q:Qt):Prop:=(∀ x∈q.says,-9223372036854775808<=x/\x<=9223372036854775807)/\q.dig<18446744073709551616
def vrV (v:Vr)(rv:Value):Value:=.agg #[int i64 v.num,int i64 v.time,rv]
def VrV (w:World)(B:Nat)(V:Value)(v:Vr):Prop:=∃ A c,V=vrV v (slice A v.rs.length c)/\RtsV w B (slice A v.rs.length c) v.rs
theorem VrV.on {w w':World}{B:Nat}{V:Value}{v:Vr}(h:VrV w B V v)(hb:Below B w w'):VrV w' B V v:=by
 obtain ⟨A,c,e,h⟩:=h;exact ⟨A,c,e,h.on hb⟩
theorem VrV.up {w:World}{B C:Nat}{V:Value}{v:Vr}(h:VrV w B V v)(hb:B<=C):VrV w C V v:=by
 obtain ⟨A,c,e,h⟩:=h;exact ⟨A,c,e,h.up hb⟩
def VssV (w:World)(B:Nat)(v:Value)(l:List Vr):Prop := ∃ A c,v=slice A l.length c/\l.length<=c/\(l≠[]->∃ g o,A=some ⟨g,o,none⟩/\g<B/\∀ k (h:k<l.length),∃ RA rc,RtsV w B (slice RA l[k].rs.length rc) l[k].rs /\ w.cell? ⟨g,o+k*3,none⟩=some (int i64 l[k].num)/\w.cell? ⟨g,o+k*3+1,none⟩=some (int i64 l[k].time)/\w.cell? ⟨g,o+k*3+2,none⟩=some (slice RA l[k].rs.length rc))
theorem VssV.nil (w:World)(B c:Nat):VssV w B (slice none 0 c) []:=⟨none,c,rfl,Nat.zero_le _,λh=>absurd rfl h⟩
theorem VssV.on {w w':World}{B:Nat}{v:Value}{l:List Vr}(h:VssV w B v l)(hb:Below B w w'):VssV w' B v l:=by
 obtain ⟨A,c,e,J,O⟩:=h;refine ⟨A,c,e,J,λhl=>?_⟩;obtain ⟨g,o,H,C,M⟩:=O hl;refine ⟨g,o,H,C,λk hk=>?_⟩;obtain ⟨I,L,D,G,F,N⟩:=M k hk;exact ⟨I,L,D.on hb,(hb.cell (p:=⟨g,o+k*3,none⟩) C).trans G,(hb.cell (p:=⟨g,o+k*3+1,none⟩) C).trans F,(hb.cell (p:=⟨g,o+k*3+2,none⟩) C).trans N⟩
theorem VssV.up {w:World}{B C:Nat}{v:Value}{l:List Vr}(h:VssV w B v l)(hb:B<=C):VssV w C v l:=by
 obtain ⟨A,c,e,I,M⟩:=h;refine ⟨A,c,e,I,λhl=>?_⟩;obtain ⟨g,o,G,N,L⟩:=M hl;refine ⟨g,o,G,by omega,λk hk=>?_⟩;obtain ⟨H,J,D,F⟩:=L k hk;exact ⟨H,J,D.up hb,F⟩
theorem VssV.cap {w:World}{B:Nat}{A:Option Addr}{n c:Nat}{l:List Vr}(h:VssV w B (slice A n c) l):l.length<=c:=by
 obtain ⟨C,c',e,D,_⟩:=h;injection e with _ _ e3
 omega
end
section
open Go.ChangeShapes Go.WideShapes Go.ChangeAt Go.RowKit Go.Deep Lx Px Qx
theorem Z12 {k:Int}(h:(Lit.int .i64 k).wf=true) : -9223372036854775808<=k/\k<=9223372036854775807:=by
 simp only [Lit.wf,zd,decide_eq_true_eq] at h;exact h
theorem Zkk {k:Int}(h:(Lit.int .u64 k).wf=true):0<=k/\k<=18446744073709551615:=by
 simp only [Lit.wf,zd,decide_eq_true_eq] at h;exact h
section
variable {H:Type} {enc:TypeId × Value->H} {W:World}
theorem Zhi {n:Nat}{c:Value}{y:DataW H × List MemPlace}(h:DataW.trod enc prog W 0 (λ_=>true) true n 22 [c]=some y):∃ l:List Rt,RtsV W W.heap.size c l:=by
 rcases DataW.trod_slice underlying22 h with ⟨G,_⟩ | ⟨a,M,R,Z,rest,n,A,F,ba,hb,hl,g,hlen,S,bc,Y⟩
 · simp at G;subst G;exact ⟨[],RtsV.nil _ _⟩
 · simp at F;subst F;obtain ⟨rs,T,D⟩:=ZiE (λi (r:Rt)=>RtAt W W.heap.size (a.add (i*16)) r/\a.block<W.heap.size) M (λk hk=>by
    have he:=S k hk;rw [zv (by omega),Option.bind_eq_some_iff] at he;obtain ⟨bb,I,N⟩:=he;obtain ⟨r,f,m,q,d,rfl,U,V⟩:=Ze9 N;rw [Tryz.cellsRate] at I;obtain ⟨_,_,C⟩:=World.cells?_some I;have B:=C 0 (by omega);have X:a.block<W.heap.size:=by have:=Zdi B;rw [Z1d,Z1d] at this;exact this
    have L:(a.add (k*16)).spot=none:=by rw [Go.Deep.add_add] at B;exact Zcx B
    refine ⟨r,⟨L,_,_,λj u hj=>?_,U,V⟩,X⟩;have O:j<16:=by have:=(List.getElem?_eq_some_iff.1 hj).1;simpa [Z50] using this
    have J:=C j O;rw [Go.Deep.add_add,Zcw L] at J;exact J.trans hj)
   exact ⟨rs,some a,R,by rw [T],λi hi=>⟨a,rfl,(D i hi).2,(D i hi).1⟩⟩
theorem Tryz.cellsInt1:Tryz.prog.cellsOf 3=1:=by kernel_rfl
theorem ZnB {a:Addr}(h:a.spot=none)(k:Nat):a.add k=⟨a.block,a.off+k,none⟩:=by
 unfold Addr.add;split
 · rename_i B;subst B;cases a;cases h;rfl
 · rfl
theorem Zkm {n:Nat}{c:Value}{y:DataW H × List MemPlace}(h:DataW.trod enc prog W 0 (λ_=>true) true n 27 [c]=some y):∃ l:List Int,Z03 W W.heap.size c l/\(∀ x∈l,-9223372036854775808<=x/\x<=9223372036854775807):=by
 rcases DataW.trod_slice underlying27 h with ⟨B,_⟩ | ⟨a,L,N,V,rest,n,Y,C,f,hb,d,X,Z,O,j,U⟩
 · simp at B;subst B;exact ⟨[],Z03.nil _ _ _,λx C=>by simp at C⟩
 · simp at C;subst C;obtain ⟨rs,R,F⟩:=ZiE (λi (x:Int)=>W.cell? (a.add i)=some (int i64 x)/\(-9223372036854775808<=x/\x<=9223372036854775807)) L (λk hk=>by
    have he:=O k hk;rw [zv (by omega),Option.bind_eq_some_iff] at he;obtain ⟨g,D,M⟩:=he;rw [Tryz.cellsInt1,Nat.mul_one] at D;obtain ⟨x,rfl,_,hw⟩:=DataW.trod_int underlying3 M;obtain ⟨_,_,J⟩:=World.cells?_some D;have B:=J 0 (by omega);have T:(a.add k).add 0=a.add k:=by rw [Go.Deep.add_add];rfl
    rw [T] at B;exact ⟨x,by simpa using B,Z12 hw⟩)
   refine ⟨rs,⟨some a,N,by rw [R],λhne=>?_⟩,λx C=>?_⟩
   · have B:0<rs.length:=List.length_pos_iff.2 hne;have D:=(F 0 B).1;have S:a.add 0=a:=rfl;rw [S] at D;have I:=Zcx D;refine ⟨a.block,a.off,by cases a;cases I;rfl,Zdi D,λi G=>?_⟩;have:=(F i G).1;rwa [ZnB I] at this
   · obtain ⟨i,G,rfl⟩:=List.getElem_of_mem C;exact (F i G).2
theorem Tryz.cellsVer:Tryz.prog.cellsOf 24=3:=by kernel_rfl
theorem Tryz.cellsAsk:Tryz.prog.cellsOf 26=4:=by kernel_rfl
theorem Tryz.cellsQuote:Tryz.prog.cellsOf 32=12:=by kernel_rfl
theorem Zfu {n:Nat}{cs:List Value}{y:DataW H × List MemPlace}(h:DataW.trod enc prog W 0 (λ_=>true) true n 26 cs=some y) : ∃ a:Qx.Ask,cs=[int i64 a.kind,int i64 a.fr,int i64 a.un,int i64 a.pers]/\(∀ x∈[a.kind,a.fr,a.un,a.pers],-9223372036854775808<=x/\x<=9223372036854775807):=by
 obtain ⟨J,G,A,_,R,Z,I⟩:=DataW.trod_struct underlying26 h;rw [Tryz.cellsAsk] at R;obtain ⟨c0,c1,c2,c3,rfl⟩:∃ c0 c1 c2 c3,cs=[c0,c1,c2,c3]:=by
  match cs,R with
  | [c0,c1,c2,c3],_=>exact ⟨c0,c1,c2,c3,rfl⟩
 obtain ⟨D,F,B,C,rfl⟩:∃ D F B C,J=[D,F,B,C]:=by
  have q:J.length=4:=Z
  match J,q with
  | [D,F,B,C],_=>exact ⟨D,F,B,C,rfl⟩
 have U:DataW.trod enc prog W 0 (λ_=>true) true G 3 [c0]=some D:=I 0 _ rfl;have Y:DataW.trod enc prog W 0 (λ_=>true) true G 3 [c1]=some F:=I 1 _ rfl;have f:DataW.trod enc prog W 0 (λ_=>true) true G 3 [c2]=some B:=I 2 _ rfl;have j:DataW.trod enc prog W 0 (λ_=>true) true G 3 [c3]=some C:=I 3 _ rfl;obtain ⟨T,N,_,g⟩:=DataW.trod_int underlying3 U;obtain ⟨d,L,_,l⟩:=DataW.trod_int underlying3 Y;obtain ⟨X,O,_,m⟩:=DataW.trod_int underlying3 f;obtain ⟨r,S,_,V⟩:=DataW.trod_int underlying3 j;simp only [List.cons.injEq,and_true] at N L O S;subst N L O S;refine ⟨⟨T,d,X,r⟩,rfl,?_⟩;intro x M;simp only [zD,List.not_mem_nil,or_false] at M;rcases M with rfl | rfl | rfl | rfl
 · exact Z12 g
 · exact Z12 l
 · exact Z12 m
 · exact Z12 V
theorem ZaH {cs:Array Value}{l:List Value}(h:cs.toList=l):Value.agg cs=.agg l.toArray:=by rw [<- h]
theorem ZnC {base:Nat}{v:Value}{d:DataW H}{p:List MemPlace}(F:Value.okWide prog W .any base 26 v) (h:DataW.Trod enc prog W 0 (λ_=>true) true 26 v d p):∃ a:Qx.Ask,v=askV a/\(∀ x∈[a.kind,a.fr,a.un,a.pers],-9223372036854775808<=x/\x<=9223372036854775807):=by
 obtain ⟨cs,rfl,I⟩:=okWide_struct underlying26 F;obtain ⟨G,C⟩:=h;obtain ⟨a,B,D⟩:=Zfu (cs:=cs.toList) C;exact ⟨a,ZaH B,D⟩
theorem ZnD {n:Nat}{cs:List Value}{y:DataW H × List MemPlace}(h:DataW.trod enc prog W 0 (λ_=>true) true n 24 cs=some y) : ∃ (v:Vr) (A:Option Addr) (c:Nat),cs=[int i64 v.num,int i64 v.time,slice A v.rs.length c]/\RtsV W W.heap.size (slice A v.rs.length c) v.rs/\(∀ x∈[v.num,v.time],-9223372036854775808<=x/\x<=9223372036854775807):=by
 obtain ⟨I,F,f,_,O,U,G⟩:=DataW.trod_struct underlying24 h;rw [Tryz.cellsVer] at O;obtain ⟨c0,c1,c2,rfl⟩:∃ c0 c1 c2,cs=[c0,c1,c2]:=by
  match cs,O with
  | [c0,c1,c2],_=>exact ⟨c0,c1,c2,rfl⟩
 obtain ⟨C,D,B,rfl⟩:∃ C D B,I=[C,D,B]:=by
  have d:I.length=3:=U
  match I,d with
  | [C,D,B],_=>exact ⟨C,D,B,rfl⟩
 have S:DataW.trod enc prog W 0 (λ_=>true) true F 3 [c0]=some C:=G 0 _ rfl;have T:DataW.trod enc prog W 0 (λ_=>true) true F 3 [c1]=some D:=G 1 _ rfl;have X:DataW.trod enc prog W 0 (λ_=>true) true F 22 [c2]=some B:=G 2 _ rfl;obtain ⟨R,N,_,Y⟩:=DataW.trod_int underlying3 S;obtain ⟨V,J,_,Z⟩:=DataW.trod_int underlying3 T;obtain ⟨rs,L⟩:=Zhi X;obtain ⟨A,c,rfl,_⟩:=id L;simp only [List.cons.injEq,and_true] at N J;subst N J;refine ⟨⟨R,V,rs⟩,A,c,rfl,L,?_⟩;intro x M;simp only [zD,List.not_mem_nil,or_false] at M;rcases M with rfl | rfl
 · exact Z12 Y
 · exact Z12 Z
theorem ZnE {base:Nat}{v:Value}{d:DataW H}{p:List MemPlace}(G:Value.okWide prog W .any base 24 v) (h:DataW.Trod enc prog W 0 (λ_=>true) true 24 v d p):∃ x:Vr,VrV W W.heap.size v x/\(∀ n∈[x.num,x.time],-9223372036854775808<=n/\n<=9223372036854775807):=by
 obtain ⟨cs,rfl,J⟩:=okWide_struct underlying24 G;obtain ⟨I,D⟩:=h;obtain ⟨x,A,c,C,B,F⟩:=ZnD (cs:=cs.toList) D;exact ⟨x,⟨A,c,ZaH C,B⟩,F⟩
theorem Zhj {n:Nat}{cs:List Value}{y:DataW H × List MemPlace}(h:DataW.trod enc prog W 0 (λ_=>true) true n 32 cs=some y) : ∃ (q:Qt) (A:Option Addr) (c:Nat),cs=[int i64 q.ver,int i64 q.time,int i64 q.total,int i64 q.keep,int i64 q.ask.kind,int i64 q.ask.fr,int i64 q.ask.un,int i64 q.ask.pers,slice A q.nights.length c,.int .u64 (q.dig:Nat),int i64 q.sE,int i64 q.sS]/\Z03 W W.heap.size (slice A q.nights.length c) q.nights /\ (∀ x∈[q.ver,q.time,q.total,q.keep,q.ask.kind,q.ask.fr,q.ask.un,q.ask.pers,q.sE,q.sS]++q.nights,-9223372036854775808<=x/\x<=9223372036854775807)/\q.dig<18446744073709551616:=by
 obtain ⟨j,B,bj,_,hl,bf,C⟩:=DataW.trod_struct underlying32 h;rw [Tryz.cellsQuote] at hl;obtain ⟨c0,c1,c2,c3,c4,c5,X,M,Y,T,D,F,rfl⟩:∃ c0 c1 c2 c3 c4 c5 X M Y T D F,cs=[c0,c1,c2,c3,c4,c5,X,M,Y,T,D,F]:=by
  match cs,hl with
  | [c0,c1,c2,c3,c4,c5,X,M,Y,T,D,F],_=>exact ⟨c0,c1,c2,c3,c4,c5,X,M,Y,T,D,F,rfl⟩
 obtain ⟨N,Z,I,J,L,R,O,V,rfl⟩:∃ N Z I J L R O V,j=[N,Z,I,J,L,R,O,V]:=by
  have g:j.length=8:=bf
  match j,g with
  | [N,Z,I,J,L,R,O,V],_=>exact ⟨N,Z,I,J,L,R,O,V,rfl⟩
 have g0:DataW.trod enc prog W 0 (λ_=>true) true B 3 [c0]=some N:=C 0 _ rfl;have g1:DataW.trod enc prog W 0 (λ_=>true) true B 3 [c1]=some Z:=C 1 _ rfl;have g2:DataW.trod enc prog W 0 (λ_=>true) true B 3 [c2]=some I:=C 2 _ rfl;have g3:DataW.trod enc prog W 0 (λ_=>true) true B 3 [c3]=some J:=C 3 _ rfl;have g4:DataW.trod enc prog W 0 (λ_=>true) true B 26 [c4,c5,X,M]=some L:=C 4 _ rfl;have g5:DataW.trod enc prog W 0 (λ_=>true) true B 27 [Y]=some R:=C 5 _ rfl;have g6:DataW.trod enc prog W 0 (λ_=>true) true B 28 [T]=some O:=C 6 _ rfl;have g7:DataW.trod enc prog W 0 (λ_=>true) true B 30 [D,F]=some V:=C 7 _ rfl;obtain ⟨k0,r,_,r0⟩:=DataW.trod_int underlying3 g0;obtain ⟨k1,m,_,r1⟩:=DataW.trod_int underlying3 g1;obtain ⟨k2,e2,_,r2⟩:=DataW.trod_int underlying3 g2;obtain ⟨k3,e3,_,r3⟩:=DataW.trod_int underlying3 g3;obtain ⟨a,e4,S⟩:=Zfu g4;obtain ⟨ns,l,r5⟩:=Zkm g5;obtain ⟨d,e6,_,r6⟩:=DataW.trod_int underlying28 g6;obtain ⟨zs,m',_,_,_,bg,hz⟩:=DataW.trod_struct underlying30 g7;obtain ⟨U,G,rfl⟩:∃ U G,zs=[U,G]:=by
  have g:zs.length=2:=bg
  match zs,g with
  | [U,G],_=>exact ⟨U,G,rfl⟩
 have s0:DataW.trod enc prog W 0 (λ_=>true) true m' 3 [D]=some U:=hz 0 _ rfl;have s1:DataW.trod enc prog W 0 (λ_=>true) true m' 3 [F]=some G:=hz 1 _ rfl;obtain ⟨be,ba,_,bh⟩:=DataW.trod_int underlying3 s0;obtain ⟨bc,bb,_,bd⟩:=DataW.trod_int underlying3 s1;obtain ⟨A,c,rfl,_⟩:=id l;simp only [List.cons.injEq,and_true] at r m e2 e3 e4 e6 ba bb;obtain ⟨rfl,rfl,rfl,rfl⟩:=e4;subst r m e2 e3 e6 ba bb;have hd:=Zkk r6;obtain ⟨dn,rfl⟩:=zE2 hd.1;refine ⟨⟨k0,k1,k2,k3,a,ns,dn,be,bc⟩,A,c,rfl,l,?_,by show dn<_;omega⟩;intro x f;simp only [zC,zD,List.not_mem_nil,or_false] at f S;rcases f with (rfl | rfl | rfl | rfl | rfl | rfl | rfl | rfl | rfl | rfl) | f
 · exact Z12 r0
 · exact Z12 r1
 · exact Z12 r2
 · exact Z12 r3
 · exact S _ (.inl rfl)
 · exact S _ (.inr (.inl rfl))
 · exact S _ (.inr (.inr (.inl rfl)))
 · exact S _ (.inr (.inr (.inr rfl)))
 · exact Z12 bh
 · exact Z12 bd
 · exact r5 x f
theorem Zhk {base:Nat}{v:Value}{d:DataW H}{p:List MemPlace}(I:Value.okWide prog W .any base 32 v) (h:DataW.Trod enc prog W 0 (λ_=>true) true 32 v d p):∃ q:Qt,QtV W W.heap.size v q/\(∀ x∈[q.ver,q.time,q.total,q.keep,q.ask.kind,q.ask.fr,q.ask.un,q.ask.pers,q.sE,q.sS]++q.nights,-9223372036854775808<=x/\x<=9223372036854775807)/\q.dig<18446744073709551616:=by
 obtain ⟨cs,rfl,L⟩:=okWide_struct underlying32 I;obtain ⟨J,F⟩:=h;obtain ⟨q,A,c,D,C,G,B⟩:=Zhj (cs:=cs.toList) F;exact ⟨q,⟨A,c,ZaH D,C⟩,G,B⟩
end
end
section
open Go.ChangeShapes Go.WideShapes Go.ChangeAt Go.RowKit Go.Deep
section
variable {H:Type} {enc:TypeId × Value->H} {P:Program} {w:World} {base:Nat} {spare:Nat->Bool} {held:Bool}
theorem ZnF {m r A l j g t6:TypeId}{args:Array Value}{y:List (DataW H)}{q:List MemPlace}(h:DataW.TrodAll enc P w base spare held [m,r,A,l,j,g,t6] args.toList y q) : ∃ M S U Z T X Y L O N I B D f V F R d J G C,args=#[M,S,U,Z,T,X,Y]/\y=[L,O,N,I,B,D,f]/\q=V++(F++(R++(d++(J++(G++C)))))/\DataW.Trod enc P w base spare held m M L V/\DataW.Trod enc P w base spare held r S O F/\DataW.Trod enc P w base spare held A U N R/\DataW.Trod enc P w base spare held l Z I d/\DataW.Trod enc P w base spare held j T B J/\DataW.Trod enc P w base spare held g X D G/\DataW.Trod enc P w base spare held t6 Y f C:=by
 obtain ⟨M,bh,L,bc,V,q0,bq,rfl,rfl,h0,r0⟩:=trodAll_cons h;obtain ⟨S,bb,O,br,F,q1,rfl,rfl,rfl,h1,r1⟩:=trodAll_cons r0;obtain ⟨U,bg,N,bm,R,q2,rfl,rfl,rfl,h2,r2⟩:=trodAll_cons r1;obtain ⟨Z,bd,I,bn,d,q3,rfl,rfl,rfl,h3,r3⟩:=trodAll_cons r2;obtain ⟨T,bk,B,bp,J,q4,rfl,rfl,rfl,h4,r4⟩:=trodAll_cons r3;obtain ⟨X,bj,D,be,G,q5,rfl,rfl,rfl,h5,r5⟩:=trodAll_cons r4;obtain ⟨Y,bf,f,ba,C,q6,rfl,rfl,rfl,h6,r6⟩:=trodAll_cons r5;obtain ⟨rfl,rfl,rfl⟩:=trodAll_nil r6;exact ⟨M,S,U,Z,T,X,Y,L,O,N,I,B,D,f,V,F,R,d,J,G,C,by cases args;simp_all,rfl,by simp,h0,h1,h2,h3,h4,h5,h6⟩
theorem ZnG {J M S I D C Z:TypeId}{U d g q f l m:Value}{T X V O B F y:DataW H}{j L Y r R N G:List MemPlace}(h0:DataW.Trod enc P w base spare held J U T j)(h1:DataW.Trod enc P w base spare held M d X L)(h2:DataW.Trod enc P w base spare held S g V Y)(h3:DataW.Trod enc P w base spare held I q O r)(A:DataW.Trod enc P w base spare held D f B R)(h5:DataW.Trod enc P w base spare held C l F N)(h6:DataW.Trod enc P w base spare held Z m y G) : DataW.TrodAll enc P w base spare held [J,M,S,I,D,C,Z] [U,d,g,q,f,l,m] [T,X,V,O,B,F,y] (j++(L++(Y++(r++(R++(N++G)))))):=⟨_,_,h0,⟨_,_,h1,⟨_,_,h2,trodAll_mk4 h3 A h5 h6,rfl⟩,rfl⟩,rfl⟩
end
end
section
open Go.RowKit Lx Px Qx
namespace Qx
def lftF:Fo->Int->Int
 | .nil,n=>n
 | .node _ _ _ l r,n=>if (if n<1 then -1 else lftF l (n - 1))<0 then -1 else lftF r (if n<1 then -1 else lftF l (n - 1))
def lftE (l:Fo)(most:Int):Int:=if most<1 then -1 else lftF l (most - 1)
theorem Zhm:∀ (l:Fo) (n:Int),0<=n -> -1<=lftF l n/\lftF l n<=n:=by
 intro l;induction l with
 | nil=>intro n h;exact ⟨by show -1<=n;omega,Int.le_refl n⟩
 | node b o a l r ihl ihr =>
  intro n h;rw [lftF];by_cases h1:n<1
  · rw [zp h1,zp (by omega)];omega
  · rw [zf h1];have C:=ihl (n - 1) (by omega);by_cases h2:lftF l (n - 1)<0
    · rw [zp h2];omega
    · rw [zf h2];have B:=ihr (lftF l (n - 1)) (by omega);omega
theorem Zhn (l:Fo)(n:Int)(h:0<=n) : -1<=lftE l n/\lftE l n<=n - 1:=by
 unfold lftE;split
 · omega
 · have:=Zhm l (n - 1) (by omega);omega
theorem Zkn {l:Fo}{k:Nat}(hk:k<flen l)(n:Int):lftF (Z1x l k) n=if lftE (getF l k).2 n<0 then -1 else lftF (Z1x l (k+1)) (lftE (getF l k).2 n):=by
 induction l generalizing k with
 | nil=>simp [flen] at hk
 | node b o a l r _ ihr =>
  cases k with
  | zero=>simp only [Z1x,getF,lftF,lftE]
  | succ k =>
   have B:k<flen r:=by simp [flen] at hk;omega
   exact ihr B
end Qx
def Zfv (a:Int × Int)(l:Fo):Prop := ∀ (most:Int) (w:World) (v:Value) (B:Nat),FoV w B v l->B<=w.heap.size->0<=most->most<=1000 -> Calls prog 122 #[.agg #[int i64 a.1,int i64 a.2,v],int i64 most] w λe w' =>
   e=.returned (int i64 (lftE l most))/\Below w.heap.size w w'
def RLefL (l:Fo)(n0:Int)(w:World)(kv y i:Value)(wr:World):Prop := ∃ (k:Nat) (x:Int),k<=flen l/\i=int i64 k/\y=int i64 x/\0<=x/\x+k<=1000/\Below w.heap.size w wr/\w.heap.size<wr.heap.size/\wr.cell? ⟨w.heap.size,2,none⟩=some kv/\lftF (Z1x l k) x=lftF l n0
theorem Zcy (a:Int × Int)(l:Fo)(m:∀ k,k<flen l->Zfv (getF l k).1 (getF l k).2):Zfv a l:=by
 intro D w v B hv hB h2 h3;obtain ⟨A,c,rfl,j⟩:=hv;obtain ⟨op,n⟩:=a;by_cases hm:D<1
 · have H:lftE l D = -1:=zp hm;have d2:decide (D<1)=true:=by simpa using hm
   have N:=zh H;clear H;go_enter func122,ntmps122;go_wp2_with fail;go_ret;rw [N.out];exact ⟨rfl,(zr w.heap.size w).alloc (zn _) _⟩
 · have d2:decide (D<1)=false:=by simpa using hm
   have H:lftE l D=lftF l (D - 1):=zf hm;have N:=zh H;have HA:=zh j;have HI:=zh m;clear H j m;go_enter func122,ntmps122;go_wp2_with fail;go_loopw [5,6] (λy i wr=>RLefL l (D - 1) w (slice A (flen l) c) y i wr) (λ_ i _=>flen l - (intOf i).toNat)
   case atStart=>exact ⟨0,D - 1,by omega,rfl,rfl,by omega,by omega,(zr w.heap.size w).alloc (zn _) _,by simp,by rw [zc (za w _)];rfl,by rw [Z1x]⟩
   case round =>
    obtain ⟨k,x,hk,rfl,rfl,f,bc,O,q,hkv,d⟩:=hrel;have I:=zh d;clear d;by_cases hkl:k<flen l
    · have Z:∀ p:Addr,p.block<B->wr.cell? p=w.cell? p:=λp hp=>O.cell (by omega);obtain ⟨ad,g,c',rfl,bb,S,T,U,G⟩:=FoAt.get l A 0 k (FoAt.keep Z l A 0 HA.out) hkl;rw [Nat.zero_add] at S T U;have C:=Zkn hkl x;have F:=HI.out k hkl;obtain ⟨⟨be,n'⟩,J,V⟩:∃ a' J,getF l k=(a',J):=⟨_,_,rfl⟩
      rw [V] at S T U G C F;dsimp only at S T U G C F;rw [I.out] at C;have M:=F x wr (slice g (flen J) c') B ⟨g,c',rfl,G⟩ (by omega) f (by omega);have bd:=Zhn J x f;generalize lftE J x=z at *
      by_cases hz:z<0
      · have d9:decide (z<0)=true:=by simpa using hz
        rw [zp hz] at C;have X:=zh M;have Y:=zh C;clear M C F V I Z G;go_wp2_with fail;refine (X.out).mono ?_;rintro e r ⟨rfl,L⟩;go_wp2_with fail;go_ret;rw [N.out,Y.out];exact ⟨rfl,Z00 O L⟩
      · have d9:decide (z<0)=false:=by simpa using hz
        rw [zf hz] at C;have X:=zh M;have Y:=zh C;clear M C F V I Z G;go_wp2_with fail;refine (X.out).mono ?_;rintro e r ⟨rfl,L⟩;go_wp2_with fail;go_roundw
        case rel=>exact ⟨k+1,z,by omega,by go_num,rfl,by omega,by omega,Z00 O L,by have:=L.size;omega,(L.cell q).trans hkv,Y.out.symm⟩
        case measure=>simp [intOf];omega
    · have ba:Z1x l k=.nil:=Z3H l k (by omega);have R:=I.out;rw [ba,lftF] at R;have H2:=zh R;clear R I;go_wp2_with fail;go_ret;rw [N.out,<- H2.out];exact ⟨rfl,O⟩
theorem Zkp (f:Fo):∀ k,k<flen f->Zfv (getF f k).1 (getF f k).2:=by
 induction f with
 | nil=>intro k h;simp [flen] at h
 | node b o a l r ihl ihr =>
  intro k h;cases k with
  | zero=>exact Zcy a l ihl
  | succ k=>exact ihr k (by simp [flen] at h;omega)
theorem Zkq (a:Int × Int)(l:Fo):Zfv a l:=Zcy a l (Zkp l)
theorem Zfw (op n:Int)(l:Fo)(v:Value)(w:World)(G:FoV w w.heap.size v l) : Calls prog 84 #[.agg #[int i64 op,int i64 n,v]] w λe w'=>e=.returned (.bool (decide (0<=lftE l 300)))/\Below w.heap.size w w':=by
 obtain ⟨z,B⟩:∃ z,lftE l 300=z:=⟨_,rfl⟩
 rw [B];obtain ⟨A,c,rfl,C⟩:=G;have F:=zh B;have D:=zh C;clear B C;go_enter func84,ntmps84;go_wp2_with fail;refine (Zkq (op,n) l 300 _ (slice A (flen l) c) w.heap.size ⟨A,c,rfl,FoAt.keep (λp hp=>by first | rfl | exact Z0H _ _ _ hp) l A 0 D.out⟩ (by simp) (by omega) (by omega)).mono ?_;rintro e H ⟨rfl,hb⟩;rw [F.out];go_wp2_with fail;go_ret;exact ⟨rfl,by first | exact hb | exact Z00 ((zr w.heap.size w).alloc (zn _) _) hb⟩
end
section
open Go.RowKit Lx Px Qx
def T3 (w:World)(b:Nat)(ts:List Int):Prop:=w.heap[b]?=some (.cells #[int i64 (ts.getD 0 0),int i64 (ts.getD 1 0),int i64 (ts.getD 2 0)] 254 (0,0))
theorem T3.lt {w:World}{b:Nat}{ts:List Int}(h:T3 w b ts):b<w.heap.size:=(zs h)
theorem T3.on {w w':World}{b:Nat}{ts:List Int}(h:T3 w b ts)(hb:Below w.heap.size w w'):T3 w' b ts:=(hb.block b h.lt).trans h
theorem T3.cell {w:World}{b:Nat}{ts:List Int}(h:T3 w b ts){k:Nat}(hk:k<3):w.cell? ⟨b,k,none⟩=some (int i64 (ts.getD k 0)):=by
 rw [zc h];rcases (show k=0\/k=1\/k=2 by omega) with rfl | rfl | rfl <;> rfl
theorem T3.fr {w:World}{b:Nat}{ts:List Int}(h:T3 w b ts)(k:Nat):w.frozen? ⟨b,k,none⟩=false:=by have B:w.heap[b]?=_:=h;simp [World.frozen?,B]
theorem T3.set {w:World}{b:Nat}{ts:List Int}(h:T3 w b ts){k:Nat}(C:ts.length=k)(hk:k<3)(t:Int):T3 (w.setCell ⟨b,k,none⟩ (int i64 t)) b (ts++[t]):=by
 have B:w.heap[b]?=_:=h;subst C;match ts,hk,B with
 | [],_,B=>simp [T3,World.setCell,zM,B]
 | [x],_,B=>simp [T3,World.setCell,zM,B]
 | [x,y],_,B=>simp [T3,World.setCell,zM,B]
 | _::_::_::_,hk,_=>simp at hk;omega
theorem T3.new (w:World):T3 (w.alloc (.cells #[int i64 0,int i64 0,int i64 0] 254)) w.heap.size []:=za w _
def RtyC (a:Int × Int)(l:Fo):Prop := ∀ (w:World) (v:Value) (B:Nat),FoV w B v l->B<=w.heap.size->Z05 a.1 a.2 (flen l)=true->wfF l -> Calls prog 165 #[.agg #[int i64 a.1,int i64 a.2,v]] w λe w'=>e=.returned (int i64 (typE a l))/\Below w.heap.size w w'
def RtyL (l:Fo)(w:World)(op n:Int)(av i:Value)(wr:World):Prop := ∃ (k:Nat) (ts:List Int),k<=flen l/\i=int i64 k/\ts.length=k/\(∀ j,j<k->ts.getD j 0=typE (getF l j).1 (getF l j).2/\ts.getD j 0≠0) /\ Below w.heap.size w wr/\T3 wr (w.heap.size+1) ts/\wr.heap[w.heap.size]?=some (.cells #[int i64 op,int i64 n,av] 63 (0,0))
set_option maxHeartbeats 4000000 in
theorem Zcz (a:Int × Int)(l:Fo)(ih:∀ k,k<flen l->RtyC (getF l k).1 (getF l k).2):RtyC a l:=by
 intro w v B hv hB D hw;obtain ⟨A,c,rfl,hA⟩:=hv;obtain ⟨op,n⟩:=a;obtain ⟨Z,bv,bF⟩:=Z6u D;dsimp only at D bv bF Z;have bL:=Z5c D;have hx:=Z0A (za w (.cells #[int i64 op,int i64 n,slice A (flen l) c] 63)) (.cells #[int i64 0,int i64 0,int i64 0] 254);have bg:=((zr w.heap.size w).alloc (zn _) (.cells #[int i64 op,int i64 n,slice A (flen l) c] 63)).alloc (by simp) (.cells #[int i64 0,int i64 0,int i64 0] 254);have bs:T3 ((w.alloc (.cells #[int i64 op,int i64 n,slice A (flen l) c] 63)).alloc (.cells #[int i64 0,int i64 0,int i64 0] 254)) (w.heap.size+1) []:=by have:=T3.new (w.alloc (.cells #[int i64 op,int i64 n,slice A (flen l) c] 63));rwa [zk] at this
 have IH:=zh ih;have HW:=zh hw;have HA:=zh hA;have HF:=zh D;have HX:=zh hx;have bq:=zh bg;have bz:=zh Z;have br:=zh bs;clear ih hw hA D hx bg Z bs;go_enter func165,ntmps165;go_wp2_with fail;generalize (w.alloc (.cells #[int i64 op,int i64 n,slice A (flen l) c] 63)).alloc (.cells #[int i64 0,int i64 0,int i64 0] 254)=w1 at *
 go_loopw [4] (λi wr=>RtyL l w op n (slice A (flen l) c) i wr) (λi _=>flen l - (intOf i).toNat)
 case atStart=>exact ⟨0,[],Nat.zero_le _,rfl,rfl,λj hj=>absurd hj (by omega),bq.out,br.out,HX.out⟩
 case round =>
  obtain ⟨k,ts,hk,rfl,bn,bj,O,r,bc⟩:=hrel;have bI:=r.lt;have c2:wr.cell? ⟨w.heap.size,2,none⟩=some (slice A (flen l) c):=by rw [zc bc];rfl
  have Y:=zh bj;have C:=zh bn;have q:=zh bc;have H:=zh r;clear bj bn bc r;by_cases hkl:k<flen l
  · have bt:∀ p:Addr,p.block<B->wr.cell? p=w.cell? p:=λp hp=>O.cell (by omega);obtain ⟨ad,A',c',rfl,bK,t0,X,t2,L⟩:=FoAt.get l A 0 k (FoAt.keep bt l A 0 HA.out) hkl;rw [Nat.zero_add] at t0 X t2;have S:=IH.out k hkl;obtain ⟨g,ba⟩:=ZfE HW.out hkl;have I:=λh=>ZkE (a:=(op,n)) hkl h;have J:∀ t,t=typE (getF l k).1 (getF l k).2->t≠0->∀ j,j<k+1->(ts++[t]).getD j 0=typE (getF l j).1 (getF l j).2/\(ts++[t]).getD j 0≠0:=by
     intro t ht F j hj;have be:=C.out;by_cases hjk:j=k
     · subst hjk;rw [<- be,List.getD_eq_getElem?_getD];simp only [List.getElem?_concat_length,Option.getD_some];rw [be];exact ⟨ht,F⟩
     · have:=Y.out j (by omega);rw [List.getD_eq_getElem?_getD,List.getElem?_append_left (by omega),<- List.getD_eq_getElem?_getD];exact this
    have bk:=λ(W:World) (h:T3 W (w.heap.size+1) ts) (t:Int)=>h.set C.out (by omega:k<3) t;have bd:=λ(W:World) (h:T3 W (w.heap.size+1) ts)=>h.cell (by omega:k<3);obtain ⟨⟨bG,n'⟩,R,bp⟩:∃ a' R,getF l k=(a',R):=⟨_,_,rfl⟩
    rw [bp] at t0 X t2 L S g ba I J;dsimp only at t0 X t2 L S g ba I J;obtain ⟨t,bh⟩:∃ t,typE (bG,n') R=t:=⟨_,rfl⟩
    have U:=S wr (slice A' (flen R) c') B ⟨A',c',rfl,L⟩ (by omega) g ba;rw [bh] at U I J;have bJ:(k:Int)<3:=by omega
    have d:=zh U;have bA:=zh I;have bx:=zh J;have bD:=zh bk;have bE:=zh bd;clear U I J bk bd bt S bh bp L;go_wp2_with fail;refine (d.out).mono ?_;rintro e T ⟨rfl,bb⟩;have G:=H.out.on bb;have m:=(bb.block _ (by omega)).trans q.out;have f:=Z00 O bb;have f9:=G.fr k;have q9:=bE.out T G;have N:=bD.out T G t;have M:=f.setCell (p:=⟨w.heap.size+1,k,none⟩) (by show w.heap.size<=w.heap.size+1;omega) (int i64 t);have hxS:=(zg T ⟨w.heap.size+1,k,none⟩ (int i64 t) w.heap.size (by show w.heap.size≠w.heap.size+1;omega)).trans m;have qS:(T.setCell ⟨w.heap.size+1,k,none⟩ (int i64 t)).cell? ⟨w.heap.size+1,k,none⟩=some (int i64 t):=by have:=N.cell (by omega:k<3);rw [this,List.getD_eq_getElem?_getD,<- C.out];simp
    by_cases F:t=0
    · subst F;have hr:=bA.out rfl;have HR:=zh hr;have V:=zh M;clear hr M d G m f N hxS;go_wp2_with fail;go_ret;rw [HR.out];exact ⟨rfl,V.out⟩
    · have d0:(t==0)=false:=by simpa using F
      have bf:=bx.out t rfl F;have bB:=zh bf;have V:=zh M;have bu:=zh hxS;have bH:=zh N;clear bf M hxS N d G m f;go_wp2_with fail;go_roundw
      case rel=>exact ⟨k+1,ts++[t],by omega,by go_num,by rw [zj,C.out];rfl,bB.out,V.out,bH.out,bu.out⟩
      case measure=>simp [intOf];omega
  · have bC:k=flen l:=by omega
    subst bC;have hE:typE (op,n) l=opT op (ts.getD 0 0) (ts.getD 1 0) (ts.getD 2 0):=ZkD C.out Y.out;have q0:=H.out.cell (by omega:0<3);have q1:=H.out.cell (by omega:1<3);have q2:=H.out.cell (by omega:2<3);have dl:decide ((flen l:Int)<(flen l:Int))=false:=by simp
    have x0:wr.cell? ⟨w.heap.size,0,none⟩=some (int i64 op):=by rw [zc q.out];rfl
    generalize ts.getD 0 0=x at *
    generalize ts.getD 1 0=y at *
    generalize ts.getD 2 0=z at *
    have bm:=zh O;have HE:=zh hE;clear O hE H Y C q bz HF HX bq br HA HW IH;rcases (show op=1\/op=2\/op=3\/op=4\/op=5\/op=6\/op=7\/op=8\/op=9\/op=10\/op=11\/op=12\/op=13\/op=14\/op=15 by omega) with rfl | rfl | rfl | rfl | rfl | rfl | rfl | rfl | rfl | rfl | rfl | rfl | rfl | rfl | rfl
    all_goals go_wp2
    all_goals go_ret
    all_goals rw [HE.out]
    all_goals refine ⟨?_,bm.out⟩
    all_goals clear HE bm
    all_goals simp_all [opT]
theorem Zkr (f:Fo):∀ k,k<flen f->RtyC (getF f k).1 (getF f k).2:=by
 induction f with
 | nil=>intro k h;simp [flen] at h
 | node b o a l r ihl ihr =>
  intro k h;cases k with
  | zero=>exact Zcz a l ihl
  | succ k=>exact ihr k (by simp [flen] at h;omega)
theorem ZcA (a:Int × Int)(l:Fo):RtyC a l:=Zcz a l (Zkr l)
end
end Go.Proofs.YtnepkoepbapgeaaGreatDoor
