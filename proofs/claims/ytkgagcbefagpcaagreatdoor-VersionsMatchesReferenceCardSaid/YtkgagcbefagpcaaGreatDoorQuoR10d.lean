import Derived.Test.YtkgagcbefagpcaaGreatDoorQuoVal
namespace Go.Proofs.YtkgagcbefagpcaaGreatDoor
open _root_.Go.Proofs.Tryz
open Value (int slice)
open IntKind (i64)
set_option maxHeartbeats 8000000
set_option maxRecDepth 100000
section
open Go.RowKit Lx Px Qx
def Z1d (n lo hi:Int):Bool:=decide (lo<=n)&&decide (n<=hi)
theorem Z4i (n lo B:Int)(w:World):Calls prog 129 #[vI n,vI lo,vI B] w λe w'=>e=.returned (.bool (Z1d n lo B))/\w=w':=by
 unfold Z1d;obtain ⟨C,G⟩:∃ b,decide (lo<=n)=b:=⟨_,rfl⟩
 obtain ⟨D,F⟩:∃ b,decide (n<=B)=b:=⟨_,rfl⟩
 rw [G,F];cases C <;> cases D
 all_goals go_enter func129,ntmps129;go_wp2_with fail;go_ret;exact ⟨rfl,rfl⟩
def askV (a:Qx.Ask):Value:=.agg #[vI a.kind,vI a.fr,vI a.un,vI a.pers]
theorem Zmc (a:Qx.Ask)(w:World):Calls prog 93 #[askV a] w λe w'=>e=.returned (.bool a.okB)/\Below w.heap.size w w':=by
 obtain ⟨D,fr,B,F⟩:=a;have hb:=(zr w.heap.size w).alloc (zn _) (.cells #[vI D,vI fr,vI B,vI F] 25);have hk:=λW=>Z4i D 1 20 W;have G:=λW=>Z4i F 1 8 W;have N:Z1d D 1 20=(decide (1<=D)&&decide (D<=20)):=rfl;have L:Z1d F 1 8=(decide (1<=F)&&decide (F<=8)):=rfl;have M:(⟨D,fr,B,F⟩:Qx.Ask).okB=((decide (0<=fr)&&decide (fr<B)&&decide (B<=366)&&decide (B - fr<=60))&&Z1d D 1 20&&Z1d F 1 8):=by rw [N,L];simp only [Ask.okB,Bool.and_assoc]
 rw [M];generalize Z1d D 1 20=S at *
 generalize Z1d F 1 8=U at *
 clear N L M;dsimp only [askV];by_cases h1:0<=fr
 . have H:decide (0<=fr)=true:=by simpa using h1
   by_cases h2:fr<B
   . have I:decide (fr<B)=true:=by simpa using h2
     by_cases h3:B<=366
     . have J:decide (B<=366)=true:=by simpa using h3
       obtain ⟨b4,R⟩:∃ b,decide (B - fr<=60)=b:=⟨_,rfl⟩
       rw [H,I,J,R];obtain ⟨O,T,C⟩:=zh3 hk G hb;clear hk G hb;cases b4
       . go_enter func93,ntmps93;go_wp2_with fail;go_ret;exact ⟨rfl,C.o⟩
       . cases S
         . go_enter func93,ntmps93;go_wp2_with fail;refine (O.o _).mono ?_;rintro e w' ⟨rfl,rfl⟩;go_wp2_with fail;go_ret;exact ⟨rfl,C.o⟩
         . go_enter func93,ntmps93;go_wp2_with fail;refine (O.o _).mono ?_;rintro e w' ⟨rfl,rfl⟩;go_wp2_with fail;refine (T.o _).mono ?_;rintro e w' ⟨rfl,rfl⟩;go_wp2_with fail;go_ret;exact ⟨by simp,C.o⟩
     . have J:decide (B<=366)=false:=by simpa using h3
       rw [H,I,J];have C:=zh hb;clear hb hk G;go_enter func93,ntmps93;go_wp2_with fail;go_ret;exact ⟨rfl,C.o⟩
   . have I:decide (fr<B)=false:=by simpa using h2
     rw [H,I];have C:=zh hb;clear hb hk G;go_enter func93,ntmps93;go_wp2_with fail;go_ret;exact ⟨rfl,C.o⟩
 . have H:decide (0<=fr)=false:=by simpa using h1
   rw [H];have C:=zh hb;clear hb hk G;go_enter func93,ntmps93;go_wp2_with fail;go_ret;exact ⟨rfl,C.o⟩
theorem Z9g (n:Int)(w:World)(C:0<=n)(B:n<=366):Calls prog 178 #[vI n] w λe w'=>e=.returned (.tuple #[vI (wday n),vI 0])/\w=w':=by
 have G:decide (n<0)=false:=by simpa using C
 have F:decide (n > 366)=false:=by simpa using B
 have D:decide (366<n)=false:=by simpa using B
 go_enter func178,ntmps178;go_wp2_with fail;go_ret2;exact ⟨rfl,rfl⟩
theorem Z7p (n:Int):0<=wday n/\wday n<=6:=by unfold wday;omega
def vsV (v:Vs):Value:=.agg #[vI v.a,vI v.b,vI v.c,vI v.d]
theorem Zga (a:Qx.Ask)(n:Int)(w:World)(D:a.okB=true)(G:a.fr<=n)(J:n<a.un):Calls prog 132 #[askV a,vI n] w λe w'=>e=.returned (vsV (Z0t a n))/\Below w.heap.size w w':=by
 obtain ⟨I,fr,B,C⟩:=a;simp only [Ask.okB,zd,decide_eq_true_eq] at D;dsimp only at G J;obtain ⟨⟨⟨⟨⟨⟨⟨O,N⟩,R⟩,L⟩,M⟩,S⟩,T⟩,U⟩:=D;have hw:=λW=>Z9g n W (by omega) (by omega);have hb:Below w.heap.size w ((w.alloc (.cells #[vI I,vI fr,vI B,vI C] 25)).alloc (.cells #[vI (B - fr),vI C,vI (n - fr),vI (wday n)] 187)) := ((zr w.heap.size w).alloc (zn _) _).alloc (by simp) _;dsimp only [askV,vsV,Z0t];generalize wday n=d at *
 have F:=zh hw;have H:=zh hb;clear hw hb;go_enter func132,ntmps132;go_wp2_with fail;refine (F.o _).mono ?_;rintro e w' ⟨rfl,rfl⟩;go_wp2_with fail;exact bodyPost_ret (v:=.agg #[vI (B - fr),vI C,vI (n - fr),vI d]) (by simp [results,results132,go_sem]) rfl ⟨rfl,H.o⟩
end
section
open Go.RowKit Lx Px Qx
def qtV (q:Qt)(nv:Value):Value:=.agg #[vI q.ver,vI q.time,vI q.total,vI q.keep,vI q.ask.kind,vI q.ask.fr,vI q.ask.un,vI q.ask.pers,nv,.int .u64 (q.dig:Nat),vI q.sE,vI q.sS]
def QtV (w:World)(B:Nat)(V:Value)(q:Qt):Prop:=∃ A c,V=qtV q (slice A q.nights.length c)/\Z03 w B (slice A q.nights.length c) q.nights
def vrV (v:Vr)(rv:Value):Value:=.agg #[vI v.num,vI v.time,rv]
def VrV (w:World)(B:Nat)(V:Value)(v:Vr):Prop:=∃ A c,V=vrV v (slice A v.rs.length c)/\RtsV w B (slice A v.rs.length c) v.rs
theorem VrV.on {w w':World}{B:Nat}{V:Value}{v:Vr}(h:VrV w B V v)(hb:Below B w w'):VrV w' B V v:=by
 obtain ⟨A,c,e,h⟩:=h;exact ⟨A,c,e,h.on hb⟩
theorem VrV.up {w:World}{B C:Nat}{V:Value}{v:Vr}(h:VrV w B V v)(hb:B<=C):VrV w C V v:=by
 obtain ⟨A,c,e,h⟩:=h;exact ⟨A,c,e,h.up hb⟩
def VssV (w:World)(B:Nat)(v:Value)(l:List Vr):Prop := ∃ A c,v=slice A l.length c/\l.length<=c/\(l≠[]->∃ g o,A=some ⟨g,o,none⟩/\g<B/\∀ k (h:k<l.length),∃ RA rc,RtsV w B (slice RA l[k].rs.length rc) l[k].rs /\ w.cell? ⟨g,o+k*3,none⟩=some (vI l[k].num)/\w.cell? ⟨g,o+k*3+1,none⟩=some (vI l[k].time)/\w.cell? ⟨g,o+k*3+2,none⟩=some (slice RA l[k].rs.length rc))
theorem VssV.nil (w:World)(B c:Nat):VssV w B (slice none 0 c) []:=⟨none,c,rfl,Nat.zero_le _,λh=>absurd rfl h⟩
theorem VssV.on {w w':World}{B:Nat}{v:Value}{l:List Vr}(h:VssV w B v l)(hb:Below B w w'):VssV w' B v l:=by
 obtain ⟨A,c,e,N,G⟩:=h;refine ⟨A,c,e,N,λhl=>?_⟩;obtain ⟨g,o,F,C,J⟩:=G hl;refine ⟨g,o,F,C,λk hk=>?_⟩;obtain ⟨M,H,O,D,L,I⟩:=J k hk;exact ⟨M,H,O.on hb,(hb.cell (p:=⟨g,o+k*3,none⟩) C).trans D,(hb.cell (p:=⟨g,o+k*3+1,none⟩) C).trans L,(hb.cell (p:=⟨g,o+k*3+2,none⟩) C).trans I⟩
theorem VssV.up {w:World}{B C:Nat}{v:Value}{l:List Vr}(h:VssV w B v l)(hb:B<=C):VssV w C v l:=by
 obtain ⟨A,c,e,L,G⟩:=h;refine ⟨A,c,e,L,λhl=>?_⟩;obtain ⟨g,o,F,N,I⟩:=G hl;refine ⟨g,o,F,by omega,λk hk=>?_⟩;obtain ⟨J,H,M,D⟩:=I k hk;exact ⟨J,H,M.up hb,D⟩
theorem Z36 {w:World}{B:Nat}{A:Option Addr}{n c:Nat}{l:List Vr}(h:VssV w B (slice A n c) l){k:Nat}(hk:k<l.length):∃ g o D C,A=some ⟨g,o,none⟩/\g<B/\RtsV w B (slice D l[k].rs.length C) l[k].rs /\ w.cell? ⟨g,o+k*3,none⟩=some (vI l[k].num)/\w.cell? ⟨g,o+k*3+1,none⟩=some (vI l[k].time)/\w.cell? ⟨g,o+k*3+2,none⟩=some (slice D l[k].rs.length C):=by
 obtain ⟨M,c',e,_,I⟩:=h;injection e with e1 _ e3
 subst e1;obtain ⟨g,o,G,F,J⟩:=I (by intro e;rw [e] at hk;simp at hk);obtain ⟨D,C,L,H⟩:=J k hk;exact ⟨g,o,D,C,G,F,L,H⟩
theorem VssV.cap {w:World}{B:Nat}{A:Option Addr}{n c:Nat}{l:List Vr}(h:VssV w B (slice A n c) l):l.length<=c:=by
 obtain ⟨C,c',e,D,_⟩:=h;injection e with _ _ e3
 omega
end
section
open Go.ChangeShapes Go.WideShapes Go.ChangeAt Go.RowKit Go.Deep Lx Px Qx
theorem Z15 {k:Int}(h:(Lit.int .i64 k).wf=true) : -9223372036854775808<=k/\k<=9223372036854775807:=by
 simp only [Lit.wf,zd,decide_eq_true_eq] at h;exact h
theorem Zmd {k:Int}(h:(Lit.int .u64 k).wf=true):0<=k/\k<=18446744073709551615:=by
 simp only [Lit.wf,zd,decide_eq_true_eq] at h;exact h
section
variable {H:Type} {enc:TypeId × Value->H} {W:World}
theorem Zic {n:Nat}{c:Value}{y:DataW H × List MemPlace}(h:DataW.trod enc prog W 0 (λ_=>true) true n 23 [c]=some y):∃ l:List Rt,RtsV W W.heap.size c l:=by
 rcases DataW.trod_slice underlying23 h with ⟨D,_⟩ | ⟨a,N,X,bb,rest,n,bc,I,hcs,hb,q,A,ba,V,d,g⟩
 . simp at D;subst D;exact ⟨[],RtsV.nil _ _⟩
 . simp at I;subst I;obtain ⟨rs,S,L⟩:=Z92 (λi (r:Rt)=>RtAt W W.heap.size (a.add (i*16)) r/\a.block<W.heap.size) N (λk hk=>by
    have he:=V k hk;rw [zv (by omega),Option.bind_eq_some_iff] at he;obtain ⟨Y,C,U⟩:=he;obtain ⟨r,m,Z,f,pc,rfl,T,M⟩:=Z9n U;rw [Tryz.cellsRate] at C;obtain ⟨_,_,J⟩:=World.cells?_some C;have B:=J 0 (by omega);have R:a.block<W.heap.size:=by have:=Z8D B;rw [Z10,Z10] at this;exact this
    have F:(a.add (k*16)).spot=none:=by rw [Go.Deep.add_add] at B;exact Z6B B
    refine ⟨r,⟨F,_,_,λj u hj=>?_,T,M⟩,R⟩;have O:j<16:=by have:=(List.getElem?_eq_some_iff.1 hj).1;simpa [Z3G] using this
    have G:=J j O;rw [Go.Deep.add_add,Z82 F] at G;exact G.trans hj)
   exact ⟨rs,some a,X,by rw [S],λi hi=>⟨a,rfl,(L i hi).2,(L i hi).1⟩⟩
theorem Tryz.cellsInt1:Tryz.prog.cellsOf 3=1:=by kernel_rfl
theorem Zgb {a:Addr}(h:a.spot=none)(k:Nat):a.add k=⟨a.block,a.off+k,none⟩:=by
 unfold Addr.add;split
 . rename_i B;subst B;cases a;cases h;rfl
 . rfl
theorem Zme {n:Nat}{c:Value}{y:DataW H × List MemPlace}(h:DataW.trod enc prog W 0 (λ_=>true) true n 26 [c]=some y):∃ l:List Int,Z03 W W.heap.size c l/\(∀ x∈l,-9223372036854775808<=x/\x<=9223372036854775807):=by
 rcases DataW.trod_slice underlying26 h with ⟨B,_⟩ | ⟨a,J,T,g,rest,n,j,D,d,hb,Y,Z,f,R,V,X⟩
 . simp at B;subst B;exact ⟨[],Z03.nil _ _ _,λx D=>by simp at D⟩
 . simp at D;subst D;obtain ⟨rs,L,F⟩:=Z92 (λi (x:Int)=>W.cell? (a.add i)=some (vI x)/\(-9223372036854775808<=x/\x<=9223372036854775807)) J (λk hk=>by
    have he:=R k hk;rw [zv (by omega),Option.bind_eq_some_iff] at he;obtain ⟨U,C,M⟩:=he;rw [Tryz.cellsInt1,Nat.mul_one] at C;obtain ⟨x,rfl,_,hw⟩:=DataW.trod_int underlying3 M;obtain ⟨_,_,S⟩:=World.cells?_some C;have B:=S 0 (by omega);have N:(a.add k).add 0=a.add k:=by rw [Go.Deep.add_add];rfl
    rw [N] at B;exact ⟨x,by simpa using B,Z15 hw⟩)
   refine ⟨rs,⟨some a,T,by rw [L],λhne=>?_⟩,λx D=>?_⟩
   . have B:0<rs.length:=List.length_pos_iff.2 hne;have C:=(F 0 B).1;have O:a.add 0=a:=rfl;rw [O] at C;have I:=Z6B C;refine ⟨a.block,a.off,by cases a;cases I;rfl,Z8D C,λi G=>?_⟩;have:=(F i G).1;rwa [Zgb I] at this
   . obtain ⟨i,G,rfl⟩:=List.getElem_of_mem D;exact (F i G).2
theorem Tryz.cellsVer:Tryz.prog.cellsOf 36=3:=by kernel_rfl
theorem Tryz.cellsAsk:Tryz.prog.cellsOf 25=4:=by kernel_rfl
theorem Tryz.cellsQuote:Tryz.prog.cellsOf 31=12:=by kernel_rfl
theorem ZpF {n:Nat}{cs:List Value}{y:DataW H × List MemPlace}(h:DataW.trod enc prog W 0 (λ_=>true) true n 25 cs=some y) : ∃ a:Qx.Ask,cs=[vI a.kind,vI a.fr,vI a.un,vI a.pers]/\(∀ x∈[a.kind,a.fr,a.un,a.pers],-9223372036854775808<=x/\x<=9223372036854775807):=by
 obtain ⟨J,G,A,_,S,m,I⟩:=DataW.trod_struct underlying25 h;rw [Tryz.cellsAsk] at S;obtain ⟨c0,c1,c2,c3,rfl⟩:∃ c0 c1 c2 c3,cs=[c0,c1,c2,c3]:=by
  match cs,S with
  | [c0,c1,c2,c3],_=>exact ⟨c0,c1,c2,c3,rfl⟩
 obtain ⟨C,F,D,B,rfl⟩:∃ C F D B,J=[C,F,D,B]:=by
  have V:J.length=4:=m
  match J,V with
  | [C,F,D,B],_=>exact ⟨C,F,D,B,rfl⟩
 have Z:DataW.trod enc prog W 0 (λ_=>true) true G 3 [c0]=some C:=I 0 _ rfl;have T:DataW.trod enc prog W 0 (λ_=>true) true G 3 [c1]=some F:=I 1 _ rfl;have q:DataW.trod enc prog W 0 (λ_=>true) true G 3 [c2]=some D:=I 2 _ rfl;have j:DataW.trod enc prog W 0 (λ_=>true) true G 3 [c3]=some B:=I 3 _ rfl;obtain ⟨U,N,_,d⟩:=DataW.trod_int underlying3 Z;obtain ⟨g,M,_,r⟩:=DataW.trod_int underlying3 T;obtain ⟨l,L,_,X⟩:=DataW.trod_int underlying3 q;obtain ⟨f,O,_,Y⟩:=DataW.trod_int underlying3 j;simp only [List.cons.injEq,and_true] at N M L O;subst N M L O;refine ⟨⟨U,g,l,f⟩,rfl,?_⟩;intro x R;simp only [zD,List.not_mem_nil,or_false] at R;rcases R with rfl | rfl | rfl | rfl
 . exact Z15 d
 . exact Z15 r
 . exact Z15 X
 . exact Z15 Y
theorem ZpG {cs:Array Value}{l:List Value}(h:cs.toList=l):Value.agg cs=.agg l.toArray:=by rw [<- h]
theorem ZpH {n:Nat}{cs:List Value}{y:DataW H × List MemPlace}(h:DataW.trod enc prog W 0 (λ_=>true) true n 36 cs=some y) : ∃ (v:Vr) (A:Option Addr) (c:Nat),cs=[vI v.num,vI v.time,slice A v.rs.length c]/\RtsV W W.heap.size (slice A v.rs.length c) v.rs/\(∀ x∈[v.num,v.time],-9223372036854775808<=x/\x<=9223372036854775807):=by
 obtain ⟨I,F,f,_,N,Y,G⟩:=DataW.trod_struct underlying36 h;rw [Tryz.cellsVer] at N;obtain ⟨c0,c1,c2,rfl⟩:∃ c0 c1 c2,cs=[c0,c1,c2]:=by
  match cs,N with
  | [c0,c1,c2],_=>exact ⟨c0,c1,c2,rfl⟩
 obtain ⟨B,D,C,rfl⟩:∃ B D C,I=[B,D,C]:=by
  have T:I.length=3:=Y
  match I,T with
  | [B,D,C],_=>exact ⟨B,D,C,rfl⟩
 have U:DataW.trod enc prog W 0 (λ_=>true) true F 3 [c0]=some B:=G 0 _ rfl;have R:DataW.trod enc prog W 0 (λ_=>true) true F 3 [c1]=some D:=G 1 _ rfl;have Z:DataW.trod enc prog W 0 (λ_=>true) true F 23 [c2]=some C:=G 2 _ rfl;obtain ⟨S,L,_,V⟩:=DataW.trod_int underlying3 U;obtain ⟨X,J,_,d⟩:=DataW.trod_int underlying3 R;obtain ⟨rs,O⟩:=Zic Z;obtain ⟨A,c,rfl,_⟩:=id O;simp only [List.cons.injEq,and_true] at L J;subst L J;refine ⟨⟨S,X,rs⟩,A,c,rfl,O,?_⟩;intro x M;simp only [zD,List.not_mem_nil,or_false] at M;rcases M with rfl | rfl
 . exact Z15 V
 . exact Z15 d
theorem Zid {n:Nat}{cs:List Value}{y:DataW H × List MemPlace}(h:DataW.trod enc prog W 0 (λ_=>true) true n 31 cs=some y) : ∃ (q:Qt) (A:Option Addr) (c:Nat),cs=[vI q.ver,vI q.time,vI q.total,vI q.keep,vI q.ask.kind,vI q.ask.fr,vI q.ask.un,vI q.ask.pers,slice A q.nights.length c,.int .u64 (q.dig:Nat),vI q.sE,vI q.sS]/\Z03 W W.heap.size (slice A q.nights.length c) q.nights /\ (∀ x∈[q.ver,q.time,q.total,q.keep,q.ask.kind,q.ask.fr,q.ask.un,q.ask.pers,q.sE,q.sS]++q.nights,-9223372036854775808<=x/\x<=9223372036854775807)/\q.dig<18446744073709551616:=by
 obtain ⟨j,B,bj,_,hl,bh,C⟩:=DataW.trod_struct underlying31 h;rw [Tryz.cellsQuote] at hl;obtain ⟨c0,c1,c2,c3,c4,c5,N,O,T,J,F,D,rfl⟩:∃ c0 c1 c2 c3 c4 c5 N O T J F D,cs=[c0,c1,c2,c3,c4,c5,N,O,T,J,F,D]:=by
  match cs,hl with
  | [c0,c1,c2,c3,c4,c5,N,O,T,J,F,D],_=>exact ⟨c0,c1,c2,c3,c4,c5,N,O,T,J,F,D,rfl⟩
 obtain ⟨S,X,U,G,Z,M,Y,I,rfl⟩:∃ S X U G Z M Y I,j=[S,X,U,G,Z,M,Y,I]:=by
  have g:j.length=8:=bh
  match j,g with
  | [S,X,U,G,Z,M,Y,I],_=>exact ⟨S,X,U,G,Z,M,Y,I,rfl⟩
 have g0:DataW.trod enc prog W 0 (λ_=>true) true B 3 [c0]=some S:=C 0 _ rfl;have g1:DataW.trod enc prog W 0 (λ_=>true) true B 3 [c1]=some X:=C 1 _ rfl;have g2:DataW.trod enc prog W 0 (λ_=>true) true B 3 [c2]=some U:=C 2 _ rfl;have g3:DataW.trod enc prog W 0 (λ_=>true) true B 3 [c3]=some G:=C 3 _ rfl;have g4:DataW.trod enc prog W 0 (λ_=>true) true B 25 [c4,c5,N,O]=some Z:=C 4 _ rfl;have g5:DataW.trod enc prog W 0 (λ_=>true) true B 26 [T]=some M:=C 5 _ rfl;have g6:DataW.trod enc prog W 0 (λ_=>true) true B 27 [J]=some Y:=C 6 _ rfl;have g7:DataW.trod enc prog W 0 (λ_=>true) true B 29 [F,D]=some I:=C 7 _ rfl;obtain ⟨k0,e0,_,r0⟩:=DataW.trod_int underlying3 g0;obtain ⟨k1,e1,_,r1⟩:=DataW.trod_int underlying3 g1;obtain ⟨k2,r,_,r2⟩:=DataW.trod_int underlying3 g2;obtain ⟨k3,e3,_,r3⟩:=DataW.trod_int underlying3 g3;obtain ⟨a,e4,V⟩:=ZpF g4;obtain ⟨ns,bb,r5⟩:=Zme g5;obtain ⟨d,e6,_,r6⟩:=DataW.trod_int underlying27 g6;obtain ⟨l,m',_,_,_,be,hz⟩:=DataW.trod_struct underlying29 g7;obtain ⟨R,L,rfl⟩:∃ R L,l=[R,L]:=by
  have g:l.length=2:=be
  match l,g with
  | [R,L],_=>exact ⟨R,L,rfl⟩
 have s0:DataW.trod enc prog W 0 (λ_=>true) true m' 3 [F]=some R:=hz 0 _ rfl;have s1:DataW.trod enc prog W 0 (λ_=>true) true m' 3 [D]=some L:=hz 1 _ rfl;obtain ⟨bg,ba,_,bd⟩:=DataW.trod_int underlying3 s0;obtain ⟨bc,m,_,bf⟩:=DataW.trod_int underlying3 s1;obtain ⟨A,c,rfl,_⟩:=id bb;simp only [List.cons.injEq,and_true] at e0 e1 r e3 e4 e6 ba m;obtain ⟨rfl,rfl,rfl,rfl⟩:=e4;subst e0 e1 r e3 e6 ba m;have hd:=Zmd r6;obtain ⟨dn,rfl⟩:=zE2 hd.1;refine ⟨⟨k0,k1,k2,k3,a,ns,dn,bg,bc⟩,A,c,rfl,bb,?_,by show dn<_;omega⟩;intro x f;simp only [zC,zD,List.not_mem_nil,or_false] at f V;rcases f with (rfl | rfl | rfl | rfl | rfl | rfl | rfl | rfl | rfl | rfl) | f
 . exact Z15 r0
 . exact Z15 r1
 . exact Z15 r2
 . exact Z15 r3
 . exact V _ (.inl rfl)
 . exact V _ (.inr (.inl rfl))
 . exact V _ (.inr (.inr (.inl rfl)))
 . exact V _ (.inr (.inr (.inr rfl)))
 . exact Z15 bd
 . exact Z15 bf
 . exact r5 x f
theorem Zie {base:Nat}{v:Value}{d:DataW H}{p:List MemPlace}(D:Value.okWide prog W .any base 31 v) (h:DataW.Trod enc prog W 0 (λ_=>true) true 31 v d p):∃ q:Qt,QtV W W.heap.size v q/\(∀ x∈[q.ver,q.time,q.total,q.keep,q.ask.kind,q.ask.fr,q.ask.un,q.ask.pers,q.sE,q.sS]++q.nights,-9223372036854775808<=x/\x<=9223372036854775807)/\q.dig<18446744073709551616:=by
 obtain ⟨cs,rfl,L⟩:=okWide_struct underlying31 D;obtain ⟨J,C⟩:=h;obtain ⟨q,A,c,I,G,F,B⟩:=Zid (cs:=cs.toList) C;exact ⟨q,⟨A,c,ZpG I,G⟩,F,B⟩
end
end
section
open Go.ChangeShapes Go.WideShapes Go.ChangeAt Go.RowKit Go.Deep
section
variable {H:Type} {enc:TypeId × Value->H} {P:Program} {w:World} {base:Nat} {spare:Nat->Bool} {held:Bool}
theorem Zq0 {g Z Y X f:TypeId}{args:Array Value}{d:List (DataW H)}{V:List MemPlace}(h:DataW.TrodAll enc P w base spare held [g,Z,Y,X,f] args.toList d V) : ∃ U R L C T B S N G D I O J M F,args=#[U,R,L,C,T]/\d=[B,S,N,G,D]/\V=I++(O++(J++(M++F)))/\DataW.Trod enc P w base spare held g U B I/\DataW.Trod enc P w base spare held Z R S O/\DataW.Trod enc P w base spare held Y L N J/\DataW.Trod enc P w base spare held X C G M/\DataW.Trod enc P w base spare held f T D F:=by
 obtain ⟨U,bj,B,bf,I,q0,be,rfl,rfl,l,r⟩:=trodAll_cons h;obtain ⟨R,bg,S,bm,O,q1,rfl,rfl,rfl,y,r1⟩:=trodAll_cons r;obtain ⟨L,ba,N,bk,J,q2,rfl,rfl,rfl,j,m⟩:=trodAll_cons r1;obtain ⟨C,bh,G,bb,M,q3,rfl,rfl,rfl,h3,q⟩:=trodAll_cons m;obtain ⟨T,bc,D,bd,F,q4,rfl,rfl,rfl,h4,A⟩:=trodAll_cons q;obtain ⟨rfl,rfl,rfl⟩:=trodAll_nil A;exact ⟨U,R,L,C,T,B,S,N,G,D,I,O,J,M,F,by cases args;simp_all,rfl,by simp,l,y,j,h3,h4⟩
theorem Zq1 {Z S N M X:TypeId}{d U L C Y:Value}{B V R G D:DataW H}{I T J O F:List MemPlace}(g:DataW.Trod enc P w base spare held Z d B I)(j:DataW.Trod enc P w base spare held S U V T)(f:DataW.Trod enc P w base spare held N L R J)(l:DataW.Trod enc P w base spare held M C G O)(m:DataW.Trod enc P w base spare held X Y D F) : DataW.TrodAll enc P w base spare held [Z,S,N,M,X] [d,U,L,C,Y] [B,V,R,G,D] (I++(T++(J++(O++F)))):=⟨_,_,g,trodAll_mk4 j f l m,rfl⟩
end
end
section
open Go.RowKit Lx Px Qx
namespace Qx
def lftF:Fo->Int->Int
 | .nil,n=>n
 | .node _ _ _ l r,n=>if (if n<1 then -1 else lftF l (n - 1))<0 then -1 else lftF r (if n<1 then -1 else lftF l (n - 1))
def lftE (l:Fo)(most:Int):Int:=if most<1 then -1 else lftF l (most - 1)
theorem Zif:∀ (l:Fo) (n:Int),0<=n -> -1<=lftF l n/\lftF l n<=n:=by
 intro l;induction l with
 | nil=>intro n h;exact ⟨by show -1<=n;omega,Int.le_refl n⟩
 | node b o a l r ihl ihr =>
  intro n h;rw [lftF];by_cases h1:n<1
  . rw [zp h1,zp (by omega)];omega
  . rw [zf h1];have C:=ihl (n - 1) (by omega);by_cases h2:lftF l (n - 1)<0
    . rw [zp h2];omega
    . rw [zf h2];have B:=ihr (lftF l (n - 1)) (by omega);omega
theorem Zig (l:Fo)(n:Int)(h:0<=n) : -1<=lftE l n/\lftE l n<=n - 1:=by
 unfold lftE;split
 . omega
 . have:=Zif l (n - 1) (by omega);omega
theorem Zmf {l:Fo}{k:Nat}(hk:k<flen l)(n:Int):lftF (Z1c l k) n=if lftE (getF l k).2 n<0 then -1 else lftF (Z1c l (k+1)) (lftE (getF l k).2 n):=by
 induction l generalizing k with
 | nil=>simp [flen] at hk
 | node b o a l r _ ihr =>
  cases k with
  | zero=>simp only [Z1c,getF,lftF,lftE]
  | succ k =>
   have B:k<flen r:=by simp [flen] at hk;omega
   exact ihr B
end Qx
def Zgc (a:Int × Int)(l:Fo):Prop := ∀ (most:Int) (w:World) (v:Value) (B:Nat),FoV w B v l->B<=w.heap.size->0<=most->most<=1000 -> Calls prog 66 #[.agg #[vI a.1,vI a.2,v],vI most] w λe w' =>
   e=.returned (vI (lftE l most))/\Below w.heap.size w w'
def RLefL (l:Fo)(n0:Int)(w:World)(kv y i:Value)(wr:World):Prop := ∃ (k:Nat) (x:Int),k<=flen l/\i=vI k/\y=vI x/\0<=x/\x+k<=1000/\Below w.heap.size w wr/\w.heap.size<wr.heap.size/\wr.cell? ⟨w.heap.size,2,none⟩=some kv/\lftF (Z1c l k) x=lftF l n0
theorem Zd0 (a:Int × Int)(l:Fo)(f:∀ k,k<flen l->Zgc (getF l k).1 (getF l k).2):Zgc a l:=by
 intro D w v B hv hB h2 h3;obtain ⟨A,c,rfl,m⟩:=hv;obtain ⟨op,n⟩:=a;by_cases hm:D<1
 . have L:lftE l D = -1:=zp hm;have d2:decide (D<1)=true:=by simpa using hm
   have O:=zh L;clear L;go_enter func66,ntmps66;go_wp2_with fail;go_ret;rw [O.o];exact ⟨rfl,(zr w.heap.size w).alloc (zn _) _⟩
 . have d2:decide (D<1)=false:=by simpa using hm
   have L:lftE l D=lftF l (D - 1):=zf hm;obtain ⟨O,HA,HI⟩:=zh3 L m f;clear L m f;go_enter func66,ntmps66;go_wp2_with fail;go_loopw [5,6] (λy i wr=>RLefL l (D - 1) w (slice A (flen l) c) y i wr) (λ_ i _=>flen l - (intOf i).toNat)
   case atStart=>exact ⟨0,D - 1,by omega,rfl,rfl,by omega,by omega,(zr w.heap.size w).alloc (zn _) _,by simp,by rw [zH (za w _)];rfl,by rw [Z1c]⟩
   case round =>
    obtain ⟨k,x,hk,rfl,rfl,g,bb,N,ba,hkv,d⟩:=hrel;have I:=zh d;clear d;by_cases hkl:k<flen l
    . have Y:∀ p:Addr,p.block<B->wr.cell? p=w.cell? p:=λp hp=>N.cell (by omega);obtain ⟨ad,j,c',rfl,bc,Z,V,U,H⟩:=FoAt.get l A 0 k (FoAt.keep Y l A 0 HA.o) hkl;rw [Nat.zero_add] at Z V U;have C:=Zmf hkl x;have G:=HI.o k hkl;obtain ⟨⟨be,n'⟩,J,X⟩:∃ a' J,getF l k=(a',J):=⟨_,_,rfl⟩
      rw [X] at Z V U H C G;dsimp only at Z V U H C G;rw [I.o] at C;have M:=G x wr (slice j (flen J) c') B ⟨j,c',rfl,H⟩ (by omega) g (by omega);have bd:=Zig J x g;generalize lftE J x=z at *
      by_cases hz:z<0
      . have d9:decide (z<0)=true:=by simpa using hz
        rw [zp hz] at C;have T:=zh M;have R:=zh C;clear M C G X I Y H;go_wp2_with fail;refine (T.o).mono ?_;rintro e w9 ⟨rfl,F⟩;go_wp2_with fail;go_ret;rw [O.o,R.o];exact ⟨rfl,Z00 N F⟩
      . have d9:decide (z<0)=false:=by simpa using hz
        rw [zf hz] at C;have T:=zh M;have R:=zh C;clear M C G X I Y H;go_wp2_with fail;refine (T.o).mono ?_;rintro e w9 ⟨rfl,F⟩;go_wp2_with fail;go_roundw
        case rel=>exact ⟨k+1,z,by omega,by go_num,rfl,by omega,by omega,Z00 N F,by have:=F.size;omega,(F.cell ba).trans hkv,R.o.symm⟩
        case measure=>simp [intOf];omega
    . have q:Z1c l k=.nil:=Z2A l k (by omega);have S:=I.o;rw [q,lftF] at S;have r:=zh S;clear S I;go_wp2_with fail;go_ret;rw [O.o,<- r.o];exact ⟨rfl,N⟩
theorem Zmg (f:Fo):∀ k,k<flen f->Zgc (getF f k).1 (getF f k).2:=by
 induction f with
 | nil=>intro k h;simp [flen] at h
 | node b o a l r ihl ihr =>
  intro k h;cases k with
  | zero=>exact Zd0 a l ihl
  | succ k=>exact ihr k (by simp [flen] at h;omega)
theorem Zmh (a:Int × Int)(l:Fo):Zgc a l:=Zd0 a l (Zmg l)
theorem Zgd (op n:Int)(l:Fo)(v:Value)(w:World)(F:FoV w w.heap.size v l) : Calls prog 42 #[.agg #[vI op,vI n,v]] w λe w'=>e=.returned (.bool (decide (0<=lftE l 300)))/\Below w.heap.size w w':=by
 obtain ⟨z,B⟩:∃ z,lftE l 300=z:=⟨_,rfl⟩
 rw [B];obtain ⟨A,c,rfl,C⟩:=F;have D:=zh B;have G:=zh C;clear B C;go_enter func42,ntmps42;go_wp2_with fail;refine (Zmh (op,n) l 300 _ (slice A (flen l) c) w.heap.size ⟨A,c,rfl,FoAt.keep (λp hp=>by first | rfl | exact Z13 _ _ _ hp) l A 0 G.o⟩ (by simp) (by omega) (by omega)).mono ?_;rintro e H ⟨rfl,hb⟩;rw [D.o];go_wp2_with fail;go_ret;exact ⟨rfl,by first | exact hb | exact Z00 ((zr w.heap.size w).alloc (zn _) _) hb⟩
end
section
open Go.RowKit Lx Px Qx
def T3 (w:World)(b:Nat)(ts:List Int):Prop:=w.heap[b]?=some (.cells #[vI (ts.getD 0 0),vI (ts.getD 1 0),vI (ts.getD 2 0)] 198 (0,0))
theorem T3.lt {w:World}{b:Nat}{ts:List Int}(h:T3 w b ts):b<w.heap.size:=(zF2.1 h).1
theorem T3.on {w w':World}{b:Nat}{ts:List Int}(h:T3 w b ts)(hb:Below w.heap.size w w'):T3 w' b ts:=(hb.block b h.lt).trans h
theorem T3.cell {w:World}{b:Nat}{ts:List Int}(h:T3 w b ts){k:Nat}(hk:k<3):w.cell? ⟨b,k,none⟩=some (vI (ts.getD k 0)):=by
 rw [zH h];rcases (show k=0\/k=1\/k=2 by omega) with rfl | rfl | rfl <;> rfl
theorem T3.fr {w:World}{b:Nat}{ts:List Int}(h:T3 w b ts)(k:Nat):w.frozen? ⟨b,k,none⟩=false:=by have B:w.heap[b]?=_:=h;simp [World.frozen?,B]
theorem T3.set {w:World}{b:Nat}{ts:List Int}(h:T3 w b ts){k:Nat}(C:ts.length=k)(hk:k<3)(t:Int):T3 (w.setCell ⟨b,k,none⟩ (vI t)) b (ts++[t]):=by
 have B:w.heap[b]?=_:=h;subst C;match ts,hk,B with
 | [],_,B=>simp [T3,World.setCell,zM,B]
 | [x],_,B=>simp [T3,World.setCell,zM,B]
 | [x,y],_,B=>simp [T3,World.setCell,zM,B]
 | _::_::_::_,hk,_=>simp at hk;omega
theorem T3.new (w:World):T3 (w.alloc (.cells #[vI 0,vI 0,vI 0] 198)) w.heap.size []:=za w _
def RtyC (a:Int × Int)(l:Fo):Prop := ∀ (w:World) (v:Value) (B:Nat),FoV w B v l->B<=w.heap.size->Z07 a.1 a.2 (flen l)=true->wfF l -> Calls prog 99 #[.agg #[vI a.1,vI a.2,v]] w λe w'=>e=.returned (vI (typE a l))/\Below w.heap.size w w'
def RtyL (l:Fo)(w:World)(op n:Int)(av i:Value)(wr:World):Prop := ∃ (k:Nat) (ts:List Int),k<=flen l/\i=vI k/\ts.length=k/\(∀ j,j<k->ts.getD j 0=typE (getF l j).1 (getF l j).2/\ts.getD j 0≠0) /\ Below w.heap.size w wr/\T3 wr (w.heap.size+1) ts/\wr.heap[w.heap.size]?=some (.cells #[vI op,vI n,av] 79 (0,0))
theorem Zd1 (a:Int × Int)(l:Fo)(ih:∀ k,k<flen l->RtyC (getF l k).1 (getF l k).2):RtyC a l:=by
 intro w v B hv hB I hw;obtain ⟨A,c,rfl,hA⟩:=hv;obtain ⟨op,n⟩:=a;obtain ⟨bd,bx,bF⟩:=Z6E I;dsimp only at I bx bF bd;have bK:=Z5f I;have hx:=Z0w (za w (.cells #[vI op,vI n,slice A (flen l) c] 79)) (.cells #[vI 0,vI 0,vI 0] 198);have be:=((zr w.heap.size w).alloc (zn _) (.cells #[vI op,vI n,slice A (flen l) c] 79)).alloc (by simp) (.cells #[vI 0,vI 0,vI 0] 198);have bf:T3 ((w.alloc (.cells #[vI op,vI n,slice A (flen l) c] 79)).alloc (.cells #[vI 0,vI 0,vI 0] 198)) (w.heap.size+1) []:=by have:=T3.new (w.alloc (.cells #[vI op,vI n,slice A (flen l) c] 79));rwa [zk] at this
 obtain ⟨IH,HW,HA,HF,HX,bg,bH,br⟩:=zh8 ih hw hA I hx be bd bf;clear ih hw hA I hx be bd bf;go_enter func99,ntmps99;go_wp2_with fail;generalize (w.alloc (.cells #[vI op,vI n,slice A (flen l) c] 79)).alloc (.cells #[vI 0,vI 0,vI 0] 198)=w1 at *
 go_loopw [4] (λi wr=>RtyL l w op n (slice A (flen l) c) i wr) (λi _=>flen l - (intOf i).toNat)
 case atStart=>exact ⟨0,[],Nat.zero_le _,rfl,rfl,λj hj=>absurd hj (by omega),bg.o,br.o,HX.o⟩
 case round =>
  obtain ⟨k,ts,hk,rfl,bn,bk,T,Z,bb⟩:=hrel;have bL:=Z.lt;have c2:wr.cell? ⟨w.heap.size,2,none⟩=some (slice A (flen l) c):=by rw [zH bb];rfl
  obtain ⟨Y,C,d,D⟩:=zh4 bk bn bb Z;clear bk bn bb Z;by_cases hkl:k<flen l
  . have bm:∀ p:Addr,p.block<B->wr.cell? p=w.cell? p:=λp hp=>T.cell (by omega);obtain ⟨ad,A',c',rfl,bJ,f,t1,q,R⟩:=FoAt.get l A 0 k (FoAt.keep bm l A 0 HA.o) hkl;rw [Nat.zero_add] at f t1 q;have O:=IH.o k hkl;obtain ⟨r,ba⟩:=Zgv HW.o hkl;have F:=λh=>ZmG (a:=(op,n)) hkl h;have J:∀ t,t=typE (getF l k).1 (getF l k).2->t≠0->∀ j,j<k+1->(ts++[t]).getD j 0=typE (getF l j).1 (getF l j).2/\(ts++[t]).getD j 0≠0:=by
     intro t ht G j hj;have bs:=C.o;by_cases hjk:j=k
     . subst hjk;rw [<- bs,List.getD_eq_getElem?_getD];simp only [List.getElem?_concat_length,Option.getD_some];rw [bs];exact ⟨ht,G⟩
     . have:=Y.o j (by omega);rw [List.getD_eq_getElem?_getD,List.getElem?_append_left (by omega),<- List.getD_eq_getElem?_getD];exact this
    have bq:=λ(W:World) (h:T3 W (w.heap.size+1) ts) (t:Int)=>h.set C.o (by omega:k<3) t;have bt:=λ(W:World) (h:T3 W (w.heap.size+1) ts)=>h.cell (by omega:k<3);obtain ⟨⟨bE,n'⟩,L,bj⟩:∃ a' L,getF l k=(a',L):=⟨_,_,rfl⟩
    rw [bj] at f t1 q R O r ba F J;dsimp only at f t1 q R O r ba F J;obtain ⟨t,bp⟩:∃ t,typE (bE,n') L=t:=⟨_,rfl⟩
    have V:=O wr (slice A' (flen L) c') B ⟨A',c',rfl,R⟩ (by omega) r ba;rw [bp] at V F J;have bI:(k:Int)<3:=by omega
    obtain ⟨m,bv,bB,bD,bu⟩:=zh5 V F J bq bt;clear V F J bq bt bm O bp bj R;go_wp2_with fail;refine (m.o).mono ?_;rintro e S ⟨rfl,U⟩;have H:=D.o.on U;have X:=(U.block _ (by omega)).trans d.o;have bc:=Z00 T U;have f9:=H.fr k;have q9:=bu.o S H;have N:=bD.o S H t;have M:=bc.setCell (p:=⟨w.heap.size+1,k,none⟩) (by show w.heap.size<=w.heap.size+1;omega) (vI t);have hxS:=(zg S ⟨w.heap.size+1,k,none⟩ (vI t) w.heap.size (by show w.heap.size≠w.heap.size+1;omega)).trans X;have qS:(S.setCell ⟨w.heap.size+1,k,none⟩ (vI t)).cell? ⟨w.heap.size+1,k,none⟩=some (vI t):=by have:=N.cell (by omega:k<3);rw [this,List.getD_eq_getElem?_getD,<- C.o];simp
    by_cases G:t=0
    . subst G;have HR:=zh (bv.o rfl);have g:=zh M;clear M m H X bc N hxS;go_wp2_with fail;go_ret;rw [HR.o];exact ⟨rfl,g.o⟩
    . have d0:(t==0)=false:=by simpa using G
      have bG:=zh (bB.o t rfl G);obtain ⟨g,bz,bA⟩:=zh3 M hxS N;clear M hxS N m H X bc;go_wp2_with fail;go_roundw
      case rel=>exact ⟨k+1,ts++[t],by omega,by go_num,by rw [zj,C.o];rfl,bG.o,g.o,bA.o,bz.o⟩
      case measure=>simp [intOf];omega
  . have bC:k=flen l:=by omega
    subst bC;have hE:typE (op,n) l=opT op (ts.getD 0 0) (ts.getD 1 0) (ts.getD 2 0):=ZmF C.o Y.o;have q0:=D.o.cell (by omega:0<3);have q1:=D.o.cell (by omega:1<3);have q2:=D.o.cell (by omega:2<3);have dl:decide ((flen l:Int)<(flen l:Int))=false:=by simp
    have x0:wr.cell? ⟨w.heap.size,0,none⟩=some (vI op):=by rw [zH d.o];rfl
    generalize ts.getD 0 0=x at *
    generalize ts.getD 1 0=y at *
    generalize ts.getD 2 0=z at *
    have bh:=zh T;have HE:=zh hE;clear T hE D Y C d bH HF HX bg br HA HW IH;rcases (show op=1\/op=2\/op=3\/op=4\/op=5\/op=6\/op=7\/op=8\/op=9\/op=10\/op=11\/op=12\/op=13\/op=14\/op=15 by omega) with rfl | rfl | rfl | rfl | rfl | rfl | rfl | rfl | rfl | rfl | rfl | rfl | rfl | rfl | rfl
    all_goals go_wp2
    all_goals go_ret
    all_goals rw [HE.o]
    all_goals refine ⟨?_,bh.o⟩
    all_goals clear HE bh
    all_goals simp_all [opT]
theorem Zmi (f:Fo):∀ k,k<flen f->RtyC (getF f k).1 (getF f k).2:=by
 induction f with
 | nil=>intro k h;simp [flen] at h
 | node b o a l r ihl ihr =>
  intro k h;cases k with
  | zero=>exact Zd1 a l ihl
  | succ k=>exact ihr k (by simp [flen] at h;omega)
theorem Zd2 (a:Int × Int)(l:Fo):RtyC a l:=Zd1 a l (Zmi l)
end
section
open Go.RowKit Lx Px Qx
theorem Zse (n lo B:Int)(w:World):Calls prog 137 #[vI n,vI lo,vI B] w λe w'=>e=.returned (.bool (Z1d n lo B))/\w=w':=by
 unfold Z1d;obtain ⟨C,G⟩:∃ b,decide (lo<=n)=b:=⟨_,rfl⟩
 obtain ⟨D,F⟩:∃ b,decide (n<=B)=b:=⟨_,rfl⟩
 rw [G,F];cases C <;> cases D
 all_goals go_enter func137,ntmps137;go_wp2_with fail;go_ret;exact ⟨rfl,rfl⟩
theorem Zq2 (r:Rt):Z49 r=(Z1d r.id 1 1000000&&Z1d r.lv 0 100&&Z1d r.kd 1 20&&!decide (r.fr<0)&&!decide (r.fr>=r.un)&&!decide (r.un > 366)&&!decide (r.ls<1)&&!decide (r.ls > r.mo)&&!decide (r.mo > 60)&&Z1d r.ar 1 127 && ratB r.kn r.kq&&decide (r.kn>=0)&&decide (r.kn<=r.kq)&&Z0f r.wo r.wn r.wl&&Z0f r.po r.pn r.pl):=by
 rw [zA];simp only [Z49,Z1d,zd,decide_eq_true_eq,Bool.not_eq_true',decide_eq_false_iff_not];cases ratB r.kn r.kq <;> cases Z0f r.wo r.wn r.wl <;> cases Z0f r.po r.pn r.pl <;> simp <;> omega
theorem Zmj (r:Rt)(l pv:Value)(w:World)(V:FoV w w.heap.size l r.wl)(M:FoV w w.heap.size pv r.pl):Calls prog 98 #[rtV r l pv] w λe w'=>e=.returned (.bool (Z49 r))/\Below w.heap.size w w':=by
 obtain ⟨O,J,rfl,_⟩:=id V;obtain ⟨I,R,rfl,_⟩:=id M;have d:=RB.new w #[vI r.id,vI r.lv,vI r.kd,vI r.fr,vI r.un,vI r.ls,vI r.mo,vI r.ar,vI r.kn,vI r.kq,vI r.wo,vI r.wn,slice O (flen r.wl) J,vI r.po,vI r.pn,slice I (flen r.pl) R];have f:=Zse;have j:=λW=>Z1r r.kn r.kq W;have q:=λW h=>Z5g r.wo r.wn r.wl (slice O (flen r.wl) J) W h;have X:=λW h=>Z5g r.po r.pn r.pl (slice I (flen r.pl) R) W h;rw [Zq2,rtV];obtain ⟨b0,g⟩:∃ b,Z1d r.id 1 1000000=b:=⟨_,rfl⟩
 obtain ⟨b1,Y⟩:∃ b,Z1d r.lv 0 100=b:=⟨_,rfl⟩
 obtain ⟨b2,m⟩:∃ b,Z1d r.kd 1 20=b:=⟨_,rfl⟩
 obtain ⟨b3,q3⟩:∃ b,decide (r.fr<0)=b:=⟨_,rfl⟩
 obtain ⟨b4,A⟩:∃ b,decide (r.fr>=r.un)=b:=⟨_,rfl⟩
 obtain ⟨b5,q5⟩:∃ b,decide (r.un > 366)=b:=⟨_,rfl⟩
 obtain ⟨b6,q6⟩:∃ b,decide (r.ls<1)=b:=⟨_,rfl⟩
 obtain ⟨b7,q7⟩:∃ b,decide (r.ls > r.mo)=b:=⟨_,rfl⟩
 obtain ⟨b8,q8⟩:∃ b,decide (r.mo > 60)=b:=⟨_,rfl⟩
 obtain ⟨b9,Z⟩:∃ b,Z1d r.ar 1 127=b:=⟨_,rfl⟩
 obtain ⟨be,bc⟩:∃ b,decide (r.kn>=0)=b:=⟨_,rfl⟩
 obtain ⟨bf,ba⟩:∃ b,decide (r.kn<=r.kq)=b:=⟨_,rfl⟩
 rw [g,Y,m,q3,A,q5,q6,q7,q8,Z,bc,ba];generalize Z0f r.wo r.wn r.wl=bg at *
 generalize Z0f r.po r.pn r.pl=bd at *
 generalize ratB r.kn r.kq=bb at *
 obtain ⟨S,y,HP,F,RA,Z1,Z2⟩:=zh7 d V M f j q X;clear d V M f j q X;go_enter func98,ntmps98;go_upto_region 1 with fail;generalize w.alloc (.cells #[vI r.id,vI r.lv,vI r.kd,vI r.fr,vI r.un,vI r.ls,vI r.mo,vI r.ar,vI r.kn,vI r.kq,vI r.wo,vI r.wn,slice O (flen r.wl) J,vI r.po,vI r.pn,slice I (flen r.pl) R] 81)=w0 at *
 have e0:=S.o.cell 0 _ rfl;have e1:=S.o.cell 1 _ rfl;have e2:=S.o.cell 2 _ rfl;have e3:=S.o.cell 3 _ rfl;have e4:=S.o.cell 4 _ rfl;have e5:=S.o.cell 5 _ rfl;have e6:=S.o.cell 6 _ rfl;have e7:=S.o.cell 7 _ rfl;have D:=S.o.cell 8 _ rfl;have C:=S.o.cell 9 _ rfl;have L:=S.o.cell 10 _ rfl;have G:=S.o.cell 11 _ rfl;have U:=S.o.cell 12 _ rfl;have N:=S.o.cell 13 _ rfl;have H:=S.o.cell 14 _ rfl;have T:=S.o.cell 15 _ rfl;go_wp2_with fail;refine ((F.o r.id 1 1000000 _)).mono ?_;rintro e w' ⟨rfl,rfl⟩;rw [g];cases b0 with
 | false =>go_wp2_with fail;go_ret;exact ⟨rfl,S.o.2⟩
 | true =>
  go_wp2_with fail;refine ((F.o r.lv 0 100 _)).mono ?_;rintro e w' ⟨rfl,rfl⟩;rw [Y];cases b1 with
  | false =>go_wp2_with fail;go_ret;exact ⟨rfl,S.o.2⟩
  | true =>
   go_wp2_with fail;refine ((F.o r.kd 1 20 _)).mono ?_;rintro e w' ⟨rfl,rfl⟩;rw [m];cases b2 with
   | false =>go_wp2_with fail;go_ret;exact ⟨rfl,S.o.2⟩
   | true =>
    cases b3 with
    | true =>go_wp2_with fail;go_ret;exact ⟨rfl,S.o.2⟩
    | false =>
     cases b4 with
     | true =>go_wp2_with fail;go_ret;exact ⟨rfl,S.o.2⟩
     | false =>
      cases b5 with
      | true =>go_wp2_with fail;go_ret;exact ⟨rfl,S.o.2⟩
      | false =>
       cases b6 with
       | true =>go_wp2_with fail;go_ret;exact ⟨rfl,S.o.2⟩
       | false =>
        cases b7 with
        | true =>go_wp2_with fail;go_ret;exact ⟨rfl,S.o.2⟩
        | false =>
         cases b8 with
         | true =>go_wp2_with fail;go_ret;exact ⟨rfl,S.o.2⟩
         | false =>
          go_wp2_with fail;refine ((F.o r.ar 1 127 _)).mono ?_;rintro e w' ⟨rfl,rfl⟩;rw [Z];cases b9 with
          | false =>go_wp2_with fail;go_ret;exact ⟨rfl,S.o.2⟩
          | true =>
           go_wp2_with fail;refine ((RA.o _)).mono ?_;rintro e w1 ⟨rfl,hb⟩;have B:=S.o.on hb;clear e0 e1 e2 e3 e4 e5 e6 e7 D C L G U N H T S hb;have S:=zh B;clear B;have D:=S.o.cell 8 _ rfl;have C:=S.o.cell 9 _ rfl;have L:=S.o.cell 10 _ rfl;have G:=S.o.cell 11 _ rfl;have U:=S.o.cell 12 _ rfl;go_wp2_with fail;refine ((Z1.o _ ((y.o.on S.o.2).up S.o.2.size))).mono ?_;rintro e w2 ⟨rfl,hb⟩;have B:=S.o.on hb;clear D C L G U S hb;have S:=zh B;clear B;have D:=S.o.cell 8 _ rfl;have C:=S.o.cell 9 _ rfl;have N:=S.o.cell 13 _ rfl;have H:=S.o.cell 14 _ rfl;have T:=S.o.cell 15 _ rfl;go_wp2_with fail;refine ((Z2.o _ ((HP.o.on S.o.2).up S.o.2.size))).mono ?_;rintro e w3 ⟨rfl,hb⟩;have B:=S.o.on hb;clear D C N H T S hb;have S:=zh B;clear B;have D:=S.o.cell 8 _ rfl;have C:=S.o.cell 9 _ rfl;cases bb <;> cases be <;> cases bf <;> cases bg <;> cases bd
           all_goals go_wp2_with fail;go_ret;exact ⟨rfl,S.o.2⟩
theorem Z9h (r:Rt)(R pv:Value)(w:World)(Z:FoV w w.heap.size R r.wl)(M:FoV w w.heap.size pv r.pl):Calls prog 67 #[rtV r R pv] w λe w'=>e=.returned (.tuple #[.bool (Z17 r==0),vI (Z17 r)])/\Below w.heap.size w w':=by
 have T:=λW F h2=>Zmj r R pv W F h2;obtain ⟨U,J,rfl,_⟩:=id Z;obtain ⟨I,V,rfl,_⟩:=id M;have j:=RB.new w #[vI r.id,vI r.lv,vI r.kd,vI r.fr,vI r.un,vI r.ls,vI r.mo,vI r.ar,vI r.kn,vI r.kq,vI r.wo,vI r.wn,slice U (flen r.wl) J,vI r.po,vI r.pn,slice I (flen r.pl) V];have hE:Z17 r=if Z49 r then (if typE (r.wo,r.wn) r.wl=3/\typE (r.po,r.pn) r.pl=2 then 0 else 20) else 1:=rfl;have hv:=@Z2k r;rw [rtV] at T |-
 obtain ⟨S,f,HP,HF,d,q⟩:=zh6 j Z M T hE hv;clear j Z M T hE hv;go_enter func67,ntmps67;go_upto_region 1 with fail;generalize w.alloc (.cells #[vI r.id,vI r.lv,vI r.kd,vI r.fr,vI r.un,vI r.ls,vI r.mo,vI r.ar,vI r.kn,vI r.kq,vI r.wo,vI r.wn,slice U (flen r.wl) J,vI r.po,vI r.pn,slice I (flen r.pl) V] 81)=w0 at *
 have e0:=S.o.cell 0 _ rfl;have e1:=S.o.cell 1 _ rfl;have e2:=S.o.cell 2 _ rfl;have e3:=S.o.cell 3 _ rfl;have e4:=S.o.cell 4 _ rfl;have e5:=S.o.cell 5 _ rfl;have e6:=S.o.cell 6 _ rfl;have e7:=S.o.cell 7 _ rfl;have e8:=S.o.cell 8 _ rfl;have e9:=S.o.cell 9 _ rfl;have L:=S.o.cell 10 _ rfl;have G:=S.o.cell 11 _ rfl;have Y:=S.o.cell 12 _ rfl;have N:=S.o.cell 13 _ rfl;have H:=S.o.cell 14 _ rfl;have X:=S.o.cell 15 _ rfl;go_wp2_with fail;refine (HF.o _ ((f.o.on S.o.2).up S.o.2.size) ((HP.o.on S.o.2).up S.o.2.size)).mono ?_;rintro e w1 ⟨rfl,hb⟩;have S1:=S.o.on hb;clear e0 e1 e2 e3 e4 e5 e6 e7 e8 e9 L G Y N H X S hb HF;have S:=zh S1;clear S1;cases hf:Z49 r with
 | false =>
  have F:Z17 r=1:=by rw [d.o,hf];rfl
  have H1:=zh F;have bb:=zh hf;clear F hf;go_wp2_with fail;go_ret2;rw [H1.o];exact ⟨rfl,S.o.2⟩
 | true =>
  obtain ⟨v1,v2⟩:=q.o hf;obtain ⟨m,l⟩:=Z4q v1;obtain ⟨f2,g2⟩:=Z4q v2;have A:Z17 r=if typE (r.wo,r.wn) r.wl=3/\typE (r.po,r.pn) r.pl=2 then 0 else 20:=by rw [d.o,hf];rfl
  have ba:=λW B h h2=>Zd2 (r.wo,r.wn) r.wl W (slice U (flen r.wl) J) B h h2 m l;have g:=λW B h h2=>Zd2 (r.po,r.pn) r.pl W (slice I (flen r.pl) V) B h h2 f2 g2;have L:=S.o.cell 10 _ rfl;have G:=S.o.cell 11 _ rfl;have Y:=S.o.cell 12 _ rfl;generalize typE (r.wo,r.wn) r.wl=x at *
  generalize typE (r.po,r.pn) r.pl=y at *
  obtain ⟨O,Z1,Z2,bb⟩:=zh4 A ba g hf;clear A ba g hf d q v1 v2 m f2 l g2;go_wp2_with fail;refine (Z1.o _ w.heap.size (f.o.on S.o.2) S.o.2.size).mono ?_;rintro e w2 ⟨rfl,hb⟩;have S2:=S.o.on hb;clear L G Y S hb;have S:=zh S2;clear S2;by_cases hx:x=3
  . have d1:(x != 3)=false:=by simpa using hx
    have N:=S.o.cell 13 _ rfl;have H:=S.o.cell 14 _ rfl;have X:=S.o.cell 15 _ rfl;go_wp2_with fail;refine (Z2.o _ w.heap.size (HP.o.on S.o.2) S.o.2.size).mono ?_;rintro e w3 ⟨rfl,hb⟩;have S3:=S.o.on hb;clear N H X S hb;have S:=zh S3;clear S3;by_cases hy:y=2
    . have d2:(y != 2)=false:=by simpa using hy
      have C:Z17 r=0:=by rw [O.o,zp ⟨hx,hy⟩]
      have D:=zh C;clear C;go_wp2_with fail;go_ret2;rw [D.o];exact ⟨rfl,S.o.2⟩
    . have d2:(y != 2)=true:=by simpa using hy
      have C:Z17 r=20:=by rw [O.o,zf (λh=>hy h.2)]
      have D:=zh C;clear C;go_wp2_with fail;go_ret2;rw [D.o];exact ⟨rfl,S.o.2⟩
  . have d1:(x != 3)=true:=by simpa using hx
    have C:Z17 r=20:=by rw [O.o,zf (λh=>hx h.1)]
    have D:=zh C;clear C;go_wp2_with fail;go_ret2;rw [D.o];exact ⟨rfl,S.o.2⟩
end
section
open Go.RowKit
def Z26 (Bs:Nat->Prop)(W W':World):Prop:=∀ b,Bs b->W'.heap[b]?=W.heap[b]?
theorem Z26.refl (B:Nat->Prop)(W:World):Z26 B W W:=λ_ _=>rfl
theorem Z26.trans {D:Nat->Prop}{A B C:World}(h:Z26 D A B)(k:Z26 D B C):Z26 D A C:=λb hb=>(k b hb).trans (h b hb)
theorem Z26.putObj {B:Nat->Prop}{l:Nat}(W:World)(o:Obj)(h:¬ B l):Z26 B W (W.putObj l o):=λb hb=>zQ (by intro e;subst e;exact h hb)
theorem Z26.below {B:Nat->Prop}{W C:World}(h:Below W.heap.size W C)(hb:∀ b,B b->b<W.heap.size):Z26 B W C:=λb x=>h.block b (hb b x)
structure Z9i {α:Type} (J:List α->World->Prop):Prop where
 below:∀ s W W',J s W->Below W.heap.size W W'->J s W'
def SeqS {α:Type}(F:Fence)(n:Nat)(P:Program)(g:Nat)(lb:Array Value)(encs:α->Array Value)(ok:World->Prop)(Bs:Nat->Prop)(S Sp:List α->Prop):Prop := ∀ (l:Nat) (J Jx:List α->World->Prop) (W:World),ok W->Z9i J -> (∀ pre x W1,J pre W1->Sp (pre++[x])->YieldAt F (n - 1) P l (encs x) W1 λe W' =>
   (e=.returned (.bool true)/\J (pre++[x]) W'/\Z26 Bs W1 W')\/(e=.returned (.bool false)/\Jx (pre++[x]) W')) ->
  J [] W ->
  CallsIn F n P g (#[.func (.yield l) #[] #[]]++lb) W λe W'=>(∃ v,e=.returned v)/\((∃ xs,S xs/\J xs W')\/(∃ pre,Sp pre/\Jx pre W'))
def Zge {α:Type}(Bs:Nat->Prop)(B:Nat)(I:List α->World->Prop)(Ix:Code->List α->World->Prop)(xs:List α)(W:World):Exit->Act->World->Prop
 | .normal,_,W'=>KeepsFrom B W W'/\Z26 Bs W W'/\I xs W'
 | .ret,_,W'=>KeepsFrom B W W'/\Ix .ret xs W'
 | .exit id,_,W'=>KeepsFrom B W W'/\Ix (.exit id) xs W'
 | .goto t,_,W'=>KeepsFrom B W W'/\Ix (.goto t) xs W'
 | .panic _,_,_=>False
 | .outgrown,_,_=>False
variable {F:Fence} {n:Nat} {P:Program}
theorem Z86 {α:Type}{g:Operand}{d:Array Tmp}{assign body:Code}{Q:Exit->Act->World->Prop}{a:Act}{w:World} (be:F.round=none) (h1:1<=n) {gf:Nat} {lb:Array Value} (hg:a.eval g=.func (.func gf) #[] lb) (bt:F.fn gf) (eg:∀ args w,(callFunc gf args).run P w=.ok (.enter gf args) w) {m:α->Array Value} {ok:World->Prop} {j:Nat->Prop} {S y:List α->Prop} (bc:SeqS F (n - 1) P gf lb m ok j S y) (ba:∀ b,j b->b<w.heap.size) (bf:∀ W',Below w.heap.size w W'->ok W') (bj:∀ x,(m x).size=d.size) (I:List α->World->Prop) (X:Code->List α->World->Prop) (A:Z9i I) (r:∀ s W l o o',I s W->w.heap.size<=l->W.heap[l]?=some o->o.isCells=false->I s (W.putObj l o')) (q:∀ c s W l o o',X c s W->w.heap.size<=l->W.heap[l]?=some o->o.isCells=false->X c s (W.putObj l o')) (h0:I [] w) (a₁:α->Act) (bv:∀ (l:Nat) (x:α) (W:World) (K:Act->World->Prop),K (a₁ x) W -> assign.wpIn (F.inRound l) (n - 1 - 1) P (Exit.then K (λ_ _ _=>False)) { tmps:=(d.zip (m x)).foldl (λt (p,v)=>t.setIfInBounds p v) a.tmps,defers:=[] } W) (bk:∀ (l:Nat) (C:List α) (x:α) (W:World),I C W->y (C++[x])->body.wpIn (F.inRound l) (n - 1 - 1) P (Zge j w.heap.size I X (C++[x]) W) (a₁ x) W) (bn:∀ (D:Nat) (f:List α) (W:World),w.heap.size<=D->S f->I f W->W.heap[D]?=some (.deferred (some []))->Q .normal { a with defers:={ target:=.collected D,args:=#[] }::a.defers } W) (bm:∀ (D:Nat) (c:Code) (C:List α) (W:World),w.heap.size<=D->y C->X c C W->W.heap[D]?=some (.deferred (some []))->c.wpIn F n P Q { a with defers:={ target:=.collected D,args:=#[] }::a.defers } W) : (Code.rangeFunc g d assign body).wpIn F n P Q a w:=by
 refine wpIn_rangeFunc ?_;intro fn bs;rw [be];obtain ⟨B,M⟩:∃ B:LoopState->Option Code->Loop,B=λst pe=>{ state:=st,pending:=pe,fn,tmps:=a.tmps,params:=d,assign,body,defers:=w.heap.size }:=⟨_,rfl⟩
 obtain ⟨J,Z⟩:∃ J,(w.alloc (.deferred (some []))).alloc (.loop (B .ready none))=J:=⟨_,rfl⟩
 have bg:J.heap[w.heap.size+1]?=some (.loop (B .ready none)):=by rw [<- Z];have:=za (w.alloc (.deferred (some []))) (.loop (B .ready none));rwa [zk] at this
 have bp:J.heap[w.heap.size]?=some (.deferred (some [])):=by rw [<- Z];exact (Below.heap_alloc _ _ _ (by simp)).trans (za w _)
 have hb1:Below w.heap.size w J:=by rw [<- Z];exact ((zr _ w).alloc (zn _) _).alloc (by simp) _
 have bh:I [] J:=A.below _ _ _ h0 hb1;refine ⟨w.heap.size+1,[{ target:=.collected w.heap.size,args:=#[] }],J,{ target:=.fn (.func gf) lb,args:=#[.func (.yield (w.heap.size+1)) #[] #[]] },J,gf, #[.func (.yield (w.heap.size+1)) #[] #[]]++lb,J,?_,?_,?_,?_,λ_=>h1,?_⟩
 . rw [<- Z,M];exact run_enterLoop_outer _ _ _ _ _
 . simp only [resolve,hg];simp [go_sem]
 . intro f' bb;simp [Target.leads] at bb;subst bb;exact bt
 . simp [invoke,go_sem,eg]
 . refine (bc (w.heap.size+1) (λC W=>I C W/\W.heap[w.heap.size+1]?=some (.loop (B .ready none))/\W.heap[w.heap.size]?=some (.deferred (some []))) (λC W=>∃ c,X c C W/\W.heap[w.heap.size+1]?=some (.loop (B .done (some c)))/\W.heap[w.heap.size]?=some (.deferred (some []))) J (bf J hb1) ⟨λs W W' hs hb=>⟨A.below _ _ _ hs.1 hb,(hb.block _ (zF2.1 hs.2.1).1).trans hs.2.1,(hb.block _ (zF2.1 hs.2.2).1).trans hs.2.2⟩⟩
    ?_ ⟨bh,bg,bp⟩).mono ?_
   . rintro C x W ⟨Y,N,hk⟩ bz;have bA:w.heap.size+1<W.heap.size:=(zF2.1 N).1;have hy:=run_yield (P:=P) (args:=m x) N (by rw [M];exact bj x);rw [M] at hy;refine ⟨fn,_,assign,body,hy,roundIn_of_wpIn bs (bv _ x W _ ⟨_,run_beginRound N (by rw [M]),?_⟩)⟩;have bx:(W.putObj (w.heap.size+1) (.loop { B .ready none with state:=.busy })).heap[w.heap.size+1]?=some (.loop { B .ready none with state:=.busy }):=World.putObj_heap_same bA;have br:(W.putObj (w.heap.size+1) (.loop { B .ready none with state:=.busy })).heap[w.heap.size]?=some (.deferred (some [])):=(zQ (by omega)).trans hk;have bd:Z26 j W (W.putObj (w.heap.size+1) (.loop { B .ready none with state:=.busy })):=Z26.putObj _ _ (λh=>by have:=ba _ h;omega);refine wpIn_mono (bk _ C x _ (r _ _ _ _ _ Y (by omega) N rfl) bz) ?_;have fin:∀ (jump:Option Code) (G:World),KeepsFrom w.heap.size (W.putObj (w.heap.size+1) (.loop { B .ready none with state:=.busy })) G -> (Instr.endRound (w.heap.size+1) jump).run P G=.ok (.bool jump.isNone) (G.putObj (w.heap.size+1) (.loop (B (if jump.isNone then .ready else .done) jump))) /\ G.heap[w.heap.size+1]?=some (.loop { B .ready none with state:=.busy }) /\ (G.putObj (w.heap.size+1) (.loop (B (if jump.isNone then .ready else .done) jump))).heap[w.heap.size+1]?=some (.loop (B (if jump.isNone then .ready else .done) jump)) /\ (G.putObj (w.heap.size+1) (.loop (B (if jump.isNone then .ready else .done) jump))).heap[w.heap.size]?=some (.deferred (some [])):=λjump G L=>by
      have H:=L.same _ _ (by omega) bx rfl;have:=run_endRound (P:=P) jump H;rw [M] at this |-
      exact ⟨this,by rw [M] at H;exact H,World.putObj_heap_same (zF2.1 H).1,(zQ (by omega)).trans (L.same _ _ (zn _) br rfl)⟩
     rintro e a3 G V;cases e with
     | normal =>obtain ⟨L,bq,O⟩:=V;obtain ⟨R,H,T,U⟩:=fin none G L;exact ⟨_,_,R,.inl ⟨rfl,⟨r _ _ _ _ _ O (by omega) H rfl,T,U⟩,(bd.trans bq).trans (Z26.putObj _ _ (λh=>by have:=ba _ h;omega))⟩⟩
     | ret =>obtain ⟨L,O⟩:=V;obtain ⟨R,H,T,U⟩:=fin (some .ret) G L;exact ⟨_,_,R,.inr ⟨rfl,.ret,q _ _ _ _ _ _ O (by omega) H rfl,T,U⟩⟩
     | exit id =>obtain ⟨L,O⟩:=V;obtain ⟨R,H,T,U⟩:=fin (some (.exit id)) G L;exact ⟨_,_,R,.inr ⟨rfl,.exit id,q _ _ _ _ _ _ O (by omega) H rfl,T,U⟩⟩
     | goto t =>obtain ⟨L,O⟩:=V;obtain ⟨R,H,T,U⟩:=fin (some (.goto t)) G L;exact ⟨_,_,R,.inr ⟨rfl,.goto t,q _ _ _ _ _ _ O (by omega) H rfl,T,U⟩⟩
     | panic ch=>exact V.elim
     | outgrown=>exact V.elim
   . rintro e W2 ⟨⟨v,rfl⟩,(⟨f,hS,Y,N,hk⟩ | ⟨C,bu,c,Y,N,hk⟩)⟩
     . exact ⟨none,_,by have:=run_endLoop (P:=P) N (by rw [M];simp);rw [M] at this;exact this,bn _ f _ (zn _) hS (r _ _ _ _ _ Y (by omega) N rfl) ((zQ (by omega)).trans hk)⟩
     . exact ⟨some c,_,by have:=run_endLoop (P:=P) N (by rw [M];simp);rw [M] at this;exact this,bm _ c C _ (zn _) bu (q _ _ _ _ _ _ Y (by omega) N rfl) ((zQ (by omega)).trans hk)⟩
theorem Z87 {α:Type}{g:Operand}{f:Array Tmp}{assign body:Code}{Q:Exit->Act->World->Prop}{a:Act}{w:World} (bh:F.round=none) (h1:1<=n) {gf:Nat} {lb:Array Value} (hg:a.eval g=.func (.func gf) #[] lb) (bx:F.fn gf) (eg:∀ args w,(callFunc gf args).run P w=.ok (.enter gf args) w) {r:α->Array Value} {ok:World->Prop} {q:Nat->Prop} {S j:List α->Prop} (bf:SeqS F (n - 1) P gf lb r ok q S j) (bb:∀ b,q b->b<w.heap.size) (bj:∀ W',Below w.heap.size w W'->ok W') (bn:∀ x,(r x).size=f.size) (I:List α->World->Prop) (Y:Code->List α->World->Prop) (hI:Z9i I) (hIp:∀ s W l o o',I s W->w.heap.size<=l->W.heap[l]?=some o->o.isCells=false->I s (W.putObj l o')) (y:∀ c s W l o o',Y c s W->w.heap.size<=l->W.heap[l]?=some o->o.isCells=false->Y c s (W.putObj l o')) (h0:I [] w) (A:α->Act->World->Prop) (hAp:∀ x N W l o o',A x N W->W.heap[l]?=some o->o.isCells=false->A x N (W.putObj l o')) (bB:∀ (l:Nat) (C:List α) (x:α) (W:World) (K:Act->World->Prop),w.heap.size<=W.heap.size->j (C++[x])->(∀ N W',Below W.heap.size W W'->A x N W'->K N W') -> assign.wpIn (F.inRound l) (n - 1 - 1) P (Exit.then K (λ_ _ _=>False)) { tmps:=(f.zip (r x)).foldl (λt (p,v)=>t.setIfInBounds p v) a.tmps,defers:=[] } W) (bp:∀ (l:Nat) (C:List α) (x:α) (N:Act) (W:World),I C W->A x N W->j (C++[x])->body.wpIn (F.inRound l) (n - 1 - 1) P (Zge q w.heap.size I Y (C++[x]) W) N W) (br:∀ (D:Nat) (m:List α) (W:World),w.heap.size<=D->S m->I m W->W.heap[D]?=some (.deferred (some []))->Q .normal { a with defers:={ target:=.collected D,args:=#[] }::a.defers } W) (bq:∀ (D:Nat) (c:Code) (C:List α) (W:World),w.heap.size<=D->j C->Y c C W->W.heap[D]?=some (.deferred (some []))->c.wpIn F n P Q { a with defers:={ target:=.collected D,args:=#[] }::a.defers } W) : (Code.rangeFunc g f assign body).wpIn F n P Q a w:=by
 refine wpIn_rangeFunc ?_;intro fn bv;rw [bh];obtain ⟨B,M⟩:∃ B:LoopState->Option Code->Loop,B=λst pe=>{ state:=st,pending:=pe,fn,tmps:=a.tmps,params:=f,assign,body,defers:=w.heap.size }:=⟨_,rfl⟩
 obtain ⟨J,d⟩:∃ J,(w.alloc (.deferred (some []))).alloc (.loop (B .ready none))=J:=⟨_,rfl⟩
 have bk:J.heap[w.heap.size+1]?=some (.loop (B .ready none)):=by rw [<- d];have:=za (w.alloc (.deferred (some []))) (.loop (B .ready none));rwa [zk] at this
 have bs:J.heap[w.heap.size]?=some (.deferred (some [])):=by rw [<- d];exact (Below.heap_alloc _ _ _ (by simp)).trans (za w _)
 have bc:Below w.heap.size w J:=by rw [<- d];exact ((zr _ w).alloc (zn _) _).alloc (by simp) _
 have bm:I [] J:=hI.below _ _ _ h0 bc;refine ⟨w.heap.size+1,[{ target:=.collected w.heap.size,args:=#[] }],J,{ target:=.fn (.func gf) lb,args:=#[.func (.yield (w.heap.size+1)) #[] #[]] },J,gf, #[.func (.yield (w.heap.size+1)) #[] #[]]++lb,J,?_,?_,?_,?_,λ_=>h1,?_⟩
 . rw [<- d,M];exact run_enterLoop_outer _ _ _ _ _
 . simp only [resolve,hg];simp [go_sem]
 . intro f' bd;simp [Target.leads] at bd;subst bd;exact bx
 . simp [invoke,go_sem,eg]
 . refine (bf (w.heap.size+1) (λC W=>I C W/\W.heap[w.heap.size+1]?=some (.loop (B .ready none))/\W.heap[w.heap.size]?=some (.deferred (some []))) (λC W=>∃ c,Y c C W/\W.heap[w.heap.size+1]?=some (.loop (B .done (some c)))/\W.heap[w.heap.size]?=some (.deferred (some []))) J (bj J bc) ⟨λs W W' hs hb=>⟨hI.below _ _ _ hs.1 hb,(hb.block _ (zF2.1 hs.2.1).1).trans hs.2.1,(hb.block _ (zF2.1 hs.2.2).1).trans hs.2.2⟩⟩
    ?_ ⟨bm,bk,bs⟩).mono ?_
   . rintro C x W ⟨Z,O,hk⟩ be;have bD:w.heap.size+1<W.heap.size:=(zF2.1 O).1;have hy:=run_yield (P:=P) (args:=r x) O (by rw [M];exact bn x);rw [M] at hy;refine ⟨fn,_,assign,body,hy,roundIn_of_wpIn bv (bB _ C x W _ (by omega) be λN W' hb' hA'=>?_)⟩;have bE:=hb'.size;have ba:W'.heap[w.heap.size+1]?=some (.loop (B .ready none)):=(hb'.block _ bD).trans O;have bA:W'.heap[w.heap.size]?=some (.deferred (some [])):=(hb'.block _ (by omega)).trans hk;refine ⟨_,run_beginRound ba (by rw [M]),?_⟩;have bC:(W'.putObj (w.heap.size+1) (.loop { B .ready none with state:=.busy })).heap[w.heap.size+1]?=some (.loop { B .ready none with state:=.busy }):=World.putObj_heap_same (by omega);have bu:(W'.putObj (w.heap.size+1) (.loop { B .ready none with state:=.busy })).heap[w.heap.size]?=some (.deferred (some [])):=(zQ (by omega)).trans bA;have bg:Z26 q W (W'.putObj (w.heap.size+1) (.loop { B .ready none with state:=.busy })):=(Z26.below hb' (λb hb=>by have:=bb b hb;omega)).trans (Z26.putObj _ _ (λh=>by have:=bb _ h;omega));refine wpIn_mono (bp _ C x N _ (hIp _ _ _ _ _ (hI.below _ _ _ Z hb') (by omega) ba rfl) (hAp _ _ _ _ _ _ hA' ba rfl) be) ?_;have fin:∀ (jump:Option Code) (G:World),KeepsFrom w.heap.size (W'.putObj (w.heap.size+1) (.loop { B .ready none with state:=.busy })) G -> (Instr.endRound (w.heap.size+1) jump).run P G=.ok (.bool jump.isNone) (G.putObj (w.heap.size+1) (.loop (B (if jump.isNone then .ready else .done) jump))) /\ G.heap[w.heap.size+1]?=some (.loop { B .ready none with state:=.busy }) /\ (G.putObj (w.heap.size+1) (.loop (B (if jump.isNone then .ready else .done) jump))).heap[w.heap.size+1]?=some (.loop (B (if jump.isNone then .ready else .done) jump)) /\ (G.putObj (w.heap.size+1) (.loop (B (if jump.isNone then .ready else .done) jump))).heap[w.heap.size]?=some (.deferred (some [])):=λjump G L=>by
      have H:=L.same _ _ (by omega) bC rfl;have:=run_endRound (P:=P) jump H;rw [M] at this |-
      exact ⟨this,by rw [M] at H;exact H,World.putObj_heap_same (zF2.1 H).1,(zQ (by omega)).trans (L.same _ _ (zn _) bu rfl)⟩
     rintro e a3 G X;cases e with
     | normal =>obtain ⟨L,bt,R⟩:=X;obtain ⟨T,H,U,V⟩:=fin none G L;exact ⟨_,_,T,.inl ⟨rfl,⟨hIp _ _ _ _ _ R (by omega) H rfl,U,V⟩,(bg.trans bt).trans (Z26.putObj _ _ (λh=>by have:=bb _ h;omega))⟩⟩
     | ret =>obtain ⟨L,R⟩:=X;obtain ⟨T,H,U,V⟩:=fin (some .ret) G L;exact ⟨_,_,T,.inr ⟨rfl,.ret,y _ _ _ _ _ _ R (by omega) H rfl,U,V⟩⟩
     | exit id =>obtain ⟨L,R⟩:=X;obtain ⟨T,H,U,V⟩:=fin (some (.exit id)) G L;exact ⟨_,_,T,.inr ⟨rfl,.exit id,y _ _ _ _ _ _ R (by omega) H rfl,U,V⟩⟩
     | goto t =>obtain ⟨L,R⟩:=X;obtain ⟨T,H,U,V⟩:=fin (some (.goto t)) G L;exact ⟨_,_,T,.inr ⟨rfl,.goto t,y _ _ _ _ _ _ R (by omega) H rfl,U,V⟩⟩
     | panic ch=>exact X.elim
     | outgrown=>exact X.elim
   . rintro e W2 ⟨⟨v,rfl⟩,(⟨m,hS,Z,O,hk⟩ | ⟨C,bz,c,Z,O,hk⟩)⟩
     . exact ⟨none,_,by have:=run_endLoop (P:=P) O (by rw [M];simp);rw [M] at this;exact this,br _ m _ (zn _) hS (hIp _ _ _ _ _ Z (by omega) O rfl) ((zQ (by omega)).trans hk)⟩
     . exact ⟨some c,_,by have:=run_endLoop (P:=P) O (by rw [M];simp);rw [M] at this;exact this,bq _ c C _ (zn _) bz (y _ _ _ _ _ _ Z (by omega) O rfl) ((zQ (by omega)).trans hk)⟩
end
section
open Go.RowKit Lx Px Qx
theorem Z6v {F:Fence}{n:Nat}{P:Program}{D:Array Oper}{rest:List Oper}{op:Oper}{a:Act}{w:World}{Q:Exit->Act->World->Prop}(G:op.guard=none)(B:TypeId)(x:Operand)(C:op.op=.load B x) (g o:Nat) (M:a.eval x=.pointer (some ⟨g,o,none⟩)) (cs:Array Value) (d:TypeDesc) (J:∀ j v,cs[j]?=some v->w.cell? ⟨g,o+j,none⟩=some v) (O:P.underlying B=some d) (H:(match d with | .struct _ | .array _ _=>true | _=>false)=true) (I:(P.info? B).map (·.size)=some cs.size) (h:wpListIn F n P D Q rest (a.put op.dst (.agg cs)) w):wpListIn F n P D Q (op::rest) a w:=by
 refine wpListIn_plain G λK hK=>?_;have N:=Z1h w g o B cs d J O H I;unfold Oper.wpIn;refine ⟨by simp [Oper.about,C],?_⟩;rw [Oper.semAt_plain F _ _ (by rw [C];intro c L;cases L)];unfold execOp;simp only [C,M,Instr.loadAt,Instr.sureAddr,Sem.run_bind,Sem.run_pure,Result.andThen_ok,N];exact hK _ _ h
theorem Z3z {F:Fence}{n:Nat}{P:Program}{G:Array Oper}{rest:List Oper}{op:Oper}{a:Act}{w:World}{Q:Exit->Act->World->Prop}(H:op.guard=none)(D:TypeId)(x y:Operand)(B:op.op=.store D x y) (g:Nat) (cells:Array Value) (O:a.eval x=.pointer (some ⟨g,0,none⟩)) (L:a.eval y=.agg cells) (t:TypeId) (C:Array Value) (I:w.heap[g]?=some (.cells C t (0,0))) (M:(P.info? D).map (·.size)=some cells.size) (J:C.size=cells.size) (R:cells.all (·.oneCell')=true) (h:wpListIn F n P G Q rest (a.put op.dst undef) (w.setRow g cells)):wpListIn F n P G Q (op::rest) a w:=by
 refine wpListIn_plain H λK hK=>?_;unfold Oper.wpIn;refine ⟨by simp [Oper.about,B],?_⟩;rw [Oper.semAt_plain F _ _ (by rw [B];intro c N;cases N)];unfold execOp;simp only [B,O,L,Instr.storeAt,Instr.sureAddr,Sem.run_bind,Sem.run_pure,Result.andThen_ok,run_storeVar_row w g t D C cells I M J R];exact hK _ _ h
theorem Z34 {F:Fence}{n:Nat}{B:Array Oper}{rest:List Oper}{op:Oper}{a:Act}{w:World}{Q:Exit->Act->World->Prop}(D:op.guard=none)(x:Operand)(G:op.op=.load 81 x) (g o:Nat) (I:a.eval x=.pointer (some ⟨g,o,none⟩)) (cs:Array Value) (C:cs.size=16) (H:∀ j v,cs[j]?=some v->w.cell? ⟨g,o+j,none⟩=some v) (h:wpListIn F n prog B Q rest (a.put op.dst (.agg cs)) w):wpListIn F n prog B Q (op::rest) a w := Z6v D 81 x G g o I cs _ H underlying81 rfl (by rw [Tryz.infoRateSz,C]) h
theorem Z1z {F:Fence}{n:Nat}{B:Array Oper}{rest:List Oper}{op:Oper}{a:Act}{w:World}{Q:Exit->Act->World->Prop}(G:op.guard=none)(x:Operand)(H:op.op=.load 81 x) (g:Nat) (I:a.eval x=.pointer (some ⟨g,0,none⟩)) (cs:Array Value) (C:cs.size=16) (D:w.heap[g]?=some (.cells cs 81 (0,0))) (h:wpListIn F n prog B Q rest (a.put op.dst (.agg cs)) w):wpListIn F n prog B Q (op::rest) a w := Z34 G x H g 0 I cs C (λj v hv=>by rw [Nat.zero_add,zH D,hv]) h
theorem Z2i {F:Fence}{n:Nat}{C:Array Oper}{rest:List Oper}{op:Oper}{a:Act}{w:World}{Q:Exit->Act->World->Prop}(G:op.guard=none)(x y:Operand)(H:op.op=.store 81 x y) (B cs:Array Value) (J:a.eval x=.pointer (some ⟨w.heap.size,0,none⟩)) (I:a.eval y=.agg cs) (M:B.size=16) (D:cs.size=16) (L:cs.all (·.oneCell')=true) (h:wpListIn F n prog C Q rest (a.put op.dst undef) (w.alloc (.cells cs 81))):wpListIn F n prog C Q (op::rest) a (w.alloc (.cells B 81)):=by
 refine Z3z G 81 x y H w.heap.size cs J I _ B (za w _) (by rw [Tryz.infoRateSz,D]) (by omega) L ?_;rw [Z2D];exact h
theorem Z0D {F:Fence}{n:Nat}{C:Array Oper}{rest:List Oper}{op:Oper}{a:Act}{w:World}{Q:Exit->Act->World->Prop}(G:op.guard=none)(x y:Operand)(I:op.op=.store 81 x y) (g:Nat) (B cs:Array Value) (L:a.eval x=.pointer (some ⟨g,0,none⟩)) (J:a.eval y=.agg cs) (H:w.heap[g]?=some (.cells B 81 (0,0))) (N:B.size=16) (D:cs.size=16) (M:cs.all (·.oneCell')=true) (h:wpListIn F n prog C Q rest (a.put op.dst undef) (w.setRow g cs)):wpListIn F n prog C Q (op::rest) a w := Z3z G 81 x y I g cs L J _ B H (by rw [Tryz.infoRateSz,D]) (by omega) M h
theorem Z44 {F:Fence}{n:Nat}{C:Array Oper}{rest:List Oper}{op:Oper}{a:Act}{w:World}{Q:Exit->Act->World->Prop}(hw:Region.wanted op (yielded C a.tmps)=true)(x:Operand)(B:op.op=.load 81 x) (g:Nat) (I:a.eval x=.pointer (some ⟨g,0,none⟩)) (cs:Array Value) (D:cs.size=16) (G:w.heap[g]?=some (.cells cs 81 (0,0))) (h:wpListIn F n prog C Q rest (a.put op.dst (.agg cs)) w):wpListIn F n prog C Q (op::rest) a w:=by
 refine BigFrame.wpListIn_want hw λK hK=>?_;have J:=Z1h (P:=prog) w g 0 81 cs _ (λj v hv=>by rw [Nat.zero_add,zH G,hv]) underlying81 rfl (by rw [Tryz.infoRateSz,D]);unfold Oper.wpIn;refine ⟨by simp [Oper.about,B],?_⟩;rw [Oper.semAt_plain F _ _ (by rw [B];intro c H;cases H)];unfold execOp;simp only [B,I,Instr.loadAt,Instr.sureAddr,Sem.run_bind,Sem.run_pure,Result.andThen_ok,J];exact hK _ _ h
theorem Z05 (w:World)(g:Nat)(cs:Array Value)(k:Nat)(h:k≠g):(w.setRow g cs).heap[k]?=w.heap[k]?:=by
 unfold World.setRow;rw [zM,zf (λe=>h e.symm)]
theorem Z4j (w:World)(g:Nat)(cs:Array Value):(w.setRow g cs).heap.size=w.heap.size:=by unfold World.setRow;simp
theorem Z3A {B:Nat}{w w':World}(h:Below B w w'){g:Nat}(C:B<=g)(cs:Array Value):Below B w (w'.setRow g cs) := h.trans ⟨rfl,rfl,rfl,by rw [Z4j];exact zn _,λi hi=>Z05 w' g cs i (by omega)⟩
def RmsAt (w:World)(B:Nat)(g o:Nat)(ms:List Rm):Prop := ∀ k (h:k<ms.length),(∀ j u,(ms[k].cells)[j]?=some u->w.cell? ⟨g,o+k*16+j,none⟩=some u)/\FoV w B ms[k].wv ms[k].r.wl/\FoV w B ms[k].pv ms[k].r.pl
def RmsV (w:World)(B:Nat)(v:Value)(ms:List Rm):Prop := ∃ A c,v=slice A ms.length c/\(ms≠[]->∃ g o,A=some ⟨g,o,none⟩/\g<B/\RmsAt w B g o ms)
theorem ZqH {w:World}{B:Nat}{v:Value}{rs:List Rt}(h:RtsV w B v rs):∃ ms:List Rm,ms.map (·.r)=rs/\RmsV w B v ms:=by
 obtain ⟨A,c,rfl,_⟩:=id h;by_cases h0:rs=[]
 . subst h0;exact ⟨[],rfl,A,c,rfl,λx=>absurd rfl x⟩
 . have F:0<rs.length:=List.length_pos_iff.2 h0;obtain ⟨g,o,_,_,_,_,rfl,C,_⟩:=Z4s h F;have I:∀ k:Fin rs.length,∃ p:Value × Value,(∀ j u,(Z3G rs[k] p.1 p.2)[j]?=some u->w.cell? ⟨g,o+k*16+j,none⟩=some u)/\FoV w B p.1 rs[k].wl/\FoV w B p.2 rs[k].pl:=by
    intro k;obtain ⟨S,N,R,T,M,U,e,_,H,L,G⟩:=Z4s h k.2;injection e with e
    injection e with e1 e2
    subst e1 e2;exact ⟨⟨_,_⟩,G,H,L⟩
   obtain ⟨f,D⟩:=Classical.skolem.1 I;refine ⟨List.ofFn λk:Fin rs.length=>⟨rs[k],(f k).1,(f k).2⟩,?_,some ⟨g,o,none⟩,c,by rw [List.length_ofFn],λ_=>⟨g,o,rfl,C,λk hk=>?_⟩⟩
   . apply List.ext_getElem
     . simp
     . intro i V O;simp
   . have J:k<rs.length:=by simpa using hk
     have:=D ⟨k,J⟩;rw [List.getElem_ofFn];exact this
theorem Zmk {w:World}{B n c k:Nat}{A:Option Addr}{C:List Rm}(h:RmsV w B (slice A n c) C)(hk:k<C.length):∃ (g o:Nat),A=some ⟨g,o,none⟩/\g<B /\ (∀ j u,(C[k].cells)[j]?=some u->w.cell? ⟨g,o+k*16+j,none⟩=some u)/\FoV w B C[k].wv C[k].r.wl/\FoV w B C[k].pv C[k].r.pl:=by
 obtain ⟨M,c',e,H⟩:=h;injection e with e1 _ e3
 subst e1;obtain ⟨g,o,F,D,I⟩:=H (by intro e;rw [e] at hk;simp at hk);obtain ⟨L,G,J⟩:=I k hk;exact ⟨g,o,F,D,L,G,J⟩
theorem FoV.keepS {w w':World}{B:Nat}{v:Value}{f:Fo}(h:FoV w B v f)(hb:∀ b,b<B->w'.heap[b]?=w.heap[b]?):FoV w' B v f:=by
 obtain ⟨A,c,e,C⟩:=h;exact ⟨A,c,e,FoAt.keep (λp hp=>World.cell?_of_block (hb p.block hp)) f A 0 C⟩
theorem RmsV.keepS {w w':World}{B:Nat}{v:Value}{D:List Rm}(h:RmsV w B v D)(hb:∀ b,b<B->w'.heap[b]?=w.heap[b]?):RmsV w' B v D:=by
 obtain ⟨A,c,e,H⟩:=h;refine ⟨A,c,e,λh0=>?_⟩;obtain ⟨g,o,G,C,I⟩:=H h0;refine ⟨g,o,G,C,λk hk=>?_⟩;obtain ⟨L,F,J⟩:=I k hk;exact ⟨λj u hj=>(World.cell?_of_block (a:=⟨g,o+k*16+j,none⟩) (hb g C)).trans (L j u hj),F.keepS hb,J.keepS hb⟩
structure ThB (B0 lb ab nb:Nat) (v:Value) (ms:List Rm) (a:Qx.Ask) (night:Int) (W:World):Prop where
 l:W.heap[lb]?=some (.cells #[v] 23 (0,0))
 a:W.heap[ab]?=some (.cells #[vI a.kind,vI a.fr,vI a.un,vI a.pers] 25 (0,0))
 n:W.heap[nb]?=some (.cells #[vI night] 3 (0,0))
 m:RmsV W B0 v ms
 z:B0<=lb
def Ts (B0 lb ab nb:Nat):Nat->Prop:=λb=>b<B0\/b=lb\/b=ab\/b=nb
theorem ThB.keep {D lb C B:Nat}{v:Value}{G:List Rm}{a:Qx.Ask}{H:Int}{W F:World}(h:ThB D lb C B v G a H W)(hk:Z26 (Ts D lb C B) W F):ThB D lb C B v G a H F := ⟨(hk lb (.inr (.inl rfl))).trans h.l,(hk C (.inr (.inr (.inl rfl)))).trans h.a,(hk B (.inr (.inr (.inr rfl)))).trans h.n,h.m.keepS (λb hb=>hk b (.inl hb)),h.z⟩
theorem ThB.ts {B lb D C:Nat}{v:Value}{F:List Rm}{a:Qx.Ask}{G:Int}{W:World}(h:ThB B lb D C v F a G W):∀ b,Ts B lb D C b->b<W.heap.size:=by
 rintro b (hb | rfl | rfl | rfl)
 . have:=h.z;have:=(zF2.1 h.l).1;omega
 . exact (zF2.1 h.l).1
 . exact (zF2.1 h.a).1
 . exact (zF2.1 h.n).1
theorem ThB.on {B lb G F:Nat}{v:Value}{D:List Rm}{a:Qx.Ask}{H:Int}{W C:World}(h:ThB B lb G F v D a H W)(hb:Below W.heap.size W C):ThB B lb G F v D a H C := h.keep (Z26.below hb h.ts)
end
section
open Go.RowKit Lx Px Qx
theorem Zr0 {w:World}{B n c k:Nat}{A:Option Addr}{rs:List Rt}(h:RtsV w B (slice A n c) rs)(hk:k<rs.length):∃ g o,A=some ⟨g,o,none⟩/\w.cell? ⟨g,o+k*16,none⟩=some (vI rs[k].id):=by
 obtain ⟨g,o,F,G,D,H,e,_,_,_,C⟩:=Z4s h hk;exact ⟨g,o,e,C 0 _ rfl⟩
theorem ids_in {rs:List Rt}{k m:Nat}(B:m<k)(hk:k<rs.length)(h:rs[m].id=rs[k].id):rs[k].id∈(rs.take k).map Rt.id:=by
 rw [<- h];exact List.mem_map.2 ⟨rs[m],List.mem_take_iff_getElem.2 ⟨m,by omega,rfl⟩,rfl⟩
theorem Zsf {rs:List Rt}{k:Nat}(hk:k<rs.length)(h:∀ m (C:m<k),rs[m].id≠rs[k].id):¬ rs[k].id∈(rs.take k).map Rt.id:=by
 intro B;obtain ⟨r,D,e⟩:=List.mem_map.1 B;obtain ⟨m,C,rfl⟩:=List.mem_take_iff_getElem.1 D;exact h m (by omega) e
theorem Z51 (rs:List Rt)(v:Value)(w:World)(O:RtsV w w.heap.size v rs):Calls prog 44 #[v] w λe w'=>e=.returned (.bool (useB rs))/\Below w.heap.size w w':=by
 obtain ⟨A,c,rfl,_⟩:=id O;by_cases hl:100<rs.length
 . have L:useB rs=false:=by simp [useB];omega
   have d:decide ((rs.length:Int) > (100:Int))=true:=by simp;omega
   have d':decide ((100:Int)<rs.length)=true:=by simp;omega
   have F:=zh L;clear L O;go_enter func44,ntmps44;go_wp2_with fail;go_ret;rw [F.o];exact ⟨rfl,zr _ _⟩
 . have d:decide ((rs.length:Int) > (100:Int))=false:=by simp;omega
   have d':decide ((100:Int)<rs.length)=false:=by simp;omega
   have Y:=zh O;clear O;go_enter func44,ntmps44;go_wp2_with fail;go_loopw [3] (λi wr=>∃ k:Nat,k<=rs.length/\i=vI k/\Below w.heap.size w wr/\Zmx rs k) (λi _=>rs.length - (intOf i).toNat)
   case atStart=>exact ⟨0,by omega,rfl,zr _ _,λj h hj=>absurd hj (by omega),by simp⟩
   case round =>
    obtain ⟨k,hk,rfl,hb,hg⟩:=hrel;have M:=zh hb;have HG:=zh hg;clear hb hg;by_cases hlt:k<rs.length
    . obtain ⟨g,o,WA,PA,wk,pc,rfl,bt,N,R,U⟩:=Z4s (Y.o.on M.o) hlt;have be:=M.o.size;have f:Z17 rs[k]≠0->useB rs=false:=Zgk hlt;have X:rs[k].id∈(rs.take k).map Rt.id->useB rs=false:=Zr1 hlt;have S:=Zdc HG.o hlt;have ba:=λm (hm:m<k)=>ids_in hm hlt;have hout:=Zsf hlt;have bf:=λW (hb:Below w.heap.size w W)=>Zr0 (Y.o.on hb) hlt;obtain ⟨r,T⟩:∃ r,r=rs[k]:=⟨_,rfl⟩
      rw [<- T] at f X S U N R;have HC:=zh (Z5B U);have dk:decide ((k:Int)<rs.length)=true:=by simpa using hlt
      have V:=Z9h r (slice WA (flen r.wl) wk) (slice PA (flen r.pl) pc) wr ((N.up be)) ((R.up be));rw [rtV] at V;obtain ⟨F1,F2,br,bn,bp,bh,bj,bg,bq,q⟩:=zh10 N R f X S V ba hout bf T;clear N R f X S V ba hout bf T U;go_wp2_with (with_reducible refine Z2s rfl _ rfl g (o+k*16) rfl _ rfl HC.o ?_);refine bh.o.mono ?_;rintro e w3 ⟨rfl,bc⟩;have bd:=zh (Z00 M.o bc);clear bc M HC;by_cases he:Z17 r=0
      . have b0:(Z17 r==0)=true:=by simpa using he
        have HE:=zh he;clear he;go_wp2_with fail;go_loopw [6] (λj wr=>∃ m:Nat,m<=k/\j=vI m/\Below w.heap.size w wr/\∀ x (B:x<m) (hx2:x<rs.length),rs[x].id≠rs[k].id) (λj _=>k - (intOf j).toNat)
        case atStart=>exact ⟨0,by omega,rfl,bd.o,λx B=>absurd B (by omega)⟩
        case round =>
         obtain ⟨m,hm,rfl,D,C⟩:=hrel;by_cases hmk:m<k
         . have dm:decide ((m:Int)<k)=true:=by simpa using hmk
           have bk:m<rs.length:=by omega
           obtain ⟨g1,o1,I,c1⟩:=Zr0 (Y.o.on D) bk;obtain ⟨g2,o2,H,c2⟩:=bq.o _ D;injection I with I
           injection I with I e1'
           injection H with H
           injection H with H e2'
           subst I e1' H e2';have i1:(m:Int)<rs.length:=by omega
           have i2:(k:Int)<rs.length:=by omega
           obtain ⟨x,B⟩:∃ x,x=rs[m].id:=⟨_,rfl⟩
           obtain ⟨y,G⟩:∃ y,y=rs[k].id:=⟨_,rfl⟩
           rw [<- B] at c1;rw [<- G] at c2;by_cases hxy:x=y
           . have dx:(x==y)=true:=by simpa using hxy
             have F:=zh (bn.o (by rw [q.o];exact bj.o m hmk (by rw [<- B,<- G];exact hxy)));obtain ⟨J,HNE,HX,HY⟩:=zh4 D C B G;clear D C B G hxy;go_wp2_with fail;go_region;go_wp2_with fail;go_ret;rw [F.o];exact ⟨rfl,J.o.drew⟩
           . have dx:(x==y)=false:=by simpa using hxy
             have bb:∀ z (hz:z<m+1) (l:z<rs.length),rs[z].id≠rs[k].id:=by
              intro z hz l;by_cases hzm:z=m
              . subst hzm;rw [<- B,<- G];exact hxy
              . exact C z (by omega) l
             obtain ⟨bs,J,HNE,HX,HY⟩:=zh5 bb D C B G;clear bb D C B G hxy;go_wp2_with fail;go_region;go_wp2_with fail;go_roundw
             case rel=>exact ⟨m+1,by omega,by go_num,J.o.drew,bs.o⟩
             case measure=>simp [intOf];omega
         . have Z:m=k:=by omega
           subst Z;have dm:decide ((m:Int)<m)=false:=by simp
           have bm:=zh (bp.o HE.o (by rw [q.o];exact bg.o (λx B=>C x B (by omega))));have J:=zh D;have HNE:=zh C;clear D C;go_wp2_with fail;go_roundw
           case rel=>exact ⟨m+1,by omega,by go_num,J.o,bm.o⟩
           case measure=>simp [intOf];omega
      . have b0:(Z17 r==0)=false:=by simpa using he
        have F:=zh (br.o he);clear he;go_wp2_with fail;go_ret;rw [F.o];exact ⟨rfl,bd.o⟩
    . have Z:k=rs.length:=by omega
      subst Z;have L:=Zgj HG.o (by omega);have dk:decide ((rs.length:Int)<rs.length)=false:=by simp
      have F:=zh L;clear L;go_wp2_with fail;go_ret;rw [F.o];exact ⟨rfl,M.o⟩
theorem Zmm {w:World}{B n c k:Nat}{A:Option Addr}{rs:List Rt}(h:RtsV w B (slice A n c) rs)(hk:k<rs.length):∃ g o F G D H,A=some ⟨g,o,none⟩/\FoV w B (slice F (flen rs[k].wl) D) rs[k].wl/\FoV w B (slice G (flen rs[k].pl) H) rs[k].pl /\ w.cell? ⟨g,o+k*16+10,none⟩=some (vI rs[k].wo)/\w.cell? ⟨g,o+k*16+11,none⟩=some (vI rs[k].wn)/\w.cell? ⟨g,o+k*16+12,none⟩=some (slice F (flen rs[k].wl) D) /\ w.cell? ⟨g,o+k*16+13,none⟩=some (vI rs[k].po)/\w.cell? ⟨g,o+k*16+14,none⟩=some (vI rs[k].pn)/\w.cell? ⟨g,o+k*16+15,none⟩=some (slice G (flen rs[k].pl) H):=by
 obtain ⟨g,o,F,G,D,H,e,_,I,J,C⟩:=Z4s h hk;exact ⟨g,o,F,G,D,H,e,I,J,C 10 _ rfl,C 11 _ rfl,C 12 _ rfl,C 13 _ rfl,C 14 _ rfl,C 15 _ rfl⟩
theorem Zai (rs:List Rt)(v:Value)(w:World)(C:RtsV w w.heap.size v rs):Calls prog 21 #[v] w λe w'=>(∃ b,e=.returned (.bool b))/\Below w.heap.size w w':=by
 obtain ⟨A,c,rfl,_⟩:=id C;by_cases hl:105<rs.length
 . have d:decide ((rs.length:Int) > (105:Int))=true:=by simp;omega
   have d':decide ((105:Int)<rs.length)=true:=by simp;omega
   clear C;go_enter func21,ntmps21;go_wp2_with fail;go_ret;exact ⟨⟨_,rfl⟩,zr _ _⟩
 . have d:decide ((rs.length:Int) > (105:Int))=false:=by simp;omega
   have d':decide ((105:Int)<rs.length)=false:=by simp;omega
   have q:=zh C;clear C;go_enter func21,ntmps21;go_wp2_with fail;go_loopw [3] (λi wr=>∃ k:Nat,k<=rs.length/\i=vI k/\Below w.heap.size w wr) (λi _=>rs.length - (intOf i).toNat)
   case atStart=>exact ⟨0,by omega,rfl,zr _ _⟩
   case round =>
    obtain ⟨k,hk,rfl,hb⟩:=hrel;by_cases hlt:k<rs.length
    . obtain ⟨g,o,WA,m,y,pc,rfl,M,l,x0,x1,x2,H,F,I⟩:=Zmm (q.o.on hb) hlt;have Z:=hb.size;have T:=Zgd rs[k].wo rs[k].wn rs[k].wl (slice WA (flen rs[k].wl) y) wr (M.up Z);have N:=λW (hb2:Below wr.heap.size wr W)=>(hb2.cell (p:=⟨g,o+k*16+13,none⟩) (World.block_lt_of_cell? _ _ H)).trans H;have S:=λW (hb2:Below wr.heap.size wr W)=>(hb2.cell (p:=⟨g,o+k*16+14,none⟩) (World.block_lt_of_cell? _ _ F)).trans F;have R:=λW (hb2:Below wr.heap.size wr W)=>(hb2.cell (p:=⟨g,o+k*16+15,none⟩) (World.block_lt_of_cell? _ _ I)).trans I;have Y:=λW (hb2:Below wr.heap.size wr W)=>Zgd rs[k].po rs[k].pn rs[k].pl (slice m (flen rs[k].pl) pc) W ((l.up Z).on hb2 |>.up hb2.size);have dk:decide ((k:Int)<rs.length)=true:=by simpa using hlt
      have i2:(k:Int)<rs.length:=by omega
      generalize decide (0<=lftE rs[k].wl 300)=b1 at *
      generalize decide (0<=lftE rs[k].pl 300)=b2 at *
      generalize rs[k].wo=wo at *
      generalize rs[k].wn=wn at *
      generalize rs[k].po=po at *
      generalize rs[k].pn=pn at *
      generalize flen rs[k].wl=wl at *
      generalize flen rs[k].pl=pl at *
      obtain ⟨U,O,J,f,j,D⟩:=zh6 T N S R Y hb;clear T N S R Y hb M l;go_wp2_with fail;refine U.o.mono ?_;rintro e w3 ⟨rfl,B⟩;have H:=O.o _ B;have F:=J.o _ B;have I:=f.o _ B;have G:=zh (Z00 D.o B);have L:=zh (j.o _ B);clear B U j O J f D x0 x1 x2;cases b1 with
      | false =>go_wp2_with fail;go_ret;exact ⟨⟨_,rfl⟩,G.o⟩
      | true =>
       go_wp2_with fail;refine (L.o).mono ?_;rintro e w4 ⟨rfl,X⟩;have V:=zh (Z00 G.o X);clear X G L;cases b2 with
       | false =>go_wp2_with fail;go_ret;exact ⟨⟨_,rfl⟩,V.o⟩
       | true =>
        go_wp2_with fail;go_roundw
        case rel=>exact ⟨k+1,by omega,by go_num,V.o⟩
        case measure=>simp [intOf];omega
    . have r:k=rs.length:=by omega
      subst r;have dk:decide ((rs.length:Int)<rs.length)=false:=by simp
      have D:=zh hb;clear hb;go_wp2_with fail;go_ret;exact ⟨⟨_,rfl⟩,D.o⟩
end
