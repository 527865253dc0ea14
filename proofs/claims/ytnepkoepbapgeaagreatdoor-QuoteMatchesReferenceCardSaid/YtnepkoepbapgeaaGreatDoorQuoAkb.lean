import Derived.Test.YtnepkoepbapgeaaGreatDoorQuoG4
import Derived.Test.YtnepkoepbapgeaaGreatDoorQuoRt2
import Derived.Test.YtnepkoepbapgeaaGreatDoorQuoSay
namespace Go.Proofs.YtnepkoepbapgeaaGreatDoor
open _root_.Go.Proofs.Tryz
open Value (int slice)
open IntKind (i64)
set_option maxHeartbeats 8000000
set_option maxRecDepth 100000
section
open Go.RowKit Lx Px Qx
theorem Z7t (n:Int)(w:World)(C:0<=n)(B:n<=366):Calls prog 226 #[int i64 n] w λe w'=>e=.returned (.tuple #[int i64 (wday n),int i64 0])/\w=w':=by
 have F:decide (n<0)=false:=by simpa using C
 have D:decide (n > 366)=false:=by simpa using B
 have G:decide (366<n)=false:=by simpa using B
 go_enter func226,ntmps226;go_wp2_with fail;go_ret2;exact ⟨rfl,rfl⟩
theorem Zcb (a:Qx.Ask)(n:Int)(w:World)(H:a.okB=true)(U:a.fr<=n)(Y:n<a.un):Calls prog 171 #[askV a,int i64 n] w λe w'=>e=.returned (vsV (Z0w a n))/\Below w.heap.size w w':=by
 obtain ⟨G,fr,D,F⟩:=a;obtain ⟨N,Z,g,V,L,R,M,S⟩:=Z1u H;dsimp only at U Y N Z g V L R M S;have hw:=λW=>Z7t n W (by omega) (by omega);have w1:IntKind.i64.wrap (D - fr)=D - fr:=zi _ (by omega);have w2:IntKind.i64.wrap (n - fr)=n - fr:=zi _ (by omega);have hb:Below w.heap.size w ((w.alloc (.cells #[int i64 G,int i64 fr,int i64 D,int i64 F] 26)).alloc (.cells #[int i64 0,int i64 0,int i64 0,int i64 0] 148)) := ((zr w.heap.size w).alloc (zn _) _).alloc (by simp) _;have I:=Z11 w (.cells #[int i64 G,int i64 fr,int i64 D,int i64 F] 26) (.cells #[int i64 0,int i64 0,int i64 0,int i64 0] 148);dsimp only [askV,vsV,Z0w];generalize wday n=d at *
 have f:=zh hw;have j:=zh hb;have B:=zh I;clear hw hb I H;go_enter func171,ntmps171;go_wp2_with fail;generalize (w.alloc (.cells #[int i64 G,int i64 fr,int i64 D,int i64 F] 26)).alloc (.cells #[int i64 0,int i64 0,int i64 0,int i64 0] 148)=C at *
 refine (f.out _).mono ?_;rintro e w' ⟨rfl,rfl⟩;have m:C.cell? ⟨w.heap.size,1,none⟩=some (int i64 fr):=by rw [zc B.out.1];rfl
 have y:C.cell? ⟨w.heap.size,2,none⟩=some (int i64 D):=by rw [zc B.out.1];rfl
 have r:C.cell? ⟨w.heap.size,3,none⟩=some (int i64 F):=by rw [zc B.out.1];rfl
 have T:C.cell? ⟨w.heap.size+1,0,none⟩=some (int i64 0):=by rw [zc B.out.2];rfl
 have J:C.cell? ⟨w.heap.size+1,1,none⟩=some (int i64 0):=by rw [zc B.out.2];rfl
 have l:C.cell? ⟨w.heap.size+1,2,none⟩=some (int i64 0):=by rw [zc B.out.2];rfl
 have O:C.cell? ⟨w.heap.size+1,3,none⟩=some (int i64 0):=by rw [zc B.out.2];rfl
 have f0:=zO B.out.2 0;have q:=zO B.out.2 1;have A:=zO B.out.2 2;have f3:=zO B.out.2 3;have X:w.heap.size+1<C.heap.size:=(zs B.out.2)
 go_wp2_with fail;refine bodyPost_ret (v:=.agg #[int i64 (D - fr),int i64 F,int i64 (n - fr),int i64 d]) (by simp [results,results171,go_sem,T,J,l,O]) rfl ⟨rfl,?_⟩
 repeat (first | exact j.out | (refine Below.setCell ?_ (by first | exact zn _ | exact Nat.le_add_right _ _ | (show _<=_;omega)) _) | (refine Below.alloc ?_ (by first | omega | (simp;omega) | (simp only [World.setCell,Array.size_modify];omega)) _))
theorem Zn5 (B C:Int)(w:World)(L:0<=B)(Y:B<=1000)(S:0<=C)(X:C<=6):Calls prog 259 #[int i64 B,int i64 C] w λe w'=>e=.returned (.bool (bitB B C.toNat))/\w=w':=by
 obtain ⟨d,rfl⟩:=zE2 S;rw [zB];obtain ⟨F,D⟩:∃ F,bitB B d=F:=⟨_,rfl⟩
 rw [D];have G:=zh D;clear D;go_enter func259,ntmps259;go_wp2_with fail;go_loop [0,5] (λx i=>∃ k:Nat,k<=d/\i=int i64 k/\x=int i64 (B / 2 ^ k)) (λ_ i=>d - (intOf i).toNat)
 case atStart=>exact ⟨0,Nat.zero_le _,rfl,by simp⟩
 case round =>
  obtain ⟨k,hk,rfl,rfl⟩:=hrel;have U:(0:Int)<2 ^ k:=Int.pow_pos (by decide);have J:0<=B / 2 ^ k:=Int.ediv_nonneg L (by omega);have V:B / 2 ^ k<=B:=Int.ediv_le_self _ L;by_cases hlt:k<d
  · have N:decide ((k:Int)<(d:Int))=true:=by simpa using hlt
    have I:B / 2 ^ k / 2=B / 2 ^ (k+1):=by rw [Int.ediv_ediv_of_nonneg (by omega),<- Int.pow_succ]
    obtain ⟨u,H⟩:∃ u,B / 2 ^ (k+1)=u:=⟨_,rfl⟩
    rw [H] at I;generalize B / 2 ^ k=y at *
    have T:y.tdiv 2=u:=by rw [Int.tdiv_eq_ediv_of_nonneg J];exact I
    have O:IntKind.i64.wrap u=u:=zi _ (by omega);have M:¬ (2:Int)=0:=by decide
    go_wp2_with fail;go_round
    case rel=>exact ⟨k+1,by omega,by go_num,by rw [H]⟩
    case measure=>simp [intOf];omega
  · have R:k=d:=by omega
    subst R;have N:decide ((k:Int)<(k:Int))=false:=by simp
    have hb:F=(B / 2 ^ k % 2==1):=by rw [<- G.out];unfold bitB;rw [zA];simp
    clear G;generalize B / 2 ^ k=y at *
    subst hb;have T:y.tmod 2=y % 2:=Int.tmod_eq_emod_of_nonneg J;have M:¬ (2:Int)=0:=by decide
    have O:IntKind.i64.wrap (y % 2)=y % 2:=zi _ (by omega);go_wp2_with fail;go_ret;exact ⟨rfl,rfl⟩
theorem Zjk (r:Rt)(S pv:Value)(a:Qx.Ask)(D:Int)(w:World)(g:FoV w w.heap.size S r.wl)(hpv:FoV w w.heap.size pv r.pl)(l:Z15 r=0)(j:a.okB=true) : Calls prog 222 #[rtV r S pv,askV a,int i64 D] w λe w'=>e=.returned (.bool (Z8H r a D))/\Below w.heap.size w w':=by
 obtain ⟨H,I,rfl,_⟩:=g;obtain ⟨J,G,rfl,_⟩:=hpv;obtain ⟨f1,f2,f3,f4,f5,f6,f7,f8,f9,g1,g2,_,_,_,g6,g7,g8⟩:=Z3e (Z0G l);obtain ⟨a1,a2,a3,a4,a5,a6,a7,a8⟩:=Z1u j;have d:=λW=>Z7t a.fr W (by omega) (by omega);have hd:=Z7e a.fr;have U:=λW=>Zn5 r.ar (wday a.fr) W (by omega) (by omega) (by omega) (by omega);have M:=Zef w #[int i64 r.id,int i64 r.lv,int i64 r.kd,int i64 r.fr,int i64 r.un,int i64 r.ls,int i64 r.mo,int i64 r.ar,int i64 r.kn,int i64 r.kq,int i64 r.wo,int i64 r.wn,slice H (flen r.wl) I,int i64 r.po,int i64 r.pn,slice J (flen r.pl) G] a;obtain ⟨R,C⟩:∃ R:Array Value,R=#[int i64 r.id,int i64 r.lv,int i64 r.kd,int i64 r.fr,int i64 r.un,int i64 r.ls,int i64 r.mo,int i64 r.ar,int i64 r.kn,int i64 r.kq,int i64 r.wo,int i64 r.wn,slice H (flen r.wl) I,int i64 r.po,int i64 r.pn,slice J (flen r.pl) G]:=⟨_,rfl⟩
 have Z:R[2]?=some (int i64 r.kd):=by rw [C];rfl
 have N:R[3]?=some (int i64 r.fr):=by rw [C];rfl
 have X:R[4]?=some (int i64 r.un):=by rw [C];rfl
 have V:R[5]?=some (int i64 r.ls):=by rw [C];rfl
 have f:R[6]?=some (int i64 r.mo):=by rw [C];rfl
 have T:R[7]?=some (int i64 r.ar):=by rw [C];rfl
 have Y:=λW=>Z52 (a.un - a.fr) r.ls r.mo W;have w1:IntKind.i64.wrap (a.un - a.fr)=a.un - a.fr:=zi _ (by omega);have O:Z8H r a D=(decide (r.kd=a.kind)&&decide (r.fr<=D)&&decide (D<r.un)&&Z18 (a.un - a.fr) r.ls r.mo&&bitB r.ar (wday a.fr).toNat):=by unfold Z8H Z18;simp only [Bool.and_assoc]
 rw [O];have dk:(r.kd==a.kind)=decide (r.kd=a.kind):=by rw [zA];simp
 generalize Z18 (a.un - a.fr) r.ls r.mo=s2 at *
 generalize bitB r.ar (wday a.fr).toNat=s3 at *
 generalize wday a.fr=dd at *
 obtain ⟨A,F⟩:∃ b,decide (r.kd=a.kind)=b:=⟨_,rfl⟩
 obtain ⟨y,e2⟩:∃ b,decide (r.fr<=D)=b:=⟨_,rfl⟩
 obtain ⟨m,e3⟩:∃ b,decide (D<r.un)=b:=⟨_,rfl⟩
 rw [F] at dk;rw [F,e2,e3];have ba:=zh d;have q:=zh Y;have L:=zh M;have HBI:=zh U;clear d Y M U O F;dsimp only [rtV,askV];go_enter func222,ntmps222;go_upto_region 1 with fail;generalize (w.alloc (.cells #[int i64 r.id,int i64 r.lv,int i64 r.kd,int i64 r.fr,int i64 r.un,int i64 r.ls,int i64 r.mo,int i64 r.ar,int i64 r.kn,int i64 r.kq,int i64 r.wo,int i64 r.wn,slice H (flen r.wl) I,int i64 r.po,int i64 r.pn,slice J (flen r.pl) G] 65)).alloc (.cells #[int i64 a.kind,int i64 a.fr,int i64 a.un,int i64 a.pers] 26)=W at *
 have B:Hid (ApB w R a W):=by rw [C];exact L.out
 clear L C;obtain ⟨k0,k1,k2,k3⟩:=B.out.asks;have c2:=B.out.cell 2 _ Z;have c3:=B.out.cell 3 _ N;have c4:=B.out.cell 4 _ X;have c5:=B.out.cell 5 _ V;have c6:=B.out.cell 6 _ f;have c7:=B.out.cell 7 _ T;clear Z N X V f T;go_wp2_with fail;refine (ba.out _).mono ?_;rintro e w' ⟨rfl,rfl⟩;go_wp2_with fail;refine (HBI.out _).mono ?_;rintro e w' ⟨rfl,rfl⟩;cases A
 · go_wp2_with fail;go_ret;exact ⟨rfl,B.out.b⟩
 · cases y
   · go_wp2_with fail;go_ret;exact ⟨rfl,B.out.b⟩
   · cases m
     · go_wp2_with fail;go_ret;exact ⟨rfl,B.out.b⟩
     · go_wp2_with fail;refine (q.out _).mono ?_;rintro e w' ⟨rfl,rfl⟩;cases s2
       · go_wp2_with fail;go_ret;exact ⟨rfl,B.out.b⟩
       · go_wp2_with fail;go_ret;exact ⟨rfl,B.out.b⟩
theorem Zcc (r:Rt)(N pv:Value)(a:Qx.Ask)(B:Int)(w:World)(bq:FoV w w.heap.size N r.wl)(bn:FoV w w.heap.size pv r.pl)(hr:Z15 r=0)(Z:a.okB=true)(h0:a.fr<=B)(h1:B<a.un) : Calls prog 169 #[rtV r N pv,askV a,int i64 B] w λe w'=>e=.returned (apO (apR r a B))/\Below w.heap.size w w':=by
 have hf1:=λW (hb:Below w.heap.size w W)=>(bq.on hb).up hb.size;have bd:=λW (hb:Below w.heap.size w W)=>(bn.on hb).up hb.size;have A:=λW hb=>Z93 r N pv W (hf1 W hb) (bd W hb);have m:=λW hb=>Zjk r N pv a B W (hf1 W hb) (bd W hb) hr Z;rw [hr,show ((0:Int)==0)=true from rfl] at A;obtain ⟨vw,_⟩:=Z2r (Z0G hr);obtain ⟨bj,bG⟩:=Z4k vw;obtain ⟨a1,a2,a3,a4,a5,a6,a7,a8⟩:=Z1u Z;have bB:=Z5j Z h0 h1;have q:=λW=>Z6s a W;rw [Z] at q;have bg:=λW=>Z52 B a.fr (a.un - 1) W;have bO:Z18 B a.fr (a.un - 1)=true:=by unfold Z18;simp;omega
 rw [bO] at bg;have wu:IntKind.i64.wrap (a.un - 1)=a.un - 1:=zi _ (by omega);have hvars:=λW=>Zcb a B W Z h0 h1;have bb:∀ W,Below w.heap.size w W->Calls prog 170 #[.agg #[int i64 r.wo,int i64 r.wn,N],vsV (Z0w a B)] W (RetV (valE (Z0w a B) (r.wo,r.wn) r.wl) W):=λW hb=>Zfh r.wo r.wn r.wl W N W.heap.size (Z0w a B) (hf1 W hb) (zn _) bj bG bB;unfold RetV at bb;obtain ⟨I,J,rfl,bL⟩:=bq;obtain ⟨f,l,rfl,_⟩:=bn;have bk:Z8H r a B=false->apR r a B=0:=λh=>by unfold apR;rw [h];rfl
 have bp:Z8H r a B=true->apR r a B=match valE (Z0w a B) (r.wo,r.wn) r.wl with | .ok n _=>if n=1 then 1 else 0 | .no e=>-e:=λh=>by unfold apR;rw [h];rfl
 have bx:∀ e,valE (Z0w a B) (r.wo,r.wn) r.wl=.no e->e=3\/e=22:=λe h=>Z3B h;have br:=Zef w #[int i64 r.id,int i64 r.lv,int i64 r.kd,int i64 r.fr,int i64 r.un,int i64 r.ls,int i64 r.mo,int i64 r.ar,int i64 r.kn,int i64 r.kq,int i64 r.wo,int i64 r.wn,slice I (flen r.wl) J,int i64 r.po,int i64 r.pn,slice f (flen r.pl) l] a;obtain ⟨R,H⟩:∃ R:Array Value,R=#[int i64 r.id,int i64 r.lv,int i64 r.kd,int i64 r.fr,int i64 r.un,int i64 r.ls,int i64 r.mo,int i64 r.ar,int i64 r.kn,int i64 r.kq,int i64 r.wo,int i64 r.wn,slice I (flen r.wl) J,int i64 r.po,int i64 r.pn,slice f (flen r.pl) l]:=⟨_,rfl⟩
 have bh:rtV r (slice I (flen r.wl) J) (slice f (flen r.pl) l)=.agg R:=by rw [H];rfl
 rw [bh] at A m;have bC:R.size=16:=by rw [H];rfl
 have bI:R[10]?=some (int i64 r.wo):=by rw [H];rfl
 have bs:R[11]?=some (int i64 r.wn):=by rw [H];rfl
 have bA:R[12]?=some (slice I (flen r.wl) J):=by rw [H];rfl
 generalize valE (Z0w a B) (r.wo,r.wn) r.wl=V at *
 generalize apR r a B=X at *
 generalize Z8H r a B=ft at *
 simp only [askV] at q hvars m;have bJ:=zh hvars;have bM:=zh bb;have ba:=zh bk;have bc:=zh bp;have bK:=zh bx;have bz:=zh br;have bD:=zh A;have bt:=zh m;have bF:=zh q;have bE:=zh bg;have bH:=zh bC;have bQ:=zh bI;have bR:=zh bs;have bN:=zh bA;clear hvars bb bk bp bx br A m q bg bC bI bs bA bL vw bj bG bB hf1 bd bh;dsimp only [rtV,askV];go_enter func169,ntmps169;go_upto_region 1 with fail;generalize (w.alloc (.cells #[int i64 r.id,int i64 r.lv,int i64 r.kd,int i64 r.fr,int i64 r.un,int i64 r.ls,int i64 r.mo,int i64 r.ar,int i64 r.kn,int i64 r.kq,int i64 r.wo,int i64 r.wn,slice I (flen r.wl) J,int i64 r.po,int i64 r.pn,slice f (flen r.pl) l] 65)).alloc (.cells #[int i64 a.kind,int i64 a.fr,int i64 a.un,int i64 a.pers] 26)=W at *
 have j:Hid (ApB w R a W):=by rw [H];exact bz.out
 clear bz H;go_wp2_with (refine Z3D rfl _ rfl w.heap.size rfl R bH.out j.out.r ?_);refine (bD.out W j.out.b).mono ?_;rintro e w2 ⟨rfl,bv⟩;have bf:=zh (j.out.on bv);clear bv j bD;obtain ⟨S,Y,d,U⟩:=bf.out.asks;go_wp2_with fail;refine (bF.out _).mono ?_;rintro e w3 ⟨rfl,bu⟩;have T:=zh (bf.out.on bu);clear bu bf bF S Y d U;obtain ⟨S,Y,d,U⟩:=T.out.asks;go_wp2_with fail;refine (bE.out _).mono ?_;rintro e w' ⟨rfl,rfl⟩;go_wp2_with (refine Z3D rfl _ rfl w.heap.size rfl R bH.out T.out.r ?_);refine (bt.out _ T.out.b).mono ?_;rintro e F ⟨rfl,bm⟩;have y:=zh (T.out.on bm);clear bm T bt S Y d U bE;cases ft with
 | false =>have g:=ba.out rfl;subst g;clear ba bc;go_wp2_with fail;go_ret2;exact ⟨rfl,y.out.b⟩
 | true =>
  have g:=bc.out rfl;have HX:=zh g;clear g ba bc;go_upto_region 8 with fail;have D:Hid (∀ wx,ApB w R a wx->wx.cell? ⟨w.heap.size,10,none⟩=some (int i64 r.wo)/\wx.cell? ⟨w.heap.size,11,none⟩=some (int i64 r.wn)/\wx.cell? ⟨w.heap.size,12,none⟩=some (slice I (flen r.wl) J)/\wx.cell? ⟨w.heap.size+1,0,none⟩=some (int i64 a.kind)/\wx.cell? ⟨w.heap.size+1,1,none⟩=some (int i64 a.fr)/\wx.cell? ⟨w.heap.size+1,2,none⟩=some (int i64 a.un)/\wx.cell? ⟨w.heap.size+1,3,none⟩=some (int i64 a.pers)/\ApB w R a wx):=λwx h=>by obtain ⟨S,Y,d,U⟩:=h.asks;exact ⟨h.cell 10 _ bQ.out,h.cell 11 _ bR.out,h.cell 12 _ bN.out,S,Y,d,U,h⟩
  have bS:w.heap.size+1<F.heap.size:=y.out.lt;go_region_held3 (λw'=>w'.cell? ⟨w.heap.size,10,none⟩=some (int i64 r.wo)/\w'.cell? ⟨w.heap.size,11,none⟩=some (int i64 r.wn)/\w'.cell? ⟨w.heap.size,12,none⟩=some (slice I (flen r.wl) J)/\w'.cell? ⟨w.heap.size+1,0,none⟩=some (int i64 a.kind)/\w'.cell? ⟨w.heap.size+1,1,none⟩=some (int i64 a.fr)/\w'.cell? ⟨w.heap.size+1,2,none⟩=some (int i64 a.un)/\w'.cell? ⟨w.heap.size+1,3,none⟩=some (int i64 a.pers)/\ApB w R a w') (first | (with_reducible exact D.out _ y.out.drew) | (with_reducible exact D.out _ (y.out.alloc _).drew) | (with_reducible exact D.out _ L) | (with_reducible exact D.out _ O) | (with_reducible exact D.out _ (L.alloc _)) | (with_reducible exact D.out _ (O.alloc _)) | (exact D.out _ ((‹_/\_/\_/\_/\_/\_/\_/\ApB w R a _›).2.2.2.2.2.2.2.alloc _)) | (exact D.out _ ((L.set (b:=F.heap.size) (by omega) 0 _).set (b:=F.heap.size) (by omega) 1 _)) | (exact D.out _ ((L.set (b:=w5.heap.size) (by have:=O.lt;omega) 0 _).set (b:=w5.heap.size) (by have:=O.lt;omega) 1 _)) | fail) (first
    | (go_at_call 171;have G:=(‹_/\_/\_/\_/\_/\_/\_/\ApB w R a _›).2.2.2.2.2.2.2;refine (bJ.out _).mono ?_;rintro e w5 ⟨rfl,be⟩;have O:=G.on be;try (have C:=(be.block F.heap.size (by simp [go_sem])).trans (za F (.cells #[int i64 0,int i64 0] 60));have bP:Hid (RatB w5 F.heap.size 0 0):=C;clear C);clear be G)
    | (go_at_call 170;have G:=(‹_/\_/\_/\_/\_/\_/\_/\ApB w R a _›).2.2.2.2.2.2.2;refine (bM.out _ G.b).mono ?_;rintro e w6 ⟨rfl,M⟩;have L:=G.on M;first | (have C:=bP.out.on M;have z0:=C.c0;have z1:=C.c1;have y0:=C.fr 0;have y1:=C.fr 1;clear C M G) | (have C:RatB w6 w5.heap.size 0 0:=(M.block w5.heap.size (by simp [go_sem])).trans (za w5 (.cells #[int i64 0,int i64 0] 60));have z0:=C.c0;have z1:=C.c1;have y0:=C.fr 0;have y1:=C.fr 1;clear C M G) | (clear M G)))
  all_goals
   have ho:=ZpC HX.out bK.out;have HO:=zh ho;clear ho;go_wp2_with fail;refine bodyPost_ret (v:=.tuple #[.bool (vN V==1),int i64 (vE V)]) (by simp [results,results169,go_sem]) rfl ?_;refine ⟨by rw [apO,HO.out.1,HO.out.2],?_⟩
   first
    | exact (L.alloc _).b
    | exact ((L.set (b:=F.heap.size) (by omega) 0 _).set (b:=F.heap.size) (by omega) 1 _).b
    | exact ((L.set (b:=w5.heap.size) (by have:=O.lt;omega) 0 _).set (b:=w5.heap.size) (by have:=O.lt;omega) 1 _).b
end
section
open Go.RowKit Lx Px Qx
theorem Zgx (n d:Int)(B:1<=d):(if n.tmod d<0 then n.tdiv d - 1 else n.tdiv d)=n / d:=by
 rw [<- ZfA n d B];have h:=Int.mul_tdiv_add_tmod n d;rw [Int.mul_comm] at h;by_cases c:n.tmod d<0
 · rw [zp c,zp (by omega)]
 · rw [zf c,zf (by omega)]
theorem Zgy (n d:Int)(w:World)(R : -4000000000000000000<=n)(L:n<=4000000000000000000)(I:1<=d)(M:d<=1000000) : Calls prog 227 #[int i64 n,int i64 d] w λe w'=>e=.returned (int i64 (n / d))/\w=w':=by
 have B:=Zgx n d I;have O:¬ d=0:=by omega
 have C:=Int.natAbs_tdiv_le_natAbs n d;have H:=Int.mul_tdiv_add_tmod n d;have J : -1000000<=n.tmod d/\n.tmod d<=1000000:=by have h4:=Int.tmod_lt_of_pos n (show 0<d by omega);have N:=Int.lt_tmod_of_pos n (show 0<d by omega);omega
 obtain ⟨q,D⟩:∃ q,n.tdiv d=q:=⟨_,rfl⟩
 obtain ⟨r,F⟩:∃ r,n.tmod d=r:=⟨_,rfl⟩
 rw [D,F] at B;rw [F] at J;rw [D] at C;have T:IntKind.i64.wrap q=q:=zi _ (by omega);have S:IntKind.i64.wrap r=r:=zi _ (by omega);have U:IntKind.i64.wrap (q - 1)=q - 1:=zi _ (by omega);generalize n / d=f at *
 clear C H;by_cases c:r<0
 · have G:decide (r<0)=true:=by simpa using c
   rw [zp c] at B;subst B;go_enter func227,ntmps227;go_wp2_with fail;go_ret;exact ⟨rfl,rfl⟩
 · have G:decide (r<0)=false:=by simpa using c
   rw [zf c] at B;subst B;go_enter func227,ntmps227;go_wp2_with fail;go_ret;exact ⟨rfl,rfl⟩
theorem Zn6 (q:Int):(q.tmod 2 != 0)=decide (q % 2=1):=by
 have h:q.tmod 2=0 ↔ q % 2=0:=by
  constructor
  · intro h;have:=Int.mul_tdiv_add_tmod q 2;omega
  · intro h;exact Int.tmod_eq_zero_of_dvd (Int.dvd_of_emod_eq_zero h)
 rw [zA];simp only [bne_iff_ne,ne_eq,decide_eq_true_eq];rw [h];omega
theorem Z7u (n d:Int)(w:World)(U : -4000000000000000000<=n)(V:n<=4000000000000000000)(I:1<=d)(S:d<=1000000) : Calls prog 173 #[int i64 n,int i64 d,int i64 3] w λe w'=>e=.returned (int i64 (rndE n d))/\w=w':=by
 have J:=λW=>Zgy n d W U V I S;have ba:=Int.emod_nonneg n (show d≠0 by omega);have l:=Int.emod_lt_of_pos n (show 0<d by omega);have M:=Int.mul_ediv_add_emod n d;have G:n - n / d*d=n % d:=by rw [Int.mul_comm];omega
 have L:rndE n d=if d<2*(n % d)\/2*(n % d)=d/\(n / d) % 2=1 then n / d+1 else n / d:=rfl;have F:=Zn6 (n / d);have A : -4000000000001000001<=n / d/\n / d<=4000000000000000000:=by
  have j:d*(n / d)<=n:=by omega
  have hup:n<d*(n / d)+d:=by omega
  constructor
  · rcases Int.lt_or_le (n / d) (-4000000000001000001) with h | h
    · have:d*(n / d)<=1*(n / d):=Int.mul_le_mul_of_nonpos_right I (by omega);omega
    · exact h
  · rcases Int.lt_or_le 4000000000000000000 (n / d) with h | h
    · have:1*(n / d)<=d*(n / d):=Int.mul_le_mul_of_nonneg_right I (by omega);omega
    · exact h
 have y:IntKind.i64.wrap (n / d*d)=n / d*d:=zi _ (by omega);have w2:IntKind.i64.wrap (n - n / d*d)=n % d:=by rw [G];exact zi _ (by omega)
 generalize rndE n d=R at *
 generalize n / d=f at *
 generalize n % d=r at *
 have w3:IntKind.i64.wrap (d - r)=d - r:=zi _ (by omega);have q:IntKind.i64.wrap (f+1)=f+1:=zi _ (by omega);have z2:¬ (2:Int)=0:=by decide
 obtain ⟨t,X⟩:∃ t,f.tmod 2=t:=⟨_,rfl⟩
 have Z : -1<=t/\t<=1:=by have h4:=Int.tmod_lt_of_pos f (show 0<(2:Int) by omega);have m:=Int.lt_tmod_of_pos f (show 0<(2:Int) by omega);omega
 have g:IntKind.i64.wrap t=t:=zi _ (by omega);rw [X] at F;have C:=zh J;have HMD:=zh M;have Y:=zh G;have D:=zh L;clear J M G L;by_cases c1:r > d - r
 · have H:decide (r > d - r)=true:=by simpa using c1
   have N:decide (d - r<r)=true:=H;have B:=D.out;rw [zp (.inl (by omega))] at B;subst B;go_enter func173,ntmps173;go_wp2_with fail;refine (C.out _).mono ?_;rintro e w' ⟨rfl,rfl⟩;go_wp2_with fail;go_ret;exact ⟨rfl,rfl⟩
 · have H:decide (r > d - r)=false:=by simpa using c1
   have N:decide (d - r<r)=false:=H;by_cases c2:r=d - r
   · have T:(r==d - r)=true:=by simpa using c2
     by_cases c3:f % 2=1
     · have O:(t != 0)=true:=by rw [F];simpa using c3
       have B:=D.out;rw [zp (.inr ⟨by omega,c3⟩)] at B;subst B;clear c2;go_enter func173,ntmps173;go_wp2_with fail;refine (C.out _).mono ?_;rintro e w' ⟨rfl,rfl⟩;go_wp2_with fail;go_ret;exact ⟨rfl,rfl⟩
     · have O:(t != 0)=false:=by rw [F];simpa using c3
       have B:=D.out;rw [zf (by rintro (h | ⟨_,h⟩);omega;exact c3 h)] at B;subst B;clear c2;go_enter func173,ntmps173;go_wp2_with fail;refine (C.out _).mono ?_;rintro e w' ⟨rfl,rfl⟩;go_wp2_with fail;go_ret;exact ⟨rfl,rfl⟩
   · have T:(r==d - r)=false:=by simpa using c2
     have B:=D.out;rw [zf (by rintro (h | ⟨h,_⟩) <;> omega)] at B;subst B;clear c2;go_enter func173,ntmps173;go_wp2_with fail;refine (C.out _).mono ?_;rintro e w' ⟨rfl,rfl⟩;go_wp2_with fail;go_ret;exact ⟨rfl,rfl⟩
theorem ZdA (n d:Int)(w:World)(B:ratB n d=true):Calls prog 172 #[.agg #[int i64 n,int i64 d],int i64 3] w λe w'=>e=.returned (.tuple #[int i64 (rndE n d),int i64 0])/\Below w.heap.size w w':=by
 obtain ⟨S,T,U,X,_⟩:=Z0F B;have L:=RatB.new w n d;have C:=λW=>Z1p n d W;rw [B] at C;have J:=λW=>Z7u n d W (by omega) (by omega) S T;have G:Below w.heap.size w (w.alloc (.cells #[int i64 n,int i64 d] 60)):=(zr w.heap.size w).alloc (zn _) _;generalize rndE n d=z at *
 have O:=zh C;have R:=zh J;have I:=zh L;have M:=zh G;clear C J L G B;go_enter func172,ntmps172;go_wp2_with fail;generalize w.alloc (.cells #[int i64 n,int i64 d] 60)=Y at *
 refine (O.out _).mono ?_;rintro e Z ⟨rfl,D⟩;have F:=I.out.on D;have H:=Z00 M.out D;have c0:=F.c0;have c1:=F.c1;have N:=zh H;clear H F D I M;go_wp2_with fail;refine (R.out _).mono ?_;rintro e V ⟨rfl,rfl⟩;go_wp2_with fail;go_ret2;exact ⟨rfl,N.out⟩
theorem Zgz (m n d:Int)(w:World)(L:0<=m)(f:m<=1000000000)(B:ratB n d=true)(V:0<=n)(U:n<=d):Calls prog 129 #[int i64 m,.agg #[int i64 n,int i64 d],int i64 3] w λe w'=>e=.returned (.tuple #[int i64 (rndE (m*n) d),int i64 0])/\Below w.heap.size w w':=by
 obtain ⟨S,T,r,r4,_⟩:=Z0F B;have N:=RatB.new w n d;have C:=λW=>Z1p n d W;have g:0<=m*n:=Int.mul_nonneg L V;have G:m*n<=m*d:=Int.mul_le_mul_of_nonneg_left U L;have R:m*d<=1000000000*1000000:=Int.mul_le_mul f T (by omega) (by omega);have y:m*n<=1000000000000000:=by omega
 obtain ⟨z0,j⟩:=Z7n (n:=m*n) (d:=d) (m:=m) S g G;have M:=λW=>Z7u (m*n) d W (by omega) (by omega) S T;have wm:IntKind.i64.wrap (m*n)=m*n:=zi _ (by omega);rw [B] at C;have H:Below w.heap.size w (w.alloc (.cells #[int i64 n,int i64 d] 60)):=(zr w.heap.size w).alloc (zn _) _;generalize rndE (m*n) d=z at *
 have dz:decide (z > 1000000000)=false:=by simp;omega
 have bb:decide ((1000000000:Int)<z)=false:=by simp;omega
 have dz0:decide (z < -1000000000)=false:=by simp;omega
 have l:decide (m < -1000000000)=false:=by simp;omega
 have bc:decide (m > 1000000000)=false:=by simp;omega
 have ba:decide ((1000000000:Int)<m)=false:=by simp;omega
 have Y:=zh C;have Z:=zh M;have J:=zh N;have O:=zh H;have q:=zh G;have A:=zh R;clear C M N H G R B;go_enter func129,ntmps129;go_wp2_with fail;generalize w.alloc (.cells #[int i64 n,int i64 d] 60)=W1 at *
 refine (Y.out _).mono ?_;rintro e w2 ⟨rfl,D⟩;have F:=J.out.on D;have I:=Z00 O.out D;have c0:=F.c0;have c1:=F.c1;have X:=zh I;clear I F D J O;go_wp2_with fail;refine (Z.out _).mono ?_;rintro e w4 ⟨rfl,rfl⟩;go_wp2_with fail;go_ret2;exact ⟨rfl,X.out⟩
end
section
open Go.RowKit Lx Px Qx
structure AkB (p:Nat) (a:Qx.Ask) (W:World):Prop where
 h:W.heap[p]?=some (.cells #[int i64 a.kind,int i64 a.fr,int i64 a.un,int i64 a.pers] 26 (0,0))
theorem AkB.on {p:Nat}{a:Qx.Ask}{W B:World}(h:AkB p a W)(hb:Below W.heap.size W B):AkB p a B:=⟨(hb.block _ (zs h.h)).trans h.h⟩
theorem AkB.c {p:Nat}{a:Qx.Ask}{W:World}(h:AkB p a W):W.cell? ⟨p,0,none⟩=some (int i64 a.kind)/\W.cell? ⟨p,1,none⟩=some (int i64 a.fr)/\W.cell? ⟨p,2,none⟩=some (int i64 a.un)/\W.cell? ⟨p,3,none⟩=some (int i64 a.pers) := ⟨by rw [zc h.h];rfl,by rw [zc h.h];rfl,by rw [zc h.h];rfl,by rw [zc h.h];rfl⟩
end
end Go.Proofs.YtnepkoepbapgeaaGreatDoor
