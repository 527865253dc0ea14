import Derived.Test.YtnepkoepbapgeaaGreatDoorQuoGc
import Derived.Test.YtnepkoepbapgeaaGreatDoorQuoG7
namespace Go.Proofs.YtnepkoepbapgeaaGreatDoor
open _root_.Go.Proofs.Tryz
open Value (int slice)
open IntKind (i64)
set_option maxHeartbeats 16000000
set_option maxRecDepth 100000
section
open Go.RowKit Lx Px Qx
attribute [local irreducible] Qx.Vr.dig
theorem Zb0 (v:Vr)(V:Value)(w:World)(hV:VrV w w.heap.size V v) : Calls prog 22 #[V] w λe w'=>e=.returned (.tuple #[.int .u64 (if v.okB then (v.dig:Nat) else 0:Nat),int i64 (if v.okB then 0 else 1)])/\Below w.heap.size w w':=by
 obtain ⟨A,c,rfl,N⟩:=hV;have X:VxB w.heap.size v (slice A v.rs.length c) (w.alloc (.cells #[int i64 v.num,int i64 v.time,slice A v.rs.length c] 24)):=VxB.new N;have hb:=(zr w.heap.size w).alloc (zn _) (.cells #[int i64 v.num,int i64 v.time,slice A v.rs.length c] 24);have f:=λW (h:VxB w.heap.size v (slice A v.rs.length c) W)=>Z53 v _ W h.v;have T:=λ(hok:v.okB=true) W (h:VxB w.heap.size v (slice A v.rs.length c) W)=>Zfj v _ W h.v hok;generalize v.dig=dg at *
 obtain ⟨R,L⟩:∃ R:Nat,(if v.okB then dg else 0)=R:=⟨_,rfl⟩
 obtain ⟨m,J⟩:∃ m:Int,(if v.okB then (0:Int) else 1)=m:=⟨_,rfl⟩
 rw [L,J];have D:=zh X;have l:=zh hb;have Z:=zh f;have H:=zh T;have HR:=zh N;have G:=zh L;have F:=zh J;clear X hb f T N L J;unfold vrV;go_enter func22,ntmps22;go_upto_region 1 with fail;generalize w.alloc (.cells #[int i64 v.num,int i64 v.time,slice A v.rs.length c] 24)=y at *
 obtain ⟨O,Y,U⟩:=D.out.cells;go_wp2_with fail;refine (Z.out y D.out).mono ?_;rintro e w2 ⟨rfl,I⟩;have M:=D.out.on I;have S:=Z00 l.out I;clear O Y U;obtain ⟨O,Y,U⟩:=M.cells;have q:=zh M;have d:=zh S;clear M S I D l Z;cases hok:v.okB with
 | false =>have B:=G.out;have C:=F.out;rw [hok] at B C;simp only [Bool.false_eq_true,if_false] at B C;subst B C;clear hok G F H;go_wp2_with fail;go_ret2;exact ⟨rfl,d.out⟩
 | true =>have g:=H.out hok w2 q.out;have B:=G.out;have C:=F.out;rw [hok] at B C;simp only [if_true] at B C;subst B C;have HC:=zh g;clear g hok H G F;go_wp2_with fail;refine HC.out.mono ?_;rintro e w3 ⟨rfl,r⟩;have j:=Z00 d.out r;have ba:=zh j;clear j;go_wp2_with fail;go_ret2;exact ⟨rfl,ba.out⟩
structure PnB (w:World) (v:Vr) (rv:Value) (a:Qx.Ask) (W:World):Prop where
 x:VxB w.heap.size v rv W
 a:AkB (w.heap.size+1) a W
 b:Below w.heap.size w W
theorem PnB.on {w W B:World}{v:Vr}{rv:Value}{a:Qx.Ask}(h:PnB w v rv a W)(hb:Below W.heap.size W B):PnB w v rv a B:=⟨h.x.on hb,h.a.on hb,Z00 h.b hb⟩
theorem PnB.drew {w W:World}{v:Vr}{rv:Value}{a:Qx.Ask}(h:PnB w v rv a W):PnB w v rv a W.drew:=h.on (zr _ _).drew
theorem PnB.set {w W:World}{v:Vr}{rv:Value}{a:Qx.Ask}(h:PnB w v rv a W){b:Nat}(hb:w.heap.size+2<=b)(o:Nat)(u:Value):PnB w v rv a (W.setCell ⟨b,o,none⟩ u) := ⟨h.x.far ((zr (w.heap.size+2) W).setCell (p:=⟨b,o,none⟩) hb _) (by omega),⟨(zg _ _ _ _ (by show _≠b;omega)).trans h.a.h⟩,h.b.setCell (p:=⟨b,o,none⟩) (by show _<=b;omega) _⟩
theorem PnB.setRow {w W:World}{v:Vr}{rv:Value}{a:Qx.Ask}(h:PnB w v rv a W){b:Nat}(hb:w.heap.size+2<=b)(cs:Array Value):PnB w v rv a (W.setRow b cs) := ⟨h.x.far (Z1B (zr (w.heap.size+2) W) hb cs) (by omega),⟨(Z06 W b cs _ (by omega)).trans h.a.h⟩,Z1B h.b (by omega) cs⟩
theorem Zrg (w:World)(v:Vr)(A:Option Addr)(c:Nat)(a:Qx.Ask)(D:RtsV w w.heap.size (slice A v.rs.length c) v.rs) : PnB w v (slice A v.rs.length c) a (((w.alloc (.cells #[int i64 v.num,int i64 v.time,slice A v.rs.length c] 24)).alloc (.cells #[int i64 a.kind,int i64 a.fr,int i64 a.un,int i64 a.pers] 26)).alloc (.cells #[int i64 0,int i64 0,int i64 0,int i64 0,int i64 0,int i64 0,int i64 0,int i64 0,slice none 0 0,.int .u64 0,int i64 0,int i64 0] 32))/\(((w.alloc (.cells #[int i64 v.num,int i64 v.time,slice A v.rs.length c] 24)).alloc (.cells #[int i64 a.kind,int i64 a.fr,int i64 a.un,int i64 a.pers] 26)).alloc (.cells #[int i64 0,int i64 0,int i64 0,int i64 0,int i64 0,int i64 0,int i64 0,int i64 0,slice none 0 0,.int .u64 0,int i64 0,int i64 0] 32)).heap[w.heap.size+2]?=some (.cells #[int i64 0,int i64 0,int i64 0,int i64 0,int i64 0,int i64 0,int i64 0,int i64 0,slice none 0 0,.int .u64 0,int i64 0,int i64 0] 32 (0,0)):=by
 have C:VxB w.heap.size v (slice A v.rs.length c) (w.alloc (.cells #[int i64 v.num,int i64 v.time,slice A v.rs.length c] 24)):=VxB.new D;have B:=(zr w.heap.size w).alloc (zn _) (.cells #[int i64 v.num,int i64 v.time,slice A v.rs.length c] 24);have F:AkB (w.heap.size+1) a ((w.alloc (.cells #[int i64 v.num,int i64 v.time,slice A v.rs.length c] 24)).alloc (.cells #[int i64 a.kind,int i64 a.fr,int i64 a.un,int i64 a.pers] 26)):=by have:=za (w.alloc (.cells #[int i64 v.num,int i64 v.time,slice A v.rs.length c] 24)) (.cells #[int i64 a.kind,int i64 a.fr,int i64 a.un,int i64 a.pers] 26);exact ⟨by simpa using this⟩
 have c1:=(zr (w.alloc (.cells #[int i64 v.num,int i64 v.time,slice A v.rs.length c] 24)).heap.size (w.alloc (.cells #[int i64 v.num,int i64 v.time,slice A v.rs.length c] 24))).alloc (zn _) (.cells #[int i64 a.kind,int i64 a.fr,int i64 a.un,int i64 a.pers] 26);have c2:=(zr ((w.alloc (.cells #[int i64 v.num,int i64 v.time,slice A v.rs.length c] 24)).alloc (.cells #[int i64 a.kind,int i64 a.fr,int i64 a.un,int i64 a.pers] 26)).heap.size ((w.alloc (.cells #[int i64 v.num,int i64 v.time,slice A v.rs.length c] 24)).alloc (.cells #[int i64 a.kind,int i64 a.fr,int i64 a.un,int i64 a.pers] 26))).alloc (zn _) (.cells #[int i64 0,int i64 0,int i64 0,int i64 0,int i64 0,int i64 0,int i64 0,int i64 0,slice none 0 0,.int .u64 0,int i64 0,int i64 0] 32);refine ⟨⟨(C.on c1).on c2,F.on c2,Z00 (Z00 B c1) c2⟩,?_⟩;have:=za ((w.alloc (.cells #[int i64 v.num,int i64 v.time,slice A v.rs.length c] 24)).alloc (.cells #[int i64 a.kind,int i64 a.fr,int i64 a.un,int i64 a.pers] 26)) (.cells #[int i64 0,int i64 0,int i64 0,int i64 0,int i64 0,int i64 0,int i64 0,int i64 0,slice none 0 0,.int .u64 0,int i64 0,int i64 0] 32);simpa using this
theorem Zks {W F:World}{B n c:Nat}{A:Option Addr}{l:List Int}(h:Z03 W B (slice A n c) l)(J:∀ p,A=some p->F.heap[p.block]?=W.heap[p.block]?):Z03 F B (slice A n c) l:=by
 obtain ⟨L,c',e,H⟩:=h;injection e with C e2 e3
 subst C e3;refine ⟨A,c,by rw [e2],λhl=>?_⟩;obtain ⟨b,o,C,hb,I⟩:=H hl;refine ⟨b,o,C,hb,λi hi'=>?_⟩;have G:=J _ C;have D:=I i hi';unfold World.cell? at D |-
 dsimp only at G D |-
 rw [G];exact D
def PlnR (x:Except Int Qt)(w:World)(e:Ending)(w':World):Prop := Below w.heap.size w w'/\match x with
  | .ok q=>∃ A c,e=.returned (.tuple #[.agg (qtC q (slice A q.nights.length c)),int i64 0])/\Z03 w' w'.heap.size (slice A q.nights.length c) q.nights/\∀ p,A=some p->w.heap.size<=p.block
  | .error er=>e=.returned (.tuple #[.agg (qtC Qt.zero (slice none 0 0)),int i64 er])
theorem Za5 (v:Vr)(a:Qx.Ask)(t:Int)(V:Value)(w:World)(hV:VrV w w.heap.size V v)(bH:v.okB=true) : Calls prog 53 #[V,askV a,int i64 t] w (PlnR (Z14 v a t) w):=by
 obtain ⟨A,c,rfl,T⟩:=hV;obtain ⟨m,l⟩:=Zrg w v A c a T;have J:=λW (h:PnB w v (slice A v.rs.length c) a W)=>ZgG v.rs (slice A v.rs.length c) a W (h.x.r.up (zl h.x.lt));have bd:=λW (h:PnB w v (slice A v.rs.length c) a W)=>Zfj v _ W h.x.v bH;have j:=λe (h:Z0d v.rs a=.error e)=>ZaF (t:=t) h;have g:=λns I (h:Z0d v.rs a=.ok (ns,I))=>Z85 (t:=t) h;have ba:=λe (h:Z0d v.rs a=.error e)=>(Z45 h).1;have bf:=λns I (h:Z0d v.rs a=.ok (ns,I))=>Z69 h;obtain ⟨PQ,be⟩:∃ PQ,Z14 v a t=PQ:=⟨_,rfl⟩
 rw [be] at j g |-
 rcases hX:Z0d v.rs a with er | ⟨ns,I⟩
 all_goals
  simp only [askV] at J |-
  rw [hX] at J;unfold Zpy at J;dsimp only at J
 · have hq:=j er hX;have he:=ba er hX;subst hq;have de:(er != 0)=true:=by simpa using he
   have G:=zh m;have N:=zh l;have U:=zh J;have HR:=zh T;clear m l J T j g ba bf be hX he bd;unfold vrV;go_enter func53,ntmps53;go_upto_region 1 with fail;generalize ((w.alloc (.cells #[int i64 v.num,int i64 v.time,slice A v.rs.length c] 24)).alloc (.cells #[int i64 a.kind,int i64 a.fr,int i64 a.un,int i64 a.pers] 26)).alloc (.cells #[int i64 0,int i64 0,int i64 0,int i64 0,int i64 0,int i64 0,int i64 0,int i64 0,slice none 0 0,.int .u64 0,int i64 0,int i64 0] 32)=w1 at *
   obtain ⟨O,X,d⟩:=G.out.x.cells;obtain ⟨R,S,f,Z⟩:=G.out.a.c;go_wp2_with fail;refine (U.out w1 G.out).mono ?_;rintro e D ⟨L,rfl⟩;have Y:=G.out.on L;have B:=(L.block _ (zs N.out)).trans N.out;have bc:=zh Y;clear Y L G U O X d R S f Z;have z0:D.cell? ⟨w.heap.size+2,0,none⟩=some (int i64 0):=by rw [zc B];rfl
   have f0:=zO B 0;have z1:D.cell? ⟨w.heap.size+2,1,none⟩=some (int i64 0):=by rw [zc B];rfl
   have f1:=zO B 1;have z2:D.cell? ⟨w.heap.size+2,2,none⟩=some (int i64 0):=by rw [zc B];rfl
   have f2:=zO B 2;have z3:D.cell? ⟨w.heap.size+2,3,none⟩=some (int i64 0):=by rw [zc B];rfl
   have f3:=zO B 3;have z4:D.cell? ⟨w.heap.size+2,4,none⟩=some (int i64 0):=by rw [zc B];rfl
   have f4:=zO B 4;have z5:D.cell? ⟨w.heap.size+2,5,none⟩=some (int i64 0):=by rw [zc B];rfl
   have f5:=zO B 5;have z6:D.cell? ⟨w.heap.size+2,6,none⟩=some (int i64 0):=by rw [zc B];rfl
   have f6:=zO B 6;have z7:D.cell? ⟨w.heap.size+2,7,none⟩=some (int i64 0):=by rw [zc B];rfl
   have f7:=zO B 7;have z8:D.cell? ⟨w.heap.size+2,8,none⟩=some (slice none 0 0):=by rw [zc B];rfl
   have f8:=zO B 8;have z9:D.cell? ⟨w.heap.size+2,9,none⟩=some (.int .u64 0):=by rw [zc B];rfl
   have f9:=zO B 9;have bh:D.cell? ⟨w.heap.size+2,10,none⟩=some (int i64 0):=by rw [zc B];rfl
   have bJ:=zO B 10;have bb:D.cell? ⟨w.heap.size+2,11,none⟩=some (int i64 0):=by rw [zc B];rfl
   have bG:=zO B 11;clear B;go_wp2_with fail;refine bodyPost_ret (v:=.tuple #[.agg (qtC Qt.zero (slice none 0 0)),int i64 er]) (by simp [results,results53,go_sem,qtC,Qt.zero,z0,z1,z2,z3,z4,z5,z6,z7,z8,z9,bh,bb]) rfl ⟨?_,rfl⟩;refine PnB.b (v:=v) (rv:=slice A v.rs.length c) (a:=a) ?_
   repeat (refine PnB.set ?_ (zn _) _ _)
   exact bc.out
 · have hq:=g ns I hX;subst hq;have br:=bf ns I hX;have bz:=λV W h hl=>Znh ns V W h hl br;generalize v.dig=q at *
   have G:=zh m;have N:=zh l;have U:=zh J;have HR:=zh T;have bI:=zh bd;have bn:=zh bz;clear m l J T bd bz j g ba bf be hX br;unfold vrV;go_enter func53,ntmps53;go_upto_region 1 with fail;generalize ((w.alloc (.cells #[int i64 v.num,int i64 v.time,slice A v.rs.length c] 24)).alloc (.cells #[int i64 a.kind,int i64 a.fr,int i64 a.un,int i64 a.pers] 26)).alloc (.cells #[int i64 0,int i64 0,int i64 0,int i64 0,int i64 0,int i64 0,int i64 0,int i64 0,slice none 0 0,.int .u64 0,int i64 0,int i64 0] 32)=w1 at *
   obtain ⟨O,X,d⟩:=G.out.x.cells;obtain ⟨R,S,f,Z⟩:=G.out.a.c;go_wp2_with fail;refine (U.out w1 G.out).mono ?_;rintro e D ⟨L,M,c2,rfl,hI,bL,bm⟩;have Y:=G.out.on L;have bv:=(zs N.out)
   have bq:∀ p,M=some p->p.block≠w.heap.size+2:=λp e=>by have:=bm p e;omega
   have bp:∀ p,M=some p->w.heap.size<=p.block:=λp e=>by have:=bm p e;have:=G.out.b.size;omega
   have B:=(L.block _ bv).trans N.out;have bs:w.heap.size+2<D.heap.size:=(zs B)
   have bu:=λW (hb:Below D.heap.size D W)=>(hI.on hb).up hb.size;have bk:=(zr D.heap.size D).drew;have bt:∀ W:World,W.heap[w.heap.size+2]?=some (.cells #[int i64 0,int i64 0,int i64 0,int i64 0,int i64 0,int i64 0,int i64 0,int i64 0,slice none 0 0,.int .u64 0,int i64 0,int i64 0] 32 (0,0)) -> (storeVar 32 ⟨w.heap.size+2,0,none⟩ (.agg #[int i64 v.num,int i64 t,int i64 ns.sum,int i64 I,int i64 a.kind,int i64 a.fr,int i64 a.un,int i64 a.pers,slice M ns.length c2,.int .u64 (q:Nat),int i64 0,int i64 0])).run prog W=.ok () (W.setRow (w.heap.size+2) #[int i64 v.num,int i64 t,int i64 ns.sum,int i64 I,int i64 a.kind,int i64 a.fr,int i64 a.un,int i64 a.pers,slice M ns.length c2,.int .u64 (q:Nat),int i64 0,int i64 0]):=λW h =>run_storeVar_row W _ 32 _ _ _ h (by rw [Tryz.infoQtSz];rfl) rfl (Z0z ⟨v.num,t,ns.sum,I,a,ns,q,0,0⟩ M ns.length c2);have bj:Hid (∀ wx,PnB w v (slice A v.rs.length c) a wx->wx.cell? ⟨w.heap.size,0,none⟩=some (int i64 v.num)/\wx.cell? ⟨w.heap.size,1,none⟩=some (int i64 v.time)/\wx.cell? ⟨w.heap.size,2,none⟩=some (slice A v.rs.length c)/\wx.cell? ⟨w.heap.size+1,0,none⟩=some (int i64 a.kind)/\wx.cell? ⟨w.heap.size+1,1,none⟩=some (int i64 a.fr)/\wx.cell? ⟨w.heap.size+1,2,none⟩=some (int i64 a.un)/\wx.cell? ⟨w.heap.size+1,3,none⟩=some (int i64 a.pers)/\PnB w v (slice A v.rs.length c) a wx):=λwx h=>by obtain ⟨O,X,d⟩:=h.x.cells;obtain ⟨R,S,f,Z⟩:=h.a.c;exact ⟨O,X,d,R,S,f,Z,h⟩
   have bc:=zh Y;have bE:=zh B;have bg:=zh bu;have bx:=zh bk;have bC:=zh bs;have bM:=zh bt;have bK:=zh bq;have bD:=zh bp;clear Y B bu bk bs bt bq bp L G U N hI bv O X d R S f Z;go_upto_region 4 with fail;go_region_held3 (λw'=>w'.cell? ⟨w.heap.size,0,none⟩=some (int i64 v.num)/\w'.cell? ⟨w.heap.size,1,none⟩=some (int i64 v.time)/\w'.cell? ⟨w.heap.size,2,none⟩=some (slice A v.rs.length c)/\w'.cell? ⟨w.heap.size+1,0,none⟩=some (int i64 a.kind)/\w'.cell? ⟨w.heap.size+1,1,none⟩=some (int i64 a.fr)/\w'.cell? ⟨w.heap.size+1,2,none⟩=some (int i64 a.un)/\w'.cell? ⟨w.heap.size+1,3,none⟩=some (int i64 a.pers)/\PnB w v (slice A v.rs.length c) a w') (first | (with_reducible exact bj.out _ bc.out.drew) | (with_reducible exact bj.out _ L8) | (exact bj.out _ ((((((((((((L8.set (b:=w.heap.size+2) (zn _) 0 _).set (b:=w.heap.size+2) (zn _) 1 _).set (b:=w.heap.size+2) (zn _) 2 _).set (b:=w.heap.size+2) (zn _) 3 _).set (b:=w.heap.size+2) (zn _) 4 _).set (b:=w.heap.size+2) (zn _) 5 _).set (b:=w.heap.size+2) (zn _) 6 _).set (b:=w.heap.size+2) (zn _) 7 _).set (b:=w.heap.size+2) (zn _) 8 _).set (b:=w.heap.size+2) (zn _) 9 _).set (b:=w.heap.size+2) (zn _) 10 _).set (b:=w.heap.size+2) (zn _) 11 _)) | fail) (first
     | (go_at_call 90;first | (refine (bn.out _ _ (bg.out _ Q8) (by omega)).mono ?_;rintro ex w6 ⟨rfl,rfl⟩) | (refine (bn.out _ _ (bg.out _ bx.out) (by omega)).mono ?_;rintro ex w6 ⟨rfl,rfl⟩))
     | (go_at_call 64;have hA:=‹_/\_/\_/\_/\_/\_/\_/\PnB w v _ a _›.2.2.2.2.2.2.2;refine (bI.out _ hA).mono ?_;rintro ex H ⟨rfl,y⟩;have L8:=hA.on y;have Q8:=Z00 bx.out y;have C:=(Q8.block _ bC.out).trans bE.out;have z0:H.cell? ⟨w.heap.size+2,0,none⟩=some (int i64 0):=(zc C 0).trans rfl;have z1:H.cell? ⟨w.heap.size+2,1,none⟩=some (int i64 0):=(zc C 1).trans rfl;have z2:H.cell? ⟨w.heap.size+2,2,none⟩=some (int i64 0):=(zc C 2).trans rfl;have z3:H.cell? ⟨w.heap.size+2,3,none⟩=some (int i64 0):=(zc C 3).trans rfl;have z4:H.cell? ⟨w.heap.size+2,4,none⟩=some (int i64 0):=(zc C 4).trans rfl;have z5:H.cell? ⟨w.heap.size+2,5,none⟩=some (int i64 0):=(zc C 5).trans rfl;have z6:H.cell? ⟨w.heap.size+2,6,none⟩=some (int i64 0):=(zc C 6).trans rfl;have z7:H.cell? ⟨w.heap.size+2,7,none⟩=some (int i64 0):=(zc C 7).trans rfl;have z8:H.cell? ⟨w.heap.size+2,8,none⟩=some (slice none 0 0):=(zc C 8).trans rfl;have z9:H.cell? ⟨w.heap.size+2,9,none⟩=some (.int .u64 0):=(zc C 9).trans rfl;have bh:H.cell? ⟨w.heap.size+2,10,none⟩=some (int i64 0):=(zc C 10).trans rfl;have bb:H.cell? ⟨w.heap.size+2,11,none⟩=some (int i64 0):=(zc C 11).trans rfl;have f0:=zO C 0;have f1:=zO C 1;have f2:=zO C 2;have f3:=zO C 3;have f4:=zO C 4;have f5:=zO C 5;have f6:=zO C 6;have f7:=zO C 7;have f8:=zO C 8;have f9:=zO C 9;have bJ:=zO C 10;have bG:=zO C 11;have bF:=(zs C);clear y hA C))
   all_goals
    have bA:=bg.out _ Q8;have bB:=zh bA;clear bA;go_wp2_with fail;refine bodyPost_ret (v:=.tuple #[.agg (qtC ⟨v.num,t,ns.sum,I,a,ns,q,0,0⟩ (slice M ns.length c2)),int i64 0]) (by simp [results,results53,go_sem,qtC,z0,z1,z2,z3,z4,z5,z6,z7,z8,z9,bh,bb]) rfl ⟨?_,M,c2,rfl,?_,bD.out⟩
    · refine PnB.b (v:=v) (rv:=slice A v.rs.length c) (a:=a) ?_
      repeat (refine PnB.set ?_ (zn _) _ _)
      exact L8
    · refine (Zks bB.out (λp e=>?_)).up (by simp only [World.setCell,Array.size_modify];exact zn _);have F:=bK.out p e;exact (zg _ _ _ _ F).trans ((zg _ _ _ _ F).trans ((zg _ _ _ _ F).trans ((zg _ _ _ _ F).trans ((zg _ _ _ _ F).trans ((zg _ _ _ _ F).trans ((zg _ _ _ _ F).trans ((zg _ _ _ _ F).trans ((zg _ _ _ _ F).trans ((zg _ _ _ _ F).trans ((zg _ _ _ _ F).trans ((zg _ _ _ _ F).trans (rfl))))))))))))
end
section
open Go.RowKit Lx Px Qx
theorem ZcB (q:Qt)(V:Value)(w:World)(hV:QtV w w.heap.size V q)(hd:q.dig<18446744073709551616)(hn:q.nights.length<=50000) : Calls prog 29 #[V] w λe w'=>∃ r,e=.returned r/\Z03 w' w'.heap.size r q.says/\Below w.heap.size w w':=by
 obtain ⟨R,O,rfl,m⟩:=hV;have bg:q.says=([q.ver,q.time,q.total,q.keep,q.ask.kind,q.ask.fr,q.ask.un,q.ask.pers,(q.nights.length:Int)]++q.nights)++[((q.dig / 4294967296:Nat):Int),((q.dig % 4294967296:Nat):Int)]:=rfl;rw [bg];clear bg;obtain ⟨pv,N,H,M,⟨J,G,L,I⟩,B,C,f,d⟩:=q;simp only [qtV] at m hd hn |-
 have y:=(zr w.heap.size w).alloc (zn _) (.cells #[int i64 pv,int i64 N,int i64 H,int i64 M,int i64 J,int i64 G,int i64 L,int i64 I,slice R B.length O,.int .u64 (C:Nat),int i64 f,int i64 d] 32);have bc:=za w (.cells #[int i64 pv,int i64 N,int i64 H,int i64 M,int i64 J,int i64 G,int i64 L,int i64 I,slice R B.length O,.int .u64 (C:Nat),int i64 f,int i64 d] 32);have hI0:=m.on y;have bH:(C:Int).tdiv 4294967296=((C / 4294967296:Nat):Int):=by rw [Int.tdiv_eq_ediv_of_nonneg (by omega)];omega
 have bK:(C:Int).tmod 4294967296=((C % 4294967296:Nat):Int):=by rw [Int.tmod_eq_emod_of_nonneg (by omega)];omega
 have bC:IntKind.i64.wrap ((C / 4294967296:Nat):Int)=((C / 4294967296:Nat):Int):=zi _ (by omega);have bI:IntKind.i64.wrap ((C % 4294967296:Nat):Int)=((C % 4294967296:Nat):Int):=zi _ (by omega);have bG:IntKind.u64.wrap ((C / 4294967296:Nat):Int)=((C / 4294967296:Nat):Int):=by rw [IntKind.wrap_u64];omega
 have bL:(0:Int)<=((C / 4294967296:Nat):Int):=by omega
 have bF:((C / 4294967296:Nat):Int)<=4294967295:=by omega
 generalize C / 4294967296=U at *
 generalize C % 4294967296=lo at *
 have F:=zh bc;have bh:=zh hI0;have ba:=zh y;clear bc hI0 y m;go_enter func29,ntmps29;go_upto_region 1 with fail;generalize w.alloc (.cells #[int i64 pv,int i64 N,int i64 H,int i64 M,int i64 J,int i64 G,int i64 L,int i64 I,slice R B.length O,.int .u64 (C:Nat),int i64 f,int i64 d] 32)=D at *
 have l:w.heap.size<D.heap.size:=(zs F.out)
 have c0:D.cell? ⟨w.heap.size,0,none⟩=some (int i64 pv):=by rw [zc F.out];rfl
 have c1:D.cell? ⟨w.heap.size,1,none⟩=some (int i64 N):=by rw [zc F.out];rfl
 have c2:D.cell? ⟨w.heap.size,2,none⟩=some (int i64 H):=by rw [zc F.out];rfl
 have c3:D.cell? ⟨w.heap.size,3,none⟩=some (int i64 M):=by rw [zc F.out];rfl
 have c4:D.cell? ⟨w.heap.size,4,none⟩=some (int i64 J):=by rw [zc F.out];rfl
 have c5:D.cell? ⟨w.heap.size,5,none⟩=some (int i64 G):=by rw [zc F.out];rfl
 have c6:D.cell? ⟨w.heap.size,6,none⟩=some (int i64 L):=by rw [zc F.out];rfl
 have c7:D.cell? ⟨w.heap.size,7,none⟩=some (int i64 I):=by rw [zc F.out];rfl
 have c8:D.cell? ⟨w.heap.size,8,none⟩=some (slice R B.length O):=by rw [zc F.out];rfl
 go_upto_region 2 with fail;have bq:(D.alloc (.cells #[int i64 pv,int i64 N,int i64 H,int i64 M,int i64 J,int i64 G,int i64 L,int i64 I,int i64 (B.length:Nat)] 3)).ownsRow (w.heap.size+1) 3 1 (slice (some ⟨D.heap.size,0,none⟩) 9 9) 9 (([pv,N,H,M,J,G,L,I,((B.length:Nat):Int)]:List Int).map (.int .i64)) := World.ownsRow_lit D #[int i64 pv,int i64 N,int i64 H,int i64 M,int i64 J,int i64 G,int i64 L,int i64 I,int i64 (B.length:Nat)] 9 (by omega) (by unfold maxLen;omega) rfl
 have T:=(zr D.heap.size D).alloc (zn _) (.cells #[int i64 pv,int i64 N,int i64 H,int i64 M,int i64 J,int i64 G,int i64 L,int i64 I,int i64 (B.length:Nat)] 3);have bp:=bh.out.on (T.mono (zl l));have A:=(T.block _ l).trans F.out;have bj:=ba.out.trans (T.mono (zl l));have bE:=T.size;generalize D.alloc (.cells #[int i64 pv,int i64 N,int i64 H,int i64 M,int i64 J,int i64 G,int i64 L,int i64 I,int i64 (B.length:Nat)] 3)=w2 at *
 generalize j:([pv,N,H,M,J,G,L,I,((B.length:Nat):Int)]:List Int)=S at *
 have bk:S.length=9:=by rw [<- j];rfl
 have c8:w2.cell? ⟨w.heap.size,8,none⟩=some (slice R B.length O):=by rw [zc A];rfl
 have bb:pv::N::H::M::J::G::L::I::(B.length:Int)::(B++[(U:Int),(lo:Int)])=(S++B)++[(U:Int),(lo:Int)]:=by rw [<- j];simp
 have be:=zh bq;have bf:=zh bp;have HX2:=zh A;have bm:=zh bj;have bs:=zh bb;clear bq bp A bj bb F bh ba T c0 c1 c2 c3 c4 c5 c6 c7 j;go_upto_region 3 with (at_builtin;refine Z2b rfl _ _ rfl (w.heap.size+1) w.heap.size (slice (some ⟨D.heap.size,0,none⟩) 9 9) S rfl (by rw [bk];exact be.out) R B.length O B rfl bf.out (by omega) (by omega) ?_;intro v3 X Z Y);have br:=(Y.block w.heap.size (by omega) (by intro e;have e:=Option.some.inj e;dsimp only at e;omega)).trans HX2.out
 have bd:Below w.heap.size w X:=bm.out.grown Y (by omega) (λg e=>by have e:=Option.some.inj e;dsimp only at e;omega);have c9:X.cell? ⟨w.heap.size,9,none⟩=some (.int .u64 (C:Nat)):=by rw [zc br];rfl
 obtain ⟨A3,c3,rfl,bJ⟩:=Z47 Z rfl;have bn:=Z.lt;have bB:w.heap.size+1<=X.heap.size:=by have:=Y.size;omega
 have bD:(S++B).length<=60000:=by rw [zj,bk];omega
 have bv:=zh Z;have bx:=zh bd;have bA:=zh bn;clear Z bd bn be bf HX2 bm c8 Y br;go_wp2_with (at_builtin;go_loud (refine Z2b rfl _ _ rfl (w.heap.size+1) (X.heap.size+1) _ (S++B) rfl (bv.out.alloc _) _ 2 2 [(U:Int),(lo:Int)] rfl (Z3t (W:=X) U lo) (by simp only [zj,zw,zx];omega) (by simp;omega) ?_;intro v4 w4 bt bz));have bu:Below w.heap.size w w4:=(bx.out.alloc (by omega) (.cells #[int i64 U,int i64 lo] 3)).grown bz (by simp;omega) (λg e=>by have:=(bA.out g e).1;omega);go_ret;refine ⟨_,rfl,?_,bu⟩;rw [bs.out];exact Z03.own bt rfl
end
end Go.Proofs.YtnepkoepbapgeaaGreatDoor
