import Derived.Test.YtnepkoepbapgeaaGreatDoorQuoHd0
import Derived.Test.YtnepkoepbapgeaaGreatDoorParW13
namespace Go.Proofs.YtnepkoepbapgeaaGreatDoor
open _root_.Go.Proofs.Tryz
open Value (int slice)
open IntKind (i64)
set_option maxHeartbeats 16000000
set_option maxRecDepth 100000
section
open Go.RowKit Lx Px Qx
theorem Z1r (q:Qt)(nv:Value):(qtC q nv).size=12:=rfl
theorem qmx_up {w w':World}{B:Nat}(h:Mx w B)(hb:Below B w w'):Mx w' w'.heap.size:=by
 obtain ⟨m,C,D⟩:=h;exact ⟨m,(hb.cell D).trans C,by have:=World.block_lt_of_cell? _ _ ((hb.cell D).trans C);exact this⟩
structure QbK (p:Nat) (q:Qt) (nv:Value) (W:World):Prop where
 h:W.heap[p]?=some (.cells (qtC q nv) 32 (0,0))
 i:Z03 W p nv q.nights
theorem QbK.on {p:Nat}{q:Qt}{nv:Value}{W B:World}(h:QbK p q nv W)(hb:Below W.heap.size W B):QbK p q nv B := ⟨(hb.block _ (zs h.h)).trans h.h,h.i.on (hb.mono (zl (zs h.h)))⟩
theorem QbK.new {q:Qt}{nv:Value}{W:World}(h:Z03 W W.heap.size nv q.nights):QbK W.heap.size q nv (W.alloc (.cells (qtC q nv) 32)):=by
 have hb:=(zr W.heap.size W).alloc (zn _) (.cells (qtC q nv) 32);exact ⟨za W _,h.on hb⟩
theorem QbK.lt {p:Nat}{q:Qt}{nv:Value}{W:World}(h:QbK p q nv W):p<W.heap.size:=(zs h.h)
theorem QbK.v {p:Nat}{q:Qt}{A:Option Addr}{c:Nat}{W:World}(h:QbK p q (slice A q.nights.length c) W):QtV W W.heap.size (.agg (qtC q (slice A q.nights.length c))) q:=⟨A,c,rfl,h.i.up (zl h.lt)⟩
theorem QbK.c {p:Nat}{q:Qt}{nv:Value}{W:World}(h:QbK p q nv W)(i:Nat)(u:Value)(B:(qtC q nv)[i]?=some u):W.cell? ⟨p,i,none⟩=some u:=by rw [zc h.h,B]
theorem QbK.f {p:Nat}{q:Qt}{nv:Value}{W:World}(h:QbK p q nv W)(i:Nat):W.frozen? ⟨p,i,none⟩=false:=by have:=h.h;simp [World.frozen?,this]
theorem QbK.far {p B:Nat}{q:Qt}{nv:Value}{W C:World}(h:QbK p q nv W)(hb:Below B W C)(D:p<B):QbK p q nv C:=⟨(hb.block _ D).trans h.h,h.i.on (hb.mono (zl D))⟩
theorem QbK.set2 {p:Nat}{q:Qt}{nv:Value}{W:World}(h:QbK p q nv W)(x:Int):QbK p { q with total:=x } nv (W.setCell ⟨p,2,none⟩ (int i64 x)):=by
 have B:=h.h;refine ⟨?_,h.i.on ((zr p W).setCell (p:=⟨p,2,none⟩) (zn _) _)⟩;unfold qtC at B;simp [World.setCell,zM,B,qtC]
theorem QbK.all {p:Nat}{q:Qt}{nv:Value}{W:World}(h:QbK p q nv W):W.cell? ⟨p,0,none⟩=some (int i64 q.ver)/\W.cell? ⟨p,1,none⟩=some (int i64 q.time)/\W.cell? ⟨p,2,none⟩=some (int i64 q.total)/\W.cell? ⟨p,3,none⟩=some (int i64 q.keep) /\ W.cell? ⟨p,4,none⟩=some (int i64 q.ask.kind)/\W.cell? ⟨p,5,none⟩=some (int i64 q.ask.fr)/\W.cell? ⟨p,6,none⟩=some (int i64 q.ask.un)/\W.cell? ⟨p,7,none⟩=some (int i64 q.ask.pers)/\W.cell? ⟨p,8,none⟩=some nv/\W.cell? ⟨p,9,none⟩=some (.int .u64 (q.dig:Nat))/\W.cell? ⟨p,10,none⟩=some (int i64 q.sE)/\W.cell? ⟨p,11,none⟩=some (int i64 q.sS) := ⟨h.c 0 _ rfl,h.c 1 _ rfl,h.c 2 _ rfl,h.c 3 _ rfl,h.c 4 _ rfl,h.c 5 _ rfl,h.c 6 _ rfl,h.c 7 _ rfl,h.c 8 _ rfl,h.c 9 _ rfl,h.c 10 _ rfl,h.c 11 _ rfl⟩
theorem Z42 {w:World}{B:Nat}{V:Value}{q:Qt}(h:QtV w B V q):∃ A c,V=.agg (qtC q (slice A q.nights.length c))/\Z03 w B (slice A q.nights.length c) q.nights:=h
attribute [local irreducible] Qx.sigE Qx.sigS Qx.Vr.dig Qx.powP
namespace Qx
def Z37:Vr:=⟨3,50,[Zh4.rt]⟩
theorem ZdC:Z37.okB=true:=by
 unfold Z37 Vr.okB;simp only [Znm,List.all_cons,List.all_nil,Znn];rfl
def hdW12:Qt:=⟨3,60,40000,20000,hdA12,[20000,20000],Z37.dig,0,0⟩
def hdQ12:Qt:={ hdW12 with sE:=(sigE 5 6 hdW12.says:Nat),sS:=(sigS 5 6 hdW12.says:Nat) }
theorem Z8D:Z48 Z37 hdA12 60 5 6=(hdQ12,0):=by
 have B:Z14 Z37 hdA12 60=.ok hdW12:=Z85 (ns:=[20000,20000]) Zh5;rw [Z6k ZdC (by decide) (by decide) (by decide) (by decide),zf (by decide),B];rw [show (5:Int).toNat=5 from rfl,show (6:Int).toNat=6 from rfl];unfold hdQ12;rfl
theorem ZgH:Z48 Z37 hdA12 49 5 6=(.zero,6):=by
 rw [Z6k ZdC (by decide) (by decide) (by decide) (by decide),zp (by decide)]
theorem Zh0:Z1b Z37 hdQ12 (powP 4 5:Nat)=(true,0):=by
 have h:=Zhb Z8D;rwa [show (5:Int).toNat=5 from rfl] at h
theorem Zh1:Z1b Z37 { hdQ12 with total:=40001 } (powP 4 5:Nat)=(false,0):=by
 refine Ze3 Z8D rfl rfl ?_ (ZkB 5 (ZkC 5));rw [<- Bool.not_eq_true,Qt.same_iff];rintro ⟨_,_,h,_⟩;exact absurd (show (40001:Int)=40000 from h) (by decide)
theorem ZjB:(⟨0,0,[]⟩:Vr).okB=false:=by decide
theorem Z43:(∀ x∈hdQ12.says,-9223372036854775808<=x/\x<=9223372036854775807)/\hdQ12.dig<18446744073709551616/\hdQ12.nights.length<=50000:=by
 have C:=Zcp Z37;unfold hdQ12 hdW12;generalize Z37.dig=d at *
 refine ⟨?_,C,by show ([20000,20000]:List Int).length<=50000;decide⟩;intro x B;simp only [Qt.says,hdA12,zC,zD,List.not_mem_nil,or_false] at B;rcases B with (B | B) | B
 · rcases B with rfl | rfl | rfl | rfl | rfl | rfl | rfl | rfl | rfl <;> decide
 · rcases B with rfl | rfl <;> decide
 · rcases B with rfl | rfl <;> omega
theorem ZdD:(∀ x∈({ hdQ12 with total:=40001 }:Qt).says,-9223372036854775808<=x/\x<=9223372036854775807):=by
 have C:=Zcp Z37;unfold hdQ12 hdW12;generalize Z37.dig=d at *
 intro x B;simp only [Qt.says,hdA12,zC,zD,List.not_mem_nil,or_false] at B;rcases B with (B | B) | B
 · rcases B with rfl | rfl | rfl | rfl | rfl | rfl | rfl | rfl | rfl <;> decide
 · rcases B with rfl | rfl <;> decide
 · rcases B with rfl | rfl <;> omega
theorem ZjC:hdQ12.same ⟨3,60,40000,20000,hdA12,[20000,20000],Z37.dig,0,0⟩=true:=by
 rw [Qt.same_iff];exact ⟨rfl,rfl,rfl,rfl,rfl,rfl,rfl⟩
end Qx
theorem Z3d {w W:World}{A:Option Addr}{c:Nat}(h:LwB w Z37 (slice A 1 c) hdA12 W):W.cell? ⟨w.heap.size,0,none⟩=some (int i64 3)/\W.cell? ⟨w.heap.size,1,none⟩=some (int i64 50)/\W.cell? ⟨w.heap.size,2,none⟩=some (slice A 1 c) /\ W.cell? ⟨w.heap.size+1,0,none⟩=some (int i64 1)/\W.cell? ⟨w.heap.size+1,1,none⟩=some (int i64 4)/\W.cell? ⟨w.heap.size+1,2,none⟩=some (int i64 6)/\W.cell? ⟨w.heap.size+1,3,none⟩=some (int i64 2):=h.cells
theorem Zh2 (w:World)(ht:Tabs w.heap.size w)(hM:Mx w w.heap.size):Calls prog 14 #[] w λe w'=>e=.returned (.bool true)/\Below w.heap.size w w':=by
 have j:=zh ht;have HM:=zh hM;clear ht hM;go_enter func14,ntmps14;go_wp2_with fail;refine (Z8n _ _ HM.out).mono ?_;intro e C (hh:SrcP w (srcO Zqx) e C);rw [Znk] at hh;obtain ⟨S,A,c,rfl,hR⟩:=hh;have bW:LwB C Z37 (slice A 1 c) hdA12 ((C.alloc (.cells #[int i64 3,int i64 50,slice A 1 c] 24)).alloc (.cells #[int i64 1,int i64 4,int i64 6,int i64 2] 26)):=LwB.new C Z37 (slice A 1 c) hdA12 hR;have b1:=λt s o W (h:LwB C Z37 (slice A 1 c) hdA12 W)=>Zcq Z37 hdA12 t s o (.agg #[int i64 3,int i64 50,slice A 1 c]) W h.ver (Z28 (Z28 j.out S) h.b);have bY:=λq p U W (h:LwB C Z37 (slice A 1 c) hdA12 W) hU hr hd hn=>Z9G Z37 q p (.agg #[int i64 3,int i64 50,slice A 1 c]) U W h.ver hU hr hd hn (Z28 (Z28 j.out S) h.b);have bb:=λW (h:LwB C Z37 (slice A 1 c) hdA12 W)=>Z40 Z37 (.agg #[int i64 3,int i64 50,slice A 1 c]) W h.ver (Z28 (Z28 j.out S) h.b);have bq:=λW (h:LwB C Z37 (slice A 1 c) hdA12 W)=>Z40 ⟨0,0,[]⟩ (.agg #[int i64 0,int i64 0,slice none 0 0]) W ⟨none,0,rfl,RtsV.nil _ _⟩ (Z28 (Z28 j.out S) h.b);rw [ZdC] at bb;rw [ZjB] at bq;have m:=zh bW;have b5:=zh b1;have cf:=zh bY;have cF:=zh bb;have cH:=zh bq;have b6:=zh S;clear bW b1 bY bb bq S hR;dsimp only [zw,zx,Nat.reduceAdd];go_upto_region 4 with fail;generalize (C.alloc (.cells #[int i64 3,int i64 50,slice A 1 c] 24)).alloc (.cells #[int i64 1,int i64 4,int i64 6,int i64 2] 26)=w2 at *
 obtain ⟨F,G,M,L,H,I,J⟩:=Z3d m.out;go_wp2_with fail;have O:=b5.out 60 5 6 w2 m.out;rw [Z8D] at O;refine O.mono ?_;rintro e X ⟨QV,rfl,Y,bQ⟩;obtain ⟨A1,c1,rfl,bj⟩:=Z42 Y;obtain ⟨nv,V⟩:∃ nv,(Value.slice A1 hdQ12.nights.length c1)=nv:=⟨_,rfl⟩
 have bV:(qtC hdQ12 nv).all (·.oneCell')=true:=by rw [<- V];exact Z0z _ _ _ _
 have b0:∀ W p,QbK p hdQ12 nv W->QtV W W.heap.size (.agg (qtC hdQ12 nv)) hdQ12:=by rw [<- V];exact λW p h=>h.v
 have cr:∀ W p,QbK p { hdQ12 with total:=40001 } nv W->QtV W W.heap.size (.agg (qtC { hdQ12 with total:=40001 } nv)) { hdQ12 with total:=40001 }:=by rw [<- V];exact λW p h=>h.v
 rw [V] at bj |-
 clear V;have bs:=m.out.on bQ;have B:=(zr X.heap.size X).alloc (zn _) (.cells (qtC hdQ12 nv) 32);have hL4:=bs.on B;have cj:=QbK.new (q:=hdQ12) bj;obtain ⟨F,G,M,L,H,I,J⟩:=Z3d hL4;have cK:=bs.b.size;have bt:=zh hL4;have ch:=zh cj;have cg:=zh b0;have cz:=zh cr;clear hL4 cj b0 cr bs B bQ m O Y bj;dsimp only;go_upto_region 5 with (refine Z0h rfl _ _ rfl _ _ rfl rfl rfl (Z1r _ _) bV ?_);generalize X.alloc (.cells (qtC hdQ12 nv) 32)=w4 at *
 go_wp2_with fail;have O:=b5.out 49 5 6 w4 bt.out;rw [ZgH] at O;refine O.mono ?_;rintro e w5 ⟨QV,rfl,Y,br⟩;obtain ⟨A2,c2,rfl,g⟩:=Z42 Y;have cC:=Z0z Qt.zero A2 Qt.zero.nights.length c2;have cm:=bt.out.on br;have b7:=ch.out.on br;have B:=(zr w5.heap.size w5).alloc (zn _) (.cells (qtC Qt.zero (slice A2 Qt.zero.nights.length c2)) 32);have b3:=cm.on B;have bI:=b7.on B;have bO:=zh b3;have cc:=zh bI;clear b3 bI cm b7 B bt ch O Y g br F G M L H I J;dsimp only;go_upto_region 6 with (refine Z0h rfl _ _ rfl _ _ rfl rfl rfl (Z1r _ _) cC ?_);generalize w5.alloc (.cells (qtC Qt.zero (slice A2 Qt.zero.nights.length c2)) 32)=w6 at *
 have hpu:=ZhD 5 w6 (by decide);rw [show (5:Int).toNat=5 from rfl] at hpu;have ce:=Zh0;have bB:=Zh1;generalize powP 4 5=pb at *
 have b9:=zh hpu;have cx:=zh ce;have cy:=zh bB;clear hpu ce bB;go_wp2_with fail;refine b9.out.mono ?_;rintro e w7 ⟨rfl,bv⟩;have bx:=bO.out.on bv;have ba:=cc.out.on bv;obtain ⟨F,G,M,L,H,I,J⟩:=Z3d bx;have b4:=ba.h;have bm:=zh bx;have bk:=zh ba;have bT:=zh b4;clear bx ba b4 bO cc b9 bv;go_wp2_with (refine Z0g rfl _ rfl X.heap.size rfl _ (Z1r _ _) _ bT.out ?_);have R:=cf.out hdQ12 (pb:Nat) (.agg (qtC hdQ12 nv)) w7 bm.out (cg.out _ _ bk.out) Z43.1 Z43.2.1 Z43.2.2;rw [cx.out] at R;refine R.mono ?_;rintro e D ⟨rfl,y⟩;have Z:=bm.out.on y;have T:=bk.out.on y;have B:=(zr D.heap.size D).alloc (zn _) (.cells (qtC hdQ12 nv) 32);have bA:=QbK.new (q:=hdQ12) (W:=D) (nv:=nv) (T.i.up (zl T.lt));have bL:=Z.on B;have bH:=T.on B;have bR:=T.h;have cL:=Z.b.size;have cG:=T.lt;have cd:C.heap.size+2<=D.heap.size:=by have:=(zs Z.ha);omega
 have bX:=zh bL;have bE:=zh bH;have d:=zh bA;have cs:=zh bR;have cE:=zh cd;clear bL bH bA bR cd bm bk bT y R Z T B F G M L H I J;dsimp only;go_upto_region 9 with (first | (refine Z0g rfl _ rfl X.heap.size rfl _ (Z1r _ _) _ cs.out ?_) | (refine Z0h rfl _ _ rfl _ _ rfl rfl rfl (Z1r _ _) bV ?_));generalize D.alloc (.cells (qtC hdQ12 nv) 32)=l at *
 have t2:l.cell? ⟨D.heap.size,2,none⟩=some (int i64 40000):=d.out.c 2 _ rfl;have f2:=d.out.f 2;have bC:=d.out.set2 40001;have cb:=bX.out.far ((zr (C.heap.size+2) l).setCell (p:=⟨D.heap.size,2,none⟩) (by show C.heap.size+2<=D.heap.size;have:=cE.out;omega) (int i64 40001));have bP:=bE.out.far ((zr D.heap.size l).setCell (p:=⟨D.heap.size,2,none⟩) (zn _) (int i64 40001)) cG;have bc:=zh bC;have r:=zh cb;have ck:=zh bP;clear bC cb bP d bX bE;go_upto_region 10 with fail;generalize l.setCell ⟨D.heap.size,2,none⟩ (int i64 40001)=cB at *
 clear t2 f2;obtain ⟨F,G,M,L,H,I,J⟩:=Z3d r.out;have bN:=bc.out.h;have bG:=zh bN;clear bN;go_wp2_with (refine Z0g rfl _ rfl D.heap.size rfl _ (Z1r _ _) _ bG.out ?_);have R:=cf.out { hdQ12 with total:=40001 } (pb:Nat) (.agg (qtC { hdQ12 with total:=40001 } nv)) cB r.out (cz.out _ _ bc.out) ZdD Z43.2.1 Z43.2.2;rw [cy.out] at R;refine R.mono ?_;rintro e cA ⟨rfl,bg⟩;have bf:=r.out.on bg;have ca:=ck.out.on bg;clear F G M L H I J;obtain ⟨F,G,M,L,H,I,J⟩:=Z3d bf;have bd:=zh bf;have bM:=zh ca;clear bf ca r ck bc bG bg R;go_wp2_with fail;refine (cF.out cA bd.out).mono ?_;rintro e cv ⟨bp,rfl⟩;have bK:=bd.out.on bp;have b2:=bM.out.on bp;have bu:=zh bK;have b8:=zh b2;clear bK b2 bd bM bp F G M L H I J;simp only [if_true,Option.getD_some,reduceCtorEq,if_false];go_wp2_with fail;refine (cH.out cv bu.out).mono ?_;rintro e N ⟨bh,rfl⟩;have bn:=bu.out.on bh;have bz:=b8.out.on bh;obtain ⟨F,G,M,L,H,I,J⟩:=Z3d bn;have cn:=bz.h;have bS:=ZjC;generalize Z37.dig=dg at *
 have bF:=zh bn;have bZ:=zh bz;have cM:=zh cn;have cD:=zh bS;clear bn bz cn bS bu b8 bh;simp only [Bool.false_eq_true,if_false,if_true,Option.getD_none];obtain ⟨k0,k1,k2,k3,k4,k5,k6,k7,k8,k9,cP,cO⟩:=bZ.out.all;have g:Z03 (N.alloc (.cells #[int i64 20000,int i64 20000] 3)) (N.alloc (.cells #[int i64 20000,int i64 20000] 3)).heap.size (slice (some ⟨N.heap.size,0,none⟩) 2 2) [20000,20000]:=(Z3t (W:=N) 20000 20000).up (by simp);have B:=(zr N.heap.size N).alloc (zn _) (.cells #[int i64 20000,int i64 20000] 3);have bJ:=bZ.out.on B;have be:=Z99 hdQ12 ⟨3,60,40000,20000,hdA12,[20000,20000],dg,0,0⟩ (.agg #[int i64 hdQ12.ver,int i64 hdQ12.time,int i64 hdQ12.total,int i64 hdQ12.keep,int i64 hdQ12.ask.kind,int i64 hdQ12.ask.fr,int i64 hdQ12.ask.un,int i64 hdQ12.ask.pers,nv,.int .u64 (hdQ12.dig:Nat),int i64 hdQ12.sE,int i64 hdQ12.sS]) (.agg #[int i64 3,int i64 60,int i64 40000,int i64 20000,int i64 1,int i64 4,int i64 6,int i64 2,slice (some ⟨N.heap.size,0,none⟩) 2 2,.int .u64 (dg:Nat),int i64 0,int i64 0]) _ (cg.out _ _ bJ) ⟨some ⟨N.heap.size,0,none⟩,2,rfl,g⟩ (by show (2:Nat)<=1000000;decide);rw [cD.out] at be;have bD:=b6.out.trans ((bF.out.b.trans (B.mono bF.out.b.size)).mono b6.out.size);have cI:=zh be;have ct:=zh bD;clear be bD g B bJ;go_wp2_with fail;refine cI.out.mono ?_;rintro e cN ⟨rfl,cJ⟩;have bU:=Z00 ct.out cJ;have cu:=zh bU;clear bU;go_wp2_with fail;go_ret;exact ⟨rfl,cu.out⟩
end
section
open Go.RowKit Lx Px Qx
attribute [local irreducible] Qx.sigE Qx.sigS Qx.Vr.dig Qx.powP
theorem Z7d {v:Vr}{a:Qx.Ask}{t s o:Int}{q:Qt}(h:Z48 v a t s o=(q,0)):(∀ x∈q.says,0<=x/\x<=4294967295)/\q.dig<18446744073709551616/\q.nights.length<=60/\q.ver=v.num/\q.time=t/\q.ask=a/\Z0d v.rs a=.ok (q.nights,q.keep)/\q.total=q.nights.sum:=by
 obtain ⟨Y,Z,V,m,y,h6,W,hw,B⟩:=Z8r h;obtain ⟨S,X,N,T,D,R⟩:=Z71 hw;obtain ⟨hub,g,l,bb,ba⟩:=ZaE Y;have U:=Zcp v;have ht:0<=t/\t<=1000000000:=by simpa [Z1E] using V
 obtain ⟨j,f2,f3,f4,_⟩:=Z3k D;have d:=Z6n D;have O:=Z69 D;obtain ⟨A,a2,a3,a4,f,a6,r,a8⟩:=Z1u Z;have e:q.says=W.says:=by rw [B];rfl
 have F:q.dig=W.dig:=by rw [B]
 have J:q.nights=W.nights:=by rw [B]
 have M:q.ver=W.ver:=by rw [B]
 have I:q.time=W.time:=by rw [B]
 have L:q.ask=W.ask:=by rw [B]
 have H:q.keep=W.keep:=by rw [B]
 have G:q.total=W.total:=by rw [B]
 rw [e,F,J,M,I,L,H,G];refine ⟨?_,by omega,d,S,X,N,D,R⟩;clear B e F J M I L H G h hw;intro x C;simp only [Qt.says,zC,zD,List.not_mem_nil,or_false] at C;rw [<- T] at U;rcases C with (C | C) | C
 · rcases C with rfl | rfl | rfl | rfl | rfl | rfl | rfl | rfl | rfl
   all_goals (try rw [N]);omega
 · have:=O x C;omega
 · rcases C with rfl | rfl
   all_goals omega
namespace Qx
end Qx
namespace Qx
def Vr.nxt (v:Vr):Vr:=⟨1+v.num % 1000000,v.time,v.rs⟩
end Qx
end
section
open Go.RowKit Lx Px Qx
attribute [local irreducible] Qx.sigE Qx.sigS Qx.Vr.dig Qx.powP
theorem QbK.set1 {p:Nat}{q:Qt}{nv:Value}{W:World}(h:QbK p q nv W)(x:Int):QbK p { q with time:=x } nv (W.setCell ⟨p,1,none⟩ (int i64 x)):=by
 have B:=h.h;refine ⟨?_,h.i.on ((zr p W).setCell (p:=⟨p,1,none⟩) (zn _) _)⟩;unfold qtC at B;simp [World.setCell,zM,B,qtC]
def qtA (q:Qt)(nv:Value):Value:=.agg #[int i64 q.ver,int i64 q.time,int i64 q.total,int i64 q.keep,int i64 q.ask.kind,int i64 q.ask.fr,int i64 q.ask.un,int i64 q.ask.pers,nv,.int .u64 (q.dig:Nat),int i64 q.sE,int i64 q.sS]
end
section
open Go.RowKit Lx Px Qx
theorem Z9C {w:World}{B:Nat}{v:Value}{l:Bytes}(h:Own8 w B v l):BytV w w.heap.size v l:=by
 rcases h.2 with ⟨C,F⟩ | ⟨g,cap,G,C,_,D,_,_,_,_⟩
 · have:l=[]:=List.length_eq_zero_iff.1 F;subst this;exact ⟨none,0,C,λh=>absurd rfl h⟩
 · refine ⟨some ⟨g,0,none⟩,cap,C,λ_=>⟨g,0,rfl,(zs D),λk hk=>?_⟩⟩;subst C;rw [Nat.zero_add,h.cellAt k (by omega),Lib.byteCells,List.getElem?_map,zv hk];rfl
theorem Z8E (v:Value)(l:Bytes)(w:World)(M:BytV w w.heap.size v l)(f:l.length<=1000000000) : Calls prog 105 #[v] w λe w'=>e=.returned (.int .u64 (sumD l:Nat))/\w=w':=by
 obtain ⟨A,c,rfl,G⟩:=M;obtain ⟨D,B⟩:∃ D,sumD l=D:=⟨_,rfl⟩
 rw [B];have N:=zh G;have R:=zh B;clear G B;go_enter func105,ntmps105;go_wp2_with fail;go_loop [3,4] (λd i=>∃ k:Nat,k<=l.length/\i=int i64 k/\d=.int .u64 (fnv Z2c (l.take k):Nat)) (λ_ i=>l.length - (intOf i).toNat)
 case atStart=>exact ⟨0,Nat.zero_le _,rfl,rfl⟩
 case round =>
  obtain ⟨k,hk,rfl,rfl⟩:=hrel;have H:=Z6t Z2c (l.take k) Z4i;by_cases hlt:k<l.length
  · obtain ⟨b,o,rfl,V,J⟩:=N.out (by intro e;rw [e] at hlt;simp at hlt);have Z:w.cell? ⟨b,o+k,none⟩=some (.int .u8 l[k].toNat):=J k hlt;have I:=Zfd Z2c l k hlt;have T:l[k].toNat<256:=l[k].toNat_lt;generalize l[k].toNat=x at *
    generalize fnv Z2c (l.take k)=C at *
    have g:=bits_xor_u64_nat C x H (by omega);have X:C ^^^ x<18446744073709551616:=Nat.xor_lt_two_pow (n:=64) (by omega) (by omega);generalize C ^^^ x=y at *
    have hw:IntKind.u64.wrap ((y:Int)*1099511628211)=((y*1099511628211 % 18446744073709551616:Nat):Int):=by rw [IntKind.wrap_u64];omega
    have L:decide ((k:Int)<(l.length:Int))=true:=by simpa using hlt
    have Y:(0:Int)<=(k:Int):=by omega
    have U:(k:Int)<(l.length:Int):=by omega
    generalize y*1099511628211 % 18446744073709551616=z at *
    have O:=zh I;clear I J;go_wp2_with fail;go_round
    case rel=>exact ⟨k+1,by omega,by go_num,by rw [O.out]⟩
    case measure=>simp [intOf];omega
  · have S:k=l.length:=by omega
    subst S;have L:decide ((l.length:Int)<(l.length:Int))=false:=by simp
    rw [List.take_length];have F:fnv Z2c l=D:=R.out;rw [F];clear H F;go_wp2_with fail;go_ret;exact ⟨rfl,rfl⟩
theorem Zfi (l:List Int)(D:∀ x∈l,0<=x/\x<=1000000000000):∀ k,(Z2E (l.take k)).length<=20*k:=by
 intro k;induction k with
 | zero=>simp [Z2E]
 | succ k ih =>
  by_cases h:k<l.length
  · rw [Z7b l k h];obtain ⟨C,B⟩:=D _ (List.getElem_mem h);rw [Z6b _ C B];have:=Z0t l[k] C B;simp only [zj,zw,zx];omega
  · rw [List.take_of_length_le (by omega)] at ih |-
    omega
theorem Zh3 (d:Nat)(v:Value)(l:List Int)(w:World)(R:Z03 w w.heap.size v l)(hl:l.length<=1000000)(U:∀ x∈l,0<=x/\x<=1000000000000) : Calls prog 144 #[.int .u64 (d:Nat),v] w λe w'=>Below w.heap.size w w'/\∃ V,e=.returned V/\BytV w' w'.heap.size V (Z1k d++Z2E l):=by
 obtain ⟨Y,hi,bz,bu,bm⟩:=info_parts Tryz.infoByte;obtain ⟨A,c,rfl,_⟩:=id R;have L:=Zfi l U;have HI:=zh hi;have ba:=zh bz;have T:=zh bu;have S:=zh bm;have HV:=zh R;have HR:=zh U;have bJ:=zh L;clear hi bz bu bm R U L;go_enter func144,ntmps144;go_wp2_with fail;go_loopw [5,6] (λo i wr=>∃ k:Nat,k<=8/\i=int i64 k/\Own8 wr w.heap.size o ((Z1k d).take k)/\Below w.heap.size w wr) (λ_ i _=>8 - (intOf i).toNat)
 case atStart=>exact ⟨0,by omega,rfl,Z6c _ _,zr _ _⟩
 case round =>
  obtain ⟨k,hk,rfl,B,C⟩:=hrel;have N:=C.size;by_cases hlt:k<8
  · have j:decide ((k:Int)<8)=true:=by simp;omega
    have bT:(0:Int)<=56 - 8*(k:Int):=by omega
    have bS:56 - 8*(k:Int)<=64:=by omega
    have w8:IntKind.i64.wrap (8*(k:Int))=8*(k:Int):=zi _ (by omega);have bR:IntKind.i64.wrap (56 - 8*(k:Int))=56 - 8*(k:Int):=zi _ (by omega);have Z:=Zfe d k;obtain ⟨y,hg⟩:=Zcf d k hlt;have G:(Z1k d).take (k+1)=(Z1k d).take k++[ZaD d k]:=by rw [zT (by omega),hg]
    have be:((Z1k d).take k).length=k:=by rw [List.length_take,y];omega
    generalize ZaD d k=bb at *
    generalize (Z1k d).take k=H at *
    obtain ⟨A1,c1,rfl⟩:=Z26 B;have F:=zh B;have D:=zh C;have HS:=zh G;have bv:=zh be;clear B C G be;go_wp2_with (at_builtin;refine wpList_append_own _ rfl _ _ 98 rfl w.heap.size 5 Y _ 1 1 underlying98 HI.out ba.out T.out S.out rfl (by decide) _ _ _ rfl (F.out.alloc _) ⟨wr.heap.size,0,none⟩ 1 1 [.int .u8 bb.toNat] rfl rfl (Z5D _ _ _ _ rfl) (by simp [Value.oneCell']) (by have:=bv.out;unfold maxLen;omega) (by have:=bv.out;omega) (by simp;omega) ?_;intro v' w3 bB bM I;clear I);have bC:Own8 w3 w.heap.size v' (H++[bb]):=by show World.ownsRow _ _ _ _ _ _ _;rw [zj,List.length_singleton,Lib.byteCells_append];exact bB
    have bD:Below w.heap.size w w3:=Z4C D.out N F.out bM;go_roundw
    case rel=>exact ⟨k+1,by omega,by go_num,by rw [HS.out];exact bC,bD⟩
    case measure=>simp [intOf];omega
  · have bx:k=8:=by omega
    have bf:(k:Int)=8:=by omega
    have j:decide ((8:Int)<8)=false:=by decide
    have bs:(Z1k d).take 8=Z1k d++Z2E (l.take 0):=by simp [Z1k,Z2E]
    rw [bx,bs] at B;rw [bf];clear bx bf hlt hk bs;have F:=zh B;have D:=zh C;clear B C;go_wp2_with fail;go_loopw [5,7] (λo i wr=>∃ k:Nat,k<=l.length/\i=int i64 k/\Own8 wr w.heap.size o (Z1k d++Z2E (l.take k))/\Below w.heap.size w wr) (λ_ i _=>l.length - (intOf i).toNat)
    case atStart=>exact ⟨0,by omega,rfl,F.out,D.out⟩
    case round =>
     clear F D N;obtain ⟨k,hk,rfl,B,C⟩:=hrel;have N:=C.size;by_cases hlt:k<l.length
     · obtain ⟨g,o,rfl,hg,bk⟩:=Z4j (HV.out.on C) (by intro e;rw [e] at hlt;simp at hlt);have ck:wr.cell? ⟨g,o+k,none⟩=some (int i64 l[k]):=bk k hlt;obtain ⟨r1,f⟩:=HR.out _ (List.getElem_mem hlt);have G:=Z7b l k hlt;rw [Z6b _ r1 f] at G;have bj:=Z0t l[k] r1 f;have L:=bJ.out k;have y:(Z1k d).length=8:=rfl;have bn:Z1k d++Z2E (l.take (k+1))=((Z1k d++Z2E (l.take k))++dec l[k])++[32]:=by rw [G];simp
       have bh:(Z1k d++Z2E (l.take k)).length<=8+20*k:=by rw [zj,y];omega
       have bA:=λW=>Z0u l[k] W r1 f;have j:decide ((k:Int)<(l.length:Int))=true:=by simpa using hlt
       have j0:(0:Int)<=(k:Int):=by omega
       have j1:(k:Int)<(l.length:Int):=by omega
       generalize Z1k d++Z2E (l.take k)=H at *
       generalize bG:dec l[k]=dd at *
       generalize l[k]=z at *
       clear bk bG G L;obtain ⟨A1,c1,rfl⟩:=Z26 B;have F:=zh B;have D:=zh C;have bL:=zh bn;have M:=zh bh;have J:=zh bj;have bt:=zh bA;clear B C bn bh bj bA;go_wp2_with fail;refine (bt.out wr).mono ?_;rintro e w2 ⟨rfl,X⟩;have bc:Own8 w2 w.heap.size (slice A1 H.length c1) H:=Z2v F.out X;have r:=Z00 D.out X;have bp:=r.size;have br:=zh bc;have bI:=zh r;clear bc r X F D bt ck;go_wp2_with (first
        | (at_builtin;refine Lib.wpList_append_own_string _ rfl _ _ 98 9 rfl w.heap.size 5 Y underlying98 underlying9 HI.out ba.out T.out S.out _ _ _ rfl br.out (mk dd) rfl (by have:=M.out;have:=J.out;rw [Z5F];unfold maxLen;omega) (by have:=M.out;have:=J.out;rw [Z5F];omega) bp ?_;intro v1 O m bd I;clear I;rw [Z5E,Z5F] at m
           have bg:Own8 O w.heap.size v1 (H++dd):=by (show World.ownsRow _ _ _ _ _ _ _;rw [zj,Lib.byteCells_append];exact m)
           have q:Below w.heap.size w O:=bI.out.grown bd bp (λg e=>(br.out.lt g e).1)
           have bN:=q.size
           have bq:=zh bg;have bK:=zh q;clear m bd bg q)
        | (at_builtin;refine wpList_append_own _ rfl _ _ 98 rfl w.heap.size 5 Y _ 1 1 underlying98 HI.out ba.out T.out S.out rfl (by decide) _ _ _ rfl (bq.out.alloc _) ⟨O.heap.size,0,none⟩ 1 1 [.int .u8 32] rfl rfl (Z5D _ _ _ _ rfl) (by simp [Value.oneCell']) (by have:=M.out;have:=J.out;rw [zj];unfold maxLen;omega) (by have:=M.out;have:=J.out;rw [zj];omega) (by simp;omega) ?_;intro v2 w5 bQ bF I;clear I))
       have bE:Own8 w5 w.heap.size v2 ((H++dd)++[32]):=by show World.ownsRow _ _ _ _ _ _ _;rw [zj,List.length_singleton,Lib.byteCells_append];exact bQ
       have bP:Below w.heap.size w w5:=Z4C bK.out bN bq.out bF;go_roundw
       case rel=>exact ⟨k+1,by omega,by go_num,by rw [bL.out];exact bE,bP⟩
       case measure=>simp [intOf];omega
     · have bO:k=l.length:=by omega
       subst bO;have j:decide ((l.length:Int)<(l.length:Int))=false:=by simp
       rw [List.take_length] at B;obtain ⟨A1,c1,rfl⟩:=Z26 B;have Z:=Z9C B;have F:=zh B;have D:=zh C;have bH:=zh Z;clear B C Z;go_wp2_with fail;go_ret;exact ⟨D.out,_,rfl,bH.out⟩
theorem Z9D (d:Nat)(v:Value)(l:List Int)(w:World)(J:Z03 w w.heap.size v l)(O:l.length<=1000000)(B:∀ x∈l,0<=x/\x<=1000000000000) : Calls prog 104 #[.int .u64 (d:Nat),v] w λe w'=>e=.returned (.int .u64 (Z54 d l:Nat))/\Below w.heap.size w w':=by
 have L:=Zh3 d v l w J O B;have C:=Zfi l B l.length;rw [List.take_length] at C;have G:Z54 d l=sumD (Z1k d++Z2E l):=rfl;have D:(Z1k d++Z2E l).length<=1000000000:=by rw [zj];have:(Z1k d).length=8:=rfl;omega
 rw [G];have H:=λV W h=>Z8E V (Z1k d++Z2E l) W h D;generalize Z1k d++Z2E l=U at *
 obtain ⟨A,c,rfl,_⟩:=J;have M:=zh L;have R:=zh H;clear L H B C G D;go_enter func104,ntmps104;go_wp2_with fail;refine M.out.mono ?_;rintro e S ⟨F,V,rfl,I⟩;have N:=zh F;have T:=zh I;clear F I M;go_wp2_with fail;refine (R.out V S T.out).mono ?_;rintro e w' ⟨rfl,rfl⟩;go_wp2_with fail;go_ret;exact ⟨rfl,N.out⟩
end
section
open Go.RowKit Lx Px Qx
theorem Z44 (a x:Nat)(w:World)(r:a<mP)(A:x<9223372036854775808):Calls prog 93 #[int i64 a,int i64 x,int i64 2147483579] w λe w'=>e=.returned (int i64 (powP a x:Nat))/\w=w':=by
 obtain ⟨R,O⟩:∃ R,powP a x=R:=⟨_,rfl⟩
 rw [O];have d:=zh O;clear O;go_enter func93,ntmps93;go_wp2_with fail;go_loop [7,0,1] (λov av xv=>∃ o b y:Nat,ov=int i64 (o:Nat)/\av=int i64 (b:Nat)/\xv=int i64 (y:Nat)/\y<9223372036854775808/\o<mP/\b<mP/\Hid (o*b ^ y % mP=R)) (λ_ _ xv=>(intOf xv).toNat)
 case atStart=>exact ⟨1,a,x,rfl,rfl,rfl,A,by decide,r,by rw [Nat.one_mul];exact d.out⟩
 case round =>
  obtain ⟨o,b,y,rfl,rfl,rfl,hy,U,hb,B⟩:=hrel;have B:=B.out;by_cases h0:y=0
  · subst h0;have ho2:o=R:=by rw [<- B,Nat.pow_zero,Nat.mul_one,Nat.mod_eq_of_lt U]
    subst ho2;have d0:decide (((0:Nat):Int) > 0)=false:=by decide
    clear B d;go_wp2_with fail;go_ret;exact ⟨rfl,rfl⟩
  · have d0:decide ((y:Int) > 0)=true:=by simp;omega
    have bd:decide ((0:Int)<(y:Int))=true:=by simp;omega
    have Z:(y:Int).tdiv 2=((y / 2:Nat):Int):=by rw [Int.tdiv_eq_ediv_of_nonneg (by omega)];omega
    have l:(y:Int).tmod 2=((y % 2:Nat):Int):=by rw [Int.tmod_eq_emod_of_nonneg (by omega)];omega
    have g:(y:Int) % 2=((y % 2:Nat):Int):=by omega
    have Y:(y:Int) / 2=((y / 2:Nat):Int):=by omega
    have N:=ZpH o b y;have T:=Zm8 o b y;have V:o*b % mP<mP:=Nat.mod_lt _ (by decide);have f:b*b % mP<mP:=Nat.mod_lt _ (by decide);have L:mP=2147483579:=rfl;have H:((o:Int)*b)=((o*b:Nat):Int):=(Int.natCast_mul _ _).symm;have J:((b:Int)*b)=((b*b:Nat):Int):=(Int.natCast_mul _ _).symm;have q:o*b<=2147483578*2147483578:=Nat.mul_le_mul (by omega) (by omega);have X:b*b<=2147483578*2147483578:=Nat.mul_le_mul (by omega) (by omega);have w1:IntKind.i64.wrap ((o:Int)*b)=(o:Int)*b:=zi _ (by rw [H];omega);have w2:IntKind.i64.wrap ((b:Int)*b)=(b:Int)*b:=zi _ (by rw [J];omega);have t1:((o:Int)*b).tmod 2147483579=((o*b % mP:Nat):Int):=by rw [H,Int.tmod_eq_emod_of_nonneg (by omega),L];omega
    have t2:((b:Int)*b).tmod 2147483579=((b*b % mP:Nat):Int):=by rw [J,Int.tmod_eq_emod_of_nonneg (by omega),L];omega
    have ba:((o:Int)*b) % 2147483579=((o*b % mP:Nat):Int):=by rw [H,L];omega
    have bb:((b:Int)*b) % 2147483579=((b*b % mP:Nat):Int):=by rw [J,L];omega
    have j:IntKind.i64.wrap ((y / 2:Nat):Int)=((y / 2:Nat):Int):=zi _ (by omega);have bc:¬ (2:Int)=0:=by decide
    by_cases h1:y % 2=1
    · have D:=(N h1).trans B;rw [h1] at l g;have d1:(((y % 2:Nat):Int)==1)=true:=by rw [h1];rfl
      clear N T B H J q X;generalize o*b % mP=S at *
      generalize b*b % mP=C at *
      obtain ⟨G,F⟩:∃ G,y / 2=G:=⟨_,rfl⟩
      rw [F] at Z Y j D;have wo:IntKind.i64.wrap (S:Int)=S:=zi _ (by omega);have wb:IntKind.i64.wrap (C:Int)=C:=zi _ (by omega);have M:=zh D;have I:=zh F;clear D F;go_wp2_with fail;go_round
      case rel=>exact ⟨S,C,G,rfl,rfl,rfl,by have:=I.out;omega,V,f,M.out⟩
      case measure=>have:=I.out;simp [intOf];omega
    · have m:y % 2=0:=by omega
      have D:=(T m).trans B;rw [m] at l g;clear N T B V H J q X t1 ba w1;generalize b*b % mP=C at *
      obtain ⟨G,F⟩:∃ G,y / 2=G:=⟨_,rfl⟩
      rw [F] at Z Y j D;have wb:IntKind.i64.wrap (C:Int)=C:=zi _ (by omega);have M:=zh D;have I:=zh F;clear D F;go_wp2_with fail;go_round
      case rel=>exact ⟨o,C,G,rfl,rfl,rfl,by have:=I.out;omega,U,f,M.out⟩
      case measure=>have:=I.out;simp [intOf];omega
theorem Z8F (a:Int)(w:World):Calls prog 58 #[int i64 a] w λe w'=>e=.returned (.bool (memB a))/\w=w':=by
 unfold memB;by_cases h1:1<=a
 · have B:decide (1<=a)=true:=by simpa using h1
   have H:decide (a>=1)=true:=B;by_cases h2:a<2147483579
   · have D:decide (a<2147483579)=true:=by simpa using h2
     rw [B,D];obtain ⟨n,rfl⟩:=zE2 (show 0<=a by omega);have C:=Z44 n mQ w (by unfold mP;omega) (by decide);have I:(((powP n mQ:Nat):Int)==1)=decide (powP n mQ=1):=by
      by_cases h:powP n mQ=1
      · rw [h];rfl
      · rw [decide_eq_false h];simpa using (by omega:((powP n mQ:Nat):Int)≠1)
     have G:((mQ:Nat):Int)=1073741789:=rfl;rw [G] at C;rw [show ((n:Int)).toNat=n from zB n];obtain ⟨t,F⟩:∃ t,decide (powP n mQ=1)=t:=⟨_,rfl⟩
     rw [F] at I |-
     generalize powP n mQ=z at *
     have J:=zh C;clear C G F;go_enter func58,ntmps58;go_wp2_with fail;refine (J.out).mono ?_;rintro e w' ⟨rfl,rfl⟩;go_wp2_with fail;go_ret;exact ⟨by simp,rfl⟩
   · have D:decide (a<2147483579)=false:=by simpa using h2
     rw [B,D];go_enter func58,ntmps58;go_wp2_with fail;go_ret;exact ⟨rfl,rfl⟩
 · have B:decide (1<=a)=false:=by simpa using h1
   have H:decide (a>=1)=false:=B;rw [B];go_enter func58,ntmps58;go_wp2_with fail;go_ret;exact ⟨rfl,rfl⟩
theorem Z6j (n:Int)(w:World):Calls prog 96 #[int i64 n] w λe w'=>e=.returned (.bool (expB n))/\w=w':=by
 unfold expB;obtain ⟨C,B⟩:∃ b,decide (0<=n)=b:=⟨_,rfl⟩
 obtain ⟨D,F⟩:∃ b,decide (n<1073741789)=b:=⟨_,rfl⟩
 have G:decide (n>=0)=C:=B;rw [B,F];cases C <;> cases D
 all_goals go_enter func96,ntmps96;go_wp2_with fail;go_ret;exact ⟨rfl,rfl⟩
theorem Z9E (a b:Int)(v:Value)(l:List Int)(w:World)(F:Z03 w w.heap.size v l)(hl:l.length<=100000) : Calls prog 92 #[int i64 a,int i64 b,v] w λe w'=>Below w.heap.size w w'/\∃ V,e=.returned V/\Z03 w' w'.heap.size V (a::b::l):=by
 obtain ⟨A,c,rfl,_⟩:=id F;have B:(w.alloc (.cells #[int i64 a,int i64 b] 3)).ownsRow w.heap.size 3 1 (slice (some ⟨w.heap.size,0,none⟩) 2 2) 2 (([a,b]:List Int).map (.int .i64)) := World.ownsRow_lit w #[int i64 a,int i64 b] 2 (zn _) (by unfold maxLen;omega) rfl;have hb:=(zr w.heap.size w).alloc (zn _) (.cells #[int i64 a,int i64 b] 3);have C:=zh B;have M:=zh hb;have Y:=zh F;clear B hb F;go_enter func92,ntmps92;go_wp2_with fail;generalize w.alloc (.cells #[int i64 a,int i64 b] 3)=w1 at *
 go_loopw [7,8] (λo i wr=>∃ k:Nat,k<=l.length/\i=int i64 k/\wr.ownsRow w.heap.size 3 1 o (a::b::l.take k).length ((a::b::l.take k).map (.int .i64))/\Below w.heap.size w wr) (λ_ i _=>l.length - (intOf i).toNat)
 case atStart=>exact ⟨0,Nat.zero_le _,rfl,C.out,M.out⟩
 case round =>
  clear C M;obtain ⟨k,hk,rfl,B,D⟩:=hrel;have O:=D.size;by_cases hlt:k<l.length
  · obtain ⟨g,o,rfl,r,H⟩:=Z4j (Y.out.on D) (by intro e;rw [e] at hlt;simp at hlt);have ck:wr.cell? ⟨g,o+k,none⟩=some (int i64 l[k]):=H k hlt;have L:a::b::l.take (k+1)=(a::b::l.take k)++[l[k]]:=by rw [zT hlt];rfl
    have J:(a::b::l.take k).length=k+2:=by simp;omega
    have T:decide ((k:Int)<(l.length:Int))=true:=by simpa using hlt
    have j0:(0:Int)<=(k:Int):=by omega
    have j1:(k:Int)<(l.length:Int):=by omega
    clear H;generalize l[k]=z at *
    generalize a::b::l.take k=j at *
    obtain ⟨q,m,rfl,_⟩:=Z47 B rfl;have C:=zh B;have G:=zh D;have Z:=zh L;have U:=zh J;clear B D L J;go_wp2_with (at_builtin;refine Z2u _ rfl _ _ rfl w.heap.size _ j rfl (C.out.alloc _) wr.heap.size z rfl (by simp [go_sem]) (by have:=U.out;omega) (by simp;omega) ?_;intro y N R X);have S:Below w.heap.size w N:=(G.out.alloc O (.cells #[int i64 z] 3)).grown X (by simp;omega) (λg e=>(C.out.lt g e).1);go_roundw
    case rel=>exact ⟨k+1,by omega,by go_num,by rw [Z.out];exact R,S⟩
    case measure=>simp [intOf];omega
  · have f:k=l.length:=by omega
    subst f;have T:decide ((l.length:Int)<(l.length:Int))=false:=by simp
    rw [List.take_length] at B;obtain ⟨q,m,rfl,_⟩:=Z47 B rfl;have I:=Z03.own B rfl;have C:=zh B;have G:=zh D;have d:=zh I;clear B D I;go_wp2_with fail;go_ret;exact ⟨G.out,_,rfl,d.out⟩
theorem Z5v (v:Value)(l:List Int)(w:World)(G:Z03 w w.heap.size v l)(U:l.length<=100000)(H:∀ x∈l,0<=x/\x<=1000000000000) : Calls prog 91 #[v] w λe w'=>e=.returned (int i64 (chal l:Nat))/\Below w.heap.size w w':=by
 have D:=Z8E (slice none 0 0) [] w (BytV.nil _ _ _) (by simp);have F:=Z9D (sumD []) v l w G (by omega) H;have B:chal l=Z54 (sumD []) l % 1073741789:=rfl;have S:=Zb3 (sumD []) l;rw [B];obtain ⟨A,c,rfl,_⟩:=G;have T:0<=Z54 (sumD []) l % 1073741789/\Z54 (sumD []) l % 1073741789<1073741789:=⟨Nat.zero_le _,Nat.mod_lt _ (by decide)⟩
 generalize sumD []=I at *
 generalize Z54 I l=N at *
 have V:((N:Nat):Int).tmod 1073741789=((N % 1073741789:Nat):Int):=by rw [Int.tmod_eq_emod_of_nonneg (by omega)];omega
 generalize N % 1073741789=M at *
 clear B H;have L:=zh D;have O:=zh F;clear D F;go_enter func91,ntmps91;go_wp2_with fail;refine (L.out).mono ?_;rintro e w' ⟨rfl,rfl⟩;go_wp2_with fail;refine O.out.mono ?_;rintro e R ⟨rfl,C⟩;have J:=zh C;clear C;go_wp2_with fail;go_ret;exact ⟨rfl,J.out⟩
end
end Go.Proofs.YtnepkoepbapgeaaGreatDoor
