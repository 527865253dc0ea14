import Derived.Test.YtnepkoepbapgeaaGreatDoorQuoGf
namespace Go.Proofs.YtnepkoepbapgeaaGreatDoor
open _root_.Go.Proofs.Tryz
open Value (int slice)
open IntKind (i64)
set_option maxRecDepth 100000
open Go.RowKit Lx Px Qx
attribute [local irreducible] Qx.sigE Qx.sigS Qx.Vr.dig Qx.powP
theorem Zh7 (v:Vr)(a:Qx.Ask)(t s o:Int):(Z48 v a t s o).1.nights.length<=60:=by
 by_cases h:v.okB=true/\a.okB=true/\Z1E t=true/\secB s=true/\secB o=true
 · obtain ⟨C,F,D,I,H⟩:=h;have B:=Z6k (t:=t) C F D I H;split at B
   · rw [B];exact Nat.zero_le _
   · rcases hX:Z14 v a t with e | x
     · rw [hX] at B;rw [B];exact Nat.zero_le _
     · rw [hX] at B;have G:=Z7d B;rw [B];exact G.2.2.1
 · rw [Ze1 h];exact Nat.zero_le _
theorem Zk2 (q:Qt):(q.same q&&(decide (q.sE=q.sE)&&decide (q.sS=q.sS)))=true:=by
 rw [(Qt.same_iff q q).2 ⟨rfl,rfl,rfl,rfl,rfl,rfl,rfl⟩];simp
structure L9B (w:World) (v:Vr) (rv:Value) (a:Qx.Ask) (q:Qt) (nv:Value) (W:World):Prop where
 l:LwB w v rv a W
 q:QbK (w.heap.size+1+1) q nv W
theorem L9B.on {w W B:World}{v:Vr}{rv nv:Value}{a:Qx.Ask}{q:Qt}(h:L9B w v rv a q nv W)(hb:Below W.heap.size W B):L9B w v rv a q nv B:=⟨h.l.on hb,h.q.on hb⟩
theorem L9B.new (w:World)(v:Vr)(rv nv:Value)(a:Qx.Ask)(q:Qt)(h:RtsV w w.heap.size rv v.rs)(C:Z03 w w.heap.size nv q.nights):L9B w v rv a q nv (((w.alloc (.cells #[int i64 v.num,int i64 v.time,rv] 24)).alloc (.cells #[int i64 a.kind,int i64 a.fr,int i64 a.un,int i64 a.pers] 26)).alloc (.cells (qtC q nv) 32)):=by
 have B:=LwB.new w v rv a h;have D:((w.alloc (.cells #[int i64 v.num,int i64 v.time,rv] 24)).alloc (.cells #[int i64 a.kind,int i64 a.fr,int i64 a.un,int i64 a.pers] 26)).heap.size=w.heap.size+1+1:=by rw [zk,zk]
 refine ⟨B.on ((zr _ _).alloc (zn _) _),?_⟩;rw [<- D];exact QbK.new ((C.on B.b).up B.b.size)
theorem Zh8 {q:Qt}(h:∀ x∈[q.ver,q.time,q.total,q.keep,q.ask.kind,q.ask.fr,q.ask.un,q.ask.pers,q.sE,q.sS]++q.nights,-9223372036854775808<=x/\x<=9223372036854775807)(D:q.dig<18446744073709551616)(C:q.nights.length<=100) : ∀ x∈q.says,-9223372036854775808<=x/\x<=9223372036854775807:=by
 intro x B;simp only [Qt.says,zC,zD,List.not_mem_nil,or_false] at B;rcases B with ((rfl | rfl | rfl | rfl | rfl | rfl | rfl | rfl | rfl) | B) | rfl | rfl
 all_goals first | omega | (apply h;simp;done) | (apply h;simp [B];done)
set_option maxHeartbeats 16000000 in
theorem Zk3 (v:Vr)(a:Qx.Ask)(q:Qt)(t s o p:Int)(V U:Value)(w:World)(hV:VrV w w.heap.size V v)(hU:QtV w w.heap.size U q) (bJ:∀ x∈[q.ver,q.time,q.total,q.keep,q.ask.kind,q.ask.fr,q.ask.un,q.ask.pers,q.sE,q.sS]++q.nights,-9223372036854775808<=x/\x<=9223372036854775807) (br:q.dig<18446744073709551616) (ht:Tabs w.heap.size w) (hM:Mx w w.heap.size) : Calls prog 3 #[V,askV a,U,int i64 t,int i64 s,int i64 o,int i64 p] w λe w'=>e=.returned (.bool true)/\Below w.heap.size w w':=by
 obtain ⟨A,c,rfl,hR⟩:=hV;obtain ⟨r,m,rfl,hI⟩:=Z42 hU;have bc:=L9B.new w v (slice A v.rs.length c) (slice r q.nights.length m) a q hR hI;have bM:=λW (h:L9B w v (slice A v.rs.length c) a q (slice r q.nights.length m) W)=>Zh2 W (Z28 ht h.l.b) (qmx_up hM h.l.b);have bT:=λW (h:L9B w v (slice A v.rs.length c) a q (slice r q.nights.length m) W)=>Zhr v _ W h.l.ver;have bm:=λW (h:L9B w v (slice A v.rs.length c) a q (slice r q.nights.length m) W)=>Zcq v a t s o _ W h.l.ver (Z28 ht h.l.b);have bp:=λW (h:L9B w v (slice A v.rs.length c) a q (slice r q.nights.length m) W)=>ZdF v a t s o _ W h.l.ver;have bk:=λhn W (h:L9B w v (slice A v.rs.length c) a q (slice r q.nights.length m) W)=>Z9G v q p _ _ W h.l.ver h.q.v (Zh8 bJ br hn) br (by omega) (Z28 ht h.l.b);have bj:=λ(hn:q.nights.length<=100) W (h:L9B w v (slice A v.rs.length c) a q (slice r q.nights.length m) W)=>Zcm v q p _ _ W h.l.ver h.q.v br (by omega);have hdg:=λW (h:L9B w v (slice A v.rs.length c) a q (slice r q.nights.length m) W)=>Z40 v _ W h.l.ver (Z28 ht h.l.b);have bb:=λW (h:L9B w v (slice A v.rs.length c) a q (slice r q.nights.length m) W)=>Zb0 v _ W h.l.ver;have cc:=Zh7 v a t s o;obtain ⟨⟨B,me⟩,bK⟩:∃ M,Z48 v a t s o=M:=⟨_,rfl⟩
 obtain ⟨⟨cb,ce⟩,bS⟩:∃ M,Z1b v q p=M:=⟨_,rfl⟩
 rw [bK] at bm bp cc;rw [bS] at bk bj;clear bK bS;obtain ⟨D,E,bN,b0⟩:∃ (D:Nat) (E:Int),(∀ W,L9B w v (slice A v.rs.length c) a q (slice r q.nights.length m) W->Calls prog 21 #[.agg #[int i64 v.num,int i64 v.time,slice A v.rs.length c]] W λe W'=>e=.returned (.tuple #[.int .u64 (D:Nat),int i64 E])/\Below W.heap.size W W') /\ (∀ W,L9B w v (slice A v.rs.length c) a q (slice r q.nights.length m) W->Calls prog 22 #[.agg #[int i64 v.num,int i64 v.time,slice A v.rs.length c]] W λe W'=>e=.returned (.tuple #[.int .u64 (D:Nat),int i64 E])/\Below W.heap.size W W'):=by
  cases hok:v.okB with
  | true =>rw [hok] at hdg bb;refine ⟨v.dig,0,λW h=>(hdg W h).mono ?_,λW h=>bb W h⟩;rintro e W' ⟨hb,he⟩;exact ⟨he,hb⟩
  | false =>rw [hok] at hdg bb;refine ⟨0,1,λW h=>(hdg W h).mono ?_,λW h=>bb W h⟩;rintro e W' ⟨hb,he⟩;exact ⟨he,hb⟩
 unfold vrV;simp only [askV,qtC] at bm bp bk bj bc |-
 obtain ⟨G,H,f,X,N,R,S⟩:=bc.l.cells;obtain ⟨C,T,Z,J,L,I,F,j,g,O,d,Y⟩:=bc.q.all;have bB:=zh bc;have bG:=zh bM;have b4:=zh bT;have b2:=zh bm;have bF:=zh bp;have b5:=zh bk;have bQ:=zh bj;have b6:=zh bN;have bX:=zh b0;clear bc bM bT bm bp bk bj bN b0 hdg bb hR hI ht hM bJ hU;go_enter func3,ntmps3;go_wp2_with fail;refine (bG.out _ bB.out).mono ?_;rintro e w2 ⟨rfl,bO⟩;have bn:=bB.out.on bO;clear G H f X N R S C T Z J L I F j g O d Y;obtain ⟨G,H,f,X,N,R,S⟩:=bn.l.cells;obtain ⟨C,T,Z,J,L,I,F,j,g,O,d,Y⟩:=bn.q.all;have bx:=zh bn;clear bn bB bO bG;go_wp2_with fail;refine (b4.out _ bx.out).mono ?_;rintro e w3 ⟨⟨b,rfl⟩,bL⟩;have bf:=bx.out.on bL;clear G H f X N R S C T Z J L I F j g O d Y;obtain ⟨G,H,f,X,N,R,S⟩:=bf.l.cells;obtain ⟨C,T,Z,J,L,I,F,j,g,O,d,Y⟩:=bf.q.all;have ba:=zh bf;clear bf bx bL b4;cases b with
 | false =>go_wp2_with fail;go_ret;exact ⟨rfl,ba.out.l.b⟩
 | true =>
 by_cases hn:100<q.nights.length
 · have d1:decide ((100:Int)<(q.nights.length:Int))=true:=by simp;omega
   go_wp2_with fail;go_ret;exact ⟨rfl,ba.out.l.b⟩
 · have d1:decide ((100:Int)<(q.nights.length:Int))=false:=by simp;omega
   have b1:q.nights.length<=100:=by omega
   clear hn;go_wp2_with fail;have hm:=b2.out w3 ba.out;refine hm.mono ?_;rintro e w4 ⟨QV,rfl,hq,bH⟩;obtain ⟨A4,c4,rfl,bR⟩:=Z42 hq;have bZ:=Z0z B A4 B.nights.length c4;have hal:=(zr w4.heap.size w4).alloc (zn _) (.cells (qtC B (slice A4 B.nights.length c4)) 32);have y:=(ba.out.on bH).on hal;have hY:=QbK.new (q:=B) bR;clear G H f X N R S C T Z J L I F j g O d Y;obtain ⟨G,H,f,X,N,R,S⟩:=y.l.cells;obtain ⟨C,T,Z,J,L,I,F,j,g,O,d,Y⟩:=y.q.all;have bA:=zh y;have b7:=zh hY;clear y hY ba bH hal hm hq bR b2;dsimp only;go_upto_region 5 with (refine Z0h rfl _ _ rfl _ _ rfl rfl rfl (Z1r _ _) bZ ?_);generalize w4.alloc (.cells (qtC B (slice A4 B.nights.length c4)) 32)=w5 at *
   go_wp2_with fail;have hm:=bF.out w5 bA.out;refine hm.mono ?_;rintro e w6 ⟨QV,rfl,hq,bz⟩;obtain ⟨A6,c6,rfl,bI⟩:=Z42 hq;have bV:=Z0z B A6 B.nights.length c6;have hal:=(zr w6.heap.size w6).alloc (zn _) (.cells (qtC B (slice A6 B.nights.length c6)) 32);have y:=(bA.out.on bz).on hal;have hY:=QbK.new (q:=B) bI;have bU:=(b7.out.on bz).on hal;clear G H f X N R S C T Z J L I F j g O d Y;obtain ⟨G,H,f,X,N,R,S⟩:=y.l.cells;obtain ⟨C,T,Z,J,L,I,F,j,g,O,d,Y⟩:=y.q.all;have bY:=zh y;have bv:=zh hY;have bs:=zh bU;clear y hY bU bA bz hal hm hq bI bF b7;dsimp only;go_upto_region 6 with (refine Z0h rfl _ _ rfl _ _ rfl rfl rfl (Z1r _ _) bV ?_);generalize w6.alloc (.cells (qtC B (slice A6 B.nights.length c6)) 32)=w7 at *
   obtain ⟨p0,p1,p2,p3,p4,p5,p6,p7,p8,p9,cf,cd⟩:=bs.out.all;obtain ⟨m0,m1,m2,m3,m4,m5,m6,m7,m8,m9,cg,cj⟩:=bv.out.all;have bh:=ZhB B B (qtA B (slice A4 B.nights.length c4)) (qtA B (slice A6 B.nights.length c6)) w7 bs.out.v bv.out.v (by omega);rw [Zk2] at bh;unfold qtA at bh;have d2:(me==me)=true:=by simp
   have ca:=zh bh;clear bh bs bv bZ bV cc;go_wp2_with fail;refine ca.out.mono ?_;rintro e w8 ⟨rfl,bE⟩;have bg:=bY.out.on bE;clear G H f X N R S C T Z J L I F j g O d Y;obtain ⟨G,H,f,X,N,R,S⟩:=bg.l.cells;obtain ⟨C,T,Z,J,L,I,F,j,g,O,d,Y⟩:=bg.q.all;have bt:=zh bg;clear bg bY bE ca p0 p1 p2 p3 p4 p5 p6 p7 p8 p9 cf cd m0 m1 m2 m3 m4 m5 m6 m7 m8 m9 cg cj;go_wp2_with fail;refine (b5.out b1 _ bt.out).mono ?_;rintro e w9 ⟨rfl,b9⟩;have be:=bt.out.on b9;clear G H f X N R S C T Z J L I F j g O d Y;obtain ⟨G,H,f,X,N,R,S⟩:=be.l.cells;obtain ⟨C,T,Z,J,L,I,F,j,g,O,d,Y⟩:=be.q.all;have bu:=zh be;clear be bt b9 b5;go_wp2_with fail;refine (bQ.out b1 _ bu.out).mono ?_;rintro e cn ⟨rfl,bW⟩;have bd:=bu.out.on bW;clear G H f X N R S C T Z J L I F j g O d Y;obtain ⟨G,H,f,X,N,R,S⟩:=bd.l.cells;obtain ⟨C,T,Z,J,L,I,F,j,g,O,d,Y⟩:=bd.q.all;have d3:(cb==cb)=true:=by simp
   have d4:(ce==ce)=true:=by simp
   have bC:=zh bd;clear bd bu bW bQ;go_wp2_with fail;refine (b6.out _ bC.out).mono ?_;rintro e cm ⟨rfl,bP⟩;have bq:=bC.out.on bP;clear G H f X N R S C T Z J L I F j g O d Y;obtain ⟨G,H,f,X,N,R,S⟩:=bq.l.cells;obtain ⟨C,T,Z,J,L,I,F,j,g,O,d,Y⟩:=bq.q.all;have bD:=zh bq;clear bq bC bP b6;go_wp2_with fail;refine (bX.out _ bD.out).mono ?_;rintro e ck ⟨rfl,b3⟩;have b8:=bD.out.on b3;have d5:(E==E)=true:=by simp
   have d6:((D:Int)==(D:Int))=true:=by simp
   have ch:=zh b8;clear b8 bD b3 bX G H f X N R S C T Z J L I F j g O d Y;go_wp2_with fail;go_ret;exact ⟨rfl,ch.out.l.b⟩
end Go.Proofs.YtnepkoepbapgeaaGreatDoor
