import Derived.Test.YtnepkoepbapgeaaGreatDoorQuoR12d
namespace Go.Proofs.YtnepkoepbapgeaaGreatDoor
open _root_.Go.Proofs.Tryz
open Value (int slice)
open IntKind (i64)
set_option maxRecDepth 100000
open Go.RowKit Lx Px Qx
attribute [local irreducible] Qx.Vr.dig Qx.sigE Qx.sigS
theorem Z4F {w W:World}{v:Vr}{rv:Value}{a:Qx.Ask}{q:Qt}{nv:Value}{er:Int}(h:MkB w v rv a (qtC q nv) W):∀ (tmps:Array Value),tmps[10]?.getD undef=.pointer (some ⟨w.heap.size+1+1,0,none⟩)->tmps[11]?.getD undef=int i64 er -> (results f17 tmps).run prog W=.ok (.tuple #[.agg (qtC q nv),int i64 er]) W:=by
 intro tmps G D;have T:W.heap[w.heap.size+1+1]?=_:=h.r;have k:=λi v (hv:(qtC q nv)[i]?=some v)=>(show W.cell? ⟨w.heap.size+1+1,i,none⟩=some v by rw [zc T,hv])
 have B:=k 0 (int i64 q.ver) rfl;have O:=k 1 (int i64 q.time) rfl;have N:=k 2 (int i64 q.total) rfl;have S:=k 3 (int i64 q.keep) rfl;have I:=k 4 (int i64 q.ask.kind) rfl;have J:=k 5 (int i64 q.ask.fr) rfl;have C:=k 6 (int i64 q.ask.un) rfl;have F:=k 7 (int i64 q.ask.pers) rfl;have M:=k 8 nv rfl;have L:=k 9 (.int .u64 (q.dig:Nat)) rfl;have R:=k 10 (int i64 q.sE) rfl;have H:=k 11 (int i64 q.sS) rfl;simp [results,results17,go_sem,G,D,B,O,N,S,I,J,C,F,M,L,R,H,qtC]
set_option maxHeartbeats 16000000 in
theorem ZdF (v:Vr)(a:Qx.Ask)(t s o:Int)(V:Value)(w:World)(hV:VrV w w.heap.size V v) : Calls prog 17 #[V,askV a,int i64 t,int i64 s,int i64 o] w (MkP (Z48 v a t s o) w):=by
 obtain ⟨A,c,rfl,hR⟩:=hV;have bf:=MkB.new w v (slice A v.rs.length c) a (qtC Qt.zero (slice none 0 0));have bp:=λW (hb:Below w.heap.size w W)=>(hR.on hb).up hb.size;have b0:=λW (hb:Below w.heap.size w W)=>Z53 v (.agg #[int i64 v.num,int i64 v.time,slice A v.rs.length c]) W ⟨A,c,rfl,bp W hb⟩;have bm:=λ(hok:v.okB=true) W (hb:Below w.heap.size w W)=>Za5 v a t (.agg #[int i64 v.num,int i64 v.time,slice A v.rs.length c]) W ⟨A,c,rfl,bp W hb⟩ hok;have bt:=λW=>Z6s a W;have ca:=λW=>Z8s t W;have bz:=λW=>Z4c s W;have bG:=λW=>Z4c o W;have br:=@Ze1 v a t s o;have bu:=@Z6k v a t s o;have bs:=λq (h:Z48 v a t s o=(q,0))=>Z7d h;obtain ⟨M,H⟩:∃ M,Z48 v a t s o=M:=⟨_,rfl⟩
 rw [H] at br bu bs |-
 clear H;obtain ⟨g,j,q2,q3,q4,q5,q6⟩:=bf.cells;simp only [askV,qtC,Qt.zero] at bm bt bf g j q2 q3 q4 q5 q6 |-
 have HB:=zh bf;have bQ:=zh b0;have b7:=zh bm;have cy:=zh bt;have cu:=zh ca;have cm:=zh bz;have cc:=zh bG;have Z:=zh br;have bE:=zh bu;have bX:=zh bs;have HR:=zh hR;clear bf b0 bm bt ca bz bG br bu bs hR bp;unfold vrV;go_enter func17,ntmps17;go_wp2_with fail;refine (bQ.out _ HB.out.b).mono ?_;rintro e w2 ⟨rfl,bP⟩;have bx:=HB.out.on bP;clear g j q2 q3 q4 q5 q6;obtain ⟨g,j,q2,q3,q4,q5,q6⟩:=bx.cells;have bc:=zh bx;clear bx bP HB bQ;have U:=Z0z Qt.zero none 0 0;simp only [qtC,Qt.zero] at U;cases h1:v.okB with
 | false =>obtain rfl:=Z.out (λh=>by rw [h1] at h;simp at h);have B:=bc.out.setRow (qtC Qt.zero (slice none 0 0));have C:=Z4F (er:=1) B;have D:=bc.out.r;simp only [qtC,Qt.zero] at B C D;have I:=zh B;have J:=zh C;have L:=zh D;clear B C D;go_wp2_with (refine Z08 rfl _ _ rfl (w.heap.size+1+1) _ _ rfl rfl L.out rfl rfl U ?_);refine bodyPost_ret (v:=.tuple #[.agg (qtC Qt.zero (slice none 0 0)),int i64 1]) (J.out _ rfl rfl) rfl ?_;exact ⟨_,rfl,Z1f _ _,I.out.b⟩
 | true =>
  go_wp2_with fail;refine (cy.out _).mono ?_;rintro e w3 ⟨rfl,bM⟩;have bn:=bc.out.on bM;clear g j q2 q3 q4 q5 q6;obtain ⟨g,j,q2,q3,q4,q5,q6⟩:=bn.cells;have G:=zh bn;clear bn bM bc;cases h2:a.okB with
  | false =>obtain rfl:=Z.out (λh=>by rw [h2] at h;simp at h);have B:=G.out.setRow (qtC Qt.zero (slice none 0 0));have C:=Z4F (er:=1) B;have D:=G.out.r;simp only [qtC,Qt.zero] at B C D;have I:=zh B;have J:=zh C;have L:=zh D;clear B C D;go_wp2_with (refine Z08 rfl _ _ rfl (w.heap.size+1+1) _ _ rfl rfl L.out rfl rfl U ?_);refine bodyPost_ret (v:=.tuple #[.agg (qtC Qt.zero (slice none 0 0)),int i64 1]) (J.out _ rfl rfl) rfl ?_;exact ⟨_,rfl,Z1f _ _,I.out.b⟩
  | true =>
   go_wp2_with fail;refine (cu.out _).mono ?_;rintro e w' ⟨rfl,rfl⟩;cases h3:Z1E t with
   | false =>obtain rfl:=Z.out (λh=>by rw [h3] at h;simp at h);have B:=G.out.setRow (qtC Qt.zero (slice none 0 0));have C:=Z4F (er:=1) B;have D:=G.out.r;simp only [qtC,Qt.zero] at B C D;have I:=zh B;have J:=zh C;have L:=zh D;clear B C D;go_wp2_with (refine Z08 rfl _ _ rfl (w.heap.size+1+1) _ _ rfl rfl L.out rfl rfl U ?_);refine bodyPost_ret (v:=.tuple #[.agg (qtC Qt.zero (slice none 0 0)),int i64 1]) (J.out _ rfl rfl) rfl ?_;exact ⟨_,rfl,Z1f _ _,I.out.b⟩
   | true =>
    go_wp2_with fail;refine (cm.out _).mono ?_;rintro e w' ⟨rfl,rfl⟩;cases h4:secB s with
    | false =>obtain rfl:=Z.out (λh=>by rw [h4] at h;simp at h);have B:=G.out.setRow (qtC Qt.zero (slice none 0 0));have C:=Z4F (er:=1) B;have D:=G.out.r;simp only [qtC,Qt.zero] at B C D;have I:=zh B;have J:=zh C;have L:=zh D;clear B C D;go_wp2_with (refine Z08 rfl _ _ rfl (w.heap.size+1+1) _ _ rfl rfl L.out rfl rfl U ?_);refine bodyPost_ret (v:=.tuple #[.agg (qtC Qt.zero (slice none 0 0)),int i64 1]) (J.out _ rfl rfl) rfl ?_;exact ⟨_,rfl,Z1f _ _,I.out.b⟩
    | true =>
     go_wp2_with fail;refine (cc.out _).mono ?_;rintro e w' ⟨rfl,rfl⟩;cases h5:secB o with
     | false =>obtain rfl:=Z.out (λh=>by rw [h5] at h;simp at h);have B:=G.out.setRow (qtC Qt.zero (slice none 0 0));have C:=Z4F (er:=1) B;have D:=G.out.r;simp only [qtC,Qt.zero] at B C D;have I:=zh B;have J:=zh C;have L:=zh D;clear B C D;go_wp2_with (refine Z08 rfl _ _ rfl (w.heap.size+1+1) _ _ rfl rfl L.out rfl rfl U ?_);refine bodyPost_ret (v:=.tuple #[.agg (qtC Qt.zero (slice none 0 0)),int i64 1]) (J.out _ rfl rfl) rfl ?_;exact ⟨_,rfl,Z1f _ _,I.out.b⟩
     | true =>
      have H:=bE.out h1 h2 h3 h4 h5;by_cases ht:t<v.time
      · have dt:decide (t<v.time)=true:=by simpa using ht
        rw [zp ht] at H;subst H;have B:=G.out.setRow (qtC Qt.zero (slice none 0 0));have C:=Z4F (er:=6) B;have D:=G.out.r;simp only [qtC,Qt.zero] at B C D;have I:=zh B;have J:=zh C;have L:=zh D;clear B C D;go_wp2_with (refine Z08 rfl _ _ rfl (w.heap.size+1+1) _ _ rfl rfl L.out rfl rfl U ?_);refine bodyPost_ret (v:=.tuple #[.agg (qtC Qt.zero (slice none 0 0)),int i64 6]) (J.out _ rfl rfl) rfl ?_;exact ⟨_,rfl,Z1f _ _,I.out.b⟩
      · have dt:decide (t<v.time)=false:=by simpa using ht
        rw [zf ht] at H;have T:=b7.out h1 w3 G.out.b;unfold PlnR at T;rcases hX:Z14 v a t with er | q
        · rw [hX] at T H;dsimp only at T H;have he:er≠0:=by
           unfold Z14 at hX;rcases hY:Z0d v.rs a with e' | x
           · rw [hY] at hX;dsimp only at hX;injection hX with hX
             subst hX;exact (Z45 hY).1
           · rw [hY] at hX;cases hX
          have de:(er != 0)=true:=by simpa using he
          have y:=zh T;clear T he hX;go_wp2_with fail;refine y.out.mono ?_;rintro e F ⟨l,rfl⟩;have m:=(zr F.heap.size F).alloc (zn _) (.cells (qtC Qt.zero (slice none 0 0)) 32);have d:=(G.out.on l).on m;simp only [qtC,Qt.zero] at d |-
          have ba:=zh d;clear d l m G y;go_upto_region 6 with (refine Z0h rfl _ _ rfl _ _ rfl rfl rfl rfl U ?_);generalize F.alloc (.cells #[int i64 0,int i64 0,int i64 0,int i64 0,int i64 0,int i64 0,int i64 0,int i64 0,slice none 0 0,.int .u64 0,int i64 0,int i64 0] 32)=w5 at *
          subst H;have B:=ba.out.setRow (qtC Qt.zero (slice none 0 0));have C:=Z4F (er:=er) B;have D:=ba.out.r;simp only [qtC,Qt.zero] at B C D;have I:=zh B;have J:=zh C;have L:=zh D;clear B C D;go_wp2_with (refine Z08 rfl _ _ rfl (w.heap.size+1+1) _ _ rfl rfl L.out rfl rfl U ?_);refine bodyPost_ret (v:=.tuple #[.agg (qtC Qt.zero (slice none 0 0)),int i64 er]) (J.out _ rfl rfl) rfl ?_;exact ⟨_,rfl,Z1f _ _,I.out.b⟩
        · rw [hX] at T H;dsimp only at T H;have bC:∀ x:Int,secB x=true->1<=x:=λx h=>by simp only [secB,zd,decide_eq_true_eq] at h;exact h.1
          obtain ⟨sn,rfl⟩:=zE2 (show 0<=s by have:=bC s h4;omega);obtain ⟨on,rfl⟩:=zE2 (show 0<=o by have:=bC o h5;omega);simp only [zB] at H;have bb:=bX.out _ H;have bN:∀ x∈q.says,0<=x/\x<=4294967295:=bb.1;have cf:q.dig<18446744073709551616:=bb.2.1;have cF:q.nights.length<=60:=bb.2.2.1;have cE:q.says.length<=100:=by simp only [Qt.says,zj,zw,zx];omega
          clear bb bX Z bE b7;have y:=zh T;clear T;go_wp2_with fail;refine y.out.mono ?_;rintro e F ⟨l,A2,c2,rfl,hI,bI⟩;obtain ⟨nv,X⟩:∃ nv,(Value.slice A2 q.nights.length c2)=nv:=⟨_,rfl⟩
          have cj:(qtC q nv).all (·.oneCell')=true:=by rw [<- X];exact Z0z _ _ _ _
          have cr:∀ E S:Int,(qtC { q with sE:=E,sS:=S } nv).all (·.oneCell')=true:=by rw [<- X];exact λE S=>Z0z { q with sE:=E,sS:=S } _ _ _
          have bS:∀ W p,QbK p q nv W->QtV W W.heap.size (.agg (qtC q nv)) q:=by rw [<- X];exact λW p h=>h.v
          have cz:=(zs G.out.r)
          have b8:∀ p,A2=some p->w.heap.size+3<=p.block:=λp e=>by have:=bI p e;omega
          have b4:=hI;rw [X] at hI |-
          have bv:=G.out.on l;have m:=(zr F.heap.size F).alloc (zn _) (.cells (qtC q nv) 32);have d:=bv.on m;have bY:=QbK.new (q:=q) hI;have bF:w.heap.size+3<=F.heap.size:=(zs bv.r)
          have ba:=zh d;have bg:=zh bY;have cx:=zh bS;have ce:=zh b8;have ch:=zh b4;have cs:=zh X;have ct:=zh bN;have HM:=zh H;clear d bY bS b8 b4 X bN H l m G y bv hI bI cz;go_upto_region 6 with (refine Z0h rfl _ _ rfl _ _ rfl rfl rfl (Z1r _ _) cj ?_);have b2:=(zr F.heap.size F).alloc (zn _) (.cells (qtC q nv) 32)
          have bq:=zh b2;clear b2;generalize F.alloc (.cells (qtC q nv) 32)=w5 at *
          have bW:=bg.out.h;have b3:=ZcB q _ w5 (cx.out _ _ bg.out) cf (by omega);have bO:=zh bW;have bV:=zh b3;clear bW b3;go_wp2_with (refine Z0g rfl _ rfl F.heap.size rfl _ (Z1r _ _) _ bO.out ?_);refine bV.out.mono ?_;rintro e w6 ⟨r6,rfl,cb,bd⟩;have b6:=ba.out.on bd;have bJ:=bg.out.on bd;have bK:=bq.out.trans (bd.mono bq.out.size);have bB:=ZiG sn on r6 q.says w6 h4 h5 cb (by omega) (λx hx=>by have:=ct.out x hx;omega);generalize ((sigE sn on q.says:Nat):Int)=O at *
          generalize ((sigS sn on q.says:Nat):Int)=N at *
          have bA:=zh b6;have b1:=zh bJ;have bh:=zh bK;have b5:=zh bB;clear b6 bJ bK bB bd cb ba bg bq bO bV;go_wp2_with fail;refine b5.out.mono ?_;rintro e w7 ⟨rfl,be⟩;have b9:=bA.out.on be;have Y:=b1.out.on be;have bT:=bh.out.trans (be.mono bh.out.size);have bR:=Y.h;have cA:w7.cell? ⟨F.heap.size,10,none⟩=some (int i64 q.sE):=Y.c 10 _ rfl;have cn:w7.cell? ⟨F.heap.size,11,none⟩=some (int i64 q.sS):=Y.c 11 _ rfl;have cC:=Y.f 10;have cg:=Y.f 11;have bU:((w7.setCell ⟨F.heap.size,10,none⟩ (int i64 O)).setCell ⟨F.heap.size,11,none⟩ (int i64 N)).heap[F.heap.size]?=some (.cells (qtC { q with sE:=O,sS:=N } nv) 32 (0,0)):=by simp [World.setCell,zM,bR,qtC]
          have bH:=b9.far (((zr (w.heap.size+3) w7).setCell (p:=⟨F.heap.size,10,none⟩) bF (int i64 O)).setCell (p:=⟨F.heap.size,11,none⟩) bF (int i64 N));have bD:=(bT.setCell (p:=⟨F.heap.size,10,none⟩) (zn _) (int i64 O)).setCell (p:=⟨F.heap.size,11,none⟩) (zn _) (int i64 N);have cv:=zh bU;have bj:=zh bH;have bk:=zh bD;clear bU bH bD be b9 Y bR bT bA b1 bh b5;go_upto_region 9 with fail;clear cA cn cC cg;generalize (w7.setCell ⟨F.heap.size,10,none⟩ (int i64 O)).setCell ⟨F.heap.size,11,none⟩ (int i64 N)=w9 at *
          have bZ:=(ch.out.on bk.out).setRow' (R:=qtC { q with sE:=O,sS:=N } nv) ce.out;have B:=bj.out.setRow (qtC { q with sE:=O,sS:=N } nv);have C:=Z4F (er:=0) B;have bL:=bj.out.r;have ck:=Z3j w9 (w.heap.size+1+1) (qtC { q with sE:=O,sS:=N } nv);have cd:=bk.out.size;have I:=zh B;have J:=zh C;have cD:=zh bL;have cB:=zh bZ;clear B C bL bZ bj bk;go_wp2_with (first | (refine Z0g rfl _ rfl F.heap.size rfl _ (Z1r _ _) _ cv.out ?_) | (refine Z08 rfl _ _ rfl (w.heap.size+1+1) _ _ rfl rfl cD.out rfl (Z1r _ _) (cr O N) ?_));refine bodyPost_ret (v:=.tuple #[.agg (qtC { q with sE:=O,sS:=N } nv),int i64 0]) (J.out _ rfl rfl) rfl ?_;obtain rfl:=HM.out;have X:=cs.out;subst X;exact ⟨_,rfl,⟨A2,c2,rfl,cB.out.up (Nat.le_trans cd (Nat.le_of_eq ck.symm))⟩,I.out.b⟩
end Go.Proofs.YtnepkoepbapgeaaGreatDoor
