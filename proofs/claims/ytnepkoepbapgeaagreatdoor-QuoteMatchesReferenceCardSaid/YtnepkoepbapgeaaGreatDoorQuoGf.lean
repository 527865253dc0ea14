import Derived.Test.YtnepkoepbapgeaaGreatDoorQuoGe
namespace Go.Proofs.YtnepkoepbapgeaaGreatDoor
open Value (int slice)
open IntKind (i64)
set_option maxRecDepth 100000
open Go.RowKit Lx Px Qx
attribute [local irreducible] Qx.Vr.dig Qx.sigE Qx.sigS Qx.powP
theorem Zck {p q:Qt}(h:p.same q=true):p.says=q.says:=by
 obtain ⟨B,D,C,I,F,G,H⟩:=(Qt.same_iff p q).1 h;unfold Qt.says;rw [B,D,C,I,F,G,H]
theorem ZdG {v:Vr}{a:Qx.Ask}{t:Int}{q:Qt}(D:v.okB=true)(G:a.okB=true)(F:Z1E t=true)(H:v.time<=t)(h:Z14 v a t=.ok q):(∀ x∈q.says,0<=x/\x<=4294967295)/\q.nights.length<=60:=by
 have C:=Zra (s:=1) (o:=1) D G F (by decide) (by decide) H;rw [h] at C;have B:=Z7d C;exact ⟨B.1,B.2.2.1⟩
theorem ZdH {v:Vr}{q x:Qt}{p:Int}(B:v.okB=true)(D:memB p=true)(C:q.ask.okB=true)(G:Z1E q.time=true)(F:v.time<=q.time)(h:Z14 v q.ask q.time=.ok x):Z1b v q p=(q.same x&&verB p.toNat q.sE q.sS q.says,0):=by
 unfold Z1b;rw [zp (by rw [B,D];rfl),h,zp (by rw [C,G];simpa using F)]
theorem Ze0 {v:Vr}{q:Qt}{p e:Int}(C:v.okB=true)(B:memB p=true)(h:Z14 v q.ask q.time=.error e):Z1b v q p=(false,0):=by
 unfold Z1b;rw [zp (by rw [C,B];rfl),h];split <;> rfl
theorem Zni {v:Vr}{a:Qx.Ask}{t e:Int}(h:Z14 v a t=.error e):e≠0:=by
 unfold Z14 at h;rcases hY:Z0d v.rs a with e' | x
 · rw [hY] at h;dsimp only at h;injection h with h
   subst h;exact (Z45 hY).1
 · rw [hY] at h;cases h
theorem CkB.all {w W:World}{v:Vr}{rv nv:Value}{q:Qt}(h:CkB w v rv q nv W):W.cell? ⟨w.heap.size+1,0,none⟩=some (int i64 q.ver)/\W.cell? ⟨w.heap.size+1,1,none⟩=some (int i64 q.time)/\W.cell? ⟨w.heap.size+1,2,none⟩=some (int i64 q.total)/\W.cell? ⟨w.heap.size+1,3,none⟩=some (int i64 q.keep)/\W.cell? ⟨w.heap.size+1,4,none⟩=some (int i64 q.ask.kind)/\W.cell? ⟨w.heap.size+1,5,none⟩=some (int i64 q.ask.fr)/\W.cell? ⟨w.heap.size+1,6,none⟩=some (int i64 q.ask.un)/\W.cell? ⟨w.heap.size+1,7,none⟩=some (int i64 q.ask.pers)/\W.cell? ⟨w.heap.size+1,8,none⟩=some (nv)/\W.cell? ⟨w.heap.size+1,9,none⟩=some (.int .u64 (q.dig:Nat))/\W.cell? ⟨w.heap.size+1,10,none⟩=some (int i64 q.sE)/\W.cell? ⟨w.heap.size+1,11,none⟩=some (int i64 q.sS) := ⟨h.c 0 _ rfl,h.c 1 _ rfl,h.c 2 _ rfl,h.c 3 _ rfl,h.c 4 _ rfl,h.c 5 _ rfl,h.c 6 _ rfl,h.c 7 _ rfl,h.c 8 _ rfl,h.c 9 _ rfl,h.c 10 _ rfl,h.c 11 _ rfl⟩
set_option maxHeartbeats 16000000 in
theorem Zcm (v:Vr)(q:Qt)(p:Int)(V U:Value)(w:World)(hV:VrV w w.heap.size V v)(hU:QtV w w.heap.size U q)(b1:q.dig<18446744073709551616)(b5:q.nights.length<=50000) : Calls Tryz.prog 20 #[V,U,int i64 p] w λe w'=>e=.returned (.tuple #[.bool (Z1b v q p).1,int i64 (Z1b v q p).2])/\Below w.heap.size w w':=by
 obtain ⟨A,c,rfl,hR⟩:=hV;obtain ⟨QA,qc,rfl,g⟩:=Z42 hU;have m:=CkB.new w v (slice A v.rs.length c) (slice QA q.nights.length qc) q g;have bp:=λW (hb:Below w.heap.size w W)=>(hR.on hb).up hb.size;have bU:=λW (hb:Below w.heap.size w W)=>(g.on hb).up hb.size;have bQ:=λW (hb:Below w.heap.size w W)=>Z53 v (.agg #[int i64 v.num,int i64 v.time,slice A v.rs.length c]) W ⟨A,c,rfl,bp W hb⟩;have bn:=λ(hok:v.okB=true) W (hb:Below w.heap.size w W)=>Za5 v q.ask q.time (.agg #[int i64 v.num,int i64 v.time,slice A v.rs.length c]) W ⟨A,c,rfl,bp W hb⟩ hok;have ba:=λW (hb:Below w.heap.size w W)=>(⟨QA,qc,rfl,bU W hb⟩:QtV W W.heap.size (.agg (qtC q (slice QA q.nights.length qc))) q)
 have bf:=λW (hb:Below w.heap.size w W)=>ZcB q _ W (ba W hb) b1 b5;have bc:=λ(x:Qt) U2 W (hb:Below w.heap.size w W) h=>Z99 q x _ U2 W (ba W hb) h (by omega);have bu:=λW=>Z6s q.ask W;have bY:=λW=>Z8s q.time W;have bO:=λW=>Z8F p W;have br:=@Zfk v q p;have bh:=@Zcn v q p;have bm:=λh1 h2 e=>@Ze0 v q p e h1 h2;have bs:=λh1 h2 h3 h4 h5 x=>@ZdH v q x p h1 h2 h3 h4 h5;obtain ⟨M,B⟩:∃ M,Z1b v q p=M:=⟨_,rfl⟩
 rw [B] at br bh bm bs |-
 clear B;obtain ⟨nv,bq⟩:∃ nv,(Value.slice QA q.nights.length qc)=nv:=⟨_,rfl⟩
 rw [bq] at m ba bf bc |-
 have b8:=λW (h:CkB w v (slice A v.rs.length c) q nv W)=>h.ver;obtain ⟨j,f,d⟩:=m.ver;obtain ⟨C,L,O,G,H,F,D,T,S,I,R,N⟩:=m.all;simp only [askV,qtC] at bn bu m bf bc C L O G H F D T S I R N |-
 have HB:=zh m;have bL:=zh bQ;have cg:=zh bn;have cb:=zh bf;have ca:=zh bc;have cf:=zh bu;have cd:=zh bY;have b3:=zh bO;have bN:=zh br;have bt:=zh bh;have ck:=zh bm;have b0:=zh bs;have HR:=zh hR;have cm:=zh bq;have cn:=zh ba;clear m bQ bn bf bc bu bY bO br bh bm bs hR bq ba bp bU b8 hU g;unfold vrV;go_enter Tryz.func20,Tryz.ntmps20;go_wp2_with fail;refine (bL.out _ HB.out.b).mono ?_;rintro e w2 ⟨rfl,bJ⟩;have bg:=HB.out.on bJ;clear j f d C L O G H F D T S I R N;obtain ⟨j,f,d⟩:=bg.ver;obtain ⟨C,L,O,G,H,F,D,T,S,I,R,N⟩:=bg.all;have bd:=zh bg;clear bg bJ HB bL;cases h1:v.okB with
 | false =>have B:=bN.out (λh=>by rw [h1] at h;simp at h);subst B;go_wp2_with fail;go_ret2;exact ⟨rfl,bd.out.b⟩
 | true =>
 go_wp2_with fail;refine (b3.out _).mono ?_;rintro e w' ⟨rfl,rfl⟩;cases h2:memB p with
 | false =>have B:=bN.out (λh=>by rw [h2] at h;simp at h);subst B;go_wp2_with fail;go_ret2;exact ⟨rfl,bd.out.b⟩
 | true =>
 go_wp2_with fail;refine (cf.out _).mono ?_;rintro e w3 ⟨rfl,bH⟩;have bb:=bd.out.on bH;clear j f d C L O G H F D T S I R N;obtain ⟨j,f,d⟩:=bb.ver;obtain ⟨C,L,O,G,H,F,D,T,S,I,R,N⟩:=bb.all;have Y:=zh bb;clear bb bH bd;cases h3:q.ask.okB with
 | false =>have B:=bt.out h1 h2 (λh=>by rw [h3] at h;simp at h);subst B;go_wp2_with fail;go_ret2;exact ⟨rfl,Y.out.b⟩
 | true =>
 go_wp2_with fail;refine (cd.out _).mono ?_;rintro e w' ⟨rfl,rfl⟩;cases h4:Z1E q.time with
 | false =>have B:=bt.out h1 h2 (λh=>by rw [h4] at h;simp at h);subst B;go_wp2_with fail;go_ret2;exact ⟨rfl,Y.out.b⟩
 | true =>
 by_cases h5:v.time<=q.time
 · have dt:decide (q.time<v.time)=false:=by simpa using h5
   have J:=cg.out h1 w3 Y.out.b;unfold PlnR at J;rcases hX:Z14 v q.ask q.time with er | x
   · rw [hX] at J;dsimp only at J;have B:=ck.out h1 h2 er hX;subst B;have he:=Zni hX;have de:(er != 0)=true:=by simpa using he
     have bP:=Z0z Qt.zero none 0 0;simp only [qtC,Qt.zero] at bP J;have HP:=zh J;clear J he hX;go_wp2_with fail;refine HP.out.mono ?_;rintro e Z ⟨r,rfl⟩;have bv:=(Y.out.on r).on ((zr Z.heap.size Z).alloc (zn _) (.cells (qtC Qt.zero (slice none 0 0)) 32));simp only [qtC,Qt.zero] at bv;have b9:=zh bv;clear bv r Y HP j f d C L O G H F D T S I R N;go_upto_region 6 with (refine Z0h rfl _ _ rfl _ _ rfl rfl rfl rfl bP ?_);generalize Z.alloc (.cells #[int i64 0,int i64 0,int i64 0,int i64 0,int i64 0,int i64 0,int i64 0,int i64 0,slice none 0 0,.int .u64 0,int i64 0,int i64 0] 32)=w5 at *
     go_wp2_with fail;go_ret2;exact ⟨rfl,b9.out.b⟩
   · rw [hX] at J;dsimp only at J;have B:=b0.out h1 h2 h3 h4 h5 x hX;have bR:=ZdG h1 h3 h4 h5 hX;have HP:=zh J;have bI:=zh bR;have HM:=zh B;clear J bR B hX;go_wp2_with fail;refine HP.out.mono ?_;rintro e Z ⟨r,A2,c2,rfl,g,b4⟩;have bK:(qtC x (slice A2 x.nights.length c2)).all (·.oneCell')=true:=Z0z _ _ _ _;have bZ:∀ W p,QbK p x (slice A2 x.nights.length c2) W->QtV W W.heap.size (.agg (qtC x (slice A2 x.nights.length c2))) x:=λW p h=>h.v;have bW:=(Y.out.on r).on ((zr Z.heap.size Z).alloc (zn _) (.cells (qtC x (slice A2 x.nights.length c2)) 32));have bC:=QbK.new (q:=x) g;generalize Value.slice A2 x.nights.length c2=xv at *
     have be:=zh bW;have bx:=zh bC;have b2:=zh bZ;clear bW bC bZ r Y HP g b4 j f d C L O G H F D T S I R N;go_upto_region 6 with (refine Z0h rfl _ _ rfl _ _ rfl rfl rfl (Z1r _ _) bK ?_);generalize Z.alloc (.cells (qtC x xv) 32)=w5 at *
     clear bK;obtain ⟨C,L,O,G,H,F,D,T,S,I,R,N⟩:=be.out.all;obtain ⟨n0,n1,n2,n3,n4,n5,n6,n7,n8,n9,cc,ch⟩:=bx.out.all;have hs:=ca.out x _ w5 be.out.b (b2.out _ _ bx.out);simp only [qtC] at hs;have HS:=zh hs;clear hs;go_wp2_with fail;refine HS.out.mono ?_;rintro e w6 ⟨rfl,bM⟩;have bV:=be.out.on bM;clear C L O G H F D T S I R N n0 n1 n2 n3 n4 n5 n6 n7 n8 n9 cc ch;have bk:=zh bV;clear bV bM be bx HS;obtain ⟨C,L,O,G,H,F,D,T,S,I,R,N⟩:=bk.out.all;cases hsm:q.same x with
     | false =>have B:=HM.out;rw [hsm,Bool.false_and] at B;subst B;go_wp2_with fail;go_ret2;exact ⟨rfl,bk.out.b⟩
     | true =>
      have B:=HM.out;rw [hsm,Bool.true_and] at B;have bS:=Zck hsm;obtain ⟨s1,s2⟩:=bI.out;rw [<- bS] at s1;have b7:q.nights.length=x.nights.length:=by obtain ⟨_,_,_,_,_,h6,_⟩:=(Qt.same_iff q x).1 hsm;rw [h6]
      have bD:q.says.length<=1000:=by simp only [Qt.says,zj,zw,zx];omega
      have bj:=λW U2 (h:Z03 W W.heap.size U2 q.says)=>Zdn p q.sE q.sS U2 q.says W h2 h bD (λy hy=>by have:=s1 y hy;omega);have bz:Hid (∀ wx,CkB w v (slice A v.rs.length c) q nv wx->wx.cell? ⟨w.heap.size+1,0,none⟩=some (int i64 q.ver)/\wx.cell? ⟨w.heap.size+1,1,none⟩=some (int i64 q.time)/\wx.cell? ⟨w.heap.size+1,2,none⟩=some (int i64 q.total)/\wx.cell? ⟨w.heap.size+1,3,none⟩=some (int i64 q.keep)/\wx.cell? ⟨w.heap.size+1,4,none⟩=some (int i64 q.ask.kind)/\wx.cell? ⟨w.heap.size+1,5,none⟩=some (int i64 q.ask.fr)/\wx.cell? ⟨w.heap.size+1,6,none⟩=some (int i64 q.ask.un)/\wx.cell? ⟨w.heap.size+1,7,none⟩=some (int i64 q.ask.pers)/\wx.cell? ⟨w.heap.size+1,8,none⟩=some (nv)/\wx.cell? ⟨w.heap.size+1,9,none⟩=some (.int .u64 (q.dig:Nat))/\wx.cell? ⟨w.heap.size+1,10,none⟩=some (int i64 q.sE)/\wx.cell? ⟨w.heap.size+1,11,none⟩=some (int i64 q.sS)/\CkB w v (slice A v.rs.length c) q nv wx):=λwx h=>⟨h.c 0 _ rfl,h.c 1 _ rfl,h.c 2 _ rfl,h.c 3 _ rfl,h.c 4 _ rfl,h.c 5 _ rfl,h.c 6 _ rfl,h.c 7 _ rfl,h.c 8 _ rfl,h.c 9 _ rfl,h.c 10 _ rfl,h.c 11 _ rfl,h⟩
      obtain ⟨l,bA⟩:∃ b,verB p.toNat q.sE q.sS q.says=b:=⟨_,rfl⟩
      have bE:l=true->(expB q.sE&&expB q.sS)=true:=by
       intro h;rw [<- bA] at h;unfold verB at h;simp only [zd] at h |-
       exact h.1
      rw [bA] at B bj;subst B;have bT:l=true->(if expB q.sE&&expB q.sS then (0:Int) else 1)=0:=λh=>by rw [bE h];rfl
      generalize (if expB q.sE&&expB q.sS then (0:Int) else 1)=er at *
      have bF:(l&&decide (er=0))=l:=by
       cases l with
       | false=>rfl
       | true=>rw [bT rfl];rfl
      clear bA bE bS s1 b7 bD hsm bT s2 bI HM;have b6:=zh bj;have cj:=zh bF;clear bj bF;go_wp2_with fail;go_region_held3 (λw'=>w'.cell? ⟨w.heap.size+1,0,none⟩=some (int i64 q.ver)/\w'.cell? ⟨w.heap.size+1,1,none⟩=some (int i64 q.time)/\w'.cell? ⟨w.heap.size+1,2,none⟩=some (int i64 q.total)/\w'.cell? ⟨w.heap.size+1,3,none⟩=some (int i64 q.keep)/\w'.cell? ⟨w.heap.size+1,4,none⟩=some (int i64 q.ask.kind)/\w'.cell? ⟨w.heap.size+1,5,none⟩=some (int i64 q.ask.fr)/\w'.cell? ⟨w.heap.size+1,6,none⟩=some (int i64 q.ask.un)/\w'.cell? ⟨w.heap.size+1,7,none⟩=some (int i64 q.ask.pers)/\w'.cell? ⟨w.heap.size+1,8,none⟩=some (nv)/\w'.cell? ⟨w.heap.size+1,9,none⟩=some (.int .u64 (q.dig:Nat))/\w'.cell? ⟨w.heap.size+1,10,none⟩=some (int i64 q.sE)/\w'.cell? ⟨w.heap.size+1,11,none⟩=some (int i64 q.sS)/\CkB w v (slice A v.rs.length c) q nv w') (first | (with_reducible exact bz.out _ (bk.out.on (zr _ _).drew)) | (with_reducible exact bz.out _ L8) | (with_reducible exact bz.out _ L9) | fail) (first
        | (go_at_call 29;have X:=(‹_/\_/\_/\_/\_/\_/\_/\_/\_/\_/\_/\_/\CkB w v (slice A v.rs.length c) q nv _›).2.2.2.2.2.2.2.2.2.2.2.2;refine (cb.out _ X.b).mono ?_;rintro ex w8 ⟨r8,rfl,bG,bB⟩;have L8:=X.on bB;have ce:=zh bG;clear bG bB X)
        | (go_at_call 59;have X:=(‹_/\_/\_/\_/\_/\_/\_/\_/\_/\_/\_/\_/\CkB w v (slice A v.rs.length c) q nv _›).2.2.2.2.2.2.2.2.2.2.2.2;refine (b6.out _ _ ce.out).mono ?_;rintro ex w9 ⟨rfl,bX⟩;have L9:=X.on bX;clear bX X))
      all_goals
       have X:=(‹_/\_/\_/\_/\_/\_/\_/\_/\_/\_/\_/\_/\CkB w v (slice A v.rs.length c) q nv _›).2.2.2.2.2.2.2.2.2.2.2.2;cases l with
       | false =>go_wp2_with fail;go_ret2;exact ⟨rfl,X.b⟩
       | true =>
        obtain rfl:er=0:=by have:=cj.out;simpa using this
        go_wp2_with fail;go_ret2;exact ⟨rfl,X.b⟩
 · have dt:decide (q.time<v.time)=true:=by simp;omega
   have B:=bt.out h1 h2 (λh=>h5 h.2.2);subst B;go_wp2_with fail;go_ret2;exact ⟨rfl,Y.out.b⟩
end Go.Proofs.YtnepkoepbapgeaaGreatDoor
