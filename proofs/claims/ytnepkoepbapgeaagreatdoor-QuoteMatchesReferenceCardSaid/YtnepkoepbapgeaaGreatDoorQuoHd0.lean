import Derived.Test.YtnepkoepbapgeaaGreatDoorQuoIs
namespace Go.Proofs.YtnepkoepbapgeaaGreatDoor
open _root_.Go.Proofs.Tryz
open Value (int slice)
open IntKind (i64)
set_option maxRecDepth 100000
section
open Go.RowKit Lx Px Qx
namespace Qx
theorem Zfk {v:Vr}{q:Qt}{p:Int}(h:¬ (v.okB=true/\memB p=true)):Z1b v q p=(false,1):=by
 unfold Z1b;rw [zf];intro B;rw [zd] at B;exact h B
theorem Zcn {v:Vr}{q:Qt}{p:Int}(D:v.okB=true)(C:memB p=true)(h:¬ (q.ask.okB=true/\Z1E q.time=true/\v.time<=q.time)):Z1b v q p=(false,0):=by
 unfold Z1b;rw [zp (by rw [D,C];rfl),zf];intro B;simp only [zd,decide_eq_true_eq] at B;exact h ⟨B.1.1,B.1.2,B.2⟩
theorem Znj {v:Vr}{q:Qt}{p e:Int}(C:v.okB=true)(B:memB p=true)(h:Z0d v.rs q.ask=.error e):Z1b v q p=(false,0):=by
 unfold Z1b;rw [zp (by rw [C,B];rfl),ZaF h];split <;> rfl
theorem ZjF {v:Vr}{q:Qt}{p:Int}{ns:List Int}{B:Int}(C:v.okB=true)(F:memB p=true)(D:Z1E q.time=true)(G:v.time<=q.time)(h:Z0d v.rs q.ask=.ok (ns,B)) : Z1b v q p=(q.same ⟨v.num,q.time,ns.sum,B,q.ask,ns,v.dig,0,0⟩&&verB p.toNat q.sE q.sS q.says,0):=by
 unfold Z1b;rw [zp (by rw [C,F];rfl),Z85 h,zp (by rw [(Z80 h).2.1,D];simpa using G)]
end Qx
structure CkB (w:World) (v:Vr) (rv:Value) (q:Qt) (nv:Value) (W:World):Prop where
 hv:W.heap[w.heap.size]?=some (.cells #[int i64 v.num,int i64 v.time,rv] 24 (0,0))
 hq:W.heap[w.heap.size+1]?=some (.cells (qtC q nv) 32 (0,0))
 i:Z03 W W.heap.size nv q.nights
 b:Below w.heap.size w W
theorem CkB.on {w W B:World}{v:Vr}{rv nv:Value}{q:Qt}(h:CkB w v rv q nv W)(hb:Below W.heap.size W B):CkB w v rv q nv B := ⟨(hb.block _ (zs h.hv)).trans h.hv,(hb.block _ (zs h.hq)).trans h.hq,(h.i.on hb).up hb.size,Z00 h.b hb⟩
theorem CkB.new (w:World)(v:Vr)(rv nv:Value)(q:Qt)(h:Z03 w w.heap.size nv q.nights):CkB w v rv q nv ((w.alloc (.cells #[int i64 v.num,int i64 v.time,rv] 24)).alloc (.cells (qtC q nv) 32)):=by
 have hb:=((zr w.heap.size w).alloc (zn _) (.cells #[int i64 v.num,int i64 v.time,rv] 24)).alloc (by simp) (.cells (qtC q nv) 32);refine ⟨Z0A (za w _) _,?_,(h.on hb).up hb.size,hb⟩;have:=za (w.alloc (.cells #[int i64 v.num,int i64 v.time,rv] 24)) (.cells (qtC q nv) 32);rwa [zk] at this
theorem CkB.ver {w W:World}{v:Vr}{rv nv:Value}{q:Qt}(h:CkB w v rv q nv W):W.cell? ⟨w.heap.size,0,none⟩=some (int i64 v.num)/\W.cell? ⟨w.heap.size,1,none⟩=some (int i64 v.time)/\W.cell? ⟨w.heap.size,2,none⟩=some rv:=by
 refine ⟨?_,?_,?_⟩ <;> (rw [zc h.hv];rfl)
theorem CkB.c {w W:World}{v:Vr}{rv nv:Value}{q:Qt}(h:CkB w v rv q nv W)(i:Nat)(u:Value)(B:(qtC q nv)[i]?=some u):W.cell? ⟨w.heap.size+1,i,none⟩=some u:=by rw [zc h.hq,B]
structure CkN (w:World) (v:Vr) (rv:Value) (q:Qt) (nv:Value) (nb:Nat) (W:World):Prop where
 k:CkB w v rv q nv W
 n:W.heap[nb]?=some (.cells (qtC q nv) 89 (0,0))
theorem CkN.on {w W B:World}{v:Vr}{rv nv:Value}{q:Qt}{C:Nat}(h:CkN w v rv q nv C W)(hb:Below W.heap.size W B):CkN w v rv q nv C B := ⟨h.k.on hb,(hb.block _ (zs h.n)).trans h.n⟩
theorem CkN.drew {w W:World}{v:Vr}{rv nv:Value}{q:Qt}{B:Nat}(h:CkN w v rv q nv B W):CkN w v rv q nv B W.drew:=h.on (zr _ _).drew
theorem CkN.c {w W:World}{v:Vr}{rv nv:Value}{q:Qt}{B:Nat}(h:CkN w v rv q nv B W)(i:Nat)(u:Value)(C:(qtC q nv)[i]?=some u):W.cell? ⟨B,i,none⟩=some u:=by rw [zc h.n,C]
set_option maxHeartbeats 16000000 in
theorem Z9G (v:Vr)(q:Qt)(p:Int)(V U:Value)(w:World)(hV:VrV w w.heap.size V v)(hU:QtV w w.heap.size U q)(hr:∀ x∈q.says,-9223372036854775808<=x/\x<=9223372036854775807)(bz:q.dig<18446744073709551616)(bF:q.nights.length<=50000)(ht:Tabs w.heap.size w) : Calls prog 19 #[V,U,int i64 p] w λe w'=>e=.returned (.tuple #[.bool (Z1b v q p).1,int i64 (Z1b v q p).2])/\Below w.heap.size w w':=by
 have bf:=λW (hb:Below w.heap.size w W)=>Z40 v V W (by obtain ⟨A,c,rfl,h⟩:=hV;exact ⟨A,c,rfl,(h.on hb).up hb.size⟩) (Z28 ht hb);have hpl:=λW (hb:Below w.heap.size w W)=>Zcr v q.ask q.time v.dig V W (by obtain ⟨A,c,rfl,h⟩:=hV;exact ⟨A,c,rfl,(h.on hb).up hb.size⟩);have bQ:=λW=>Zad p W;have b0:=λW=>Z72 q.time W;have bx:=λW U2 (hb:Below w.heap.size w W) h0 h1 h2=>ZhE p q.sE q.sS U2 q.says w.heap.size W h0 h1 h2 hr (ht.on hb);have bm:=@Zfk v q p;have bd:=@Zcn v q p;have bs:=λe h1 h2 h=>@Znj v q p e h1 h2 h;have bh:=λns I h1 h2 h3 h4 h=>@ZjF v q p ns I h1 h2 h3 h4 h;have bE:=λe (h:Z0d v.rs q.ask=.error e)=>Z45 h;obtain ⟨A,c,rfl,hR⟩:=hV;obtain ⟨D,C,rfl,hI⟩:=hU;have bB:q.says.length<=100000:=by simp [Qt.says];omega
 have bv:=CkB.new w v (slice A v.rs.length c) (slice D q.nights.length C) q hI;have hq:qtV q (slice D q.nights.length C)=.agg (qtC q (slice D q.nights.length C)):=rfl;obtain ⟨M,hM⟩:∃ M,Z1b v q p=M:=⟨_,rfl⟩
 rw [hM] at bm bd bs bh |-
 rw [hq];clear hM hq;unfold vrV at bf hpl |-
 simp only [askV] at hpl;unfold qtC at bv |-
 have HB:=zh bv;have bX:=zh bf;have bZ:=zh hpl;have b5:=zh bQ;have cu:=zh b0;have bJ:=zh bx;have bM:=zh bm;have bS:=zh bd;have cz:=zh bs;have cr:=zh bh;have b3:=zh bE;have HR:=zh hR;have HI:=zh hI;have cD:=zh hr;clear bv bf hpl bQ b0 bx bm bd bs bh bE hR hI hr;go_enter func19,ntmps19;go_upto_region 1 with fail;generalize (w.alloc (.cells #[int i64 v.num,int i64 v.time,slice A v.rs.length c] 24)).alloc (.cells #[int i64 q.ver,int i64 q.time,int i64 q.total,int i64 q.keep,int i64 q.ask.kind,int i64 q.ask.fr,int i64 q.ask.un,int i64 q.ask.pers,slice D q.nights.length C,.int .u64 (q.dig:Nat),int i64 q.sE,int i64 q.sS] 32)=w1 at *
 obtain ⟨q0,q1,q2⟩:=HB.out.ver;go_wp2_with fail;refine (bX.out _ HB.out.b).mono ?_;rintro e w2 ⟨bI,rfl⟩;have bV:=HB.out.on bI;have bn:=zh bV;clear bV bI HB bX q0 q1 q2;cases h1:v.okB with
 | false =>obtain rfl:=bM.out (λh=>by rw [h1] at h;simp at h);simp only [Bool.false_eq_true,if_false,if_true,Option.getD_none];go_wp2_with fail;go_ret2;exact ⟨rfl,bn.out.b⟩
 | true =>
  simp only [if_true,Option.getD_some];go_wp2_with fail;refine (b5.out _).mono ?_;rintro e w3 ⟨rfl,bG⟩;have bD:=bn.out.on bG;have J:=zh bD;clear bD bG bn;cases h2:memB p with
  | false =>obtain rfl:=bM.out (λh=>by rw [h2] at h;simp at h);go_wp2_with fail;go_ret2;exact ⟨rfl,J.out.b⟩
  | true =>
   have bC:memB p=true:=h2;have c1:=J.out.c 1 (int i64 q.time) rfl;go_wp2_with fail;refine (cu.out _).mono ?_;rintro e w' ⟨rfl,rfl⟩;cases h3:Z1E q.time with
   | false =>obtain rfl:=bS.out h1 h2 (λh=>by rw [h3] at h;simp at h);go_wp2_with fail;go_ret2;exact ⟨rfl,J.out.b⟩
   | true =>
    obtain ⟨q0,q1,q2⟩:=J.out.ver;by_cases h4:q.time<v.time
    · have d4:decide (q.time<v.time)=true:=by simpa using h4
      obtain rfl:=bS.out h1 h2 (λh=>by omega);go_wp2_with fail;go_ret2;exact ⟨rfl,J.out.b⟩
    · have d4:decide (q.time<v.time)=false:=by simpa using h4
      have c4:=J.out.c 4 (int i64 q.ask.kind) rfl;have c5:=J.out.c 5 (int i64 q.ask.fr) rfl;have c6:=J.out.c 6 (int i64 q.ask.un) rfl;have c7:=J.out.c 7 (int i64 q.ask.pers) rfl;go_wp2_with fail;refine (bZ.out _ J.out.b).mono ?_;intro e B X;obtain ⟨bg,X⟩:=X;have bb:=J.out.on bg;clear c1 c4 c5 c6 c7 q0 q1 q2 bZ;cases hX:Z0d v.rs q.ask with
      | error er =>
       rw [hX] at X;dsimp only at X;subst X;obtain ⟨e0,_,_⟩:=b3.out er hX;have d5:(er != 0)=true:=by simpa using e0
       obtain rfl:=cz.out er h1 h2 hX;have S:=(zr B.heap.size B).alloc (zn _) (.cells (qtC Qt.zero (slice none 0 0)) 89);have L:=bb.on S;have T:=L.hq;have g:=Z0z Qt.zero none 0 0;have Z:=Z0z q D q.nights.length C;have R:=((L.b.alloc L.b.size (.cells (qtC q (slice D q.nights.length C)) 89)))
       simp only [qtC,Qt.zero,Int.natCast_zero] at L T g Z R |-
       have cG:=zh L;have bc:=zh T;have b2:=zh R;clear L T R bb S bg;go_wp2_with (first | (with_reducible refine Z0g rfl _ rfl (w.heap.size+1) rfl _ rfl _ bc.out ?_) | (refine Z0n rfl _ _ rfl _ _ rfl rfl rfl rfl g ?_) | (refine Z0n rfl _ _ rfl _ _ rfl rfl rfl rfl Z ?_));go_ret2;exact ⟨rfl,b2.out⟩
      | ok pr =>
       obtain ⟨ns,I⟩:=pr;rw [hX] at X;obtain ⟨N,rfl,bW,cE⟩:=X;have bN:=cr.out ns I h1 h2 h3 (by omega) hX;have cj:=Zcp v;have cF:=Z6n hX;generalize v.dig=O at *
       obtain ⟨j,l⟩:∃ j:Qt,(⟨v.num,q.time,ns.sum,I,q.ask,ns,O,0,0⟩:Qt)=j:=⟨_,rfl⟩
       have S:=(zr B.heap.size B).alloc (zn _) (.cells (qtC ⟨v.num,q.time,ns.sum,I,q.ask,ns,O,0,0⟩ (slice N ns.length ns.length)) 89);have ba:=za B (.cells (qtC ⟨v.num,q.time,ns.sum,I,q.ask,ns,O,0,0⟩ (slice N ns.length ns.length)) 89);have be:=(bW.on S).up S.size;have L:=bb.on S;have bR:=zk B (.cells (qtC ⟨v.num,q.time,ns.sum,I,q.ask,ns,O,0,0⟩ (slice N ns.length ns.length)) 89);have T:=L.hq;have g:=Z0z ⟨v.num,q.time,ns.sum,I,q.ask,ns,O,0,0⟩ N ns.length ns.length;have Z:=Z0z q D q.nights.length C;have bp:=λW h1 h2=>Zh6 q j (.agg (qtC q (slice D q.nights.length C))) (.agg (qtC ⟨v.num,q.time,ns.sum,I,q.ask,ns,O,0,0⟩ (slice N ns.length ns.length))) W h1 h2 bz (by rw [<- l];exact cj) bF (by rw [<- l];show ns.length<=50000;omega);have br:∀ W,Z03 W W.heap.size (slice N ns.length ns.length) ns->QtV W W.heap.size (.agg (qtC ⟨v.num,q.time,ns.sum,I,q.ask,ns,O,0,0⟩ (slice N ns.length ns.length))) j:=λW h=>by rw [<- l];exact ⟨N,ns.length,rfl,h⟩
       have bj:∀ W,Z03 W W.heap.size (slice D q.nights.length C) q.nights->QtV W W.heap.size (.agg (qtC q (slice D q.nights.length C))) q:=λW h=>⟨D,C,rfl,h⟩
       have bU:=λW h=>Z89 q (.agg (qtC q (slice D q.nights.length C))) W h bz bF;rw [l] at bN;subst bN;clear S l;have bq:∀ W,CkB w v (slice A v.rs.length c) q (slice D q.nights.length C) W->CkN w v (slice A v.rs.length c) q (slice D q.nights.length C) W.heap.size (W.alloc (.cells (qtC q (slice D q.nights.length C)) 89)):=λW h=>⟨h.on ((zr _ _).alloc (zn _) _),za W _⟩
       simp only [qtC] at ba L T g Z bR be bp br bj bU bq |-
       go_upto_region 7 with (first | (refine Z0n rfl _ _ rfl _ _ rfl rfl rfl rfl g ?_));generalize B.alloc (.cells #[int i64 v.num,int i64 q.time,int i64 ns.sum,int i64 I,int i64 q.ask.kind,int i64 q.ask.fr,int i64 q.ask.un,int i64 q.ask.pers,slice N ns.length ns.length,.int .u64 (O:Nat),int i64 0,int i64 0] 89)=w5 at *
       have G:=bq w5 L;have R:=(zr w5.heap.size w5).alloc (zn _) (.cells #[int i64 q.ver,int i64 q.time,int i64 q.total,int i64 q.keep,int i64 q.ask.kind,int i64 q.ask.fr,int i64 q.ask.un,int i64 q.ask.pers,slice D q.nights.length C,.int .u64 (q.dig:Nat),int i64 q.sE,int i64 q.sS] 89);have H:=(R.block _ (zs ba)).trans ba;have bO:=(be.on R).up R.size;have bK:=bp _ (bj _ G.k.i) (br _ bO);have bP:=G.n;simp only [qtC] at bP;rw [bR] at G;have ch:=G.c 0 (int i64 q.ver) rfl;have cy:=G.c 1 (int i64 q.time) rfl;have b8:=G.c 2 (int i64 q.total) rfl;have cC:=G.c 3 (int i64 q.keep) rfl;have cg:=G.c 4 (int i64 q.ask.kind) rfl;have cd:=G.c 5 (int i64 q.ask.fr) rfl;have cn:=G.c 6 (int i64 q.ask.un) rfl;have b7:=G.c 7 (int i64 q.ask.pers) rfl;have cs:=G.c 8 (slice D q.nights.length C) rfl;have cc:=G.c 9 (.int .u64 (q.dig:Nat)) rfl;have b4:=G.c 10 (int i64 q.sE) rfl;have cA:=G.c 11 (int i64 q.sS) rfl;have cf:(w5.alloc (.cells #[int i64 q.ver,int i64 q.time,int i64 q.total,int i64 q.keep,int i64 q.ask.kind,int i64 q.ask.fr,int i64 q.ask.un,int i64 q.ask.pers,slice D q.nights.length C,.int .u64 (q.dig:Nat),int i64 q.sE,int i64 q.sS] 89)).cell? ⟨B.heap.size,0,none⟩=some (int i64 v.num):=by rw [zc H];rfl
       have b1:(w5.alloc (.cells #[int i64 q.ver,int i64 q.time,int i64 q.total,int i64 q.keep,int i64 q.ask.kind,int i64 q.ask.fr,int i64 q.ask.un,int i64 q.ask.pers,slice D q.nights.length C,.int .u64 (q.dig:Nat),int i64 q.sE,int i64 q.sS] 89)).cell? ⟨B.heap.size,1,none⟩=some (int i64 q.time):=by rw [zc H];rfl
       have cb:(w5.alloc (.cells #[int i64 q.ver,int i64 q.time,int i64 q.total,int i64 q.keep,int i64 q.ask.kind,int i64 q.ask.fr,int i64 q.ask.un,int i64 q.ask.pers,slice D q.nights.length C,.int .u64 (q.dig:Nat),int i64 q.sE,int i64 q.sS] 89)).cell? ⟨B.heap.size,2,none⟩=some (int i64 ns.sum):=by rw [zc H];rfl
       have b6:(w5.alloc (.cells #[int i64 q.ver,int i64 q.time,int i64 q.total,int i64 q.keep,int i64 q.ask.kind,int i64 q.ask.fr,int i64 q.ask.un,int i64 q.ask.pers,slice D q.nights.length C,.int .u64 (q.dig:Nat),int i64 q.sE,int i64 q.sS] 89)).cell? ⟨B.heap.size,3,none⟩=some (int i64 I):=by rw [zc H];rfl
       have ca:(w5.alloc (.cells #[int i64 q.ver,int i64 q.time,int i64 q.total,int i64 q.keep,int i64 q.ask.kind,int i64 q.ask.fr,int i64 q.ask.un,int i64 q.ask.pers,slice D q.nights.length C,.int .u64 (q.dig:Nat),int i64 q.sE,int i64 q.sS] 89)).cell? ⟨B.heap.size,4,none⟩=some (int i64 q.ask.kind):=by rw [zc H];rfl
       have cm:(w5.alloc (.cells #[int i64 q.ver,int i64 q.time,int i64 q.total,int i64 q.keep,int i64 q.ask.kind,int i64 q.ask.fr,int i64 q.ask.un,int i64 q.ask.pers,slice D q.nights.length C,.int .u64 (q.dig:Nat),int i64 q.sE,int i64 q.sS] 89)).cell? ⟨B.heap.size,5,none⟩=some (int i64 q.ask.fr):=by rw [zc H];rfl
       have ck:(w5.alloc (.cells #[int i64 q.ver,int i64 q.time,int i64 q.total,int i64 q.keep,int i64 q.ask.kind,int i64 q.ask.fr,int i64 q.ask.un,int i64 q.ask.pers,slice D q.nights.length C,.int .u64 (q.dig:Nat),int i64 q.sE,int i64 q.sS] 89)).cell? ⟨B.heap.size,6,none⟩=some (int i64 q.ask.un):=by rw [zc H];rfl
       have cv:(w5.alloc (.cells #[int i64 q.ver,int i64 q.time,int i64 q.total,int i64 q.keep,int i64 q.ask.kind,int i64 q.ask.fr,int i64 q.ask.un,int i64 q.ask.pers,slice D q.nights.length C,.int .u64 (q.dig:Nat),int i64 q.sE,int i64 q.sS] 89)).cell? ⟨B.heap.size,7,none⟩=some (int i64 q.ask.pers):=by rw [zc H];rfl
       have b9:(w5.alloc (.cells #[int i64 q.ver,int i64 q.time,int i64 q.total,int i64 q.keep,int i64 q.ask.kind,int i64 q.ask.fr,int i64 q.ask.un,int i64 q.ask.pers,slice D q.nights.length C,.int .u64 (q.dig:Nat),int i64 q.sE,int i64 q.sS] 89)).cell? ⟨B.heap.size,8,none⟩=some (slice N ns.length ns.length):=by rw [zc H];rfl
       have cB:(w5.alloc (.cells #[int i64 q.ver,int i64 q.time,int i64 q.total,int i64 q.keep,int i64 q.ask.kind,int i64 q.ask.fr,int i64 q.ask.un,int i64 q.ask.pers,slice D q.nights.length C,.int .u64 (q.dig:Nat),int i64 q.sE,int i64 q.sS] 89)).cell? ⟨B.heap.size,9,none⟩=some (.int .u64 (O:Nat)):=by rw [zc H];rfl
       have cx:(w5.alloc (.cells #[int i64 q.ver,int i64 q.time,int i64 q.total,int i64 q.keep,int i64 q.ask.kind,int i64 q.ask.fr,int i64 q.ask.un,int i64 q.ask.pers,slice D q.nights.length C,.int .u64 (q.dig:Nat),int i64 q.sE,int i64 q.sS] 89)).cell? ⟨B.heap.size,10,none⟩=some (int i64 0):=by rw [zc H];rfl
       have ce:(w5.alloc (.cells #[int i64 q.ver,int i64 q.time,int i64 q.total,int i64 q.keep,int i64 q.ask.kind,int i64 q.ask.fr,int i64 q.ask.un,int i64 q.ask.pers,slice D q.nights.length C,.int .u64 (q.dig:Nat),int i64 q.sE,int i64 q.sS] 89)).cell? ⟨B.heap.size,11,none⟩=some (int i64 0):=by rw [zc H];rfl
       have bc:=zh T;have bA:=zh G;have ct:=zh H;have bL:=zh bK;clear T G H bK bP bb L ba bW be bO bp br bq R bg;go_wp2_with (first | (with_reducible refine Z0g rfl _ rfl (w.heap.size+1) rfl _ rfl _ bc.out ?_) | (refine Z0n rfl _ _ rfl _ _ rfl rfl rfl rfl Z ?_));refine bL.out.mono ?_;rintro e w7 ⟨rfl,bY⟩;have bH:=bA.out.on bY;obtain ⟨R1,y⟩:∃ R1,q.same j=R1:=⟨_,rfl⟩
       rw [y];have bu:=zh bH;clear bH bY bL bA ct bc ch cy b8 cC cg cd cn b7 cs cc b4 cA cf b1 cb b6 ca cm ck cv b9 cB cx ce;cases R1 with
       | false =>
        go_wp2_with fail;go_ret2;refine ⟨?_,bu.out.k.b⟩
        try rw [y]
        rfl
       | true =>
        have Y:Hid (∀ wx,CkN w v (slice A v.rs.length c) q (slice D q.nights.length C) (B.heap.size+1) wx->wx.cell? ⟨w.heap.size+1,10,none⟩=some (int i64 q.sE)/\wx.cell? ⟨w.heap.size+1,11,none⟩=some (int i64 q.sS)/\wx.cell? ⟨B.heap.size+1,0,none⟩=some (int i64 q.ver)/\wx.cell? ⟨B.heap.size+1,1,none⟩=some (int i64 q.time)/\wx.cell? ⟨B.heap.size+1,2,none⟩=some (int i64 q.total)/\wx.cell? ⟨B.heap.size+1,3,none⟩=some (int i64 q.keep)/\wx.cell? ⟨B.heap.size+1,4,none⟩=some (int i64 q.ask.kind)/\wx.cell? ⟨B.heap.size+1,5,none⟩=some (int i64 q.ask.fr)/\wx.cell? ⟨B.heap.size+1,6,none⟩=some (int i64 q.ask.un)/\wx.cell? ⟨B.heap.size+1,7,none⟩=some (int i64 q.ask.pers)/\wx.cell? ⟨B.heap.size+1,8,none⟩=some (slice D q.nights.length C)/\wx.cell? ⟨B.heap.size+1,9,none⟩=some (.int .u64 (q.dig:Nat))/\wx.cell? ⟨B.heap.size+1,10,none⟩=some (int i64 q.sE)/\wx.cell? ⟨B.heap.size+1,11,none⟩=some (int i64 q.sS)/\CkN w v (slice A v.rs.length c) q (slice D q.nights.length C) (B.heap.size+1) wx):=λwx h=>⟨h.k.c 10 _ rfl,h.k.c 11 _ rfl,h.c 0 _ rfl,h.c 1 _ rfl,h.c 2 _ rfl,h.c 3 _ rfl,h.c 4 _ rfl,h.c 5 _ rfl,h.c 6 _ rfl,h.c 7 _ rfl,h.c 8 _ rfl,h.c 9 _ rfl,h.c 10 _ rfl,h.c 11 _ rfl,h⟩
        have bT:Hid (∀ wx,CkN w v (slice A v.rs.length c) q (slice D q.nights.length C) (B.heap.size+1) wx->Calls prog 51 #[.agg #[int i64 q.ver,int i64 q.time,int i64 q.total,int i64 q.keep,int i64 q.ask.kind,int i64 q.ask.fr,int i64 q.ask.un,int i64 q.ask.pers,slice D q.nights.length C,.int .u64 (q.dig:Nat),int i64 q.sE,int i64 q.sS]] wx λe w'=>∃ r,e=.returned r/\Z03 w' w'.heap.size r q.says/\Below wx.heap.size wx w'):=λwx h=>bU wx (bj wx h.k.i);cases hvb:verB p.toNat q.sE q.sS q.says with
        | false =>
         have bk:Hid (∀ wx U2,CkN w v (slice A v.rs.length c) q (slice D q.nights.length C) (B.heap.size+1) wx->Z03 wx wx.heap.size U2 q.says->Calls prog 57 #[int i64 p,.agg #[int i64 q.sE,int i64 q.sS],U2] wx λe w'=>e=.returned (.tuple #[.bool false,int i64 (if expB q.sE&&expB q.sS then 0 else 1)])/\Below wx.heap.size wx w'):=λwx U2 h h2=>by have:=bJ.out wx U2 h.k.b bC h2 bB;rwa [hvb] at this
         generalize (if expB q.sE&&expB q.sS then (0:Int) else 1)=er at *
         go_wp2_with fail;go_region_held3 (λw'=>w'.cell? ⟨w.heap.size+1,10,none⟩=some (int i64 q.sE)/\w'.cell? ⟨w.heap.size+1,11,none⟩=some (int i64 q.sS)/\w'.cell? ⟨B.heap.size+1,0,none⟩=some (int i64 q.ver)/\w'.cell? ⟨B.heap.size+1,1,none⟩=some (int i64 q.time)/\w'.cell? ⟨B.heap.size+1,2,none⟩=some (int i64 q.total)/\w'.cell? ⟨B.heap.size+1,3,none⟩=some (int i64 q.keep)/\w'.cell? ⟨B.heap.size+1,4,none⟩=some (int i64 q.ask.kind)/\w'.cell? ⟨B.heap.size+1,5,none⟩=some (int i64 q.ask.fr)/\w'.cell? ⟨B.heap.size+1,6,none⟩=some (int i64 q.ask.un)/\w'.cell? ⟨B.heap.size+1,7,none⟩=some (int i64 q.ask.pers)/\w'.cell? ⟨B.heap.size+1,8,none⟩=some (slice D q.nights.length C)/\w'.cell? ⟨B.heap.size+1,9,none⟩=some (.int .u64 (q.dig:Nat))/\w'.cell? ⟨B.heap.size+1,10,none⟩=some (int i64 q.sE)/\w'.cell? ⟨B.heap.size+1,11,none⟩=some (int i64 q.sS)/\CkN w v (slice A v.rs.length c) q (slice D q.nights.length C) (B.heap.size+1) w') (first | (with_reducible exact Y.out _ bu.out.drew) | (with_reducible exact Y.out _ L8) | (with_reducible exact Y.out _ L9) | fail) (first
           | (go_at_call 51;have F:=(‹_/\_/\_/\_/\_/\_/\_/\_/\_/\_/\_/\_/\_/\_/\CkN w v (slice A v.rs.length c) q (slice D q.nights.length C) (B.heap.size+1) _›).2.2.2.2.2.2.2.2.2.2.2.2.2.2;refine (bT.out _ F).mono ?_;rintro ex w8 ⟨r8,rfl,f,d⟩;have L8:=F.on d;have bt:=zh f;clear f d F)
           | (go_at_call 57;have F:=(‹_/\_/\_/\_/\_/\_/\_/\_/\_/\_/\_/\_/\_/\_/\CkN w v (slice A v.rs.length c) q (slice D q.nights.length C) (B.heap.size+1) _›).2.2.2.2.2.2.2.2.2.2.2.2.2.2;refine (bk.out _ _ F bt.out).mono ?_;rintro ex w9 ⟨rfl,m⟩;have L9:=F.on m;clear m F))
         all_goals
          have F:=(‹_/\_/\_/\_/\_/\_/\_/\_/\_/\_/\_/\_/\_/\_/\CkN w v (slice A v.rs.length c) q (slice D q.nights.length C) (B.heap.size+1) _›).2.2.2.2.2.2.2.2.2.2.2.2.2.2;go_wp2_with fail;go_ret2;refine ⟨?_,F.k.b⟩
          try rw [y]
          try rw [hvb]
          rfl
        | true =>
         have bk:Hid (∀ wx U2,CkN w v (slice A v.rs.length c) q (slice D q.nights.length C) (B.heap.size+1) wx->Z03 wx wx.heap.size U2 q.says->Calls prog 57 #[int i64 p,.agg #[int i64 q.sE,int i64 q.sS],U2] wx λe w'=>e=.returned (.tuple #[.bool true,int i64 0])/\Below wx.heap.size wx w'):=λwx U2 h h2=>by
          have:=bJ.out wx U2 h.k.b bC h2 bB;have he:(expB q.sE&&expB q.sS)=true:=by
           unfold verB at hvb;simp only [zd] at hvb |-
           exact hvb.1
          rw [hvb,he] at this;exact this
         go_wp2_with fail;go_region_held3 (λw'=>w'.cell? ⟨w.heap.size+1,10,none⟩=some (int i64 q.sE)/\w'.cell? ⟨w.heap.size+1,11,none⟩=some (int i64 q.sS)/\w'.cell? ⟨B.heap.size+1,0,none⟩=some (int i64 q.ver)/\w'.cell? ⟨B.heap.size+1,1,none⟩=some (int i64 q.time)/\w'.cell? ⟨B.heap.size+1,2,none⟩=some (int i64 q.total)/\w'.cell? ⟨B.heap.size+1,3,none⟩=some (int i64 q.keep)/\w'.cell? ⟨B.heap.size+1,4,none⟩=some (int i64 q.ask.kind)/\w'.cell? ⟨B.heap.size+1,5,none⟩=some (int i64 q.ask.fr)/\w'.cell? ⟨B.heap.size+1,6,none⟩=some (int i64 q.ask.un)/\w'.cell? ⟨B.heap.size+1,7,none⟩=some (int i64 q.ask.pers)/\w'.cell? ⟨B.heap.size+1,8,none⟩=some (slice D q.nights.length C)/\w'.cell? ⟨B.heap.size+1,9,none⟩=some (.int .u64 (q.dig:Nat))/\w'.cell? ⟨B.heap.size+1,10,none⟩=some (int i64 q.sE)/\w'.cell? ⟨B.heap.size+1,11,none⟩=some (int i64 q.sS)/\CkN w v (slice A v.rs.length c) q (slice D q.nights.length C) (B.heap.size+1) w') (first | (with_reducible exact Y.out _ bu.out.drew) | (with_reducible exact Y.out _ L8) | (with_reducible exact Y.out _ L9) | fail) (first
           | (go_at_call 51;have F:=(‹_/\_/\_/\_/\_/\_/\_/\_/\_/\_/\_/\_/\_/\_/\CkN w v (slice A v.rs.length c) q (slice D q.nights.length C) (B.heap.size+1) _›).2.2.2.2.2.2.2.2.2.2.2.2.2.2;refine (bT.out _ F).mono ?_;rintro ex w8 ⟨r8,rfl,f,d⟩;have L8:=F.on d;have bt:=zh f;clear f d F)
           | (go_at_call 57;have F:=(‹_/\_/\_/\_/\_/\_/\_/\_/\_/\_/\_/\_/\_/\_/\CkN w v (slice A v.rs.length c) q (slice D q.nights.length C) (B.heap.size+1) _›).2.2.2.2.2.2.2.2.2.2.2.2.2.2;refine (bk.out _ _ F bt.out).mono ?_;rintro ex w9 ⟨rfl,m⟩;have L9:=F.on m;clear m F))
         all_goals
          have F:=(‹_/\_/\_/\_/\_/\_/\_/\_/\_/\_/\_/\_/\_/\_/\CkN w v (slice A v.rs.length c) q (slice D q.nights.length C) (B.heap.size+1) _›).2.2.2.2.2.2.2.2.2.2.2.2.2.2;go_wp2_with fail;go_ret2;refine ⟨?_,F.k.b⟩
          try rw [y]
          try rw [hvb]
          rfl
end
section
open Go.RowKit Lx Px Qx
def Zqx:Bytes:=[114,97,116,101,32,49,32,108,101,118,101,108,32,48,32,107,105,110,100,32,49,32,110,105,103,104,116,115,32,48,32,116,111,32,50,48,32,115,116,97,121,32,49,32,116,111,32,57,32,97,114,114,105,118,101,32,49,50,55,32,107,101,101,112,32,53,48,37,32,119,104,101,110,32,48,32,61,32,48,32,112,114,105,99,101,32,49,48,48,46,48,48,32,42,32,110,105,103,104,116,115,59]
def ZjG:List Tok:=[Z6H,[49],Zbr,[48],Zip,[49],Z70,[48],kTo,[50,48],Ziq,[49],kTo,[57],Z8m,[49,50,55],Zir,[53,48],[37],Zgj,[48],[61],[48],Z9k,[49,48,48,46,48,48],[42],Z70,[59]].map tk
theorem ZjH:toks Zqx=(ZjG,0,0):=by kernel_rfl
def hdW12:Ex:=((12,0),.node 0 0 (1,0) .nil (.node 0 0 (1,0) .nil .nil))
def hdP12:Ex:=((6,0),.node 0 0 (2,10000) .nil (.node 0 0 (3,1) .nil .nil))
def Zh4:Rr:=⟨1,0,1,0,20,1,9,127,50,hdW12,hdP12⟩
theorem Zk0:Z4v (exOf ZjG) ZjG 0=.ok Zh4 28:=by
 refine Znx ⟨⟨2,4,6,8,10,12,14,16,18,23,27,?_,?_,?_,?_,?_,?_,?_,?_,?_,?_,?_,?_,?_,?_,?_,?_⟩,?_,?_⟩
 case refine_12=>exact Zfq 20 20 (by decide) 23 (by kernel_rfl) (by decide)
 case refine_14=>exact Zfq 20 24 (by decide) 27 (by kernel_rfl) (by decide)
 all_goals kernel_rfl
theorem Znk:srcO Zqx=.ok [Zh4]:=by
 rw [Zkc ZjH];unfold allO;have C:ZjG.length=28:=rfl;have B:=Z5H (Z5g ZjG) (k:=0) (acc:=[]) (by decide) (λh=>absurd h.1 (by decide)) Zk0;rw [C] at B |-
 exact B
def hdA12:Qx.Ask:=⟨1,4,6,2⟩
theorem Znm:useB [Zh4.rt]=true:=by kernel_rfl
theorem Znn:Rt.can Zh4.rt=true:=by kernel_rfl
theorem Zh5:Z0d [Zh4.rt] hdA12=.ok ([20000,20000],20000):=by kernel_rfl
end
end Go.Proofs.YtnepkoepbapgeaaGreatDoor
