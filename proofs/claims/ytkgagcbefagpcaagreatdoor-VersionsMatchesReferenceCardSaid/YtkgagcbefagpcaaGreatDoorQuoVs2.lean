import Derived.Test.YtkgagcbefagpcaaGreatDoorQuoIs
import Derived.Lib.QuietBelow
namespace Go.Proofs.YtkgagcbefagpcaaGreatDoor
open _root_.Go.Proofs.Tryz
open Value (int slice)
open IntKind (i64)
set_option maxHeartbeats 16000000
set_option maxRecDepth 100000
section
open Go.RowKit Lx Px Qx
namespace Qx
theorem ZgC {v:Vr}{q:Qt}{p:Int}(h:¬ (v.okB=true/\memB p=true)):Z0C v q p=(false,1):=by
 unfold Z0C;rw [zf];intro B;rw [zd] at B;exact h B
theorem Zdk {v:Vr}{q:Qt}{p:Int}(C:v.okB=true)(D:memB p=true)(h:¬ (q.ask.okB=true/\Z18 q.time=true/\v.time<=q.time)):Z0C v q p=(false,0):=by
 unfold Z0C;rw [zp (by rw [C,D];rfl),zf];intro B;simp only [zd,decide_eq_true_eq] at B;exact h ⟨B.1.1,B.1.2,B.2⟩
theorem Zqj {v:Vr}{q:Qt}{p e:Int}(B:v.okB=true)(C:memB p=true)(h:Z0c v.rs q.ask=.error e):Z0C v q p=(false,0):=by
 unfold Z0C;rw [zp (by rw [B,C];rfl),Zbc h];split <;> rfl
theorem Zn3 {v:Vr}{q:Qt}{p:Int}{ns:List Int}{B:Int}(G:v.okB=true)(C:memB p=true)(F:Z18 q.time=true)(D:v.time<=q.time)(h:Z0c v.rs q.ask=.ok (ns,B)) : Z0C v q p=(q.same ⟨v.num,q.time,ns.sum,B,q.ask,ns,v.dig,0,0⟩&&verB p.toNat q.sE q.sS q.says,0):=by
 unfold Z0C;rw [zp (by rw [G,C];rfl),Z8k h,zp (by rw [(Z8m h).2.1,F];simpa using D)]
end Qx
structure CkB (w:World) (v:Vr) (rv:Value) (q:Qt) (nv:Value) (W:World):Prop where
 hv:W.heap[w.heap.size]?=some (.cells #[vI v.num,vI v.time,rv] 36 (0,0))
 hq:W.heap[w.heap.size+1]?=some (.cells (qtC q nv) 31 (0,0))
 i:Z03 W W.heap.size nv q.nights
 b:Below w.heap.size w W
theorem CkB.on {w W C:World}{v:Vr}{rv B:Value}{q:Qt}(h:CkB w v rv q B W)(hb:Below W.heap.size W C):CkB w v rv q B C := ⟨(hb.block _ (zF2.1 h.hv).1).trans h.hv,(hb.block _ (zF2.1 h.hq).1).trans h.hq,(h.i.on hb).up hb.size,Z00 h.b hb⟩
theorem CkB.new (w:World)(v:Vr)(rv B:Value)(q:Qt)(h:Z03 w w.heap.size B q.nights):CkB w v rv q B ((w.alloc (.cells #[vI v.num,vI v.time,rv] 36)).alloc (.cells (qtC q B) 31)):=by
 have hb:=((zr w.heap.size w).alloc (zn _) (.cells #[vI v.num,vI v.time,rv] 36)).alloc (by simp) (.cells (qtC q B) 31);refine ⟨Z0w (za w _) _,?_,(h.on hb).up hb.size,hb⟩;have:=za (w.alloc (.cells #[vI v.num,vI v.time,rv] 36)) (.cells (qtC q B) 31);rwa [zk] at this
theorem CkB.ver {w W:World}{v:Vr}{rv B:Value}{q:Qt}(h:CkB w v rv q B W):W.cell? ⟨w.heap.size,0,none⟩=some (vI v.num)/\W.cell? ⟨w.heap.size,1,none⟩=some (vI v.time)/\W.cell? ⟨w.heap.size,2,none⟩=some rv:=by
 refine ⟨?_,?_,?_⟩ <;> (rw [zH h.hv];rfl)
theorem CkB.c {w W:World}{v:Vr}{rv B:Value}{q:Qt}(h:CkB w v rv q B W)(i:Nat)(u:Value)(C:(qtC q B)[i]?=some u):W.cell? ⟨w.heap.size+1,i,none⟩=some u:=by rw [zH h.hq,C]
structure CkN (w:World) (v:Vr) (rv:Value) (q:Qt) (nv:Value) (nb:Nat) (W:World):Prop where
 k:CkB w v rv q nv W
 n:W.heap[nb]?=some (.cells (qtC q nv) 66 (0,0))
theorem CkN.on {w W D:World}{v:Vr}{rv B:Value}{q:Qt}{C:Nat}(h:CkN w v rv q B C W)(hb:Below W.heap.size W D):CkN w v rv q B C D := ⟨h.k.on hb,(hb.block _ (zF2.1 h.n).1).trans h.n⟩
theorem CkN.drew {w W:World}{v:Vr}{rv B:Value}{q:Qt}{C:Nat}(h:CkN w v rv q B C W):CkN w v rv q B C W.drew:=h.on (zr _ _).drew
theorem CkN.c {w W:World}{v:Vr}{rv B:Value}{q:Qt}{C:Nat}(h:CkN w v rv q B C W)(i:Nat)(u:Value)(D:(qtC q B)[i]?=some u):W.cell? ⟨C,i,none⟩=some u:=by rw [zH h.n,D]
theorem Ziy (v:Vr)(q:Qt)(p:Int)(V U:Value)(w:World)(hV:VrV w w.heap.size V v)(hU:QtV w w.heap.size U q)(hr:∀ x∈q.says,-9223372036854775808<=x/\x<=9223372036854775807)(bx:q.dig<18446744073709551616)(bD:q.nights.length<=50000)(ht:Tabs w.heap.size w) : Calls prog 31 #[V,U,vI p] w λe w'=>e=.returned (.tuple #[.bool (Z0C v q p).1,vI (Z0C v q p).2])/\Below w.heap.size w w':=by
 have bf:=λW (hb:Below w.heap.size w W)=>Z7i v V W (by obtain ⟨A,c,rfl,h⟩:=hV;exact ⟨A,c,rfl,(h.on hb).up hb.size⟩) (Z0v ht hb);have ba:=λW (hb:Below w.heap.size w W)=>ZcB v q.ask q.time v.dig V W (by obtain ⟨A,c,rfl,h⟩:=hV;exact ⟨A,c,rfl,(h.on hb).up hb.size⟩);have bP:=λW=>Z7n p W;have bL:=λW=>Z7r q.time W;have bB:=λW U2 (hb:Below w.heap.size w W) h0 h1 h2=>Zi3 p q.sE q.sS U2 q.says w.heap.size W h0 h1 h2 hr (ht.on hb);have bh:=@ZgC v q p;have bn:=@Zdk v q p;have bk:=λe h1 h2 h=>@Zqj v q p e h1 h2 h;have bj:=λns I h1 h2 h3 h4 h=>@Zn3 v q p ns I h1 h2 h3 h4 h;have bK:=λe (h:Z0c v.rs q.ask=.error e)=>Z4H h;obtain ⟨A,c,rfl,hR⟩:=hV;obtain ⟨C,D,rfl,hI⟩:=hU;have bF:q.says.length<=100000:=by simp [Qt.says];omega
 have be:=CkB.new w v (slice A v.rs.length c) (slice C q.nights.length D) q hI;have hq:qtV q (slice C q.nights.length D)=.agg (qtC q (slice C q.nights.length D)):=rfl;obtain ⟨M,hM⟩:∃ M,Z0C v q p=M:=⟨_,rfl⟩
 rw [hM] at bh bn bk bj |-
 rw [hq];clear hM hq;unfold vrV at bf ba |-
 simp only [askV] at ba;unfold qtC at be |-
 obtain ⟨HB,bO,bz,cn,b6,bQ,bA,bY,cA,ck,b4,HR,HI,cD⟩:=zh14 be bf ba bP bL bB bh bn bk bj bK hR hI hr;clear be bf ba bP bL bB bh bn bk bj bK hR hI hr;go_enter func31,ntmps31;go_upto_region 1 with fail;generalize (w.alloc (.cells #[vI v.num,vI v.time,slice A v.rs.length c] 36)).alloc (.cells #[vI q.ver,vI q.time,vI q.total,vI q.keep,vI q.ask.kind,vI q.ask.fr,vI q.ask.un,vI q.ask.pers,slice C q.nights.length D,.int .u64 (q.dig:Nat),vI q.sE,vI q.sS] 31)=w1 at *
 obtain ⟨q0,q1,q2⟩:=HB.o.ver;go_wp2_with fail;refine (bO.o _ HB.o.b).mono ?_;rintro e w2 ⟨bM,rfl⟩;have bm:=zh (HB.o.on bM);clear bM HB bO q0 q1 q2;cases h1:v.okB with
 | false =>obtain rfl:=bA.o (λh=>by rw [h1] at h;simp at h);simp only [Bool.false_eq_true,if_false,if_true,Option.getD_none];go_wp2_with fail;go_ret2;exact ⟨rfl,bm.o.b⟩
 | true =>
  simp only [if_true,Option.getD_some];go_wp2_with fail;refine (cn.o _).mono ?_;rintro e w3 ⟨rfl,bC⟩;have L:=zh (bm.o.on bC);clear bC bm;cases h2:memB p with
  | false =>obtain rfl:=bA.o (λh=>by rw [h2] at h;simp at h);go_wp2_with fail;go_ret2;exact ⟨rfl,L.o.b⟩
  | true =>
   have bG:memB p=true:=h2;have c1:=L.o.c 1 (vI q.time) rfl;go_wp2_with fail;refine (b6.o _).mono ?_;rintro e w' ⟨rfl,rfl⟩;cases h3:Z18 q.time with
   | false =>obtain rfl:=bY.o h1 h2 (λh=>by rw [h3] at h;simp at h);go_wp2_with fail;go_ret2;exact ⟨rfl,L.o.b⟩
   | true =>
    obtain ⟨q0,q1,q2⟩:=L.o.ver;by_cases h4:q.time<v.time
    . have d4:decide (q.time<v.time)=true:=by simpa using h4
      obtain rfl:=bY.o h1 h2 (λh=>by omega);go_wp2_with fail;go_ret2;exact ⟨rfl,L.o.b⟩
    . have d4:decide (q.time<v.time)=false:=by simpa using h4
      have c4:=L.o.c 4 (vI q.ask.kind) rfl;have c5:=L.o.c 5 (vI q.ask.fr) rfl;have c6:=L.o.c 6 (vI q.ask.un) rfl;have c7:=L.o.c 7 (vI q.ask.pers) rfl;go_wp2_with fail;refine (bz.o _ L.o.b).mono ?_;intro e B T;obtain ⟨bv,T⟩:=T;have bc:=L.o.on bv;clear c1 c4 c5 c6 c7 q0 q1 q2 bz;cases hX:Z0c v.rs q.ask with
      | error er =>
       rw [hX] at T;dsimp only at T;subst T;obtain ⟨e0,_,_⟩:=b4.o er hX;have d5:(er != 0)=true:=by simpa using e0
       obtain rfl:=cA.o er h1 h2 hX;have S:=(zr B.heap.size B).alloc (zn _) (.cells (qtC Qt.zero (slice none 0 0)) 66);have J:=bc.on S;have X:=J.hq;have d:=Z0A Qt.zero none 0 0;have l:=Z0A q C q.nights.length D;have R:=((J.b.alloc J.b.size (.cells (qtC q (slice C q.nights.length D)) 66)))
       simp only [qtC,Qt.zero,Int.natCast_zero] at J X d l R |-
       obtain ⟨cC,HQ5,cf⟩:=zh3 J X R;clear J X R bc S bv;go_wp2_with (first | (with_reducible refine Z0G rfl _ rfl (w.heap.size+1) rfl _ rfl _ HQ5.o ?_) | (refine Z0j rfl _ _ rfl _ _ rfl rfl rfl rfl d ?_) | (refine Z0j rfl _ _ rfl _ _ rfl rfl rfl rfl l ?_));go_ret2;exact ⟨rfl,cf.o⟩
      | ok pr =>
       obtain ⟨ns,I⟩:=pr;rw [hX] at T;obtain ⟨N,rfl,bI,cB⟩:=T;have bN:=ck.o ns I h1 h2 h3 (by omega) hX;have cu:=Z9e v;have cE:=Z6s hX;generalize v.dig=O at *
       obtain ⟨m,j⟩:∃ m:Qt,(⟨v.num,q.time,ns.sum,I,q.ask,ns,O,0,0⟩:Qt)=m:=⟨_,rfl⟩
       have S:=(zr B.heap.size B).alloc (zn _) (.cells (qtC ⟨v.num,q.time,ns.sum,I,q.ask,ns,O,0,0⟩ (slice N ns.length ns.length)) 66);have bb:=za B (.cells (qtC ⟨v.num,q.time,ns.sum,I,q.ask,ns,O,0,0⟩ (slice N ns.length ns.length)) 66);have br:=(bI.on S).up S.size;have J:=bc.on S;have bE:=zk B (.cells (qtC ⟨v.num,q.time,ns.sum,I,q.ask,ns,O,0,0⟩ (slice N ns.length ns.length)) 66);have X:=J.hq;have d:=Z0A ⟨v.num,q.time,ns.sum,I,q.ask,ns,O,0,0⟩ N ns.length ns.length;have l:=Z0A q C q.nights.length D;have bd:=λW h1 h2=>Zi4 q m (.agg (qtC q (slice C q.nights.length D))) (.agg (qtC ⟨v.num,q.time,ns.sum,I,q.ask,ns,O,0,0⟩ (slice N ns.length ns.length))) W h1 h2 bx (by rw [<- j];exact cu) bD (by rw [<- j];show ns.length<=50000;omega);have bu:∀ W,Z03 W W.heap.size (slice N ns.length ns.length) ns->QtV W W.heap.size (.agg (qtC ⟨v.num,q.time,ns.sum,I,q.ask,ns,O,0,0⟩ (slice N ns.length ns.length))) m:=λW h=>by rw [<- j];exact ⟨N,ns.length,rfl,h⟩
       have bg:∀ W,Z03 W W.heap.size (slice C q.nights.length D) q.nights->QtV W W.heap.size (.agg (qtC q (slice C q.nights.length D))) q:=λW h=>⟨C,D,rfl,h⟩
       have bU:=λW h=>Z8p q (.agg (qtC q (slice C q.nights.length D))) W h bx bD;rw [j] at bN;subst bN;clear S j;have bs:∀ W,CkB w v (slice A v.rs.length c) q (slice C q.nights.length D) W->CkN w v (slice A v.rs.length c) q (slice C q.nights.length D) W.heap.size (W.alloc (.cells (qtC q (slice C q.nights.length D)) 66)):=λW h=>⟨h.on ((zr _ _).alloc (zn _) _),za W _⟩
       simp only [qtC] at bb J X d l bE br bd bu bg bU bs |-
       go_upto_region 7 with (first | (refine Z0j rfl _ _ rfl _ _ rfl rfl rfl rfl d ?_));generalize B.alloc (.cells #[vI v.num,vI q.time,vI ns.sum,vI I,vI q.ask.kind,vI q.ask.fr,vI q.ask.un,vI q.ask.pers,slice N ns.length ns.length,.int .u64 (O:Nat),vI 0,vI 0] 66)=w5 at *
       have G:=bs w5 J;have R:=(zr w5.heap.size w5).alloc (zn _) (.cells #[vI q.ver,vI q.time,vI q.total,vI q.keep,vI q.ask.kind,vI q.ask.fr,vI q.ask.un,vI q.ask.pers,slice C q.nights.length D,.int .u64 (q.dig:Nat),vI q.sE,vI q.sS] 66);have H:=(R.block _ (zF2.1 bb).1).trans bb;have bT:=(br.on R).up R.size;have bS:=bd _ (bg _ G.k.i) (bu _ bT);have bX:=G.n;simp only [qtC] at bX;rw [bE] at G;have cc:=G.c 0 (vI q.ver) rfl;have cd:=G.c 1 (vI q.time) rfl;have ce:=G.c 2 (vI q.total) rfl;have b1:=G.c 3 (vI q.keep) rfl;have cs:=G.c 4 (vI q.ask.kind) rfl;have ct:=G.c 5 (vI q.ask.fr) rfl;have cm:=G.c 6 (vI q.ask.un) rfl;have b8:=G.c 7 (vI q.ask.pers) rfl;have b0:=G.c 8 (slice C q.nights.length D) rfl;have cr:=G.c 9 (.int .u64 (q.dig:Nat)) rfl;have b9:=G.c 10 (vI q.sE) rfl;have cg:=G.c 11 (vI q.sS) rfl;have cz:(w5.alloc (.cells #[vI q.ver,vI q.time,vI q.total,vI q.keep,vI q.ask.kind,vI q.ask.fr,vI q.ask.un,vI q.ask.pers,slice C q.nights.length D,.int .u64 (q.dig:Nat),vI q.sE,vI q.sS] 66)).cell? ⟨B.heap.size,0,none⟩=some (vI v.num):=by rw [zH H];rfl
       have b7:(w5.alloc (.cells #[vI q.ver,vI q.time,vI q.total,vI q.keep,vI q.ask.kind,vI q.ask.fr,vI q.ask.un,vI q.ask.pers,slice C q.nights.length D,.int .u64 (q.dig:Nat),vI q.sE,vI q.sS] 66)).cell? ⟨B.heap.size,1,none⟩=some (vI q.time):=by rw [zH H];rfl
       have cx:(w5.alloc (.cells #[vI q.ver,vI q.time,vI q.total,vI q.keep,vI q.ask.kind,vI q.ask.fr,vI q.ask.un,vI q.ask.pers,slice C q.nights.length D,.int .u64 (q.dig:Nat),vI q.sE,vI q.sS] 66)).cell? ⟨B.heap.size,2,none⟩=some (vI ns.sum):=by rw [zH H];rfl
       have ca:(w5.alloc (.cells #[vI q.ver,vI q.time,vI q.total,vI q.keep,vI q.ask.kind,vI q.ask.fr,vI q.ask.un,vI q.ask.pers,slice C q.nights.length D,.int .u64 (q.dig:Nat),vI q.sE,vI q.sS] 66)).cell? ⟨B.heap.size,3,none⟩=some (vI I):=by rw [zH H];rfl
       have cy:(w5.alloc (.cells #[vI q.ver,vI q.time,vI q.total,vI q.keep,vI q.ask.kind,vI q.ask.fr,vI q.ask.un,vI q.ask.pers,slice C q.nights.length D,.int .u64 (q.dig:Nat),vI q.sE,vI q.sS] 66)).cell? ⟨B.heap.size,4,none⟩=some (vI q.ask.kind):=by rw [zH H];rfl
       have bZ:(w5.alloc (.cells #[vI q.ver,vI q.time,vI q.total,vI q.keep,vI q.ask.kind,vI q.ask.fr,vI q.ask.un,vI q.ask.pers,slice C q.nights.length D,.int .u64 (q.dig:Nat),vI q.sE,vI q.sS] 66)).cell? ⟨B.heap.size,5,none⟩=some (vI q.ask.fr):=by rw [zH H];rfl
       have ch:(w5.alloc (.cells #[vI q.ver,vI q.time,vI q.total,vI q.keep,vI q.ask.kind,vI q.ask.fr,vI q.ask.un,vI q.ask.pers,slice C q.nights.length D,.int .u64 (q.dig:Nat),vI q.sE,vI q.sS] 66)).cell? ⟨B.heap.size,6,none⟩=some (vI q.ask.un):=by rw [zH H];rfl
       have cb:(w5.alloc (.cells #[vI q.ver,vI q.time,vI q.total,vI q.keep,vI q.ask.kind,vI q.ask.fr,vI q.ask.un,vI q.ask.pers,slice C q.nights.length D,.int .u64 (q.dig:Nat),vI q.sE,vI q.sS] 66)).cell? ⟨B.heap.size,7,none⟩=some (vI q.ask.pers):=by rw [zH H];rfl
       have b2:(w5.alloc (.cells #[vI q.ver,vI q.time,vI q.total,vI q.keep,vI q.ask.kind,vI q.ask.fr,vI q.ask.un,vI q.ask.pers,slice C q.nights.length D,.int .u64 (q.dig:Nat),vI q.sE,vI q.sS] 66)).cell? ⟨B.heap.size,8,none⟩=some (slice N ns.length ns.length):=by rw [zH H];rfl
       have cv:(w5.alloc (.cells #[vI q.ver,vI q.time,vI q.total,vI q.keep,vI q.ask.kind,vI q.ask.fr,vI q.ask.un,vI q.ask.pers,slice C q.nights.length D,.int .u64 (q.dig:Nat),vI q.sE,vI q.sS] 66)).cell? ⟨B.heap.size,9,none⟩=some (.int .u64 (O:Nat)):=by rw [zH H];rfl
       have b3:(w5.alloc (.cells #[vI q.ver,vI q.time,vI q.total,vI q.keep,vI q.ask.kind,vI q.ask.fr,vI q.ask.un,vI q.ask.pers,slice C q.nights.length D,.int .u64 (q.dig:Nat),vI q.sE,vI q.sS] 66)).cell? ⟨B.heap.size,10,none⟩=some (vI 0):=by rw [zH H];rfl
       have b5:(w5.alloc (.cells #[vI q.ver,vI q.time,vI q.total,vI q.keep,vI q.ask.kind,vI q.ask.fr,vI q.ask.un,vI q.ask.pers,slice C q.nights.length D,.int .u64 (q.dig:Nat),vI q.sE,vI q.sS] 66)).cell? ⟨B.heap.size,11,none⟩=some (vI 0):=by rw [zH H];rfl
       obtain ⟨HQ5,bR,cj,bJ⟩:=zh4 X G H bS;clear X G H bS bX bc J bb bI br bT bd bu bs R bv;go_wp2_with (first | (with_reducible refine Z0G rfl _ rfl (w.heap.size+1) rfl _ rfl _ HQ5.o ?_) | (refine Z0j rfl _ _ rfl _ _ rfl rfl rfl rfl l ?_));refine bJ.o.mono ?_;rintro e w7 ⟨rfl,bW⟩;have bH:=bR.o.on bW;obtain ⟨R1,y⟩:∃ R1,q.same m=R1:=⟨_,rfl⟩
       rw [y];have bp:=zh bH;clear bH bW bJ bR cj HQ5 cc cd ce b1 cs ct cm b8 b0 cr b9 cg cz b7 cx ca cy bZ ch cb b2 cv b3 b5;cases R1 with
       | false =>
        go_wp2_with fail;go_ret2;refine ⟨?_,bp.o.k.b⟩
        try rw [y]
        rfl
       | true =>
        have Y:Hid (∀ wx,CkN w v (slice A v.rs.length c) q (slice C q.nights.length D) (B.heap.size+1) wx->wx.cell? ⟨w.heap.size+1,10,none⟩=some (vI q.sE)/\wx.cell? ⟨w.heap.size+1,11,none⟩=some (vI q.sS)/\wx.cell? ⟨B.heap.size+1,0,none⟩=some (vI q.ver)/\wx.cell? ⟨B.heap.size+1,1,none⟩=some (vI q.time)/\wx.cell? ⟨B.heap.size+1,2,none⟩=some (vI q.total)/\wx.cell? ⟨B.heap.size+1,3,none⟩=some (vI q.keep)/\wx.cell? ⟨B.heap.size+1,4,none⟩=some (vI q.ask.kind)/\wx.cell? ⟨B.heap.size+1,5,none⟩=some (vI q.ask.fr)/\wx.cell? ⟨B.heap.size+1,6,none⟩=some (vI q.ask.un)/\wx.cell? ⟨B.heap.size+1,7,none⟩=some (vI q.ask.pers)/\wx.cell? ⟨B.heap.size+1,8,none⟩=some (slice C q.nights.length D)/\wx.cell? ⟨B.heap.size+1,9,none⟩=some (.int .u64 (q.dig:Nat))/\wx.cell? ⟨B.heap.size+1,10,none⟩=some (vI q.sE)/\wx.cell? ⟨B.heap.size+1,11,none⟩=some (vI q.sS)/\CkN w v (slice A v.rs.length c) q (slice C q.nights.length D) (B.heap.size+1) wx):=λwx h=>⟨h.k.c 10 _ rfl,h.k.c 11 _ rfl,h.c 0 _ rfl,h.c 1 _ rfl,h.c 2 _ rfl,h.c 3 _ rfl,h.c 4 _ rfl,h.c 5 _ rfl,h.c 6 _ rfl,h.c 7 _ rfl,h.c 8 _ rfl,h.c 9 _ rfl,h.c 10 _ rfl,h.c 11 _ rfl,h⟩
        have bV:Hid (∀ wx,CkN w v (slice A v.rs.length c) q (slice C q.nights.length D) (B.heap.size+1) wx->Calls prog 39 #[.agg #[vI q.ver,vI q.time,vI q.total,vI q.keep,vI q.ask.kind,vI q.ask.fr,vI q.ask.un,vI q.ask.pers,slice C q.nights.length D,.int .u64 (q.dig:Nat),vI q.sE,vI q.sS]] wx λe w'=>∃ r,e=.returned r/\Z03 w' w'.heap.size r q.says/\Below wx.heap.size wx w'):=λwx h=>bU wx (bg wx h.k.i);cases hvb:verB p.toNat q.sE q.sS q.says with
        | false =>
         have bq:Hid (∀ wx U2,CkN w v (slice A v.rs.length c) q (slice C q.nights.length D) (B.heap.size+1) wx->Z03 wx wx.heap.size U2 q.says->Calls prog 48 #[vI p,.agg #[vI q.sE,vI q.sS],U2] wx λe w'=>e=.returned (.tuple #[.bool false,vI (if expB q.sE&&expB q.sS then 0 else 1)])/\Below wx.heap.size wx w'):=λwx U2 h h2=>by have:=bQ.o wx U2 h.k.b bG h2 bF;rwa [hvb] at this
         generalize (if expB q.sE&&expB q.sS then (0:Int) else 1)=er at *
         go_wp2_with fail;go_region_held3 (λw'=>w'.cell? ⟨w.heap.size+1,10,none⟩=some (vI q.sE)/\w'.cell? ⟨w.heap.size+1,11,none⟩=some (vI q.sS)/\w'.cell? ⟨B.heap.size+1,0,none⟩=some (vI q.ver)/\w'.cell? ⟨B.heap.size+1,1,none⟩=some (vI q.time)/\w'.cell? ⟨B.heap.size+1,2,none⟩=some (vI q.total)/\w'.cell? ⟨B.heap.size+1,3,none⟩=some (vI q.keep)/\w'.cell? ⟨B.heap.size+1,4,none⟩=some (vI q.ask.kind)/\w'.cell? ⟨B.heap.size+1,5,none⟩=some (vI q.ask.fr)/\w'.cell? ⟨B.heap.size+1,6,none⟩=some (vI q.ask.un)/\w'.cell? ⟨B.heap.size+1,7,none⟩=some (vI q.ask.pers)/\w'.cell? ⟨B.heap.size+1,8,none⟩=some (slice C q.nights.length D)/\w'.cell? ⟨B.heap.size+1,9,none⟩=some (.int .u64 (q.dig:Nat))/\w'.cell? ⟨B.heap.size+1,10,none⟩=some (vI q.sE)/\w'.cell? ⟨B.heap.size+1,11,none⟩=some (vI q.sS)/\CkN w v (slice A v.rs.length c) q (slice C q.nights.length D) (B.heap.size+1) w') (first | (with_reducible exact Y.o _ bp.o.drew) | (with_reducible exact Y.o _ L8) | (with_reducible exact Y.o _ L9) | fail) (first
           | (go_at_call 39;have F:=(‹_/\_/\_/\_/\_/\_/\_/\_/\_/\_/\_/\_/\_/\_/\CkN w v (slice A v.rs.length c) q (slice C q.nights.length D) (B.heap.size+1) _›).2.2.2.2.2.2.2.2.2.2.2.2.2.2;refine (bV.o _ F).mono ?_;rintro ex w8 ⟨r8,rfl,g,f⟩;have L8:=F.on f;have bt:=zh g;clear g f F)
           | (go_at_call 48;have F:=(‹_/\_/\_/\_/\_/\_/\_/\_/\_/\_/\_/\_/\_/\_/\CkN w v (slice A v.rs.length c) q (slice C q.nights.length D) (B.heap.size+1) _›).2.2.2.2.2.2.2.2.2.2.2.2.2.2;refine (bq.o _ _ F bt.o).mono ?_;rintro ex w9 ⟨rfl,Z⟩;have L9:=F.on Z;clear Z F))
         all_goals
          have F:=(‹_/\_/\_/\_/\_/\_/\_/\_/\_/\_/\_/\_/\_/\_/\CkN w v (slice A v.rs.length c) q (slice C q.nights.length D) (B.heap.size+1) _›).2.2.2.2.2.2.2.2.2.2.2.2.2.2;go_wp2_with fail;go_ret2;refine ⟨?_,F.k.b⟩
          try rw [y]
          try rw [hvb]
          rfl
        | true =>
         have bq:Hid (∀ wx U2,CkN w v (slice A v.rs.length c) q (slice C q.nights.length D) (B.heap.size+1) wx->Z03 wx wx.heap.size U2 q.says->Calls prog 48 #[vI p,.agg #[vI q.sE,vI q.sS],U2] wx λe w'=>e=.returned (.tuple #[.bool true,vI 0])/\Below wx.heap.size wx w'):=λwx U2 h h2=>by
          have:=bQ.o wx U2 h.k.b bG h2 bF;have he:(expB q.sE&&expB q.sS)=true:=by
           unfold verB at hvb;simp only [zd] at hvb |-
           exact hvb.1
          rw [hvb,he] at this;exact this
         go_wp2_with fail;go_region_held3 (λw'=>w'.cell? ⟨w.heap.size+1,10,none⟩=some (vI q.sE)/\w'.cell? ⟨w.heap.size+1,11,none⟩=some (vI q.sS)/\w'.cell? ⟨B.heap.size+1,0,none⟩=some (vI q.ver)/\w'.cell? ⟨B.heap.size+1,1,none⟩=some (vI q.time)/\w'.cell? ⟨B.heap.size+1,2,none⟩=some (vI q.total)/\w'.cell? ⟨B.heap.size+1,3,none⟩=some (vI q.keep)/\w'.cell? ⟨B.heap.size+1,4,none⟩=some (vI q.ask.kind)/\w'.cell? ⟨B.heap.size+1,5,none⟩=some (vI q.ask.fr)/\w'.cell? ⟨B.heap.size+1,6,none⟩=some (vI q.ask.un)/\w'.cell? ⟨B.heap.size+1,7,none⟩=some (vI q.ask.pers)/\w'.cell? ⟨B.heap.size+1,8,none⟩=some (slice C q.nights.length D)/\w'.cell? ⟨B.heap.size+1,9,none⟩=some (.int .u64 (q.dig:Nat))/\w'.cell? ⟨B.heap.size+1,10,none⟩=some (vI q.sE)/\w'.cell? ⟨B.heap.size+1,11,none⟩=some (vI q.sS)/\CkN w v (slice A v.rs.length c) q (slice C q.nights.length D) (B.heap.size+1) w') (first | (with_reducible exact Y.o _ bp.o.drew) | (with_reducible exact Y.o _ L8) | (with_reducible exact Y.o _ L9) | fail) (first
           | (go_at_call 39;have F:=(‹_/\_/\_/\_/\_/\_/\_/\_/\_/\_/\_/\_/\_/\_/\CkN w v (slice A v.rs.length c) q (slice C q.nights.length D) (B.heap.size+1) _›).2.2.2.2.2.2.2.2.2.2.2.2.2.2;refine (bV.o _ F).mono ?_;rintro ex w8 ⟨r8,rfl,g,f⟩;have L8:=F.on f;have bt:=zh g;clear g f F)
           | (go_at_call 48;have F:=(‹_/\_/\_/\_/\_/\_/\_/\_/\_/\_/\_/\_/\_/\_/\CkN w v (slice A v.rs.length c) q (slice C q.nights.length D) (B.heap.size+1) _›).2.2.2.2.2.2.2.2.2.2.2.2.2.2;refine (bq.o _ _ F bt.o).mono ?_;rintro ex w9 ⟨rfl,Z⟩;have L9:=F.on Z;clear Z F))
         all_goals
          have F:=(‹_/\_/\_/\_/\_/\_/\_/\_/\_/\_/\_/\_/\_/\_/\CkN w v (slice A v.rs.length c) q (slice C q.nights.length D) (B.heap.size+1) _›).2.2.2.2.2.2.2.2.2.2.2.2.2.2;go_wp2_with fail;go_ret2;refine ⟨?_,F.k.b⟩
          try rw [y]
          try rw [hvb]
          rfl
end
section
open Go.RowKit Lx Px Qx
def hdW12:Ex:=((12,0),.node 0 0 (1,0) .nil (.node 0 0 (1,0) .nil .nil))
def hdP12:Ex:=((6,0),.node 0 0 (2,10000) .nil (.node 0 0 (3,1) .nil .nil))
def hdR12:Rr:=⟨1,0,1,0,20,1,9,127,50,hdW12,hdP12⟩
def Zdm:Qx.Ask:=⟨1,4,6,2⟩
def Zn4:Bytes:=[114,97,116,101,32,49,32,108,101,118,101,108,32,48,32,107,105,110,100,32,49,32,110,105,103,104,116,115,32,48,32,116,111,32,50,48,32,115,116,97,121,32,49,32,116,111,32,57,32,97,114,114,105,118,101,32,49,50,55,32,107,101,101,112,32,53,48,37,32,119,104,101,110,32,48,32,61,32,48,32,112,114,105,99,101,32,49,48,48,46,48,48,59]
def Zdn:List Tok:=[Z68,[49],Z9A,[48],Zh3,[49],Z72,[48],kTo,[50,48],Zh4,[49],kTo,[57],Z73,[49,50,55],Zh5,[53,48],[37],Zdt,[48],[61],[48],Z8v,[49,48,48,46,48,48],[59]].map tk
theorem Ziz:toks Zn4=(Zdn,0,0):=by kernel_rfl
def Z4u:Rr:=⟨1,0,1,0,20,1,9,127,50,hdW12,((2,10000),.nil)⟩
theorem ZiA:Z4w (exOf Zdn) Zdn 0=.ok Z4u 26:=by
 refine Zgq ⟨⟨2,4,6,8,10,12,14,16,18,23,25,?_,?_,?_,?_,?_,?_,?_,?_,?_,?_,?_,?_,?_,?_,?_,?_⟩,?_,?_⟩
 case refine_12=>exact Z8s 20 20 (by decide) 23 (by kernel_rfl) (by decide)
 case refine_14=>exact Z8s 20 24 (by decide) 25 (by kernel_rfl) (by decide)
 all_goals kernel_rfl
theorem Zn5:srcO Zn4=.ok [Z4u]:=by
 rw [ZeC Ziz];unfold allO;have C:Zdn.length=26:=rfl;have B:=Z4k (Z48 Zdn) (k:=0) (acc:=[]) (by decide) (λh=>absurd h.1 (by decide)) ZiA;rw [C] at B |-
 exact B
theorem Zn6:useB [Z4u.rt]=true:=by kernel_rfl
theorem Zn7:Rt.can Z4u.rt=true:=by kernel_rfl
theorem Zf1:Z0c [Z4u.rt] Zdm=.ok ([10000,10000],10000):=by kernel_rfl
def Zn8:Bytes:=[114,97,116,101,32,49,32,108,101,118,101,108,32,48,32,107,105,110,100,32,49,32,110,105,103,104,116,115,32,48,32,116,111,32,50,48,32,115,116,97,121,32,49,32,116,111,32,57,32,97,114,114,105,118,101,32,49,50,55,32,107,101,101,112,32,53,48,37,32,119,104,101,110,32,48,32,61,32,48,32,112,114,105,99,101,32,57,48,46,48,48,59]
def Zdp:List Tok:=[Z68,[49],Z9A,[48],Zh3,[49],Z72,[48],kTo,[50,48],Zh4,[49],kTo,[57],Z73,[49,50,55],Zh5,[53,48],[37],Zdt,[48],[61],[48],Z8v,[57,48,46,48,48],[59]].map tk
theorem ZiB:toks Zn8=(Zdp,0,0):=by kernel_rfl
def Z4b:Rr:=⟨1,0,1,0,20,1,9,127,50,hdW12,((2,9000),.nil)⟩
theorem ZiC:Z4w (exOf Zdp) Zdp 0=.ok Z4b 26:=by
 refine Zgq ⟨⟨2,4,6,8,10,12,14,16,18,23,25,?_,?_,?_,?_,?_,?_,?_,?_,?_,?_,?_,?_,?_,?_,?_,?_⟩,?_,?_⟩
 case refine_12=>exact Z8s 20 20 (by decide) 23 (by kernel_rfl) (by decide)
 case refine_14=>exact Z8s 20 24 (by decide) 25 (by kernel_rfl) (by decide)
 all_goals kernel_rfl
theorem Zn9:srcO Zn8=.ok [Z4b]:=by
 rw [ZeC ZiB];unfold allO;have C:Zdp.length=26:=rfl;have B:=Z4k (Z48 Zdp) (k:=0) (acc:=[]) (by decide) (λh=>absurd h.1 (by decide)) ZiC;rw [C] at B |-
 exact B
theorem Zna:useB [Z4b.rt]=true:=by kernel_rfl
theorem Znb:Rt.can Z4b.rt=true:=by kernel_rfl
end
section
open Go.RowKit Lx Px
namespace Px
theorem Znc:∀ l m:Fo,Z42 l m=true->flen l=flen m:=by
 intro l;induction l with
 | nil=>intro m h;cases m with
  | nil=>rfl
  | node=>simp [Z42] at h
 | node b o a l r _ ihr =>
  intro m h;cases m with
  | nil=>simp [Z42] at h
  | node b' o' a' l' r' =>simp only [Z42,zd] at h;simp only [flen];rw [ihr r' h.2]
theorem Zqk (l m:Fo)(h:¬ flen l=flen m):Z42 l m=false:=by
 cases e:Z42 l m with
 | false=>rfl
 | true=>exact absurd (Znc l m e) h
end Px
def Zqm (a:Int × Int)(l:Fo):Prop := ∀ (b:Int × Int) (m:Fo) (w:World) (v u:Value) (B:Nat),FoV w B v l->FoV w B u m->B<=w.heap.size->Z1u l<=1000 -> Calls prog 71 #[.agg #[vI a.1,vI a.2,v],.agg #[vI b.1,vI b.2,u]] w λe w' =>
   e=.returned (.bool (Z6b a b l m))/\Below w.heap.size w w'
def SamL (l m:Fo)(w:World)(o1 o2:Obj)(i:Value)(wr:World):Prop := ∃ (k:Nat),k<=flen l/\i=vI k/\Two w o1 o2 wr/\Z42 (Z1c l k) (Z1c m k)=Z42 l m
theorem ZgD (a:Int × Int)(l:Fo)(ih:∀ k,k<flen l->Zqm (getF l k).1 (getF l k).2):Zqm a l:=by
 intro b m w v u B hv hu hB bz;obtain ⟨A,c,rfl,hA⟩:=hv;obtain ⟨D,c2,rfl,bk⟩:=hu;obtain ⟨op,n⟩:=a;obtain ⟨J,F⟩:=b;have bC:=Zhj l;have hx:=Z0F w (.cells #[vI op,vI n,slice A (flen l) c] 79) (.cells #[vI J,vI F,slice D (flen m) c2] 79);have hb:Below w.heap.size w ((w.alloc (.cells #[vI op,vI n,slice A (flen l) c] 79)).alloc (.cells #[vI J,vI F,slice D (flen m) c2] 79)):=((zr _ _).alloc (zn _) _).alloc (by simp) _;have d:Hid (Two w (.cells #[vI op,vI n,slice A (flen l) c] 79 (0,0)) (.cells #[vI J,vI F,slice D (flen m) c2] 79 (0,0)) ((w.alloc (.cells #[vI op,vI n,slice A (flen l) c] 79)).alloc (.cells #[vI J,vI F,slice D (flen m) c2] 79))):=⟨hx.1,hx.2,hb⟩
 obtain ⟨HA,bs,HI⟩:=zh3 hA bk ih;clear hx hb hA bk ih;dsimp only;by_cases h1:op=J
 . by_cases h2:n=F
   . by_cases h3:flen l=flen m
     . subst h1;subst h2;have d1:(op != op)=false:=by simp
       have d2:(n != n)=false:=by simp
       have d3:((flen l:Int) != (flen m:Int))=false:=by rw [h3];simp
       have C:Z6b (op,n) (op,n) l m=Z42 l m:=by simp [Z6b]
       have H:=zh C;have H3:=zh h3;clear C h3;go_enter func71,ntmps71;go_wp2_with fail;go_loopw [5] (λi wr=>SamL l m w (.cells #[vI op,vI n,slice A (flen l) c] 79 (0,0)) (.cells #[vI op,vI n,slice D (flen m) c2] 79 (0,0)) i wr) (λi _=>flen l - (intOf i).toNat)
       case atStart=>exact ⟨0,by omega,rfl,d.o,by rw [Z1c,Z1c]⟩
       case round =>
        obtain ⟨k,hk,rfl,f,hF⟩:=hrel;have m2:wr.cell? ⟨w.heap.size,2,none⟩=some (slice A (flen l) c):=by rw [zH f.1];rfl
        have m3:wr.cell? ⟨w.heap.size+1,2,none⟩=some (slice D (flen m) c2):=by rw [zH f.2.1];rfl
        have X:=zh hF;have L:=zh f;clear hF f;by_cases hlt:k<flen l
        . have bc:∀ p:Addr,p.block<B->wr.cell? p=w.cell? p:=λp hp=>L.o.2.2.cell (by omega);have bf:k<flen m:=by have:=H3.o;omega
          obtain ⟨ad,A',c',rfl,bB,j,g,U,S⟩:=FoAt.get l A 0 k (FoAt.keep bc l A 0 HA.o) hlt;obtain ⟨bu,bd,r,rfl,bD,T,N,R,V⟩:=FoAt.get m D 0 k (FoAt.keep bc m D 0 bs.o) bf;rw [Nat.zero_add] at j g U T N R;obtain ⟨bb,oo,Z⟩:=Z3p l k hlt;obtain ⟨bx,bA,Y⟩:=Z3p m k bf;have O:=HI.o k hlt;have ba:=Zcd l k hlt;obtain ⟨⟨bn,n'⟩,G,bp⟩:∃ a' G,getF l k=(a',G):=⟨_,_,rfl⟩
          obtain ⟨⟨y,q⟩,M,bj⟩:∃ a' G,getF m k=(a',G):=⟨_,_,rfl⟩
          rw [bp] at j g U S Z O ba;rw [bj] at T N R V Y;dsimp only at j g U S Z O ba T N R V Y;have I:=X.o;rw [Z,Y,Z42] at I;obtain ⟨z,hz⟩:∃ z,z=Z6b (bn,n') (y,q) G M:=⟨_,rfl⟩
          have be:(z&&Z42 (Z1c l (k+1)) (Z1c m (k+1)))=Z42 l m:=by rw [hz];exact I
          have bh:∀ W:World,Below w.heap.size w W->Two w (.cells #[vI op,vI n,slice (some ad) (flen l) c] 79 (0,0)) (.cells #[vI op,vI n,slice (some bu) (flen m) c2] 79 (0,0)) W->FoV W B (slice A' (flen G) c') G->FoV W B (slice bd (flen M) r) M -> Calls prog 71 #[.agg #[vI bn,vI n',slice A' (flen G) c'],.agg #[vI y,vI q,slice bd (flen M) r]] W λe w'=>e=.returned (.bool z)/\Below W.heap.size W w':=by intro W h1 _ h2 h3;rw [hz];exact O (y,q) M W _ _ B h2 h3 (by have:=h1.size;omega) (by omega)
          have HC:=zh (bh wr.drew L.o.2.2.drew L.o.drew ⟨A',c',rfl,FoAt.keep (w:=wr) (w':=wr.drew) (λ_ _=>rfl) _ _ _ S⟩ ⟨bd,r,rfl,FoAt.keep (w:=wr) (w':=wr.drew) (λ_ _=>rfl) _ _ _ V⟩);have bg:=zh be;clear Z Y O bp bj X bc S V I be hz bh ba;have dk:((k:Int)<(flen l:Int)):=by omega
          go_wp2_with fail;go_still_tail 10,(by kernel_rfl)
          change wpList _ _ _ _ _ wr.drew;have bm:=zh L.o.drew;clear L m2 m3 j g U T N R;generalize wr.drew=w6 at *
          go_wp2_with fail;refine HC.o.mono ?_;rintro e w7 ⟨rfl,hb⟩;have bq:=zh (bm.o.on hb);clear hb bm HC;cases z with
          | false =>go_wp2_with fail;go_ret;rw [H.o,<- bg.o];exact ⟨rfl,bq.o.2.2⟩
          | true =>
           go_wp2_with fail;go_roundw
           case rel=>exact ⟨k+1,by omega,by go_num,bq.o,by have:=bg.o;simpa using this⟩
           case measure=>simp [intOf];omega
        . have br:Z1c l k=.nil:=Z2A l k (by omega);have bv:Z1c m k=.nil:=Z2A m k (by have:=H3.o;omega);have I:=X.o;rw [br,bv,Z42] at I;have bt:=zh I;clear X I;go_wp2_with fail;go_ret;rw [H.o,<- bt.o];exact ⟨rfl,L.o.2.2⟩
     . subst h1;subst h2;have C:Z6b (op,n) (op,n) l m=false:=by simp [Z6b,Zqk l m h3]
       have d1:(op != op)=false:=by simp
       have d2:(n != n)=false:=by simp
       have d3:((flen l:Int) != (flen m:Int))=true:=by simpa using (by omega:¬ (flen l:Int)=(flen m:Int))
       have H:=zh C;clear C;go_enter func71,ntmps71;go_wp2_with fail;go_ret;rw [H.o];exact ⟨rfl,d.o.2.2⟩
   . subst h1;have C:Z6b (op,n) (op,F) l m=false:=by simp [Z6b,h2]
     have d1:(op != op)=false:=by simp
     have d2:(n != F)=true:=by simpa using h2
     have H:=zh C;clear C;go_enter func71,ntmps71;go_wp2_with fail;go_ret;rw [H.o];exact ⟨rfl,d.o.2.2⟩
 . have C:Z6b (op,n) (J,F) l m=false:=by simp [Z6b,h1]
   have d1:(op != J)=true:=by simpa using h1
   have H:=zh C;clear C;go_enter func71,ntmps71;go_wp2_with fail;go_ret;rw [H.o];exact ⟨rfl,d.o.2.2⟩
theorem Zqn (f:Fo):∀ k,k<flen f->Zqm (getF f k).1 (getF f k).2:=by
 induction f with
 | nil=>intro k h;simp [flen] at h
 | node b o a l r ihl ihr =>
  intro k h;cases k with
  | zero=>exact ZgD a l ihl
  | succ k=>exact ihr k (by simp [flen] at h;omega)
theorem ZgE (a:Int × Int)(l:Fo):Zqm a l:=ZgD a l (Zqn l)
end
section
open Go.RowKit Lx Px
def Znd (r q:Rt):Prop := q.id=r.id/\q.lv=r.lv/\q.kd=r.kd/\q.fr=r.fr/\q.un=r.un/\q.ls=r.ls/\q.mo=r.mo/\q.ar=r.ar/\q.kn=r.kn/\q.kq=r.kq/\Z6b (r.wo,r.wn) (q.wo,q.wn) r.wl q.wl=true/\Z6b (r.po,r.pn) (q.po,q.pn) r.pl q.pl=true
def Zbk (r:Rt):Prop:=Z1u r.wl<=1000/\Z1u r.pl<=1000
theorem Zbm (r q:Rt)(wv pv wu pu:Value)(w:World)(B:Nat)(h1:FoV w B wv r.wl)(h2:FoV w B pv r.pl)(h3:FoV w B wu q.wl)(h4:FoV w B pu q.pl)(hB:B<=w.heap.size)(hs:Zbk r)(h:Znd r q) : Calls prog 46 #[rtV r wv pv,rtV q wu pu] w λe w'=>e=.returned (.bool true)/\Below w.heap.size w w':=by
 obtain ⟨id,lv,kd,fr,un,ls,mo,ar,kn,kq,wo,A,d,po,pn,g⟩:=r;obtain ⟨O,I,M,G,J,N,R,L,H,S,ba,y,j,po',bb,U⟩:=q;obtain ⟨e1,e2,e3,e4,e5,e6,e7,e8,e9,bg,bc,bd⟩:=h;dsimp only at e1 e2 e3 e4 e5 e6 e7 e8 e9 bg bc bd h1 h2 h3 h4;subst e1 e2 e3 e4 e5 e6 e7 e8 e9 bg;obtain ⟨V,T,rfl,hw⟩:=h1;obtain ⟨X,Z,rfl,hp⟩:=h2;obtain ⟨f,l,rfl,bf⟩:=h3;obtain ⟨Y,m,rfl,be⟩:=h4;have c1:∀ W:World,Below w.heap.size w W->Calls prog 71 #[.agg #[vI wo,vI A,slice V (flen d) T],.agg #[vI ba,vI y,slice f (flen j) l]] W λe w'=>e=.returned (.bool true)/\Below W.heap.size W w':=by intro W hW;have:=ZgE (wo,A) d (ba,y) j W (slice V (flen d) T) (slice f (flen j) l) B ⟨V,T,rfl,FoAt.keep (λp hp=>hW.cell (by omega)) _ _ _ hw⟩ ⟨f,l,rfl,FoAt.keep (λp hp=>hW.cell (by omega)) _ _ _ bf⟩ (by have:=hW.size;omega) hs.1;rwa [bc] at this
 have c2:∀ W:World,Below w.heap.size w W->Calls prog 71 #[.agg #[vI po,vI pn,slice X (flen g) Z],.agg #[vI po',vI bb,slice Y (flen U) m]] W λe w'=>e=.returned (.bool true)/\Below W.heap.size W w':=by intro W hW;have:=ZgE (po,pn) g (po',bb) U W (slice X (flen g) Z) (slice Y (flen U) m) B ⟨X,Z,rfl,FoAt.keep (λp hp=>hW.cell (by omega)) _ _ _ hp⟩ ⟨Y,m,rfl,FoAt.keep (λp hp=>hW.cell (by omega)) _ _ _ be⟩ (by have:=hW.size;omega) hs.2;rwa [bd] at this
 have C1:=zh c1;have C2:=zh c2;clear c1 c2 hw hp bf be bc bd hs hB;dsimp only [rtV];have hx:=Z0F w (.cells #[vI O,vI I,vI M,vI G,vI J,vI N,vI R,vI L,vI H,vI S,vI wo,vI A,slice V (flen d) T,vI po,vI pn,slice X (flen g) Z] 81) (.cells #[vI O,vI I,vI M,vI G,vI J,vI N,vI R,vI L,vI H,vI S,vI ba,vI y,slice f (flen j) l,vI po',vI bb,slice Y (flen U) m] 81);have hb:Below w.heap.size w ((w.alloc (.cells #[vI O,vI I,vI M,vI G,vI J,vI N,vI R,vI L,vI H,vI S,vI wo,vI A,slice V (flen d) T,vI po,vI pn,slice X (flen g) Z] 81)).alloc (.cells #[vI O,vI I,vI M,vI G,vI J,vI N,vI R,vI L,vI H,vI S,vI ba,vI y,slice f (flen j) l,vI po',vI bb,slice Y (flen U) m] 81)):=((zr _ _).alloc (zn _) _).alloc (by simp) _;have F:Hid (Two w (.cells #[vI O,vI I,vI M,vI G,vI J,vI N,vI R,vI L,vI H,vI S,vI wo,vI A,slice V (flen d) T,vI po,vI pn,slice X (flen g) Z] 81 (0,0)) (.cells #[vI O,vI I,vI M,vI G,vI J,vI N,vI R,vI L,vI H,vI S,vI ba,vI y,slice f (flen j) l,vI po',vI bb,slice Y (flen U) m] 81 (0,0)) _):=⟨hx.1,hx.2,hb⟩
 clear hx hb;go_enter func46,ntmps46;go_upto_region 1 with fail;generalize (w.alloc (.cells #[vI O,vI I,vI M,vI G,vI J,vI N,vI R,vI L,vI H,vI S,vI wo,vI A,slice V (flen d) T,vI po,vI pn,slice X (flen g) Z] 81)).alloc (.cells #[vI O,vI I,vI M,vI G,vI J,vI N,vI R,vI L,vI H,vI S,vI ba,vI y,slice f (flen j) l,vI po',vI bb,slice Y (flen U) m] 81)=W1 at *
 have p0:=F.o.cell1 10 _ rfl;have p1:=F.o.cell1 11 _ rfl;have p2:=F.o.cell1 12 _ rfl;have q0:=F.o.cell2 10 _ rfl;have q1:=F.o.cell2 11 _ rfl;have q2:=F.o.cell2 12 _ rfl;go_wp2_with fail;refine (C1.o W1 F.o.2.2).mono ?_;rintro e w2 ⟨rfl,hb⟩;have D:=zh (F.o.on hb);clear hb p0 p1 p2 q0 q1 q2 F;have p0:=D.o.cell1 13 _ rfl;have p1:=D.o.cell1 14 _ rfl;have p2:=D.o.cell1 15 _ rfl;have q0:=D.o.cell2 13 _ rfl;have q1:=D.o.cell2 14 _ rfl;have q2:=D.o.cell2 15 _ rfl;go_wp2_with fail;refine (C2.o w2 D.o.2.2).mono ?_;rintro e w3 ⟨rfl,hb⟩;have C:=zh (D.o.on hb);clear hb p0 p1 p2 q0 q1 q2 D;have p0:=C.o.cell1 0 _ rfl;have p1:=C.o.cell1 1 _ rfl;have p2:=C.o.cell1 2 _ rfl;have p3:=C.o.cell1 3 _ rfl;have p4:=C.o.cell1 4 _ rfl;have p5:=C.o.cell1 5 _ rfl;have p6:=C.o.cell1 6 _ rfl;have p7:=C.o.cell1 7 _ rfl;have p8:=C.o.cell1 8 _ rfl;have p9:=C.o.cell1 9 _ rfl;have q0:=C.o.cell2 0 _ rfl;have q1:=C.o.cell2 1 _ rfl;have q2:=C.o.cell2 2 _ rfl;have q3:=C.o.cell2 3 _ rfl;have q4:=C.o.cell2 4 _ rfl;have q5:=C.o.cell2 5 _ rfl;have q6:=C.o.cell2 6 _ rfl;have q7:=C.o.cell2 7 _ rfl;have q8:=C.o.cell2 8 _ rfl;have q9:=C.o.cell2 9 _ rfl;have bh:∀ x:Int,(x==x)=true:=λx=>by simp
 go_wp2_with fail;go_ret;exact ⟨rfl,C.o.2.2⟩
end
section
open Go.RowKit Lx Px
def Zf2 (rs qs:List Rt):Prop:=rs.length=qs.length/\∀ i (h:i<rs.length) (h':i<qs.length),Znd rs[i] qs[i]
theorem ZgF {w:World}{B:Nat}{p:Addr}{r:Rt}(h:RtAt w B p r):∃ C pv,FoV w B C r.wl/\FoV w B pv r.pl/\p.spot=none/\∀ j u,(Z3G r C pv)[j]?=some u->w.cell? ⟨p.block,p.off+j,none⟩=some u:=by
 obtain ⟨D,C,pv,G,H,F⟩:=h;exact ⟨C,pv,H,F,D,G⟩
theorem ZgG {p:Addr}(h:p.spot=none):(⟨p.block,p.off,none⟩:Addr)=p:=by cases p;cases h;rfl
theorem Z9z (rs F:List Rt)(v u:Value)(w:World)(B:Nat)(hv:RtsV w B v rs)(hu:RtsV w B u F)(hB:B<=w.heap.size)(U:∀ r∈rs,Zbk r)(bv:rs.length<=1000000)(h:Zf2 rs F) : Calls prog 27 #[v,u] w λe w'=>e=.returned (.bool true)/\Below w.heap.size w w':=by
 obtain ⟨I,L⟩:=h;obtain ⟨A,c,rfl,V⟩:=hv;obtain ⟨A2,c2,rfl,T⟩:=hu;rw [<- I];obtain ⟨HA,bc,HS,HE,HL⟩:=zh5 V T U L I;clear V T U L I;have d0:((rs.length:Int) != (rs.length:Int))=false:=by simp
 go_enter func27,ntmps27;go_wp2_with fail;go_loopw [5] (λi wr=>∃ k:Nat,k<=rs.length/\i=vI k/\Below w.heap.size w wr) (λi _=>rs.length - (intOf i).toNat)
 case atStart=>exact ⟨0,by omega,rfl,zr _ _⟩
 case round =>
  obtain ⟨k,hk,rfl,hb⟩:=hrel;have G:=zh hb;clear hb;by_cases hlt:k<rs.length
  . have J:k<F.length:=by have:=HL.o;omega
    obtain ⟨ad,rfl,bd,Z⟩:=HA.o k hlt;obtain ⟨bt,rfl,be,Y⟩:=bc.o k J;have H:Below B w wr:=G.o.mono hB;obtain ⟨wv,pv,M,g,br,C⟩:=ZgF (Z.keep H (by rw [Z4B];exact bd));obtain ⟨wu,pu,R,f,bk,D⟩:=ZgF (Y.keep H (by rw [Z4B];exact be));have bu:=G.o.size;have O:=Zbm rs[k] F[k] wv pv wu pu wr.drew B (M.on (zr _ _).drew) (g.on (zr _ _).drew) (R.on (zr _ _).drew) (f.on (zr _ _).drew) (by show B<=wr.heap.size;omega) (HS.o _ (List.getElem_mem hlt)) (HE.o k hlt J);have S:=zh O;generalize rs[k]=r at *
    generalize F[k]=q at *
    have d:=C 0 _ rfl;have t1:=C 1 _ rfl;have t2:=C 2 _ rfl;have t3:=C 3 _ rfl;have t4:=C 4 _ rfl;have t5:=C 5 _ rfl;have t6:=C 6 _ rfl;have t7:=C 7 _ rfl;have t8:=C 8 _ rfl;have t9:=C 9 _ rfl;have bg:=C 10 _ rfl;have bn:=C 11 _ rfl;have bj:=C 12 _ rfl;have ba:=C 13 _ rfl;have y:=C 14 _ rfl;have bm:=C 15 _ rfl;have N:=D 0 _ rfl;have m:=D 1 _ rfl;have s2:=D 2 _ rfl;have s3:=D 3 _ rfl;have j:=D 4 _ rfl;have s5:=D 5 _ rfl;have s6:=D 6 _ rfl;have s7:=D 7 _ rfl;have s8:=D 8 _ rfl;have s9:=D 9 _ rfl;have bp:=D 10 _ rfl;have bq:=D 11 _ rfl;have bb:=D 12 _ rfl;have bh:=D 13 _ rfl;have bf:=D 14 _ rfl;have l:=D 15 _ rfl;rw [Nat.add_zero,ZgG br] at d;rw [Nat.add_zero,ZgG bk] at N;have dk:((k:Int)<rs.length):=by omega
    clear O C D Z Y M g R f H;go_wp2_with fail;go_still_tail 8,(by kernel_rfl)
    change wpList _ _ _ _ _ wr.drew;have X:=zh G.o.drew;clear G d t1 t2 t3 t4 t5 t6 t7 t8 t9 bg bn bj ba y bm N m s2 s3 j s5 s6 s7 s8 s9 bp bq bb bh bf l;generalize wr.drew=w6 at *
    go_wp2_with fail;refine S.o.mono ?_;rintro e w7 ⟨rfl,hb⟩;have bs:=zh (Z00 X.o hb);clear hb X S;go_wp2_with fail;go_roundw
    case rel=>exact ⟨k+1,by omega,by go_num,bs.o⟩
    case measure=>simp [intOf];omega
  . go_wp2_with fail;go_ret;exact ⟨rfl,G.o⟩
end
section
open Go.RowKit Lx Px
def Rh (w:World)(wx:World):Prop := wx.heap[w.heap.size]?=some (.cells #[vI 0] 37 (0,0))/\wx.heap[w.heap.size+1]?=some (.cells #[vI 0] 3 (0,0))/\Below w.heap.size w wx
theorem Rh.keep {w C B:World}(h:Rh w C)(hb:Below w.heap.size w B)(D:B.heap[w.heap.size]?=C.heap[w.heap.size]?)(F:B.heap[w.heap.size+1]?=C.heap[w.heap.size+1]?):Rh w B := ⟨D.trans h.1,F.trans h.2.1,hb⟩
theorem Rh.but {w B C:World}(h:Rh w B)(hb:But (w.heap.size+2) B C):Rh w C:=by
 obtain ⟨H,D,G⟩:=h;have F:w.heap.size+1<B.heap.size:=(zF2.1 D).1;exact ⟨(hb.block _ (by omega) (by omega)).trans H,(hb.block _ F (by omega)).trans D, G.trans ⟨hb.os,hb.tape,hb.output,hb.size,λk hk=>hb.block k (by omega) (by omega)⟩⟩
def RatesP (w:World)(a:AllR)(e:Ending)(w':World):Prop := Below w.heap.size w w'/\(match a with
  | .ok l=>∃ v,e=.returned (.tuple #[v,vI 0,vI 0])/\RtsV w' w'.heap.size v (l.map Rr.rt)
  | .err er ln=>∃ v,e=.returned (.tuple #[v,vI er,vI ln]))
theorem rh_new (w:World)(v:Value):Rh w (((w.alloc (.cells #[vI 0] 37)).alloc (.cells #[vI 0] 3)).alloc (.cells #[v,vI 0] 131)) /\ (((w.alloc (.cells #[vI 0] 37)).alloc (.cells #[vI 0] 3)).alloc (.cells #[v,vI 0] 131)).heap[w.heap.size+2]?=some (.cells #[v,vI 0] 131 (0,0)):=by
 refine ⟨⟨?_,?_,(((zr _ _).alloc (zn _) _).alloc (by simp) _).alloc (by simp;omega) _⟩,?_⟩
 . rw [Below.heap_alloc _ _ _ (by simp;omega),Below.heap_alloc _ _ _ (by simp)];exact za w _
 . rw [Below.heap_alloc _ _ _ (by simp)];have:=za (w.alloc (.cells #[vI 0] 37)) (.cells #[vI 0] 3);simpa using this
 . have:=za ((w.alloc (.cells #[vI 0] 37)).alloc (.cells #[vI 0] 3)) (.cells #[v,vI 0] 131);simpa using this
theorem PI.low {w w':World}{pb k:Nat}{v:Value}{ts:List Tok}(h:PI w pb v ts k)(hb:Below (pb+1) w w'):PI w' pb v ts k := ⟨(hb.block _ (by omega)).trans h.1,h.2.1.below (hb.mono (by omega)),h.2.2.1,h.2.2.2.1,h.2.2.2.2.1,h.2.2.2.2.2.on (hb.mono (by omega))⟩
theorem Rh.low {w B C:World}(h:Rh w B)(hb:Below (w.heap.size+3) B C):Rh w C := h.keep (h.2.2.trans (hb.mono (by omega))) (hb.block _ (by omega)) (hb.block _ (by omega))
theorem Zne {w B w':World}(h:Rh w B){er C:Int}(G:Set2 w.heap.size (w.heap.size+1) er C B w') : w'.heap[w.heap.size]?=some (.cells #[vI er] 37 (0,0))/\w'.heap[w.heap.size+1]?=some (.cells #[vI C] 3 (0,0))/\Below w.heap.size w w':=by
 obtain ⟨S,I,N⟩:=h;obtain ⟨L,H,F,D,M,J,O⟩:=G;have R:w.heap.size+1<B.heap.size:=(zF2.1 I).1;exact ⟨L,H,N.trans ⟨M,J,O,D,λk hk=>F k (by omega) (by omega) (by omega)⟩⟩
def RL (w:World)(tv:Value)(ts:List Tok)(ex:Nat->Out)(R:AllR)(v:Value)(wr:World):Prop := ∃ (k:Nat) (acc:List Rr),acc.length<=k/\PI wr (w.heap.size+2) tv ts k/\Rh w wr/\OwnR wr (w.heap.size+3) v (acc.map Rr.rt)/\Z28 ex ts (ts.length - k) k acc=R
theorem toL (l:Bytes):(mk l).toList=l:=by rw [ByteArray.toList_eq];rfl
theorem toL_eq (l:Bytes):((mk l).toList==l)=true:=by rw [toL];simp
theorem toL_ne {l m:Bytes}(h:l≠m):((mk l).toList==m)=false:=by rw [toL];exact beq_eq_false_iff_ne.2 h
theorem Ztg (l:List Rr)(A:Option Addr)(c:Nat):Value.slice A (l.map Rr.rt).length c=slice A l.length c:=by rw [List.length_map]
theorem Znf (w:World)(v:Value)(ts:List Tok)(hS:Sl w w.heap.size v ts)(b4:ts.length<=1000000)(hK:Knd ts)(hM:Mx w w.heap.size) : Calls prog 56 #[v] w (RatesP w (allO (exOf ts) ts)):=by
 obtain ⟨T,c0,rfl,_⟩:=id hS;have bV:=Z48 ts;have bS:=Zqe (w.heap.size+2) (slice T ts.length c0) ts;generalize exOf ts=ex at *
 obtain ⟨bu,bU⟩:=rh_new w (slice T ts.length c0);have P3:PI (((w.alloc (.cells #[vI 0] 37)).alloc (.cells #[vI 0] 3)).alloc (.cells #[slice T ts.length c0,vI 0] 131)) (w.heap.size+2) (slice T ts.length c0) ts 0 := ⟨bU,(hS.below bu.2.2).mono (by omega),Nat.zero_le _,b4,hK,by obtain ⟨m,h1,h2⟩:=hM.on bu.2.2;exact ⟨m,h1,by omega⟩⟩;obtain ⟨HW,N,bt,b0⟩:=zh4 bu P3 bV bS;have bX:∀ (er ln:Int) (w':World),Rh w w'->CallsD prog 85 #[.pointer (some ⟨w.heap.size,0,none⟩),.pointer (some ⟨w.heap.size+1,0,none⟩)] (.panicking [{ v:=.iface 134 (.agg #[vI er,vI ln]),recovered:=false }]) w' λe S G =>
  e=.returned (.tuple #[])/\S=.panicking [{ v:=.iface 134 (.agg #[vI er,vI ln]),recovered:=true }]/\G.heap[w.heap.size]?=some (.cells #[vI er] 37 (0,0))/\G.heap[w.heap.size+1]?=some (.cells #[vI ln] 3 (0,0))/\Below w.heap.size w G:=by
  intro er ln w' hw;refine (Z89 w.heap.size (w.heap.size+1) 0 0 er ln [] w' (by omega) hw.1 hw.2.1).mono ?_;rintro e S G ⟨rfl,rfl,hs⟩;exact ⟨rfl,rfl,Zne hw hs⟩
 have br:=zh bX;obtain ⟨R,B⟩:∃ R,allO ex ts=R:=⟨_,rfl⟩
 rw [B];have HR:=zh B;obtain ⟨i0,hi,bN,bG,bP⟩:=info_parts Tryz.infoRate;obtain ⟨hI,bQ,bY,bZ⟩:=zh4 hi bN bG bP;clear hi bN bG bP bu bU P3 hS hM hK bV bS bX B;go_enter_defers func56,ntmps56;go_wp2_with fail;generalize ((w.alloc (.cells #[vI 0] 37)).alloc (.cells #[vI 0] 3)).alloc (.cells #[slice T ts.length c0,vI 0] 131)=W3 at *
 go_loopw [2] (λv wr=>RL w (slice T ts.length c0) ts ex R v wr) (λ_ wr=>ts.length - Zc1 (w.heap.size+2) wr)
 case atStart=>exact ⟨0,[],Nat.zero_le _,N.o,HW.o,OwnR.nil _ _,HR.o⟩
 case round =>
  obtain ⟨k,acc,cb,hP,hH,hO,bT⟩:=hrel;obtain ⟨A,c,rfl⟩:=hO.form;rw [Ztg] at hO |-
  obtain ⟨N,y,HO,O⟩:=zh4 hP hH hO bT;have b3:=N;have cc:=hP.2.2.1;have cf:=hP.2.2.2.1;have c1:=hP.cell1;have cg:=Z8b;have cd:=Zfe;have ce:w.heap.size+1+1=w.heap.size+2:=rfl;clear hP hH hO bT;by_cases hlt:k<ts.length
  . have dl:decide ((k:Int)<ts.length)=true:=by simpa using hlt
    by_cases hl:acc.length=100/\nxt ts k=Z68
    . have d1:((acc.length:Int)==100)=true:=by simp;omega
      have d2:=hl.2;have B:=Zde (ex:=ex) hlt hl;rw [O.o] at B;subst B;clear hl;have d3:((mk (nxt ts k)).toList==[114,97,116,101])=true:=by rw [d2];exact toL_eq Z68
      clear d2;go_wp2_with fail;refine (Z2q _ _ _ ts k N.o).mono ?_;rintro e w1 ⟨rfl,U⟩;rw [tokV];have bR:=zh (N.o.on U);have bW:=zh (y.o.but (But.of_below U));clear U N y HO;go_wp2_with fail;refine (Z2q _ _ _ ts k bR.o).mono ?_;rintro e C ⟨rfl,b2⟩;rw [tokV];have b8:=zh (bW.o.but (But.of_below b2));clear b2 bR bW;go_wp2_with fail;refine leaves_cons (f:=85) (args:=#[.pointer (some ⟨w.heap.size,0,none⟩),.pointer (some ⟨w.heap.size+1,0,none⟩)]) (by simp) (by simp [go_sem]) ?_;refine (br.o 2 (lnAt ts k) _ b8.o).mono ?_;rintro e S G ⟨rfl,rfl,z,L,J⟩;have H:G.cell? ⟨w.heap.size,0,none⟩=some (vI 2):=by rw [zH z];rfl
      have I:G.cell? ⟨w.heap.size+1,0,none⟩=some (vI (lnAt ts k)):=by rw [zH L];rfl
      exact ⟨.tuple #[slice A acc.length c,vI 2,vI (lnAt ts k)],by simp [results,results56,go_sem,H,I],J,_,rfl⟩
    . by_cases hl1:acc.length=100
      . have d1:((acc.length:Int)==100)=true:=by simp;omega
        have d3:((mk (nxt ts k)).toList==[114,97,116,101])=false:=toL_ne (λh=>hl ⟨hl1,h⟩);have Z:=zh hl;clear hl hl1;go_wp2_with fail;refine (Z2q _ _ _ ts k N.o).mono ?_;rintro e q ⟨rfl,U⟩;rw [tokV];have bf:=zh (N.o.on U);have X:=zh (y.o.but (But.of_below U));have bO:=zh (HO.o.but (But.of_below (pb:=w.heap.size+2) U) (by omega));clear U y HO;go_wp2_with fail;have hcall:=Zf6 (w.heap.size+2) (slice T ts.length c0) ts ex b0.o k q bf.o (Z4w ex ts k) rfl;refine hcall.mono ?_;cases hro:Z4w ex ts k with
        | no j =>
         have B:=Zdf (ex:=ex) hlt Z.o hro;rw [O.o] at B;subst B;rintro e C ⟨hb,rfl⟩;have d:=X.o.but hb;refine leaves_cons (f:=85) (args:=#[.pointer (some ⟨w.heap.size,0,none⟩),.pointer (some ⟨w.heap.size+1,0,none⟩)]) (by simp) (by simp [go_sem]) ?_;refine (br.o 8 (Z3H ts j) _ d).mono ?_;rintro e S G ⟨rfl,rfl,z,L,J⟩;have H:G.cell? ⟨w.heap.size,0,none⟩=some (vI 8):=by rw [zH z];rfl
         have I:G.cell? ⟨w.heap.size+1,0,none⟩=some (vI (Z3H ts j)):=by rw [zH L];rfl
         exact ⟨.tuple #[slice A acc.length c,vI 8,vI (Z3H ts j)],by simp [results,results56,go_sem,H,I],J,_,rfl⟩
        | bad =>
         have B:=Zan (ex:=ex) hlt Z.o hro;rw [O.o] at B;subst B;rintro e C ⟨hb,rfl⟩;have d:=X.o.but hb;refine leaves_cons (f:=85) (args:=#[.pointer (some ⟨w.heap.size,0,none⟩),.pointer (some ⟨w.heap.size+1,0,none⟩)]) (by simp) (by simp [go_sem]) ?_;refine (br.o 1 (lnAt ts k) _ d).mono ?_;rintro e S G ⟨rfl,rfl,z,L,J⟩;have H:G.cell? ⟨w.heap.size,0,none⟩=some (vI 1):=by rw [zH z];rfl
         have I:G.cell? ⟨w.heap.size+1,0,none⟩=some (vI (lnAt ts k)):=by rw [zH L];rfl
         exact ⟨.tuple #[slice A acc.length c,vI 1,vI (lnAt ts k)],by simp [results,results56,go_sem,H,I],J,_,rfl⟩
        | ok r k' =>
         have B:=Z4k (ex:=ex) bt.o hlt Z.o hro;rw [O.o] at B;have b9:=Z6A bt.o hro;rintro e C ⟨hb,bh,D,c1,F,c2,rfl,bk,bn⟩;obtain ⟨ms,Y,V,bp⟩:=bO.o;have bc:acc.length=ms.length:=by have:=congrArg List.length Y;simpa using this.symm
         have b6:w.heap.size+2<q.heap.size:=bf.o.lt;have M:But (w.heap.size+2) q (C.alloc (.cells #[vI r.id,vI r.lv,vI r.kd,vI r.fr,vI r.un,vI r.ls,vI r.mo,vI r.ar,vI (pctN r.kp),vI (pctD r.kp),vI r.wh.1.1,vI r.wh.1.2,slice D (flen r.wh.2) c1,vI r.pr.1.1,vI r.pr.1.2,slice F (flen r.pr.2) c2] 81)):=hb.alloc _;have bg:=Z81 V (λk h1 h2=>M.block k h2 (by omega));have b5:=hb.size;have bd:=za C (.cells #[vI r.id,vI r.lv,vI r.kd,vI r.fr,vI r.un,vI r.ls,vI r.mo,vI r.ar,vI (pctN r.kp),vI (pctD r.kp),vI r.wh.1.1,vI r.wh.1.2,slice D (flen r.wh.2) c1,vI r.pr.1.1,vI r.pr.1.2,slice F (flen r.pr.2) c2] 81);have bq:=bh.on ((zr _ _).alloc (zn _) (.cells #[vI r.id,vI r.lv,vI r.kd,vI r.fr,vI r.un,vI r.ls,vI r.mo,vI r.ar,vI (pctN r.kp),vI (pctD r.kp),vI r.wh.1.1,vI r.wh.1.2,slice D (flen r.wh.2) c1,vI r.pr.1.1,vI r.pr.1.2,slice F (flen r.pr.2) c2] 81));have bb:=X.o.but M;have l:Below C.heap.size C (C.alloc (.cells #[vI r.id,vI r.lv,vI r.kd,vI r.fr,vI r.un,vI r.ls,vI r.mo,vI r.ar,vI (pctN r.kp),vI (pctD r.kp),vI r.wh.1.1,vI r.wh.1.2,slice D (flen r.wh.2) c1,vI r.pr.1.1,vI r.pr.1.2,slice F (flen r.pr.2) c2] 81)):=(zr _ _).alloc (zn _) _;have f1:FoD (C.alloc (.cells #[vI r.id,vI r.lv,vI r.kd,vI r.fr,vI r.un,vI r.ls,vI r.mo,vI r.ar,vI (pctN r.kp),vI (pctD r.kp),vI r.wh.1.1,vI r.wh.1.2,slice D (flen r.wh.2) c1,vI r.pr.1.1,vI r.pr.1.2,slice F (flen r.pr.2) c2] 81)) (λb=>q.heap.size<=b/\b<(C.alloc (.cells #[vI r.id,vI r.lv,vI r.kd,vI r.fr,vI r.un,vI r.ls,vI r.mo,vI r.ar,vI (pctN r.kp),vI (pctD r.kp),vI r.wh.1.1,vI r.wh.1.2,slice D (flen r.wh.2) c1,vI r.pr.1.1,vI r.pr.1.2,slice F (flen r.pr.2) c2] 81)).heap.size) (slice D (flen r.wh.2) c1) r.wh.2:=bk.keep (λb h=>⟨h.1,by have:=h.2;simp;omega⟩) (λb h=>l.block b h.2)
         have f2:FoD (C.alloc (.cells #[vI r.id,vI r.lv,vI r.kd,vI r.fr,vI r.un,vI r.ls,vI r.mo,vI r.ar,vI (pctN r.kp),vI (pctD r.kp),vI r.wh.1.1,vI r.wh.1.2,slice D (flen r.wh.2) c1,vI r.pr.1.1,vI r.pr.1.2,slice F (flen r.pr.2) c2] 81)) (λb=>q.heap.size<=b/\b<(C.alloc (.cells #[vI r.id,vI r.lv,vI r.kd,vI r.fr,vI r.un,vI r.ls,vI r.mo,vI r.ar,vI (pctN r.kp),vI (pctD r.kp),vI r.wh.1.1,vI r.wh.1.2,slice D (flen r.wh.2) c1,vI r.pr.1.1,vI r.pr.1.2,slice F (flen r.pr.2) c2] 81)).heap.size) (slice F (flen r.pr.2) c2) r.pr.2:=bn.keep (λb h=>⟨h.1,by have:=h.2;simp;omega⟩) (λb h=>l.block b h.2);have bM:q.heap.size<=(C.alloc (.cells #[vI r.id,vI r.lv,vI r.kd,vI r.fr,vI r.un,vI r.ls,vI r.mo,vI r.ar,vI (pctN r.kp),vI (pctD r.kp),vI r.wh.1.1,vI r.wh.1.2,slice D (flen r.wh.2) c1,vI r.pr.1.1,vI r.pr.1.2,slice F (flen r.pr.2) c2] 81)).heap.size:=by simp;omega
         have bI:=zh bg;have bz:=zh (Zgr bd [vI r.id,vI r.lv,vI r.kd,vI r.fr,vI r.un,vI r.ls,vI r.mo,vI r.ar,vI (pctN r.kp),vI (pctD r.kp),vI r.wh.1.1,vI r.wh.1.2,slice D (flen r.wh.2) c1,vI r.pr.1.1,vI r.pr.1.2,slice F (flen r.pr.2) c2] rfl);obtain ⟨bL,bH,bD,bK,HO1,bx,bC,bv,bE,bm⟩:=zh10 B bq bb bp V f1 f2 M Y bc;clear bg bd B bq bb bp V f1 f2 M Y bk bn bh hb l bc hcall;rw [rrV];go_wp2_with (first | (at_builtin;refine wpList_append_lies _ rfl _ _ 23 rfl (w.heap.size+3) 81 i0 _ 16 160 underlying23 hI.o bQ.o bY.o bZ.o rfl (by decide) (slice A acc.length c) _ _ rfl bI.o ⟨C.heap.size,0,none⟩ 1 1 _ rfl rfl bz.o (by simp [Value.oneCell']) (by omega) (by have:=bm.o;unfold maxLen;omega) (by have:=bm.o;omega) (by omega) _ rfl ?_;intro g cap w4 bF bs hg b7));have be:=(zr (w.heap.size+3) _).grown bs (by simp;omega) (λg e=>(HO1.o.lt g e).1);have ba:=bH.o.low be;have bB:=bD.o.low be;have bj:=OwnR.snoc (m:=⟨r.rt,slice D (flen r.wh.2) c1,slice F (flen r.pr.2) c2⟩) bK.o (λk e=>HO1.o.lt k e) bx.o bC.o (λk h1 h2=>bv.o.block k h2 (by omega)) bM (by omega) bF rfl bs rfl hg;rw [List.map_append,bE.o] at bj;have bA:Zc1 (w.heap.size+2) w4=k':=Z5c ba;have bJ:Zc1 (w.heap.size+2) wr=k:=Z5c b3.o;refine ⟨⟨k',acc++[r],by rw [zj,List.length_singleton];omega,ba,bB,?_,bL.o.symm⟩,by rw [bA,bJ];omega⟩;rw [List.map_append];exact bj
      . have d1:((acc.length:Int)==100)=false:=by simp;omega
        have Z:=zh hl;clear hl hl1;go_wp2_with fail;have bf:=N;have X:=y;have bO:=HO;have ca:wr=wr:=rfl;have hcall:=Zf6 (w.heap.size+2) (slice T ts.length c0) ts ex b0.o k wr bf.o (Z4w ex ts k) rfl;refine hcall.mono ?_;cases hro:Z4w ex ts k with
        | no j =>
         have B:=Zdf (ex:=ex) hlt Z.o hro;rw [O.o] at B;subst B;rintro e C ⟨hb,rfl⟩;have d:=X.o.but hb;refine leaves_cons (f:=85) (args:=#[.pointer (some ⟨w.heap.size,0,none⟩),.pointer (some ⟨w.heap.size+1,0,none⟩)]) (by simp) (by simp [go_sem]) ?_;refine (br.o 8 (Z3H ts j) _ d).mono ?_;rintro e S G ⟨rfl,rfl,z,L,J⟩;have H:G.cell? ⟨w.heap.size,0,none⟩=some (vI 8):=by rw [zH z];rfl
         have I:G.cell? ⟨w.heap.size+1,0,none⟩=some (vI (Z3H ts j)):=by rw [zH L];rfl
         exact ⟨.tuple #[slice A acc.length c,vI 8,vI (Z3H ts j)],by simp [results,results56,go_sem,H,I],J,_,rfl⟩
        | bad =>
         have B:=Zan (ex:=ex) hlt Z.o hro;rw [O.o] at B;subst B;rintro e C ⟨hb,rfl⟩;have d:=X.o.but hb;refine leaves_cons (f:=85) (args:=#[.pointer (some ⟨w.heap.size,0,none⟩),.pointer (some ⟨w.heap.size+1,0,none⟩)]) (by simp) (by simp [go_sem]) ?_;refine (br.o 1 (lnAt ts k) _ d).mono ?_;rintro e S G ⟨rfl,rfl,z,L,J⟩;have H:G.cell? ⟨w.heap.size,0,none⟩=some (vI 1):=by rw [zH z];rfl
         have I:G.cell? ⟨w.heap.size+1,0,none⟩=some (vI (lnAt ts k)):=by rw [zH L];rfl
         exact ⟨.tuple #[slice A acc.length c,vI 1,vI (lnAt ts k)],by simp [results,results56,go_sem,H,I],J,_,rfl⟩
        | ok r k' =>
         have B:=Z4k (ex:=ex) bt.o hlt Z.o hro;rw [O.o] at B;have b9:=Z6A bt.o hro;rintro e C ⟨hb,bh,D,c1,F,c2,rfl,bk,bn⟩;obtain ⟨ms,Y,V,bp⟩:=bO.o;have bc:acc.length=ms.length:=by have:=congrArg List.length Y;simpa using this.symm
         have b6:w.heap.size+2<wr.heap.size:=bf.o.lt;have M:But (w.heap.size+2) wr (C.alloc (.cells #[vI r.id,vI r.lv,vI r.kd,vI r.fr,vI r.un,vI r.ls,vI r.mo,vI r.ar,vI (pctN r.kp),vI (pctD r.kp),vI r.wh.1.1,vI r.wh.1.2,slice D (flen r.wh.2) c1,vI r.pr.1.1,vI r.pr.1.2,slice F (flen r.pr.2) c2] 81)):=hb.alloc _;have bg:=Z81 V (λk h1 h2=>M.block k h2 (by omega));have b5:=hb.size;have bd:=za C (.cells #[vI r.id,vI r.lv,vI r.kd,vI r.fr,vI r.un,vI r.ls,vI r.mo,vI r.ar,vI (pctN r.kp),vI (pctD r.kp),vI r.wh.1.1,vI r.wh.1.2,slice D (flen r.wh.2) c1,vI r.pr.1.1,vI r.pr.1.2,slice F (flen r.pr.2) c2] 81);have bq:=bh.on ((zr _ _).alloc (zn _) (.cells #[vI r.id,vI r.lv,vI r.kd,vI r.fr,vI r.un,vI r.ls,vI r.mo,vI r.ar,vI (pctN r.kp),vI (pctD r.kp),vI r.wh.1.1,vI r.wh.1.2,slice D (flen r.wh.2) c1,vI r.pr.1.1,vI r.pr.1.2,slice F (flen r.pr.2) c2] 81));have bb:=X.o.but M;have l:Below C.heap.size C (C.alloc (.cells #[vI r.id,vI r.lv,vI r.kd,vI r.fr,vI r.un,vI r.ls,vI r.mo,vI r.ar,vI (pctN r.kp),vI (pctD r.kp),vI r.wh.1.1,vI r.wh.1.2,slice D (flen r.wh.2) c1,vI r.pr.1.1,vI r.pr.1.2,slice F (flen r.pr.2) c2] 81)):=(zr _ _).alloc (zn _) _;have f1:FoD (C.alloc (.cells #[vI r.id,vI r.lv,vI r.kd,vI r.fr,vI r.un,vI r.ls,vI r.mo,vI r.ar,vI (pctN r.kp),vI (pctD r.kp),vI r.wh.1.1,vI r.wh.1.2,slice D (flen r.wh.2) c1,vI r.pr.1.1,vI r.pr.1.2,slice F (flen r.pr.2) c2] 81)) (λb=>wr.heap.size<=b/\b<(C.alloc (.cells #[vI r.id,vI r.lv,vI r.kd,vI r.fr,vI r.un,vI r.ls,vI r.mo,vI r.ar,vI (pctN r.kp),vI (pctD r.kp),vI r.wh.1.1,vI r.wh.1.2,slice D (flen r.wh.2) c1,vI r.pr.1.1,vI r.pr.1.2,slice F (flen r.pr.2) c2] 81)).heap.size) (slice D (flen r.wh.2) c1) r.wh.2:=bk.keep (λb h=>⟨h.1,by have:=h.2;simp;omega⟩) (λb h=>l.block b h.2)
         have f2:FoD (C.alloc (.cells #[vI r.id,vI r.lv,vI r.kd,vI r.fr,vI r.un,vI r.ls,vI r.mo,vI r.ar,vI (pctN r.kp),vI (pctD r.kp),vI r.wh.1.1,vI r.wh.1.2,slice D (flen r.wh.2) c1,vI r.pr.1.1,vI r.pr.1.2,slice F (flen r.pr.2) c2] 81)) (λb=>wr.heap.size<=b/\b<(C.alloc (.cells #[vI r.id,vI r.lv,vI r.kd,vI r.fr,vI r.un,vI r.ls,vI r.mo,vI r.ar,vI (pctN r.kp),vI (pctD r.kp),vI r.wh.1.1,vI r.wh.1.2,slice D (flen r.wh.2) c1,vI r.pr.1.1,vI r.pr.1.2,slice F (flen r.pr.2) c2] 81)).heap.size) (slice F (flen r.pr.2) c2) r.pr.2:=bn.keep (λb h=>⟨h.1,by have:=h.2;simp;omega⟩) (λb h=>l.block b h.2);have bM:wr.heap.size<=(C.alloc (.cells #[vI r.id,vI r.lv,vI r.kd,vI r.fr,vI r.un,vI r.ls,vI r.mo,vI r.ar,vI (pctN r.kp),vI (pctD r.kp),vI r.wh.1.1,vI r.wh.1.2,slice D (flen r.wh.2) c1,vI r.pr.1.1,vI r.pr.1.2,slice F (flen r.pr.2) c2] 81)).heap.size:=by simp;omega
         have bI:=zh bg;have bz:=zh (Zgr bd [vI r.id,vI r.lv,vI r.kd,vI r.fr,vI r.un,vI r.ls,vI r.mo,vI r.ar,vI (pctN r.kp),vI (pctD r.kp),vI r.wh.1.1,vI r.wh.1.2,slice D (flen r.wh.2) c1,vI r.pr.1.1,vI r.pr.1.2,slice F (flen r.pr.2) c2] rfl);obtain ⟨bL,bH,bD,bK,HO1,bx,bC,bv,bE,bm⟩:=zh10 B bq bb bp V f1 f2 M Y bc;clear bg bd B bq bb bp V f1 f2 M Y bk bn bh hb l bc hcall;rw [rrV];go_wp2_with (first | (at_builtin;refine wpList_append_lies _ rfl _ _ 23 rfl (w.heap.size+3) 81 i0 _ 16 160 underlying23 hI.o bQ.o bY.o bZ.o rfl (by decide) (slice A acc.length c) _ _ rfl bI.o ⟨C.heap.size,0,none⟩ 1 1 _ rfl rfl bz.o (by simp [Value.oneCell']) (by omega) (by have:=bm.o;unfold maxLen;omega) (by have:=bm.o;omega) (by omega) _ rfl ?_;intro g cap w4 bF bs hg b7));have be:=(zr (w.heap.size+3) _).grown bs (by simp;omega) (λg e=>(HO1.o.lt g e).1);have ba:=bH.o.low be;have bB:=bD.o.low be;have bj:=OwnR.snoc (m:=⟨r.rt,slice D (flen r.wh.2) c1,slice F (flen r.pr.2) c2⟩) bK.o (λk e=>HO1.o.lt k e) bx.o bC.o (λk h1 h2=>bv.o.block k h2 (by omega)) bM (by omega) bF rfl bs rfl hg;rw [List.map_append,bE.o] at bj;have bA:Zc1 (w.heap.size+2) w4=k':=Z5c ba;have bJ:Zc1 (w.heap.size+2) wr=k:=Z5c b3.o;refine ⟨⟨k',acc++[r],by rw [zj,List.length_singleton];omega,ba,bB,?_,bL.o.symm⟩,by rw [bA,bJ];omega⟩;rw [List.map_append];exact bj
  . have dl:decide ((k:Int)<ts.length)=false:=by simpa using hlt
    have B:=Zis (ex:=ex) (acc:=acc) hlt;rw [O.o] at B;subst B;obtain ⟨z0,z1,zb⟩:=y.o;have H:wr.cell? ⟨w.heap.size,0,none⟩=some (vI 0):=by rw [zH z0];rfl
    have I:wr.cell? ⟨w.heap.size+1,0,none⟩=some (vI 0):=by rw [zH z1];rfl
    have y3:wr.frozen? ⟨w.heap.size,0,none⟩=false:=by simp [World.frozen?,z0]
    have y4:wr.frozen? ⟨w.heap.size+1,0,none⟩=false:=by simp [World.frozen?,z1]
    have bN:=(zF2.1 z0).1;have bG:=(zF2.1 z1).1;go_wp2_with fail;refine leaves_cons (f:=85) (args:=#[.pointer (some ⟨w.heap.size,0,none⟩),.pointer (some ⟨w.heap.size+1,0,none⟩)]) (by simp) (by simp [go_sem]) ?_;refine (Zey w.heap.size (w.heap.size+1) _).mono ?_;rintro e S G ⟨rfl,rfl,rfl⟩;refine ⟨.tuple #[slice A acc.length c,vI 0,vI 0],by simp [results,results56,go_sem,H,I],?_,_,rfl,?_⟩
    . exact (zb.setCell (p:=⟨w.heap.size,0,none⟩) (zn _) _).setCell (p:=⟨w.heap.size+1,0,none⟩) (by show w.heap.size<=w.heap.size+1;omega) _
    . refine (HO.o.keep (by simp [World.setCell]) (λk h1 h2=>?_)).v;rw [zg _ _ _ _ (show k≠w.heap.size+1 by omega),zg _ _ _ _ (show k≠w.heap.size by omega)]
end
section
open Go.RowKit Lx Px
def SrcP (w:World)(a:AllR)(e:Ending)(w':World):Prop := Below w.heap.size w w'/\(match a with
  | .ok l=>∃ A c,e=.returned (.tuple #[slice A l.length c,vI 0,vI 0])/\RtsV w' w'.heap.size (slice A l.length c) (l.map Rr.rt)
  | .err er ln=>e=.returned (.tuple #[slice none 0 0,vI er,vI ln]))
theorem ZiD {ex:Nat->Out}{ts:List Tok}:∀ (f k:Nat) (acc:List Rr) {er B:Int},Z28 ex ts f k acc=.err er B->er=1\/er=2\/er=8:=by
 intro f;induction f with
 | zero=>intro k acc er B h;cases h
 | succ f ih =>
  intro k acc er B h;simp only [Z28] at h;split at h
  . split at h
    . injection h with h1 h2;exact .inr (.inl h1.symm)
    . split at h
      . exact ih _ _ h
      . injection h with h1 h2;exact .inr (.inr h1.symm)
      . injection h with h1 h2;exact .inl h1.symm
  . cases h
theorem Z59 (s:ByteArray)(w:World)(H:Mx w w.heap.size):Calls prog 34 #[.string s] w (SrcP w (srcO (bl s))):=by
 obtain ⟨G,Z⟩:=Zqb (bl s);obtain ⟨ts,er,B,D⟩:∃ ts er B,toks (bl s)=(ts,er,B):=⟨_,_,_,rfl⟩
 have M:∀ W:World,Calls prog 55 #[.string s] W (Zay W (ts,er,B)):=λW=>by have:=Zez s W;rwa [D] at this
 rw [D] at G Z;dsimp only at G Z;obtain ⟨U,y,q⟩:=zh3 M H G;by_cases he:er=0
 . subst he;rw [ZeC D];have Y:=λI v F H=>Znf I v ts F (by omega) q.o H;have O:∀ er B:Int,allO (exOf ts) ts=.err er B->er=1\/er=2\/er=8:=λer B h=>ZiD _ _ _ h;generalize allO (exOf ts) ts=R at *
   have g:=zh Y;have A:=zh O;clear M H G D Y O;go_enter func34,ntmps34;go_wp2_with fail;refine (U.o _).mono ?_;rintro e I ⟨v,rfl,F,C⟩;have X:=zh (g.o I v F (by obtain ⟨m,h1,J⟩:=y.o.on C;exact ⟨m,h1,by have:=C.size;omega⟩));have L:=zh C;clear C F;go_wp2_with fail;refine X.o.mono ?_;rintro e w2 ⟨f,J⟩;have T:=zh (Z00 L.o f);clear f X;cases hO:R with
   | ok l =>subst hO;obtain ⟨j,rfl,N⟩:=J;obtain ⟨V,c2,rfl,_⟩:=id N;have r:=zh N;clear N;go_wp2_with fail;refine bodyPost_ret (v:=.tuple #[slice V (l.map Rr.rt).length c2,vI 0,vI 0]) (by simp [results,results34,go_sem]) rfl ?_;refine ⟨T.o,V,c2,by rw [List.length_map],?_⟩;have:=r.o;rwa [List.length_map] at this
   | err er ln2 =>
    subst hO;obtain ⟨j,rfl⟩:=J;have S:er≠0:=by rcases A.o er ln2 rfl with rfl | rfl | rfl <;> decide
    have d:(er != 0)=true:=by simpa using S
    clear S;go_wp2_with fail;refine bodyPost_ret (v:=.tuple #[slice none 0 0,vI er,vI ln2]) (by simp [results,results34,go_sem]) rfl ?_;exact ⟨T.o,rfl⟩
 . rw [Zqf D he];have d:(er != 0)=true:=by simpa using he
   clear M H G D he;go_enter func34,ntmps34;go_wp2_with fail;refine (U.o _).mono ?_;rintro e I ⟨v,rfl,F,C⟩;have L:=zh C;obtain ⟨A0,c0,rfl,_⟩:=F;clear C;go_wp2_with fail;refine bodyPost_ret (v:=.tuple #[slice none 0 0,vI er,vI B]) (by simp [results,results34,go_sem]) rfl ?_;exact ⟨L.o,rfl⟩
end
section
open Go.RowKit Lx Px Qx
theorem Z5s (q:Qt)(B:Value):(qtC q B).size=12:=rfl
theorem Zng {w w':World}{B:Nat}(h:Mx w B)(hb:Below B w w'):Mx w' w'.heap.size:=by
 obtain ⟨m,C,D⟩:=h;exact ⟨m,(hb.cell D).trans C,by have:=World.block_lt_of_cell? _ _ ((hb.cell D).trans C);exact this⟩
structure QbK (p:Nat) (q:Qt) (nv:Value) (W:World):Prop where
 h:W.heap[p]?=some (.cells (qtC q nv) 31 (0,0))
 i:Z03 W p nv q.nights
theorem QbK.on {p:Nat}{q:Qt}{B:Value}{W C:World}(h:QbK p q B W)(hb:Below W.heap.size W C):QbK p q B C := ⟨(hb.block _ (zF2.1 h.h).1).trans h.h,h.i.on (hb.mono (zl (zF2.1 h.h).1))⟩
theorem QbK.new {q:Qt}{B:Value}{W:World}(h:Z03 W W.heap.size B q.nights):QbK W.heap.size q B (W.alloc (.cells (qtC q B) 31)):=by
 have hb:=(zr W.heap.size W).alloc (zn _) (.cells (qtC q B) 31);exact ⟨za W _,h.on hb⟩
theorem QbK.lt {p:Nat}{q:Qt}{B:Value}{W:World}(h:QbK p q B W):p<W.heap.size:=(zF2.1 h.h).1
theorem QbK.v {p:Nat}{q:Qt}{A:Option Addr}{c:Nat}{W:World}(h:QbK p q (slice A q.nights.length c) W):QtV W W.heap.size (.agg (qtC q (slice A q.nights.length c))) q:=⟨A,c,rfl,h.i.up (zl h.lt)⟩
theorem QbK.c {p:Nat}{q:Qt}{B:Value}{W:World}(h:QbK p q B W)(i:Nat)(u:Value)(C:(qtC q B)[i]?=some u):W.cell? ⟨p,i,none⟩=some u:=by rw [zH h.h,C]
theorem QbK.f {p:Nat}{q:Qt}{B:Value}{W:World}(h:QbK p q B W)(i:Nat):W.frozen? ⟨p,i,none⟩=false:=by have:=h.h;simp [World.frozen?,this]
theorem QbK.set2 {p:Nat}{q:Qt}{B:Value}{W:World}(h:QbK p q B W)(x:Int):QbK p { q with total:=x } B (W.setCell ⟨p,2,none⟩ (vI x)):=by
 have C:=h.h;refine ⟨?_,h.i.on ((zr p W).setCell (p:=⟨p,2,none⟩) (zn _) _)⟩;unfold qtC at C;simp [World.setCell,zM,C,qtC]
theorem QbK.all {p:Nat}{q:Qt}{B:Value}{W:World}(h:QbK p q B W):W.cell? ⟨p,0,none⟩=some (vI q.ver)/\W.cell? ⟨p,1,none⟩=some (vI q.time)/\W.cell? ⟨p,2,none⟩=some (vI q.total)/\W.cell? ⟨p,3,none⟩=some (vI q.keep) /\ W.cell? ⟨p,4,none⟩=some (vI q.ask.kind)/\W.cell? ⟨p,5,none⟩=some (vI q.ask.fr)/\W.cell? ⟨p,6,none⟩=some (vI q.ask.un)/\W.cell? ⟨p,7,none⟩=some (vI q.ask.pers)/\W.cell? ⟨p,8,none⟩=some B/\W.cell? ⟨p,9,none⟩=some (.int .u64 (q.dig:Nat))/\W.cell? ⟨p,10,none⟩=some (vI q.sE)/\W.cell? ⟨p,11,none⟩=some (vI q.sS) := ⟨h.c 0 _ rfl,h.c 1 _ rfl,h.c 2 _ rfl,h.c 3 _ rfl,h.c 4 _ rfl,h.c 5 _ rfl,h.c 6 _ rfl,h.c 7 _ rfl,h.c 8 _ rfl,h.c 9 _ rfl,h.c 10 _ rfl,h.c 11 _ rfl⟩
theorem Z4c {w:World}{B:Nat}{V:Value}{q:Qt}(h:QtV w B V q):∃ A c,V=.agg (qtC q (slice A q.nights.length c))/\Z03 w B (slice A q.nights.length c) q.nights:=h
attribute [local irreducible] Qx.sigE Qx.sigS Qx.Vr.dig Qx.powP
namespace Qx
def hdV12:Vr:=⟨3,50,[hdR12.rt]⟩
def hdW12:Qt:=⟨3,60,40000,20000,Zdm,[20000,20000],hdV12.dig,0,0⟩
end Qx
end
section
open Lx Px
namespace Qx
def Z1x {α:Type}(p:α->Bool):List α->Int
 | []=>-1
 | a::l=>if 0<=Z1x p l then Z1x p l+1 else if p a then 0 else -1
theorem Z2n {α:Type}(p:α->Bool)(l:List α) : -1<=Z1x p l/\Z1x p l<l.length:=by
 induction l with
 | nil=>simp [Z1x]
 | cons a l ih =>
  obtain ⟨B,C⟩:=ih;unfold Z1x;rw [zw];split
  . omega
  . split <;> omega
theorem Z8t {α:Type}(p:α->Bool):∀ (l:List α) (i:Nat) (h:i<l.length),p l[i]=true->(∀ j (hj:j<l.length),i<j->p l[j]=false)->Z1x p l=i:=by
 intro l;induction l with
 | nil=>intro i h;simp at h
 | cons a l ih =>
  intro i h C G;cases i with
  | zero =>
   have B:Z1x p l = -1:=by
    rcases Int.lt_or_le (Z1x p l) 0 with F | F
    . have:=(Z2n p l).1;omega
    . exfalso;exact nope l (λj hj=>by have:=G (j+1) (by simpa using hj) (by omega);simpa using this) F
   unfold Z1x;rw [B];simp only [List.getElem_cons_zero] at C;rw [zf (by omega),zp C];rfl
  | succ i =>have:=ih i (by simpa using h) (by simpa using C) (λj hj hij=>by have:=G (j+1) (by simpa using hj) (by omega);simpa using this);unfold Z1x;rw [this,zp (by omega)];omega
where
 nope (l:List α) (h:∀ j (hj:j<l.length),p l[j]=false) (B:0<=Z1x p l):False:=by
  induction l with
  | nil=>simp [Z1x] at B
  | cons a l ih =>
   unfold Z1x at B
   split at B
   . rename_i H
     exact ih (λj hj=>by have:=h (j+1) (by simpa using hj);simpa using this) H
   . split at B
     . rename_i D;have:=h 0 (by simp);simp only [List.getElem_cons_zero] at this;rw [this] at D;cases D
     . omega
theorem Zav {α:Type}(p:α->Bool)(l:List α)(h:∀ j (C:j<l.length),p l[j]=false):Z1x p l = -1:=by
 have D:=(Z2n p l).1;rcases Int.lt_or_le (Z1x p l) 0 with B | B
 . omega
 . exact (Z8t.nope p l h B).elim
theorem ZiE {α:Type}(p:α->Bool):∀ (l:List α),(Z1x p l = -1/\∀ j (B:j<l.length),p l[j]=false)\/(∃ (i:Nat) (h:i<l.length),Z1x p l=i/\p l[i]=true/\∀ j (B:j<l.length),i<j->p l[j]=false):=by
 intro l;induction l with
 | nil=>exact .inl ⟨rfl,λj B=>by simp at B⟩
 | cons a l ih =>
  rcases ih with ⟨D,C⟩ | ⟨i,G,D,C,H⟩
  . cases hp:p a with
    | true =>
     refine .inr ⟨0,by simp,?_,by simpa using hp,?_⟩
     . unfold Z1x;rw [D,zf (by omega),zp hp];rfl
     . intro j B F;cases j with
       | zero=>omega
       | succ j=>simpa using C j (by simpa using B)
    | false =>
     refine .inl ⟨?_,?_⟩
     . unfold Z1x;rw [D,zf (by omega),hp];simp
     . intro j B;cases j with
       | zero=>simpa using hp
       | succ j=>simpa using C j (by simpa using B)
  . refine .inr ⟨i+1,by simpa using G,?_,by simpa using C,?_⟩
    . unfold Z1x;rw [D,zp (by omega)];omega
    . intro j B F;cases j with
      | zero=>omega
      | succ j=>simpa using H j (by simpa using B) (by omega)
theorem Zaw {α:Type}(p:α->Bool)(l:List α)(a:α):Z1x p (l++[a])=if p a then (l.length:Int) else Z1x p l:=by
 cases hp:p a with
 | true =>rw [zp rfl];refine Z8t p (l++[a]) l.length (by simp) (by simpa using hp) (λj B h=>?_);simp at B;omega
 | false =>
  rw [zf (by simp)];have F:∀ j (B:j<(l++[a]).length),l.length<=j->p (l++[a])[j]=false:=by
   intro j B h;have:j=l.length:=by simp at B;omega
   subst this;simpa using hp
  rcases ZiE p l with ⟨D,C⟩ | ⟨i,G,D,C,H⟩
  . rw [D];refine Zav p _ (λj B=>?_);by_cases hl:j<l.length
    . rw [List.getElem_append_left hl];exact C j hl
    . exact F j B (by omega)
  . rw [D];refine Z8t p _ i (by simp;omega) (by rw [List.getElem_append_left G];exact C) (λj B hij=>?_);by_cases hl:j<l.length
    . rw [List.getElem_append_left hl];exact H j hl hij
    . exact F j B (by omega)
def VsK (l:List Vr)(k:Nat):Prop:=∀ i (h:i<l.length),i<k->l[i].okB=true/\∀ (_:0<i),l[i - 1].num<l[i].num/\l[i - 1].time<=l[i].time
def VsOk (l:List Vr):Prop:=VsK l l.length/\l.length<=100
open Classical in
noncomputable def vsB (l:List Vr):Bool:=decide (VsOk l)
theorem Z0B {l:List Vr}:vsB l=true ↔ VsOk l:=by unfold vsB;simp
theorem Z5a {l:List Vr}:vsB l=false ↔ ¬ VsOk l:=by unfold vsB;simp
theorem VsK.zero (l:List Vr):VsK l 0:=λi _ h=>absurd h (by omega)
theorem VsK.succ {l:List Vr}{k:Nat}(h:VsK l k)(hk:k<l.length)(B:l[k].okB=true)(D:∀ (_:0<k),l[k - 1].num<l[k].num/\l[k - 1].time<=l[k].time):VsK l (k+1):=by
 intro i C F;by_cases e:i=k
 . subst e;exact ⟨B,D⟩
 . exact h i C (by omega)
theorem VsK.mono {l:List Vr}(h:VsK l l.length):∀ (j i:Nat) (B:j<l.length) (C:i<j),(l[i]'(by omega)).num<l[j].num/\(l[i]'(by omega)).time<=l[j].time:=by
 intro j;induction j with
 | zero=>intro i B D;exact absurd D (by omega)
 | succ j ih =>
  intro i B C;obtain ⟨a,b⟩:=(h (j+1) B B).2 (by omega);simp only [Nat.add_sub_cancel] at a b;by_cases e:i=j
  . subst e;exact ⟨a,b⟩
  . obtain ⟨c,d⟩:=ih i (by omega) (by omega);exact ⟨by omega,by omega⟩
def inF (l:List Vr)(t:Int):Int:=Z1x (λv=>decide (v.time<=t)) l
def numI (l:List Vr)(n:Int):Int:=Z1x (λv=>decide (v.num=n)) l
def Z2F (l:List Vr)(t:Int)(rs:List Rt):Vr:=⟨1+(if h:0<l.length then (l[l.length - 1]'(by omega)).num else 0),t,rs⟩
open Classical in
noncomputable def Z4z (l:List Vr) (t:Int) (rs:List Rt):Int :=
 if ¬ VsOk l then 1
 else if ∃ h:0<l.length,t<(l[l.length - 1]'(by omega)).time then 6
 else if l.length=100\/1000000<(Z2F l t rs).num then 2
 else if (Z2F l t rs).okB=true then 0 else 1
theorem Zth {l:List Vr}{t:Int}{rs:List Rt}(h:Z4z l t rs=0):VsOk l/\VsOk (l++[Z2F l t rs])/\(∀ j (F:j<l.length),l[j].time<=t):=by
 unfold Z4z at h;split at h
 . simp at h
 . rename_i B;rw [Classical.not_not] at B;split at h
   . simp at h
   . rename_i I;split at h
     . simp at h
     . rename_i L;split at h
       . rename_i G;have D:∀ h0:0<l.length,(l[l.length - 1]'(by omega)).time<=t:=λh0=>by
          rcases Int.lt_or_le t (l[l.length - 1]'(by omega)).time with C | C
          . exact absurd ⟨h0,C⟩ I
          . exact C
         have H:∀ j (F:j<l.length),l[j].time<=t:=by
          intro j F;have J:=D (by omega);by_cases e:j=l.length - 1
          . subst e;exact J
          . have:=(B.1.mono (l.length - 1) j (by omega) (by omega)).2;omega
         refine ⟨B,⟨λi hi _=>?_,by rw [zj,List.length_singleton];have:=B.2;omega⟩,H⟩;by_cases hil:i<l.length
         . obtain ⟨a,b⟩:=B.1 i hil hil;refine ⟨by rw [List.getElem_append_left hil];exact a,λh0=>?_⟩;rw [List.getElem_append_left hil,List.getElem_append_left (by omega)];exact b h0
         . have he:i=l.length:=by rw [zj,List.length_singleton] at hi;omega
           subst he;refine ⟨by simpa using G,λh0=>?_⟩;rw [List.getElem_append_left (by omega)];simp only [List.getElem_append_right (zn _),Nat.sub_self,List.getElem_cons_zero];refine ⟨?_,D h0⟩;simp only [Z2F,h0,dif_pos];omega
       . simp at h
noncomputable def honV (l:List Vr) (q:Qt) (pub:Int):Int × Int × Int :=
 if ¬ (vsB l=true/\memB pub=true) then (0,0,1)
 else match l[(numI l q.ver).toNat]? with
  | none=>(0,0,4)
  | some v=>if numI l q.ver<0 then (0,0,4) else if (Z0C v q pub).1=true then (if inF l q.time=numI l q.ver then (q.total,q.keep,0) else (0,0,6)) else (0,0,9)
end Qx
end
section
open Go.RowKit Lx Px Qx Go.Sort
attribute [local irreducible] Qx.Vr.dig
structure VxB (p:Nat) (v:Vr) (rv:Value) (W:World):Prop where
 h:W.heap[p]?=some (.cells #[vI v.num,vI v.time,rv] 36 (0,0))
 r:RtsV W p rv v.rs
theorem VxB.lt {p:Nat}{v:Vr}{rv:Value}{W:World}(h:VxB p v rv W):p<W.heap.size:=(zF2.1 h.h).1
theorem VxB.on {p:Nat}{v:Vr}{rv:Value}{W B:World}(h:VxB p v rv W)(hb:Below W.heap.size W B):VxB p v rv B:=⟨(hb.block _ h.lt).trans h.h,h.r.on (hb.mono (zl h.lt))⟩
theorem VxB.far {p B:Nat}{v:Vr}{rv:Value}{W D:World}(h:VxB p v rv W)(hb:Below B W D)(C:p<B):VxB p v rv D:=⟨(hb.block _ C).trans h.h,h.r.on (hb.mono (zl C))⟩
theorem VxB.new {v:Vr}{rv:Value}{W:World}(h:RtsV W W.heap.size rv v.rs):VxB W.heap.size v rv (W.alloc (.cells #[vI v.num,vI v.time,rv] 36)) := ⟨za W _,h.on ((zr W.heap.size W).alloc (zn _) _)⟩
theorem VxB.cells {p:Nat}{v:Vr}{rv:Value}{W:World}(h:VxB p v rv W):W.cell? ⟨p,0,none⟩=some (vI v.num)/\W.cell? ⟨p,1,none⟩=some (vI v.time)/\W.cell? ⟨p,2,none⟩=some rv := ⟨by rw [zH h.h];rfl,by rw [zH h.h];rfl,by rw [zH h.h];rfl⟩
theorem VxB.v {p:Nat}{v:Vr}{A:Option Addr}{c:Nat}{W:World}(h:VxB p v (slice A v.rs.length c) W):VrV W W.heap.size (.agg #[vI v.num,vI v.time,slice A v.rs.length c]) v:=⟨A,c,rfl,h.r.up (zl h.lt)⟩
theorem Z9s (v:Vr)(V:Value)(w:World)(I:VrV w w.heap.size V v)(L:Tabs w.heap.size w) : Calls prog 25 #[V] w λe w'=>e=.returned (.bool v.okB)/\Below w.heap.size w w':=by
 obtain ⟨A,c,rfl,J⟩:=I;have hb:=(zr w.heap.size w).alloc (zn _) (.cells #[vI v.num,vI v.time,slice A v.rs.length c] 36);have B:=VxB.new J;have D:=Z7i v _ _ B.v (Z0v L hb);obtain ⟨S,N,R⟩:=B.cells;unfold vrV;have G:=zh hb;have C:=zh D;clear hb D B;go_enter func25,ntmps25;go_wp2_with fail;generalize w.alloc (.cells #[vI v.num,vI v.time,slice A v.rs.length c] 36)=O at *
 refine C.o.mono ?_;rintro e M ⟨H,rfl⟩;have F:=zh (Z00 G.o H);clear G H C;cases hk:v.okB with
 | false =>simp only [Bool.false_eq_true,if_false,Option.getD_none,if_true];go_wp2_with fail;go_ret;rw [hk];exact ⟨rfl,F.o⟩
 | true =>simp only [if_true,Option.getD_some,reduceCtorEq,if_false];go_wp2_with fail;go_ret;rw [hk];exact ⟨rfl,F.o⟩
def VaK (w:World)(p:Nat)(v:Vr)(rv:Value)(W:World):Prop:=VxB p v rv W/\Below w.heap.size w W
theorem VaK.on {w:World}{p:Nat}{v:Vr}{rv:Value}{W B:World}(h:VaK w p v rv W)(hb:Below W.heap.size W B):VaK w p v rv B:=⟨h.1.on hb,Z00 h.2 hb⟩
theorem Zf3 {w:World}{B:Nat}{D:Option Addr}{C:Nat}{v:Vr}(h:RtsV w B (slice D v.rs.length C) v.rs)(F:B<=w.heap.size):VrV w w.heap.size (.agg #[vI v.num,vI v.time,slice D v.rs.length C]) v:=⟨D,C,rfl,h.up F⟩
theorem Zr7 {l:List Vr}{k:Nat}(hk:k<l.length)(h:¬ (l[k].okB=true/\∀ (_:0<k),l[k - 1].num<l[k].num/\l[k - 1].time<=l[k].time)):vsB l=false:=Z5a.2 λhc=>h (hc.1 k hk hk)
theorem Z3g (l:List Vr)(v:Value)(w:World)(hv:VssV w w.heap.size v l)(bz:l.length<=1000)(ht:Tabs w.heap.size w) : Calls prog 9 #[v] w λe w'=>e=.returned (.bool (vsB l))/\Below w.heap.size w w':=by
 obtain ⟨A,c,rfl,_⟩:=id hv;have HV:=zh hv;have bt:=zh (λx X W (h:VrV W W.heap.size X x) (hb:Below w.heap.size w W)=>Z9s x X W h (Z0v ht hb));have bp:=zh (zr w.heap.size w);clear hv ht;go_enter func9,ntmps9;go_wp2_with fail;go_loopw [7] (λi wr=>∃ k:Nat,k<=l.length/\i=vI k/\VsK l k/\Below w.heap.size w wr) (λi _=>l.length - (intOf i).toNat)
 case atStart=>exact ⟨0,Nat.zero_le _,rfl,VsK.zero l,bp.o⟩
 case round =>
  clear bp;obtain ⟨k,hk,rfl,bf,y⟩:=hrel;by_cases hlt:k<l.length
  . obtain ⟨g,o,N,R,rfl,hg,hR,c0,c1,c2⟩:=Z36 (HV.o.on y) hlt;have dl:decide ((k:Int)<l.length)=true:=by simpa using hlt
    have hX:=VxB.new (v:=l[k]) (hR.up y.size);have bg:=y.alloc y.size (.cells #[vI l[k].num,vI l[k].time,slice N l[k].rs.length R] 36);have hno:=@Zr7 l k hlt;have hsc:=λh1 h2=>bf.succ hlt h1 h2;have bk:∀ (_:0<k),∃ n t,n=l[k - 1].num/\t=l[k - 1].time/\wr.cell? ⟨g,o+(k - 1)*3,none⟩=some (vI n)/\wr.cell? ⟨g,o+(k - 1)*3+1,none⟩=some (vI t):=λh0=>by
     obtain ⟨g',o',bE,bB,e',_,_,d0,d1,_⟩:=Z36 (HV.o.on y) (k:=k - 1) (by omega);injection e' with e'
     injection e' with e1 e2
     subst e1 e2;exact ⟨_,_,rfl,rfl,d0,d1⟩
    rcases hx:l[k] with ⟨H,G,D⟩
    rw [hx] at hR c0 c1 c2 hX bg hno hsc;dsimp only at hR c0 c1 c2 hX bg hno hsc;have bn:VaK w wr.heap.size ⟨H,G,D⟩ (slice N D.length R) (wr.alloc (.cells #[vI H,vI G,slice N D.length R] 36)):=⟨hX,bg⟩
    obtain ⟨b,hb⟩:∃ b,(⟨H,G,D⟩:Vr).okB=b:=⟨_,rfl⟩
    have br:∀ W,VaK w wr.heap.size ⟨H,G,D⟩ (slice N D.length R) W->Calls prog 25 #[.agg #[vI H,vI G,slice N D.length R]] W λe w'=>e=.returned (.bool b)/\Below W.heap.size W w':=λW h=>by have:=bt.o _ _ W h.1.v h.2;rw [hb] at this;exact this
    obtain ⟨bc,T,bh⟩:=zh3 br bn y;clear br bn y hX bg hR bf;by_cases h0:0<k
    . obtain ⟨m,rfl⟩:∃ m,k=m+1:=⟨k - 1,by omega⟩
      obtain ⟨pn,pt,e1,e2,d0,d1⟩:=bk h0;simp only [Nat.add_sub_cancel] at e1 e2 d0 d1 hno hsc;simp only [<- e1,<- e2] at hno hsc;clear bk hx e1 e2;have be:∀ W',VaK w wr.heap.size ⟨H,G,D⟩ (slice N D.length R) W'->W'.cell? ⟨wr.heap.size,0,none⟩=some (vI H)/\W'.cell? ⟨wr.heap.size,1,none⟩=some (vI G)/\W'.cell? ⟨wr.heap.size,2,none⟩=some (slice N D.length R)/\W'.cell? ⟨g,o+m*3,none⟩=some (vI pn)/\W'.cell? ⟨g,o+m*3+1,none⟩=some (vI pt)/\VaK w wr.heap.size ⟨H,G,D⟩ (slice N D.length R) W':=λW' h=>by
       obtain ⟨a0,a1,a2⟩:=h.1.cells;have bq:=h.2;refine ⟨a0,a1,a2,?_,?_,h⟩
       . exact (bq.cell (p:=⟨g,o+m*3,none⟩) hg).trans ((bh.o.cell (p:=⟨g,o+m*3,none⟩) hg).symm.trans d0)
       . exact (bq.cell (p:=⟨g,o+m*3+1,none⟩) hg).trans ((bh.o.cell (p:=⟨g,o+m*3+1,none⟩) hg).symm.trans d1)
      have dz:decide (((m+1:Nat):Int) > 0)=true:=by simp
      have bx:(((m+1:Nat):Int) - 1)=(m:Int):=by omega
      have bv:m<l.length:=by omega
      have bC:(0:Int)<=m:=by omega
      have bA:(m:Int)<l.length:=by omega
      obtain ⟨ba,bd,bj⟩:=zh3 be hno hsc;clear be hno hsc d0 d1;cases b with
      | false =>
       go_wp2_with fail;have B:=T.o;generalize wr.alloc (.cells #[vI H,vI G,slice N D.length R] 36)=F at *
       obtain ⟨L,J,M,f,r,_⟩:=ba.o _ B;have j:=cell_regrown L;have Y:=cell_regrown J;have q:=cell_regrown M;have y3:=cell_regrown f;have y4:=cell_regrown r;have C:=λd os=>Calls.regrown_of (bc.o _ (B.on (below_regrown F d os)));clear B;refine wp_region_quiet_below (by kernel_rfl) (by kernel_rfl) ?_
       repeat (first | go_big_quiet_step (exact C _ _) | quiet_step (exact C _ _))
       refine wpQuiet_nil ?_;intro _ Z;obtain ⟨⟨S,I⟩,U⟩:=Z;subst U;have O:=T.o.on (below_regrown F S I);generalize grow (redrawn F S) I=w5 at *
       clear C j L Y J q M y3 f y4 r;have bb:=zh (bd.o (λh=>by rw [hb] at h;cases h.1));have V:=zh O;clear O;go_wp2_with fail;go_ret;rw [bb.o];exact ⟨rfl,V.o.2⟩
      | true =>
       by_cases hn:H<=pn
       . have dn:decide (H<=pn)=true:=by simpa using hn
         go_wp2_with fail;have B:=T.o;generalize wr.alloc (.cells #[vI H,vI G,slice N D.length R] 36)=F at *
         obtain ⟨L,J,M,f,r,_⟩:=ba.o _ B;have j:=cell_regrown L;have Y:=cell_regrown J;have q:=cell_regrown M;have y3:=cell_regrown f;have y4:=cell_regrown r;have C:=λd os=>Calls.regrown_of (bc.o _ (B.on (below_regrown F d os)));clear B;refine wp_region_quiet_below (by kernel_rfl) (by kernel_rfl) ?_
         repeat (first | go_big_quiet_step (exact C _ _) | quiet_step (exact C _ _))
         refine wpQuiet_nil ?_;intro _ Z;obtain ⟨⟨S,I⟩,U⟩:=Z;subst U;have O:=T.o.on (below_regrown F S I);generalize grow (redrawn F S) I=w5 at *
         clear C j L Y J q M y3 f y4 r;have bb:=zh (bd.o (λh=>by have:=(h.2 (by omega)).1;omega));have V:=zh O;clear O;go_wp2_with fail;go_ret;rw [bb.o];exact ⟨rfl,V.o.2⟩
       . have dn:decide (H<=pn)=false:=by simpa using hn
         by_cases ht:G<pt
         . have dt:decide (G<pt)=true:=by simpa using ht
           go_wp2_with fail;have B:=T.o;generalize wr.alloc (.cells #[vI H,vI G,slice N D.length R] 36)=F at *
           obtain ⟨L,J,M,f,r,_⟩:=ba.o _ B;have j:=cell_regrown L;have Y:=cell_regrown J;have q:=cell_regrown M;have y3:=cell_regrown f;have y4:=cell_regrown r;have C:=λd os=>Calls.regrown_of (bc.o _ (B.on (below_regrown F d os)));clear B;refine wp_region_quiet_below (by kernel_rfl) (by kernel_rfl) ?_
           repeat (first | go_big_quiet_step (exact C _ _) | quiet_step (exact C _ _))
           refine wpQuiet_nil ?_;intro _ Z;obtain ⟨⟨S,I⟩,U⟩:=Z;subst U;have O:=T.o.on (below_regrown F S I);generalize grow (redrawn F S) I=w5 at *
           clear C j L Y J q M y3 f y4 r;have bb:=zh (bd.o (λh=>by have:=(h.2 (by omega)).2;omega));have V:=zh O;clear O;go_wp2_with fail;go_ret;rw [bb.o];exact ⟨rfl,V.o.2⟩
         . have dt:decide (G<pt)=false:=by simpa using ht
           go_wp2_with fail;have B:=T.o;generalize wr.alloc (.cells #[vI H,vI G,slice N D.length R] 36)=F at *
           obtain ⟨L,J,M,f,r,_⟩:=ba.o _ B;have j:=cell_regrown L;have Y:=cell_regrown J;have q:=cell_regrown M;have y3:=cell_regrown f;have y4:=cell_regrown r;have C:=λd os=>Calls.regrown_of (bc.o _ (B.on (below_regrown F d os)));clear B;refine wp_region_quiet_below (by kernel_rfl) (by kernel_rfl) ?_
           repeat (first | go_big_quiet_step (exact C _ _) | quiet_step (exact C _ _))
           refine wpQuiet_nil ?_;intro _ Z;obtain ⟨⟨S,I⟩,U⟩:=Z;subst U;have O:=T.o.on (below_regrown F S I);generalize grow (redrawn F S) I=w5 at *
           clear C j L Y J q M y3 f y4 r;have V:=zh O;clear O;go_wp2_with fail;go_roundw
           case rel=>exact ⟨_,by omega,by go_num,bj.o hb (λ_=>⟨by omega,by omega⟩),V.o.2⟩
           case measure=>simp [intOf];omega
    . have B:k=0:=by omega
      subst B;have be:∀ W',VaK w wr.heap.size ⟨H,G,D⟩ (slice N D.length R) W'->W'.cell? ⟨wr.heap.size,0,none⟩=some (vI H)/\W'.cell? ⟨wr.heap.size,1,none⟩=some (vI G)/\W'.cell? ⟨wr.heap.size,2,none⟩=some (slice N D.length R)/\VaK w wr.heap.size ⟨H,G,D⟩ (slice N D.length R) W':=λW' h=>by obtain ⟨a0,a1,a2⟩:=h.1.cells;exact ⟨a0,a1,a2,h⟩
      have dz:decide (((0:Nat):Int) > 0)=false:=by decide
      simp only [Nat.zero_mul,Nat.add_zero] at c0 c1 c2;clear bk hx;obtain ⟨ba,bd,bj⟩:=zh3 be hno hsc;clear be hno hsc;cases b with
      | false =>
       go_wp2_with fail;have B:=T.o;generalize wr.alloc (.cells #[vI H,vI G,slice N D.length R] 36)=F at *
       obtain ⟨L,J,M,_⟩:=ba.o _ B;have j:=cell_regrown L;have Y:=cell_regrown J;have q:=cell_regrown M;have C:=λd os=>Calls.regrown_of (bc.o _ (B.on (below_regrown F d os)));clear B;refine wp_region_quiet_below (by kernel_rfl) (by kernel_rfl) ?_
       repeat (first | go_big_quiet_step (exact C _ _) | quiet_step (exact C _ _))
       refine wpQuiet_nil ?_;intro _ Z;obtain ⟨⟨S,I⟩,U⟩:=Z;subst U;have O:=T.o.on (below_regrown F S I);generalize grow (redrawn F S) I=w5 at *
       clear C j L Y J q M;have bb:=zh (bd.o (λh=>by rw [hb] at h;cases h.1));have V:=zh O;clear O;go_wp2_with fail;go_ret;rw [bb.o];exact ⟨rfl,V.o.2⟩
      | true =>
       go_wp2_with fail;have B:=T.o;generalize wr.alloc (.cells #[vI H,vI G,slice N D.length R] 36)=F at *
       obtain ⟨L,J,M,_⟩:=ba.o _ B;have j:=cell_regrown L;have Y:=cell_regrown J;have q:=cell_regrown M;have C:=λd os=>Calls.regrown_of (bc.o _ (B.on (below_regrown F d os)));clear B;refine wp_region_quiet_below (by kernel_rfl) (by kernel_rfl) ?_
       repeat (first | go_big_quiet_step (exact C _ _) | quiet_step (exact C _ _))
       refine wpQuiet_nil ?_;intro _ Z;obtain ⟨⟨S,I⟩,U⟩:=Z;subst U;have O:=T.o.on (below_regrown F S I);generalize grow (redrawn F S) I=w5 at *
       clear C j L Y J q M;have V:=zh O;clear O;go_wp2_with fail;go_roundw
       case rel=>exact ⟨_,by omega,by go_num,bj.o hb (λh=>absurd h (by omega)),V.o.2⟩
       case measure=>simp [intOf];omega
  . have bu:k=l.length:=by omega
    subst bu;have dl:decide ((l.length:Int)<l.length)=false:=by simp
    have bm:decide ((l.length:Int)<=100)=vsB l:=by
     by_cases h:l.length<=100
     . rw [Z0B.2 ⟨bf,h⟩];simp;omega
     . rw [Z5a.2 λhc=>h hc.2];simp;omega
    obtain ⟨bh,bD,bs⟩:=zh3 y bf bm;clear y bf bm;go_wp2_with fail;go_ret;rw [<- bs.o];exact ⟨rfl,bh.o⟩
def Tells (F:FuncId)(q:Addr)(p:Vr->Bool)(w:World):Prop:=∀ (x:Vr) (X:Value) (W:World),VrV W W.heap.size X x->Below w.heap.size w W->Calls prog F #[X,.pointer (some q)] W λe w'=>e=.returned (.bool (p x))/\Below W.heap.size W w'
def Zbn (p:Vr->Bool)(l:List Vr)(k:Nat):Prop:=∀ j (h:j<l.length),k<=j->p l[j]=false
theorem ZgH (l:List Vr)(p:Vr->Bool)(F:FuncId)(q:Addr)(v:Value)(w:World)(R:VssV w w.heap.size v l)(bc:l.length<=1000)(S:Tells F q p w)(hg:∀ args w,(callFunc F args).run prog w=.ok (.enter F args) w) : Calls prog 29 #[v,.func (.func F) #[] #[.pointer (some q)]] w λe w'=>e=.returned (vI (Z1x p l))/\Below w.heap.size w w':=by
 obtain ⟨A,c,rfl,_⟩:=id R;have X:=zr w.heap.size w;obtain ⟨L,G⟩:∃ L,Z1x p l=L:=⟨_,rfl⟩
 have T:Zbn p l 0->L = -1:=λh=>by rw [<- G];exact Zav p l (λj hj=>h j hj (Nat.zero_le _))
 have Z:=λm I h h2=>G.symm.trans (Z8t p l m I h h2);rw [G];obtain ⟨HV,HF,U,y,HAT⟩:=zh5 R S X T Z;clear R S X T Z G;go_enter func29,ntmps29;go_wp2_with fail;go_loopw [5] (λi wr=>∃ k:Nat,k<=l.length/\i=vI ((k:Int) - 1)/\Zbn p l k/\Below w.heap.size w wr) (λi _=>(intOf i+1).toNat)
 case atStart=>exact ⟨l.length,zn _,by go_num,λj hj h=>absurd hj (by omega),U.o⟩
 case round =>
  clear U;obtain ⟨k,hk,rfl,D,B⟩:=hrel;by_cases h0:0<k
  . obtain ⟨m,rfl⟩:∃ m,k=m+1:=⟨k - 1,by omega⟩
    have I:m<l.length:=by omega
    obtain ⟨g,o,RA,rc,rfl,bd,d,c0,c1,c2⟩:=Z36 (HV.o.on B) I;have J:=HF.o l[m] (.agg #[vI l[m].num,vI l[m].time,slice RA l[m].rs.length rc]) wr (Zf3 d B.size) B;have C:(((m+1:Nat):Int) - 1)=(m:Int):=by omega
    rw [C];have dl:decide ((m:Int)>=0)=true:=by simp
    have N:=λh=>HAT.o m I h (λj hj hij=>D j hj (by omega));have M:p l[m]=false->Zbn p l m:=λh j hj hmj=>by
     by_cases e:j=m
     . subst e;exact h
     . exact D j hj (by omega)
    obtain ⟨b,hb⟩:∃ b,p l[m]=b:=⟨_,rfl⟩
    rw [hb] at J N M;generalize l[m]=x at *
    obtain ⟨V,bb,ba,H⟩:=zh4 J N M B;clear J N M B D d hb C;go_wp2_with fail;refine V.o.mono ?_;rintro e w2 ⟨rfl,f⟩;have Y:=zh (Z00 H.o f);clear f V H c0 c1 c2;cases b with
    | false =>
     go_wp2_with fail;go_roundw
     case rel=>exact ⟨m,by omega,by go_num,ba.o trivial,Y.o⟩
     case measure=>simp [intOf]
    | true =>have O:=bb.o rfl;subst O;go_wp2_with fail;go_ret;exact ⟨rfl,Y.o⟩
  . have r:k=0:=by omega
    subst r;have O:=y.o D;subst O;have C:(((0:Nat):Int) - 1) = -1:=by omega
    rw [C];have dl:decide ((-1:Int)>=0)=false:=by decide
    have H:=zh B;clear B D C;go_wp2_with fail;go_ret;exact ⟨rfl,H.o⟩
theorem ZiF (t:Int)(q:Nat)(x:Vr)(X:Value)(w:World)(F:VrV w w.heap.size X x)(B:w.cell? ⟨q,0,none⟩=some (vI t)) : Calls prog 43 #[X,.pointer (some ⟨q,0,none⟩)] w λe w'=>e=.returned (.bool (decide (x.time<=t)))/\Below w.heap.size w w':=by
 obtain ⟨A,c,rfl,D⟩:=F;have C:=VxB.new D;have hb:=(zr w.heap.size w).alloc (zn _) (.cells #[vI x.num,vI x.time,slice A x.rs.length c] 36);have G:=World.block_lt_of_cell? _ _ B;have I:=(hb.cell (p:=⟨q,0,none⟩) G).trans B;obtain ⟨M,J,L⟩:=C.cells;unfold vrV;have H:=zh hb;clear hb C D B;go_enter func43,ntmps43;go_wp2_with fail;go_ret;exact ⟨rfl,H.o⟩
theorem Z9t (l:List Vr)(t:Int)(v:Value)(w:World)(B:VssV w w.heap.size v l)(I:l.length<=1000) : Calls prog 22 #[v,vI t] w λe w'=>e=.returned (vI (inF l t))/\Below w.heap.size w w':=by
 have O:∀ (fn:Fn) (first cap:Array Value) (w:World),(Instr.makeFunc fn first cap).run prog w=.ok (.func fn first cap) w:=λ_ _ _ _=>rfl;have hb:=(zr w.heap.size w).alloc (zn _) (.cells #[vI t] 3);have D:=za w (.cells #[vI t] 3);have C:=ZgH l (λx=>decide (x.time<=t)) 43 ⟨w.heap.size,0,none⟩ v _ ((B.on hb).up hb.size) I (λx X W hX hbW=>ZiF t w.heap.size x X W hX (by rw [zH ((hbW.block _ (by simp)).trans D)];rfl)) (λ_ _=>rfl);obtain ⟨A,c,rfl,_⟩:=id B;have F:Hid (inF l t=Z1x (λx=>decide (x.time<=t)) l):=rfl;rw [F.o];have J:=zh hb;have G:=zh C;clear hb C D;go_enter func22,ntmps22;go_wp2_with fail;generalize w.alloc (.cells #[vI t] 3)=N at *
 refine G.o.mono ?_;rintro e M ⟨rfl,L⟩;have H:=zh (Z00 J.o L);go_wp2_with fail;go_ret;exact ⟨rfl,H.o⟩
end
section
open Go.RowKit Lx Px Qx
theorem Zdq (w:World)(F:Mx w w.heap.size):Calls prog 17 #[.string ⟨#[49,48,48,46,48,48]⟩] w λe w'=>Below w.heap.size w w'/\∃ A c,e=.returned (slice A 1 c)/\RtsV w' w'.heap.size (slice A 1 c) [Z4u.rt]:=by
 have key:∀ s e B,bl s=Zn4->SrcP w (srcO (bl s)) e B->SrcP w (.ok [Z4u]) e B:=λs e B h1 h2=>by rw [h1,Zn5] at h2;exact h2
 have J:=zh F;have L:=zh key;clear F key;go_enter func17,ntmps17;go_wp2_with fail;refine (Z59 _ _ J.o).mono ?_;intro e B D;obtain ⟨C,A,c,rfl,G⟩:=L.o _ _ _ (by kernel_rfl) D;clear D;have I:=zh C;have H:=zh G;clear C G;dsimp only [zw,zx,Nat.reduceAdd];go_wp2_with fail;go_ret;exact ⟨I.o,A,c,rfl,H.o⟩
theorem Z83 (w:World)(F:Mx w w.heap.size):Calls prog 17 #[.string ⟨#[57,48,46,48,48]⟩] w λe w'=>Below w.heap.size w w'/\∃ A c,e=.returned (slice A 1 c)/\RtsV w' w'.heap.size (slice A 1 c) [Z4b.rt]:=by
 have key:∀ s e B,bl s=Zn8->SrcP w (srcO (bl s)) e B->SrcP w (.ok [Z4b]) e B:=λs e B h1 h2=>by rw [h1,Zn9] at h2;exact h2
 have J:=zh F;have L:=zh key;clear F key;go_enter func17,ntmps17;go_wp2_with fail;refine (Z59 _ _ J.o).mono ?_;intro e B D;obtain ⟨C,A,c,rfl,G⟩:=L.o _ _ _ (by kernel_rfl) D;clear D;have I:=zh C;have H:=zh G;clear C G;dsimp only [zw,zx,Nat.reduceAdd];go_wp2_with fail;go_ret;exact ⟨I.o,A,c,rfl,H.o⟩
end
section
open Go.RowKit Lx Px Qx
attribute [local irreducible] Qx.Vr.dig
namespace Qx
def Vr.zero:Vr:=⟨0,0,[]⟩
noncomputable def atV (l:List Vr) (t:Int):Vr × Bool × Int :=
 if vsB l&&Z18 t then (if inF l t<0 then (.zero,false,0) else (l.getD (inF l t).toNat .zero,true,0)) else (.zero,false,1)
end Qx
def AtP (x:Vr × Bool × Int)(w:World)(e:Ending)(w':World):Prop:=∃ V,e=.returned (.tuple #[V,.bool x.2.1,vI x.2.2])/\VrV w' w'.heap.size V x.1/\Below w.heap.size w w'
theorem Znh {W:World}{p:Nat}{v:Vr}{rv:Value}{b:Bool}{er:Int}(h:VxB p v rv W):∀ (tmps:Array Value),tmps[4]?.getD undef=.pointer (some ⟨p,0,none⟩)->tmps[5]?.getD undef=.bool b->tmps[6]?.getD undef=vI er -> (results f7 tmps).run prog W=.ok (.tuple #[.agg #[vI v.num,vI v.time,rv],.bool b,vI er]) W:=by
 intro tmps B G F;obtain ⟨D,H,C⟩:=h.cells;simp [results,results7,go_sem,B,G,F,D,H,C]
theorem VxB.fr {p:Nat}{v:Vr}{rv:Value}{W:World}(h:VxB p v rv W)(i:Nat):W.frozen? ⟨p,i,none⟩=false:=by have:=h.h;simp [World.frozen?,this]
def put3 (W:World)(p:Nat)(n t:Int)(rv:Value):World:=((W.setCell ⟨p,0,none⟩ (vI n)).setCell ⟨p,1,none⟩ (vI t)).setCell ⟨p,2,none⟩ rv
theorem Z2p {B p:Nat}{w W:World}(h:Below B w W)(C:B<=p)(n t:Int)(rv:Value):Below B w (put3 W p n t rv) := ((h.setCell (p:=⟨p,0,none⟩) C _).setCell (p:=⟨p,1,none⟩) C _).setCell (p:=⟨p,2,none⟩) C _
theorem VxB.put3 {p:Nat}{v:Vr}{rv:Value}{W:World}(h:VxB p v rv W)(x:Vr){B:Value}(C:RtsV W p B x.rs):VxB p x B (put3 W p x.num x.time B):=by
 refine ⟨?_,C.on (Z2p (zr p W) (zn _) _ _ _)⟩;have D:=h.h;unfold Go.Proofs.YtkgagcbefagpcaaGreatDoor.put3;simp [World.setCell,zM,D]
theorem Zni {l:List Vr}{t:Int}(h:¬ (vsB l=true/\Z18 t=true)):atV l t=(.zero,false,1):=by
 unfold atV;rw [zf];simpa using h
theorem Zh0 (l:List Vr)(t:Int)(v:Value)(w:World)(N:VssV w w.heap.size v l)(r:l.length<=1000)(ht:Tabs w.heap.size w) : Calls prog 7 #[v,vI t] w (AtP (atV l t) w):=by
 have hb:=(zr w.heap.size w).alloc (zn _) (.cells #[vI 0,vI 0,slice none 0 0] 36);have hx:VxB w.heap.size Vr.zero (slice none 0 0) (w.alloc (.cells #[vI 0,vI 0,slice none 0 0] 36)):=VxB.new (v:=Vr.zero) (RtsV.nil _ _);have bc:=λW (hb:Below w.heap.size w W)=>Z3g l v W ((N.on hb).up hb.size) r (Z0v ht hb);have bf:=λW (hb:Below w.heap.size w W)=>Z9t l t v W ((N.on hb).up hb.size) r;obtain ⟨A,c,rfl,_⟩:=id N;obtain ⟨X,R⟩:∃ X,atV l t=X:=⟨_,rfl⟩
 have q:=λh=>R.symm.trans (@Zni l t h);have y:vsB l=true->Z18 t=true->X=if inF l t<0 then (.zero,false,0) else (l.getD (inF l t).toNat .zero,true,0):=λh1 h2=>by rw [<- R];unfold atV;rw [h1,h2];rfl
 have T:=Z2n (λx:Vr=>decide (x.time<=t)) l;have hd:inF l t=Z1x (λx:Vr=>decide (x.time<=t)) l:=rfl;rw [<- hd] at T;rw [R];have hz:∀ W,VxB w.heap.size Vr.zero (slice none 0 0) W->VxB w.heap.size Vr.zero (slice none 0 0) (put3 W w.heap.size 0 0 (slice none 0 0)):=λW h=>h.put3 Vr.zero (RtsV.nil _ _);obtain ⟨HV,j,HX,ba,be,S,bd,HZ⟩:=zh8 N hb hx bc bf q y hz;clear N hb hx bc bf q y hz ht R hd;generalize inF l t=I at *
 go_enter func7,ntmps7;go_wp2_with fail;generalize w.alloc (.cells #[vI 0,vI 0,slice none 0 0] 36)=w1 at *
 refine (ba.o _ j.o).mono ?_;rintro e w2 ⟨rfl,m⟩;have Z:=Z00 j.o m;have M:=HX.o.on m;obtain ⟨f,Y,y2⟩:=M.cells;have y3:=M.fr 0;have y4:=M.fr 1;have y5:=M.fr 2;dsimp only [Vr.zero] at f Y;have U:=HZ.o _ M;have D:=Z2p Z (zn _) 0 0 (slice none 0 0);have C:=λb er=>Znh (b:=b) (er:=er) U;unfold put3 at U D C;obtain ⟨d,bb,bh,J,H⟩:=zh5 Z M U D C;clear Z M U D C m ba j HX;cases h1:vsB l with
 | false =>have B:=S.o (λh=>by rw [h1] at h;cases h.1);subst B;go_wp2_with fail;refine bodyPost_ret (v:=.tuple #[.agg #[vI 0,vI 0,slice none 0 0],.bool false,vI 1]) (H.o _ _ _ rfl rfl rfl) rfl ?_;exact ⟨_,rfl,⟨none,0,rfl,RtsV.nil _ _⟩,J.o⟩
 | true =>
  by_cases h2:t<0
  . have d2:decide (t<0)=true:=by simpa using h2
    have B:=S.o (λh=>by have:=h.2;simp [Z18] at this;omega);subst B;go_wp2_with fail;refine bodyPost_ret (v:=.tuple #[.agg #[vI 0,vI 0,slice none 0 0],.bool false,vI 1]) (H.o _ _ _ rfl rfl rfl) rfl ?_;exact ⟨_,rfl,⟨none,0,rfl,RtsV.nil _ _⟩,J.o⟩
  . have d2:decide (t<0)=false:=by simpa using h2
    by_cases h3:t > 1000000000
    . have d3:decide (t > 1000000000)=true:=by simpa using h3
      have B:=S.o (λh=>by have:=h.2;simp [Z18] at this;omega);subst B;go_wp2_with fail;refine bodyPost_ret (v:=.tuple #[.agg #[vI 0,vI 0,slice none 0 0],.bool false,vI 1]) (H.o _ _ _ rfl rfl rfl) rfl ?_;exact ⟨_,rfl,⟨none,0,rfl,RtsV.nil _ _⟩,J.o⟩
    . have d3:decide (t > 1000000000)=false:=by simpa using h3
      have O:=zh (bd.o h1 (by simp [Z18];omega));clear bd S J bh H;go_wp2_with fail;refine (be.o _ d.o).mono ?_;rintro e w3 ⟨rfl,V⟩;have L:=Z00 d.o V;have F:=bb.o.on V;obtain ⟨f,Y,y2⟩:=F.cells;have y3:=F.fr 0;have y4:=F.fr 1;have y5:=F.fr 2;dsimp only [Vr.zero] at f Y;clear d bb be;by_cases h4:I<0
      . have B:=O.o;clear O;rw [zp h4] at B;subst B;have d4:decide (I<0)=true:=by simpa using h4
        have G:=HZ.o _ F;have D:=Z2p L (zn _) 0 0 (slice none 0 0);have C:=λb er=>Znh (b:=b) (er:=er) G;unfold put3 at G D C;obtain ⟨bj,bk,bg,J,H⟩:=zh5 L F G D C;clear L F G D C V;go_wp2_with fail;refine bodyPost_ret (v:=.tuple #[.agg #[vI 0,vI 0,slice none 0 0],.bool false,vI 0]) (H.o _ _ _ rfl rfl rfl) rfl ?_;exact ⟨_,rfl,⟨none,0,rfl,RtsV.nil _ _⟩,J.o⟩
      . have B:=O.o;clear O;rw [zf h4] at B;have d4:decide (I<0)=false:=by simpa using h4
        obtain ⟨i,rfl⟩:=zE2 (show 0<=I by omega);have hi:i<l.length:=by have:=T.2;omega
        have hg0:l.getD ((i:Int)).toNat Vr.zero=l[i]:=by simp [List.getD_eq_getElem?_getD,zv hi]
        rw [hg0] at B;subst B;obtain ⟨g,o,RA,rc,rfl,hg,hR,c0,c1,c2⟩:=Z36 (HV.o.on L) hi;have G:=F.put3 l[i] hR;have D:=Z2p L (zn _) l[i].num l[i].time (slice RA l[i].rs.length rc);generalize l[i]=x at *
        have C:=λb er=>Znh (b:=b) (er:=er) G;unfold put3 at G D C;obtain ⟨bj,bk,bg,J,H,bm⟩:=zh6 L F G D C T;clear L F G D C T V hR hg0;go_wp2_with fail;refine bodyPost_ret (v:=.tuple #[.agg #[vI x.num,vI x.time,slice RA x.rs.length rc],.bool true,vI 0]) (H.o _ _ _ rfl rfl rfl) rfl ?_;exact ⟨_,rfl,bg.o.v,J.o⟩
end
