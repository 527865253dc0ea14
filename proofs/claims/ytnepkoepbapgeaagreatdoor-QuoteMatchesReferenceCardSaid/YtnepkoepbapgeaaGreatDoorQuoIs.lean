import Derived.Test.YtnepkoepbapgeaaGreatDoorQuoDgt
import Derived.Test.YtnepkoepbapgeaaGreatDoorQuoPla
import Derived.Test.YtnepkoepbapgeaaGreatDoorQuoVfy
namespace Go.Proofs.YtnepkoepbapgeaaGreatDoor
open _root_.Go.Proofs.Tryz
open Value (int slice)
open IntKind (i64)
set_option maxHeartbeats 16000000
set_option maxRecDepth 100000
section
open Go.RowKit Lx Px Qx
namespace Qx
theorem Ze1 {v:Vr}{a:Ask}{t s o:Int}(h:¬ (v.okB=true/\a.okB=true/\Z1E t=true/\secB s=true/\secB o=true)):Z48 v a t s o=(.zero,1):=by
 unfold Z48;rw [zf];intro B;simp only [zd] at B;exact h ⟨B.1.1.1.1,B.1.1.1.2,B.1.1.2,B.1.2,B.2⟩
theorem Z6k {v:Vr}{a:Ask}{t s o:Int}(B:v.okB=true)(D:a.okB=true)(C:Z1E t=true)(G:secB s=true)(F:secB o=true):Z48 v a t s o=if t<v.time then (.zero,6) else match Z14 v a t with
 | .error e=>(.zero,e)
 | .ok q=>({ q with sE:=sigE s.toNat o.toNat q.says,sS:=sigS s.toNat o.toNat q.says },0):=by
 unfold Z48;rw [zp (by rw [B,D,C,G,F];rfl)];by_cases h:t<v.time
 · rw [zp h,zp h]
 · rw [zf h,zf h];cases Z14 v a t <;> rfl
theorem ZaE {v:Vr}(h:v.okB=true):useB v.rs=true/\0<=v.time/\v.time<=1000000000/\1<=v.num/\v.num<=1000000:=by
 unfold Vr.okB at h;simp only [zd,decide_eq_true_eq,Z1E] at h;exact ⟨h.1.2,h.1.1.2.1,h.1.1.2.2,h.1.1.1.1,h.1.1.1.2⟩
theorem Z85 {v:Vr}{a:Ask}{t:Int}{ns:List Int}{B:Int}(h:Z0d v.rs a=.ok (ns,B)):Z14 v a t=.ok ⟨v.num,t,ns.sum,B,a,ns,v.dig,0,0⟩:=by unfold Z14;rw [h]
theorem ZaF {v:Vr}{a:Ask}{t e:Int}(h:Z0d v.rs a=.error e):Z14 v a t=.error e:=by unfold Z14;rw [h]
theorem Zcp (v:Vr):v.dig<18446744073709551616:=Zb3 _ _
end Qx
structure MkB (w:World) (v:Vr) (rv:Value) (a:Qx.Ask) (R:Array Value) (W:World):Prop where
 v:W.heap[w.heap.size]?=some (.cells #[int i64 v.num,int i64 v.time,rv] 24 (0,0))
 a:W.heap[w.heap.size+1]?=some (.cells #[int i64 a.kind,int i64 a.fr,int i64 a.un,int i64 a.pers] 26 (0,0))
 r:W.heap[w.heap.size+2]?=some (.cells R 32 (0,0))
 b:Below w.heap.size w W
theorem MkB.on {w W B:World}{v:Vr}{rv:Value}{a:Qx.Ask}{R:Array Value}(h:MkB w v rv a R W)(hb:Below W.heap.size W B):MkB w v rv a R B := ⟨(hb.block _ (zs h.v)).trans h.v,(hb.block _ (zs h.a)).trans h.a,(hb.block _ (zs h.r)).trans h.r,Z00 h.b hb⟩
theorem MkB.far {w W B:World}{v:Vr}{rv:Value}{a:Qx.Ask}{R:Array Value}(h:MkB w v rv a R W)(hb:Below (w.heap.size+3) W B):MkB w v rv a R B := ⟨(hb.block _ (by omega)).trans h.v,(hb.block _ (by omega)).trans h.a,(hb.block _ (by omega)).trans h.r,h.b.trans (hb.mono (by omega))⟩
theorem MkB.new (w:World)(v:Vr)(rv:Value)(a:Qx.Ask)(R:Array Value):MkB w v rv a R (((w.alloc (.cells #[int i64 v.num,int i64 v.time,rv] 24)).alloc (.cells #[int i64 a.kind,int i64 a.fr,int i64 a.un,int i64 a.pers] 26)).alloc (.cells R 32)):=by
 refine ⟨?_,?_,?_,(((zr _ _).alloc (zn _) _).alloc (by simp) _).alloc (by simp;omega) _⟩
 all_goals repeat (first | (refine Z88 ?_;first | rfl | (simp only [zk];done) | (simp only [zk];omega)) | (refine Z5h ?_ ?_;· (simp only [zk];omega)))
theorem MkB.cells {w W:World}{v:Vr}{rv:Value}{a:Qx.Ask}{R:Array Value}(h:MkB w v rv a R W):W.cell? ⟨w.heap.size,0,none⟩=some (int i64 v.num)/\W.cell? ⟨w.heap.size,1,none⟩=some (int i64 v.time)/\W.cell? ⟨w.heap.size,2,none⟩=some rv /\ W.cell? ⟨w.heap.size+1,0,none⟩=some (int i64 a.kind)/\W.cell? ⟨w.heap.size+1,1,none⟩=some (int i64 a.fr)/\W.cell? ⟨w.heap.size+1,2,none⟩=some (int i64 a.un)/\W.cell? ⟨w.heap.size+1,3,none⟩=some (int i64 a.pers):=by
 refine ⟨?_,?_,?_,?_,?_,?_,?_⟩
 · rw [zc h.v];rfl
 · rw [zc h.v];rfl
 · rw [zc h.v];rfl
 · rw [zc h.a];rfl
 · rw [zc h.a];rfl
 · rw [zc h.a];rfl
 · rw [zc h.a];rfl
theorem MkB.setRow {w W:World}{v:Vr}{rv:Value}{a:Qx.Ask}{R:Array Value}(h:MkB w v rv a R W)(R':Array Value):MkB w v rv a R' (W.setRow (w.heap.size+1+1) R') := ⟨(Z06 _ _ _ _ (by omega)).trans h.v,(Z06 _ _ _ _ (by omega)).trans h.a,setRow_heap _ _ R R' _ _ h.r,Z1B h.b (by omega) _⟩
theorem Z7v {w W:World}{v:Vr}{rv:Value}{a:Qx.Ask}{q:Qt}{nv:Value}{er:Int}(h:MkB w v rv a (qtC q nv) W):∀ (tmps:Array Value),tmps[10]?.getD undef=.pointer (some ⟨w.heap.size+1+1,0,none⟩)->tmps[11]?.getD undef=int i64 er -> (results f16 tmps).run prog W=.ok (.tuple #[.agg (qtC q nv),int i64 er]) W:=by
 intro tmps G D;have T:W.heap[w.heap.size+1+1]?=_:=h.r;have k:=λi v (hv:(qtC q nv)[i]?=some v)=>(show W.cell? ⟨w.heap.size+1+1,i,none⟩=some v by rw [zc T,hv])
 have B:=k 0 (int i64 q.ver) rfl;have O:=k 1 (int i64 q.time) rfl;have N:=k 2 (int i64 q.total) rfl;have S:=k 3 (int i64 q.keep) rfl;have I:=k 4 (int i64 q.ask.kind) rfl;have J:=k 5 (int i64 q.ask.fr) rfl;have C:=k 6 (int i64 q.ask.un) rfl;have F:=k 7 (int i64 q.ask.pers) rfl;have M:=k 8 nv rfl;have L:=k 9 (.int .u64 (q.dig:Nat)) rfl;have R:=k 10 (int i64 q.sE) rfl;have H:=k 11 (int i64 q.sS) rfl;simp [results,results16,go_sem,G,D,B,O,N,S,I,J,C,F,M,L,R,H,qtC]
theorem Z1f (w:World)(B:Nat):QtV w B (.agg (qtC Qt.zero (slice none 0 0))) Qt.zero:=⟨none,0,rfl,Z03.nil _ _ _⟩
theorem Zqy {Q:Qt}{v:Vr}{t B:Int}{a:Qx.Ask}{ns:List Int}{d:Nat}(D:ns.length<=60)(C:(⟨v.num,t,ns.sum,B,a,ns,d,0,0⟩:Qt)=Q):Q.says.length<=1000:=by
 subst C;simp [Qt.says];omega
theorem Znp {Q:Qt}{v:Vr}{t D:Int}{a:Qx.Ask}{ns:List Int}{d:Nat}(_hub:useB v.rs=true)(G:useB v.rs=true/\a.okB=true/\Z0c v.rs a (a.un - a.fr).toNat a.fr=.ok (ns,D)/\ns.sum<=1000000000)(C:Z0d v.rs a=.ok (ns,D))(g:0<=t/\t<=1000000000)(V:1<=v.num/\v.num<=1000000)(O:d<18446744073709551616) (H:(⟨v.num,t,ns.sum,D,a,ns,d,0,0⟩:Qt)=Q):∀ x∈Q.says,-9223372036854775808<=x/\x<=9223372036854775807:=by
 subst H;obtain ⟨J,N,Y,T,_⟩:=Z3k C;have Z:=Z6n C;have F:=Z69 C;obtain ⟨M,X,f,U,I,R,L,S⟩:=Z1u G.2.1;intro x B;simp only [Qt.says,zC,zD,List.not_mem_nil,or_false] at B;rcases B with (B | B) | B
 · rcases B with rfl | rfl | rfl | rfl | rfl | rfl | rfl | rfl | rfl
   all_goals (try dsimp only);omega
 · have:=F x B;omega
 · rcases B with rfl | rfl
   all_goals omega
def MkP (x:Qt × Int)(w:World)(e:Ending)(w':World):Prop := ∃ QV,e=.returned (.tuple #[QV,int i64 x.2])/\QtV w' w'.heap.size QV x.1/\Below w.heap.size w w'
theorem Zcq (v:Vr)(a:Qx.Ask)(t s o:Int)(V:Value)(w:World)(hV:VrV w w.heap.size V v)(ht:Tabs w.heap.size w) : Calls prog 16 #[V,askV a,int i64 t,int i64 s,int i64 o] w (MkP (Z48 v a t s o) w):=by
 have bu:=λW (hb:Below w.heap.size w W)=>Z40 v V W (by obtain ⟨A,c,rfl,h⟩:=hV;exact ⟨A,c,rfl,(h.on hb).up hb.size⟩) (Z28 ht hb);have bm:=λW (hb:Below w.heap.size w W)=>Zcr v a t v.dig V W (by obtain ⟨A,c,rfl,h⟩:=hV;exact ⟨A,c,rfl,(h.on hb).up hb.size⟩);have bK:=λW l U (hb:Below w.heap.size w W) h1 h2 h3=>Zd6 s o U l w.heap.size W h1 h2 h3 (ht.on hb);have b7:=λW=>Z72 t W;have bA:=@Ze1 v a t s o;have bF:=@Z6k v a t s o;have bO:=λe (h:Z0d v.rs a=.error e)=>Z45 h;have bV:=λns G (h:Z0d v.rs a=.ok (ns,G))=>Z80 h;obtain ⟨A,c,rfl,hR⟩:=hV;have bt:=MkB.new w v (slice A v.rs.length c) a (qtC Qt.zero (slice none 0 0));obtain ⟨M,N⟩:∃ M,Z48 v a t s o=M:=⟨_,rfl⟩
 rw [N] at bA bF |-
 clear N;unfold vrV at bu bm |-
 obtain ⟨f,g,q2,q3,j,y,q6⟩:=bt.cells;simp only [askV,qtC,Qt.zero] at bm bt f g q2 q3 j y q6 |-
 have HB:=zh bt;have b2:=zh bu;have b3:=zh bm;have b1:=zh bK;have b0:=zh b7;have bp:=zh bA;have bM:=zh bF;have ca:=zh bO;have bJ:=zh bV;have HR:=zh hR;have HT:=zh ht;clear bt bu bm bK b7 bA bF bO bV hR ht;go_enter func16,ntmps16;go_wp2_with fail;refine (b2.out _ HB.out.b).mono ?_;rintro e w2 ⟨bR,rfl⟩;have bG:=HB.out.on bR;obtain ⟨f,g,q2,q3,j,y,q6⟩:=bG.cells;have m:=zh bG;clear bG bR HB b2;cases h1:v.okB with
 | false =>obtain rfl:=bp.out (λh=>by rw [h1] at h;simp at h);simp only [Bool.false_eq_true,if_false,if_true,Option.getD_none];have B:=m.out.setRow (qtC Qt.zero (slice none 0 0));have C:=Z7v (er:=1) B;have D:=m.out.r;have F:=Z0z Qt.zero none 0 0;simp only [qtC,Qt.zero] at B C D F;have J:=zh B;have L:=zh C;have O:=zh D;clear B C D;go_wp2_with (refine Z08 rfl _ _ rfl (w.heap.size+1+1) _ _ rfl rfl O.out rfl rfl F ?_);refine bodyPost_ret (v:=.tuple #[.agg (qtC Qt.zero (slice none 0 0)),int i64 1]) (L.out _ rfl rfl) rfl ?_;exact ⟨_,rfl,Z1f _ _,J.out.b⟩
 | true =>
  simp only [if_true,Option.getD_some];obtain ⟨bS,cz,cK,cm,cu⟩:=ZaE h1;go_wp2_with fail;refine (b0.out _).mono ?_;rintro e w' ⟨rfl,rfl⟩;cases h2:Z1E t with
  | false =>obtain rfl:=bp.out (λh=>by rw [h2] at h;simp at h);have B:=m.out.setRow (qtC Qt.zero (slice none 0 0));have C:=Z7v (er:=1) B;have D:=m.out.r;have F:=Z0z Qt.zero none 0 0;simp only [qtC,Qt.zero] at B C D F;have J:=zh B;have L:=zh C;have O:=zh D;clear B C D;go_wp2_with (refine Z08 rfl _ _ rfl (w.heap.size+1+1) _ _ rfl rfl O.out rfl rfl F ?_);refine bodyPost_ret (v:=.tuple #[.agg (qtC Qt.zero (slice none 0 0)),int i64 1]) (L.out _ rfl rfl) rfl ?_;exact ⟨_,rfl,Z1f _ _,J.out.b⟩
  | true =>
   have cj:0<=t/\t<=1000000000:=by simpa [Z1E] using h2
   have d:=b1.out w2 [] (slice none 0 0) m.out.b (Z03.nil _ _ _) (by simp) (by simp);unfold Zpd at d;by_cases h3:(secB s&&secB o)=true
   · rw [zp h3] at d;obtain ⟨bY,bP⟩:=Bool.and_eq_true_iff.1 h3;generalize ((sigE s.toNat o.toNat []:Nat):Int)=E0 at d;generalize ((sigS s.toNat o.toNat []:Nat):Int)=S0 at d;have bf:=zh d;clear d;go_wp2_with fail;refine (bf.out).mono ?_;rintro e w3 ⟨rfl,ba⟩;have bb:=m.out.on (ba.trans (((zr w3.heap.size w3).alloc (zn _) (.cells #[int i64 E0,int i64 S0] 30)).mono ba.size));obtain ⟨f,g,q2,q3,j,y,q6⟩:=bb.cells;have bZ:=b3.out _ bb.b;have HB4:=zh bb;have bj:=zh bZ;clear bb bZ ba bf b3 b0 m;go_wp2_with fail;refine bj.out.mono ?_;intro e w5 hh;obtain ⟨bq,hh⟩:=hh;have bd:=HB4.out.on bq;cases hX:Z0d v.rs a with
     | error er =>
      rw [hX] at hh;dsimp only at hh;subst hh;obtain ⟨e0,e1,e2⟩:=ca.out er hX;have T:=bd.on ((zr w5.heap.size w5).alloc (zn _) (.cells (qtC Qt.zero (slice none 0 0)) 89));have Z:=Z0z Qt.zero none 0 0;obtain ⟨f,g,q2,q3,j,y,q6⟩:=T.cells;simp only [qtC,Qt.zero,Int.natCast_zero] at T Z f g q2 q3 j y q6 |-
      have S:=zh T;clear T bd HB4 bj bq;cases h4:a.okB with
      | false =>obtain rfl:=e2 h4;obtain rfl:=bp.out (λh=>by rw [h4] at h;simp at h);have B:=S.out.setRow (qtC Qt.zero (slice none 0 0));have C:=Z7v (er:=1) B;have D:=S.out.r;have F:=Z0z Qt.zero none 0 0;simp only [qtC,Qt.zero] at B C D F;have J:=zh B;have L:=zh C;have O:=zh D;clear B C D;go_wp2_with (first | (refine Z0n rfl _ _ rfl _ _ rfl rfl rfl rfl Z ?_) | refine Z08 rfl _ _ rfl (w.heap.size+1+1) _ _ rfl rfl O.out rfl rfl F ?_);refine bodyPost_ret (v:=.tuple #[.agg (qtC Qt.zero (slice none 0 0)),int i64 1]) (L.out _ rfl rfl) rfl ?_;exact ⟨_,rfl,Z1f _ _,J.out.b⟩
      | true =>
       have N:=bM.out h1 h4 h2 bY bP;have ce:=e1 bS h4;have d1:(er==1)=false:=by simpa using ce
       have d2:(er != 0)=true:=by simpa using e0
       by_cases h5:t<v.time
       · have d3:decide (t<v.time)=true:=by simpa using h5
         rw [zp h5] at N;subst N;have B:=S.out.setRow (qtC Qt.zero (slice none 0 0));have C:=Z7v (er:=6) B;have D:=S.out.r;have F:=Z0z Qt.zero none 0 0;simp only [qtC,Qt.zero] at B C D F;have J:=zh B;have L:=zh C;have O:=zh D;clear B C D;go_wp2_with (first | (refine Z0n rfl _ _ rfl _ _ rfl rfl rfl rfl Z ?_) | refine Z08 rfl _ _ rfl (w.heap.size+1+1) _ _ rfl rfl O.out rfl rfl F ?_);refine bodyPost_ret (v:=.tuple #[.agg (qtC Qt.zero (slice none 0 0)),int i64 6]) (L.out _ rfl rfl) rfl ?_;exact ⟨_,rfl,Z1f _ _,J.out.b⟩
       · have d3:decide (t<v.time)=false:=by simpa using h5
         rw [zf h5,ZaF hX] at N;subst N;have B:=S.out.setRow (qtC Qt.zero (slice none 0 0));have C:=Z7v (er:=er) B;have D:=S.out.r;have F:=Z0z Qt.zero none 0 0;simp only [qtC,Qt.zero] at B C D F;have J:=zh B;have L:=zh C;have O:=zh D;clear B C D;go_wp2_with (first | (refine Z0n rfl _ _ rfl _ _ rfl rfl rfl rfl Z ?_) | refine Z08 rfl _ _ rfl (w.heap.size+1+1) _ _ rfl rfl O.out rfl rfl F ?_);refine bodyPost_ret (v:=.tuple #[.agg (qtC Qt.zero (slice none 0 0)),int i64 er]) (L.out _ rfl rfl) rfl ?_;exact ⟨_,rfl,Z1f _ _,J.out.b⟩
     | ok p =>
      obtain ⟨ns,G⟩:=p;rw [hX] at hh;obtain ⟨H,rfl,bH,cg⟩:=hh;have h4:=(bJ.out ns G hX).2.1;have N:=bM.out h1 h4 h2 bY bP;have ch:=Z6n hX;have T:=bd.on ((zr w5.heap.size w5).alloc (zn _) (.cells (qtC ⟨v.num,t,ns.sum,G,a,ns,v.dig,0,0⟩ (slice H ns.length ns.length)) 89));have Z:=Z0z ⟨v.num,t,ns.sum,G,a,ns,v.dig,0,0⟩ H ns.length ns.length;obtain ⟨f,g,q2,q3,j,y,q6⟩:=T.cells;by_cases h5:t<v.time
      · have d3:decide (t<v.time)=true:=by simpa using h5
        rw [zp h5] at N;subst N;simp only [qtC] at T Z f g q2 q3 j y q6 |-
        have S:=zh T;clear T bd HB4 bj bq;have B:=S.out.setRow (qtC Qt.zero (slice none 0 0));have C:=Z7v (er:=6) B;have D:=S.out.r;have F:=Z0z Qt.zero none 0 0;simp only [qtC,Qt.zero] at B C D F;have J:=zh B;have L:=zh C;have O:=zh D;clear B C D;go_wp2_with (first | (refine Z0n rfl _ _ rfl _ _ rfl rfl rfl rfl Z ?_) | refine Z08 rfl _ _ rfl (w.heap.size+1+1) _ _ rfl rfl O.out rfl rfl F ?_);refine bodyPost_ret (v:=.tuple #[.agg (qtC Qt.zero (slice none 0 0)),int i64 6]) (L.out _ rfl rfl) rfl ?_;exact ⟨_,rfl,Z1f _ _,J.out.b⟩
      · have d3:decide (t<v.time)=false:=by simpa using h5
        rw [zf h5,Z85 hX] at N;dsimp only at N;have bC:=Zcp v;generalize v.dig=I at *
        obtain ⟨Q,hQ⟩:∃ Q:Qt,(⟨v.num,t,ns.sum,G,a,ns,I,0,0⟩:Qt)=Q:=⟨_,rfl⟩
        have b6:=Znp bS (bJ.out ns G hX) hX cj ⟨cm,cu⟩ bC hQ;have cF:=Zqy ch hQ;have cC:Q.nights=ns:=by rw [<- hQ]
        have cA:Q.dig<18446744073709551616:=by rw [<- hQ];exact bC
        rw [hQ] at N;have bB:=za w5 (.cells (qtC ⟨v.num,t,ns.sum,G,a,ns,I,0,0⟩ (slice H ns.length ns.length)) 89);have bg:=(zr w5.heap.size w5).alloc (zn _) (.cells (qtC ⟨v.num,t,ns.sum,G,a,ns,I,0,0⟩ (slice H ns.length ns.length)) 89);have cc:∀ p,H=some p->w.heap.size+3<=p.block:=λp e=>by
         have h1:=cg p e;have h2:=(zs HB4.out.r)
         omega
        have ck:(⟨v.num,t,ns.sum,G,a,ns,I,0,0⟩:Qt).says=Q.says:=by rw [hQ]
        have bU:QtV (w5.alloc (.cells (qtC ⟨v.num,t,ns.sum,G,a,ns,I,0,0⟩ (slice H ns.length ns.length)) 89)) (w5.alloc (.cells (qtC ⟨v.num,t,ns.sum,G,a,ns,I,0,0⟩ (slice H ns.length ns.length)) 89)).heap.size (.agg (qtC ⟨v.num,t,ns.sum,G,a,ns,I,0,0⟩ (slice H ns.length ns.length))) ⟨v.num,t,ns.sum,G,a,ns,I,0,0⟩:=⟨H,ns.length,rfl,(bH.on bg).up bg.size⟩
        have br:=Z89 ⟨v.num,t,ns.sum,G,a,ns,I,0,0⟩ _ _ bU bC (by show ns.length<=50000;omega);rw [ck] at br;simp only [qtC] at T Z f g q2 q3 j y q6 bB br bg |-
        have b8:=bd.r;have S:=zh T;have bX:=zh br;have be:=zh bB;have ct:=zh bH;have HQ:=zh hQ;have cf:=zh b6;have cs:=zh b8;clear T br bB bH hQ b6 b8 bd HB4 bj bq bU;go_wp2_with (first | (refine Z0n rfl _ _ rfl _ _ rfl rfl rfl rfl Z ?_) | (with_reducible refine Z98 rfl _ rfl w5.heap.size rfl _ rfl _ be.out ?_));generalize w5.alloc (.cells #[int i64 v.num,int i64 t,int i64 ns.sum,int i64 G,int i64 a.kind,int i64 a.fr,int i64 a.un,int i64 a.pers,slice H ns.length ns.length,.int .u64 (I:Nat),int i64 0,int i64 0] 89)=w6 at *
        refine bX.out.mono ?_;rintro e w7 ⟨r7,rfl,b4,bs⟩;have bI:=S.out.on bs;have bk:=b1.out w7 Q.says r7 bI.b b4 (by omega) cf.out;unfold Zpd at bk;rw [zp h3] at bk;have bL:=(bs.block _ (zs be.out)).trans be.out;have b9:((sigE s.toNat o.toNat Q.says:Nat):Int)=((sigE s.toNat o.toNat Q.says:Nat):Int):=rfl;generalize ((sigE s.toNat o.toNat Q.says:Nat):Int)=Y at *
        generalize ((sigS s.toNat o.toNat Q.says:Nat):Int)=X at *
        have cy:w5.heap.size<w6.heap.size:=(zs be.out)
        have cr:Below w5.heap.size w5 w7:=bg.trans (bs.mono (by omega));have bQ:=zh bk;have bW:=zh bI;have bn:=zh bL;clear bk bI bL bs b4 bX S be b9 bg;go_wp2_with fail;refine bQ.out.mono ?_;rintro e q ⟨rfl,bh⟩;have bx:=bW.out.on bh;have bc:=(bh.block _ (zs bn.out)).trans bn.out;have cH:w5.heap.size<w7.heap.size:=(zs bn.out)
        have cd:Below w5.heap.size w5 q:=cr.trans (bh.mono (by omega));have bN:w.heap.size+3<=w5.heap.size:=by have:=(zs cs.out);omega
        have cI:q.cell? ⟨w5.heap.size,10,none⟩=some (int i64 0):=by rw [zc bc];rfl
        have cG:q.cell? ⟨w5.heap.size,11,none⟩=some (int i64 0):=by rw [zc bc];rfl
        have cJ:q.frozen? ⟨w5.heap.size,10,none⟩=false:=by simp [World.frozen?,bc]
        have cD:q.frozen? ⟨w5.heap.size,11,none⟩=false:=by simp [World.frozen?,bc]
        have bD:((q.setCell ⟨w5.heap.size,10,none⟩ (int i64 Y)).setCell ⟨w5.heap.size,11,none⟩ (int i64 X)).heap[w5.heap.size]?=some (.cells (qtC ⟨v.num,t,ns.sum,G,a,ns,I,Y,X⟩ (slice H ns.length ns.length)) 89 (0,0)):=by simp [World.setCell,zM,bc,qtC]
        have bv:=bx.far (((zr (w.heap.size+3) q).setCell (p:=⟨w5.heap.size,10,none⟩) bN (int i64 Y)).setCell (p:=⟨w5.heap.size,11,none⟩) bN (int i64 X));have b5:=(cd.setCell (p:=⟨w5.heap.size,10,none⟩) (zn _) (int i64 Y)).setCell (p:=⟨w5.heap.size,11,none⟩) (zn _) (int i64 X);have bE:=(ct.out.on b5).setRow' (R:=qtC ⟨v.num,t,ns.sum,G,a,ns,I,Y,X⟩ (slice H ns.length ns.length)) cc;have B:=bv.setRow (qtC ⟨v.num,t,ns.sum,G,a,ns,I,Y,X⟩ (slice H ns.length ns.length));have C:=Z7v (er:=0) B;have bz:=bv.r;have F:=Z0z ⟨v.num,t,ns.sum,G,a,ns,I,Y,X⟩ H ns.length ns.length;have bT:=(Z3j ((q.setCell ⟨w5.heap.size,10,none⟩ (int i64 Y)).setCell ⟨w5.heap.size,11,none⟩ (int i64 X)) (w.heap.size+1+1) (qtC ⟨v.num,t,ns.sum,G,a,ns,I,Y,X⟩ (slice H ns.length ns.length)))
        have cb:=b5.size;simp only [qtC] at bD B C bz F bE bT;have cn:=zh bD;have J:=zh B;have L:=zh C;have cx:=zh bz;have cv:=zh bE;have cB:=zh bx;have cE:=zh bc;clear bD B C bz bE bx bc bh bv bQ bW bn;go_wp2_with (first | (with_reducible refine Z0g rfl _ rfl w5.heap.size rfl _ rfl _ cn.out ?_) | (refine Z08 rfl _ _ rfl (w.heap.size+1+1) _ _ rfl rfl cx.out rfl rfl F ?_));refine bodyPost_ret (v:=.tuple #[.agg (qtC ⟨v.num,t,ns.sum,G,a,ns,I,Y,X⟩ (slice H ns.length ns.length)),int i64 0]) (L.out _ rfl rfl) rfl ?_;obtain rfl:=HQ.out;subst N;exact ⟨_,rfl,⟨H,ns.length,rfl,cv.out.up (Nat.le_trans cb (Nat.le_of_eq bT.symm))⟩,J.out.b⟩
   · rw [zf h3] at d;obtain rfl:=bp.out (λh=>h3 (by rw [h.2.2.2.1,h.2.2.2.2];rfl));have bf:=zh d;clear d;go_wp2_with fail;refine (bf.out).mono ?_;rintro e w3 ⟨rfl,ba⟩;have bb:=m.out.on (ba.trans (((zr w3.heap.size w3).alloc (zn _) (.cells #[int i64 0,int i64 0] 30)).mono ba.size));have HB4:=zh bb;clear bb ba bf;have B:=HB4.out.setRow (qtC Qt.zero (slice none 0 0));have C:=Z7v (er:=1) B;have D:=HB4.out.r;have F:=Z0z Qt.zero none 0 0;simp only [qtC,Qt.zero] at B C D F;have J:=zh B;have L:=zh C;have O:=zh D;clear B C D;go_wp2_with (refine Z08 rfl _ _ rfl (w.heap.size+1+1) _ _ rfl rfl O.out rfl rfl F ?_);refine bodyPost_ret (v:=.tuple #[.agg (qtC Qt.zero (slice none 0 0)),int i64 1]) (L.out _ rfl rfl) rfl ?_;exact ⟨_,rfl,Z1f _ _,J.out.b⟩
end
section
open Go.RowKit Lx Px Qx
theorem Zqz (l m:List Int):(l==m)=decide (l=m):=by
 by_cases h:l=m
 · subst h;simp
 · rw [decide_eq_false h];simpa using h
theorem Zk1 (v u:Value)(l m:List Int)(B:Nat)(w:World)(I:Z03 w B v l)(M:Z03 w B u m)(N:l.length<=1000000)(O:m.length<=1000000) : Calls prog 94 #[v,u] w λe w'=>e=.returned (.bool (decide (l=m)))/\Below w.heap.size w w':=by
 obtain ⟨A,c,rfl,L⟩:=I;obtain ⟨C,c',rfl,F⟩:=M;by_cases h0:l=[]
 · subst h0;refine (Tryz.slices_Equal_int_empty A C c m.length c' w (by omega)).mono ?_;rintro e w' ⟨rfl,rfl⟩;refine ⟨?_,zr _ _⟩;cases m <;> simp
 · by_cases h1:l.length=m.length
   · obtain ⟨b,o,rfl,_,D⟩:=L h0;obtain ⟨G,J,rfl,_,H⟩:=F (by intro e;subst e;simp at h1;exact h0 h1);refine (Tryz.slices_Equal_int b o l.length c G J m.length c' l m w (zn _) (zn _) (by omega) (by omega) (λj hj=>by rw [D j hj,List.getD_eq_getElem?_getD,zv hj];rfl) (λj hj=>by rw [H j hj,List.getD_eq_getElem?_getD,zv hj];rfl)).mono ?_;rintro e w' ⟨rfl,q,rfl⟩;refine ⟨?_,⟨rfl,rfl,rfl,zn _,λ_ _=>rfl⟩⟩;rw [List.take_length,List.take_length,Zqz]
   · refine (Tryz.slices_Equal_int_lens A C l.length c m.length c' w h1).mono ?_;rintro e w' ⟨rfl,rfl⟩;refine ⟨?_,zr _ _⟩;rw [decide_eq_false (by rintro rfl;exact h1 rfl)]
structure IsK (w:World) (P:Array Value) (PV:Value) (pn:List Int) (Q:Array Value) (QV:Value) (qn:List Int) (W:World):Prop where
 p:W.heap[w.heap.size]?=some (.cells P 89 (0,0))
 q:W.heap[w.heap.size+1]?=some (.cells Q 89 (0,0))
 i:Z03 W W.heap.size PV pn
 j:Z03 W W.heap.size QV qn
 b:Below w.heap.size w W
theorem IsK.on {w W B:World}{P Q:Array Value}{G D:Value}{C F:List Int}(h:IsK w P G C Q D F W)(hb:Below W.heap.size W B):IsK w P G C Q D F B := ⟨(hb.block _ (zs h.p)).trans h.p,(hb.block _ (zs h.q)).trans h.q,(h.i.on hb).up hb.size,(h.j.on hb).up hb.size,Z00 h.b hb⟩
theorem IsK.drew {w W:World}{P Q:Array Value}{B C:Value}{F D:List Int}(h:IsK w P B F Q C D W):IsK w P B F Q C D W.drew:=h.on (zr _ _).drew
theorem IsK.new (w:World){P Q:Array Value}{F C:Value}{B D:List Int}(h:Z03 w w.heap.size F B)(G:Z03 w w.heap.size C D):IsK w P F B Q C D ((w.alloc (.cells P 89)).alloc (.cells Q 89)):=by
 have hb:=((zr w.heap.size w).alloc (zn _) (.cells P 89)).alloc (by simp) (.cells Q 89);refine ⟨Z0A (za w _) _,?_,(h.on hb).up hb.size,(G.on hb).up hb.size,hb⟩;have:=za (w.alloc (.cells P 89)) (.cells Q 89);rwa [zk] at this
theorem IsK.cp {w W:World}{P Q:Array Value}{G C:Value}{B D:List Int}(h:IsK w P G B Q C D W)(i:Nat)(v:Value)(F:P[i]?=some v):W.cell? ⟨w.heap.size,i,none⟩=some v:=by rw [zc h.p,F]
theorem IsK.cq {w W:World}{P Q:Array Value}{G C:Value}{B D:List Int}(h:IsK w P G B Q C D W)(i:Nat)(v:Value)(F:Q[i]?=some v):W.cell? ⟨w.heap.size+1,i,none⟩=some v:=by rw [zc h.q,F]
theorem Zh6 (p q:Qt)(V U:Value)(w:World)(hV:QtV w w.heap.size V p)(hU:QtV w w.heap.size U q)(hd:p.dig<18446744073709551616)(bE:q.dig<18446744073709551616)(hn:p.nights.length<=50000)(bH:q.nights.length<=50000) : Calls prog 56 #[V,U] w λe w'=>e=.returned (.bool (p.same q))/\Below w.heap.size w w':=by
 obtain ⟨D,H,rfl,hI⟩:=hV;obtain ⟨G,F,rfl,hJ⟩:=hU;have bA:=λW (h:Z03 W W.heap.size (slice D p.nights.length H) p.nights)=>Z89 p (qtV p (slice D p.nights.length H)) W ⟨D,H,rfl,h⟩ hd hn;have bz:=λW (h:Z03 W W.heap.size (slice G q.nights.length F) q.nights)=>Z89 q (qtV q (slice G q.nights.length F)) W ⟨G,F,rfl,h⟩ bE bH;have bQ:p.says.length<=1000000:=by simp [Qt.says];omega
 have bS:q.says.length<=1000000:=by simp [Qt.says];omega
 have bC:=λW v u (h1:Z03 W W.heap.size v p.says) (h2:Z03 W W.heap.size u q.says)=>Zk1 v u p.says q.says W.heap.size W h1 h2 bQ bS;have bc:=Qt.same_says p q;obtain ⟨R,hR⟩:∃ R,p.same q=R:=⟨_,rfl⟩
 rw [hR] at bc |-
 clear hR;generalize decide (p.says=q.says)=bs at *
 generalize p.says=bP at *
 generalize q.says=bT at *
 obtain ⟨pv,y,A,Y,⟨M,L,J,N⟩,C,I,d,f⟩:=p;obtain ⟨m,T,Z,l,⟨k2,f2,u2,s2⟩,B,qd,X,g⟩:=q;simp only [qtV] at bA bz hI hJ |-
 simp only at bc hd bE hn bH;have bJ:=IsK.new w (P:=#[int i64 pv,int i64 y,int i64 A,int i64 Y,int i64 M,int i64 L,int i64 J,int i64 N,slice D C.length H,.int .u64 (I:Nat),int i64 d,int i64 f]) (Q:=#[int i64 m,int i64 T,int i64 Z,int i64 l,int i64 k2,int i64 f2,int i64 u2,int i64 s2,slice G B.length F,.int .u64 (qd:Nat),int i64 X,int i64 g]) hI hJ
 have ba:Hid (∀ wx,IsK w #[int i64 pv,int i64 y,int i64 A,int i64 Y,int i64 M,int i64 L,int i64 J,int i64 N,slice D C.length H,.int .u64 (I:Nat),int i64 d,int i64 f] (slice D C.length H) C #[int i64 m,int i64 T,int i64 Z,int i64 l,int i64 k2,int i64 f2,int i64 u2,int i64 s2,slice G B.length F,.int .u64 (qd:Nat),int i64 X,int i64 g] (slice G B.length F) B wx->wx.cell? ⟨w.heap.size,0,none⟩=some (int i64 pv)/\wx.cell? ⟨w.heap.size,1,none⟩=some (int i64 y)/\wx.cell? ⟨w.heap.size,2,none⟩=some (int i64 A)/\wx.cell? ⟨w.heap.size,3,none⟩=some (int i64 Y)/\wx.cell? ⟨w.heap.size,4,none⟩=some (int i64 M)/\wx.cell? ⟨w.heap.size,5,none⟩=some (int i64 L)/\wx.cell? ⟨w.heap.size,6,none⟩=some (int i64 J)/\wx.cell? ⟨w.heap.size,7,none⟩=some (int i64 N)/\wx.cell? ⟨w.heap.size,8,none⟩=some (slice D C.length H)/\wx.cell? ⟨w.heap.size,9,none⟩=some (.int .u64 (I:Nat))/\wx.cell? ⟨w.heap.size,10,none⟩=some (int i64 d)/\wx.cell? ⟨w.heap.size,11,none⟩=some (int i64 f)/\wx.cell? ⟨w.heap.size+1,0,none⟩=some (int i64 m)/\wx.cell? ⟨w.heap.size+1,1,none⟩=some (int i64 T)/\wx.cell? ⟨w.heap.size+1,2,none⟩=some (int i64 Z)/\wx.cell? ⟨w.heap.size+1,3,none⟩=some (int i64 l)/\wx.cell? ⟨w.heap.size+1,4,none⟩=some (int i64 k2)/\wx.cell? ⟨w.heap.size+1,5,none⟩=some (int i64 f2)/\wx.cell? ⟨w.heap.size+1,6,none⟩=some (int i64 u2)/\wx.cell? ⟨w.heap.size+1,7,none⟩=some (int i64 s2)/\wx.cell? ⟨w.heap.size+1,8,none⟩=some (slice G B.length F)/\wx.cell? ⟨w.heap.size+1,9,none⟩=some (.int .u64 (qd:Nat))/\wx.cell? ⟨w.heap.size+1,10,none⟩=some (int i64 X)/\wx.cell? ⟨w.heap.size+1,11,none⟩=some (int i64 g)/\IsK w #[int i64 pv,int i64 y,int i64 A,int i64 Y,int i64 M,int i64 L,int i64 J,int i64 N,slice D C.length H,.int .u64 (I:Nat),int i64 d,int i64 f] (slice D C.length H) C #[int i64 m,int i64 T,int i64 Z,int i64 l,int i64 k2,int i64 f2,int i64 u2,int i64 s2,slice G B.length F,.int .u64 (qd:Nat),int i64 X,int i64 g] (slice G B.length F) B wx):=λwx h=>⟨h.cp 0 _ rfl,h.cp 1 _ rfl,h.cp 2 _ rfl,h.cp 3 _ rfl,h.cp 4 _ rfl,h.cp 5 _ rfl,h.cp 6 _ rfl,h.cp 7 _ rfl,h.cp 8 _ rfl,h.cp 9 _ rfl,h.cp 10 _ rfl,h.cp 11 _ rfl,h.cq 0 _ rfl,h.cq 1 _ rfl,h.cq 2 _ rfl,h.cq 3 _ rfl,h.cq 4 _ rfl,h.cq 5 _ rfl,h.cq 6 _ rfl,h.cq 7 _ rfl,h.cq 8 _ rfl,h.cq 9 _ rfl,h.cq 10 _ rfl,h.cq 11 _ rfl,h⟩
 have bN:Hid (∀ wx,IsK w #[int i64 pv,int i64 y,int i64 A,int i64 Y,int i64 M,int i64 L,int i64 J,int i64 N,slice D C.length H,.int .u64 (I:Nat),int i64 d,int i64 f] (slice D C.length H) C #[int i64 m,int i64 T,int i64 Z,int i64 l,int i64 k2,int i64 f2,int i64 u2,int i64 s2,slice G B.length F,.int .u64 (qd:Nat),int i64 X,int i64 g] (slice G B.length F) B wx->Calls prog 51 #[.agg #[int i64 pv,int i64 y,int i64 A,int i64 Y,int i64 M,int i64 L,int i64 J,int i64 N,slice D C.length H,.int .u64 (I:Nat),int i64 d,int i64 f]] wx λe w'=>∃ r,e=.returned r/\Z03 w' w'.heap.size r bP/\Below wx.heap.size wx w'):=λwx h=>bA wx h.i;have bO:Hid (∀ wx,IsK w #[int i64 pv,int i64 y,int i64 A,int i64 Y,int i64 M,int i64 L,int i64 J,int i64 N,slice D C.length H,.int .u64 (I:Nat),int i64 d,int i64 f] (slice D C.length H) C #[int i64 m,int i64 T,int i64 Z,int i64 l,int i64 k2,int i64 f2,int i64 u2,int i64 s2,slice G B.length F,.int .u64 (qd:Nat),int i64 X,int i64 g] (slice G B.length F) B wx->Calls prog 51 #[.agg #[int i64 m,int i64 T,int i64 Z,int i64 l,int i64 k2,int i64 f2,int i64 u2,int i64 s2,slice G B.length F,.int .u64 (qd:Nat),int i64 X,int i64 g]] wx λe w'=>∃ r,e=.returned r/\Z03 w' w'.heap.size r bT/\Below wx.heap.size wx w'):=λwx h=>bz wx h.j;have O:=zh bJ;have bM:=zh bC;have bb:=zh bc;clear bJ bC bc bA bz hI hJ;by_cases h0:M=k2
 · subst h0;by_cases h1:L=f2
   · subst h1;by_cases h2:J=u2
     · subst h2;by_cases h3:N=s2
       · subst h3;by_cases hdd:I=qd
         · subst hdd;obtain rfl:R=bs:=by rw [<- bb.out];simp
           go_enter func56,ntmps56;go_wp2_with fail;go_region_held3 (λw'=>w'.cell? ⟨w.heap.size,0,none⟩=some (int i64 pv)/\w'.cell? ⟨w.heap.size,1,none⟩=some (int i64 y)/\w'.cell? ⟨w.heap.size,2,none⟩=some (int i64 A)/\w'.cell? ⟨w.heap.size,3,none⟩=some (int i64 Y)/\w'.cell? ⟨w.heap.size,4,none⟩=some (int i64 M)/\w'.cell? ⟨w.heap.size,5,none⟩=some (int i64 L)/\w'.cell? ⟨w.heap.size,6,none⟩=some (int i64 J)/\w'.cell? ⟨w.heap.size,7,none⟩=some (int i64 N)/\w'.cell? ⟨w.heap.size,8,none⟩=some (slice D C.length H)/\w'.cell? ⟨w.heap.size,9,none⟩=some (.int .u64 (I:Nat))/\w'.cell? ⟨w.heap.size,10,none⟩=some (int i64 d)/\w'.cell? ⟨w.heap.size,11,none⟩=some (int i64 f)/\w'.cell? ⟨w.heap.size+1,0,none⟩=some (int i64 m)/\w'.cell? ⟨w.heap.size+1,1,none⟩=some (int i64 T)/\w'.cell? ⟨w.heap.size+1,2,none⟩=some (int i64 Z)/\w'.cell? ⟨w.heap.size+1,3,none⟩=some (int i64 l)/\w'.cell? ⟨w.heap.size+1,4,none⟩=some (int i64 M)/\w'.cell? ⟨w.heap.size+1,5,none⟩=some (int i64 L)/\w'.cell? ⟨w.heap.size+1,6,none⟩=some (int i64 J)/\w'.cell? ⟨w.heap.size+1,7,none⟩=some (int i64 N)/\w'.cell? ⟨w.heap.size+1,8,none⟩=some (slice G B.length F)/\w'.cell? ⟨w.heap.size+1,9,none⟩=some (.int .u64 (I:Nat))/\w'.cell? ⟨w.heap.size+1,10,none⟩=some (int i64 X)/\w'.cell? ⟨w.heap.size+1,11,none⟩=some (int i64 g)/\IsK w #[int i64 pv,int i64 y,int i64 A,int i64 Y,int i64 M,int i64 L,int i64 J,int i64 N,slice D C.length H,.int .u64 (I:Nat),int i64 d,int i64 f] (slice D C.length H) C #[int i64 m,int i64 T,int i64 Z,int i64 l,int i64 M,int i64 L,int i64 J,int i64 N,slice G B.length F,.int .u64 (I:Nat),int i64 X,int i64 g] (slice G B.length F) B w') (first | (with_reducible exact ba.out _ O.out.drew) | (with_reducible exact ba.out _ L6) | (with_reducible exact ba.out _ L5) | (with_reducible exact ba.out _ L7) | fail) (first
             | (go_at_call 51;have hA:=(‹_/\_/\_/\_/\_/\_/\_/\_/\_/\_/\_/\_/\_/\_/\_/\_/\_/\_/\_/\_/\_/\_/\_/\_/\IsK w #[int i64 pv,int i64 y,int i64 A,int i64 Y,int i64 M,int i64 L,int i64 J,int i64 N,slice D C.length H,.int .u64 (I:Nat),int i64 d,int i64 f] (slice D C.length H) C #[int i64 m,int i64 T,int i64 Z,int i64 l,int i64 M,int i64 L,int i64 J,int i64 N,slice G B.length F,.int .u64 (I:Nat),int i64 X,int i64 g] (slice G B.length F) B _›).2.2.2.2.2.2.2.2.2.2.2.2.2.2.2.2.2.2.2.2.2.2.2.2;with_reducible refine (bN.out _ hA).mono ?_;rintro ex w5 ⟨r5,rfl,bL,bq⟩;have L5:=hA.on bq;have bF:=zh bL;clear bL;try (have bB:=(bG.out.on bq).up bq.size;have bU:=zh bB;clear bB);clear bq hA)
             | (go_at_call 51;have hA:=(‹_/\_/\_/\_/\_/\_/\_/\_/\_/\_/\_/\_/\_/\_/\_/\_/\_/\_/\_/\_/\_/\_/\_/\_/\IsK w #[int i64 pv,int i64 y,int i64 A,int i64 Y,int i64 M,int i64 L,int i64 J,int i64 N,slice D C.length H,.int .u64 (I:Nat),int i64 d,int i64 f] (slice D C.length H) C #[int i64 m,int i64 T,int i64 Z,int i64 l,int i64 M,int i64 L,int i64 J,int i64 N,slice G B.length F,.int .u64 (I:Nat),int i64 X,int i64 g] (slice G B.length F) B _›).2.2.2.2.2.2.2.2.2.2.2.2.2.2.2.2.2.2.2.2.2.2.2.2;with_reducible refine (bO.out _ hA).mono ?_;rintro ex w6 ⟨r6,rfl,bK,bg⟩;have L6:=hA.on bg;have bG:=zh bK;clear bK;try (have bD:=(bF.out.on bg).up bg.size;have bR:=zh bD;clear bD);clear bg hA)
             | (go_at_call 94;have hA:=(‹_/\_/\_/\_/\_/\_/\_/\_/\_/\_/\_/\_/\_/\_/\_/\_/\_/\_/\_/\_/\_/\_/\_/\_/\IsK w #[int i64 pv,int i64 y,int i64 A,int i64 Y,int i64 M,int i64 L,int i64 J,int i64 N,slice D C.length H,.int .u64 (I:Nat),int i64 d,int i64 f] (slice D C.length H) C #[int i64 m,int i64 T,int i64 Z,int i64 l,int i64 M,int i64 L,int i64 J,int i64 N,slice G B.length F,.int .u64 (I:Nat),int i64 X,int i64 g] (slice G B.length F) B _›).2.2.2.2.2.2.2.2.2.2.2.2.2.2.2.2.2.2.2.2.2.2.2.2;(first | (refine (bM.out _ _ _ bF.out bU.out).mono ?_) | (refine (bM.out _ _ _ bR.out bG.out).mono ?_));rintro ex w7 ⟨rfl,bI⟩;have L7:=hA.on bI;clear bI hA))
           all_goals have hA:=(‹_/\_/\_/\_/\_/\_/\_/\_/\_/\_/\_/\_/\_/\_/\_/\_/\_/\_/\_/\_/\_/\_/\_/\_/\IsK w #[int i64 pv,int i64 y,int i64 A,int i64 Y,int i64 M,int i64 L,int i64 J,int i64 N,slice D C.length H,.int .u64 (I:Nat),int i64 d,int i64 f] (slice D C.length H) C #[int i64 m,int i64 T,int i64 Z,int i64 l,int i64 M,int i64 L,int i64 J,int i64 N,slice G B.length F,.int .u64 (I:Nat),int i64 X,int i64 g] (slice G B.length F) B _›).2.2.2.2.2.2.2.2.2.2.2.2.2.2.2.2.2.2.2.2.2.2.2.2;go_wp2_with fail;go_ret;exact ⟨rfl,hA.b⟩
         · have d1:((I:Int)==(qd:Int))=false:=by simp;omega
           have d2:¬ ((I:Int)=(qd:Int)):=by omega
           obtain rfl:R=false:=by rw [<- bb.out];simp [hdd]
           obtain ⟨c0,c1,c2,c3,c4,c5,c6,c7,c8,c9,bx,bh,bt,bk,bf,bu,bp,bn,bd,br,be,bj,bm,bv,_⟩:=ba.out _ O.out;have S:=O.out.drew.b;have HD:=zh S;clear S O;go_enter func56,ntmps56;go_wp2_with fail;go_region
           all_goals go_wp2_with fail;go_ret;exact ⟨rfl,HD.out⟩
       · have d1:(N==s2)=false:=by simpa using h3
         obtain rfl:R=false:=by rw [<- bb.out];simp [h3]
         obtain ⟨c0,c1,c2,c3,c4,c5,c6,c7,c8,c9,bx,bh,bt,bk,bf,bu,bp,bn,bd,br,be,bj,bm,bv,_⟩:=ba.out _ O.out;have S:=O.out.drew.b;have HD:=zh S;clear S O;go_enter func56,ntmps56;go_wp2_with fail;go_region
         all_goals go_wp2_with fail;go_ret;exact ⟨rfl,HD.out⟩
     · have d1:(J==u2)=false:=by simpa using h2
       obtain rfl:R=false:=by rw [<- bb.out];simp [h2]
       obtain ⟨c0,c1,c2,c3,c4,c5,c6,c7,c8,c9,bx,bh,bt,bk,bf,bu,bp,bn,bd,br,be,bj,bm,bv,_⟩:=ba.out _ O.out;have S:=O.out.drew.b;have HD:=zh S;clear S O;go_enter func56,ntmps56;go_wp2_with fail;go_region
       all_goals go_wp2_with fail;go_ret;exact ⟨rfl,HD.out⟩
   · have d1:(L==f2)=false:=by simpa using h1
     obtain rfl:R=false:=by rw [<- bb.out];simp [h1]
     obtain ⟨c0,c1,c2,c3,c4,c5,c6,c7,c8,c9,bx,bh,bt,bk,bf,bu,bp,bn,bd,br,be,bj,bm,bv,_⟩:=ba.out _ O.out;have S:=O.out.drew.b;have HD:=zh S;clear S O;go_enter func56,ntmps56;go_wp2_with fail;go_region
     all_goals go_wp2_with fail;go_ret;exact ⟨rfl,HD.out⟩
 · have d1:(M==k2)=false:=by simpa using h0
   obtain rfl:R=false:=by rw [<- bb.out];simp [h0]
   obtain ⟨c0,c1,c2,c3,c4,c5,c6,c7,c8,c9,bx,bh,bt,bk,bf,bu,bp,bn,bd,br,be,bj,bm,bv,_⟩:=ba.out _ O.out;have S:=O.out.drew.b;have HD:=zh S;clear S O;go_enter func56,ntmps56;go_wp2_with fail;go_region
   all_goals go_wp2_with fail;go_ret;exact ⟨rfl,HD.out⟩
end
end Go.Proofs.YtnepkoepbapgeaaGreatDoor
