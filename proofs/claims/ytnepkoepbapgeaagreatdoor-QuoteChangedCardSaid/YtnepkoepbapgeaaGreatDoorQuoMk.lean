/-
  Walks: Make of package quote.
-/
import Derived.Test.YtnepkoepbapgeaaGreatDoorQuoDgt
import Derived.Test.YtnepkoepbapgeaaGreatDoorQuoPla
import Derived.Test.YtnepkoepbapgeaaGreatDoorQuoVfy
namespace Go.Proofs.YtnepkoepbapgeaaGreatDoor
set_option maxRecDepth 100000
open Go.RowKit Lx Px Qx
namespace Qx
theorem Znf {v:Vr}{a:Ask}{t s o:Int}(h:¬ (v.okB=true∧a.okB=true∧Z2g t=true∧secB s=true∧secB o=true)):Z5a v a t s o=(.zero,1):=by
 unfold Z5a
 rw [if_neg]
 intro hc
 simp only [Bool.and_eq_true] at hc
 exact h ⟨hc.1.1.1.1,hc.1.1.1.2,hc.1.1.2,hc.1.2,hc.2⟩
theorem Z9B {v:Vr}{a:Ask}{t s o:Int}(h1:v.okB=true)(h2:a.okB=true)(h3:Z2g t=true)(h4:secB s=true)(h5:secB o=true):Z5a v a t s o=if t<v.time then (.zero,6) else match Z2G v a t with
 | .error e=>(.zero,e)
 | .ok q=>({ q with sE:=sigE s.toNat o.toNat q.says,sS:=sigS s.toNat o.toNat q.says },0):=by
 unfold Z5a
 rw [if_pos (by rw [h1,h2,h3,h4,h5];rfl)]
 by_cases h:t<v.time
 · rw [if_pos h,if_pos h]
 · rw [if_neg h,if_neg h];cases Z2G v a t <;> rfl
theorem Z75 {v:Vr}(h:v.okB=true):useB v.rs=true∧0≤v.time∧v.time≤1000000000∧1≤v.num∧v.num≤1000000:=by
 unfold Vr.okB at h
 simp only [Bool.and_eq_true,decide_eq_true_eq,Z2g] at h
 exact ⟨h.1.2,h.1.1.2.1,h.1.1.2.2,h.1.1.1.1,h.1.1.1.2⟩
theorem Z9C {v:Vr}{a:Ask}{t:Int}{ns:List Int}{kp:Int}(h:Z0g v.rs a=.ok (ns,kp)):Z2G v a t=.ok ⟨v.num,t,ns.sum,kp,a,ns,v.dig,0,0⟩:=by unfold Z2G;rw [h]
theorem Zdv {v:Vr}{a:Ask}{t e:Int}(h:Z0g v.rs a=.error e):Z2G v a t=.error e:=by unfold Z2G;rw [h]
theorem Zb8 (v:Vr):v.dig<18446744073709551616:=Ze0 _ _
end Qx
structure MkB (w:World) (v:Vr) (rv:Value) (a:Qx.Ask) (R:Array Value) (W:World):Prop where
 v:W.heap[w.heap.size]?=some (.cells #[.int .i64 v.num,.int .i64 v.time,rv] 24 (0,0))
 a:W.heap[w.heap.size+1]?=some (.cells #[.int .i64 a.kind,.int .i64 a.fr,.int .i64 a.un,.int .i64 a.pers] 26 (0,0))
 r:W.heap[w.heap.size+2]?=some (.cells R 32 (0,0))
 b:Below w.heap.size w W
theorem MkB.on {w W W':World}{v:Vr}{rv:Value}{a:Qx.Ask}{R:Array Value}(h:MkB w v rv a R W)(hb:Below W.heap.size W W'):MkB w v rv a R W' :=
 ⟨(hb.block _ (zs h.v)).trans h.v,(hb.block _ (zs h.a)).trans h.a,(hb.block _ (zs h.r)).trans h.r,Z00 h.b hb⟩
theorem MkB.far {w W W':World}{v:Vr}{rv:Value}{a:Qx.Ask}{R:Array Value}(h:MkB w v rv a R W)(hb:Below (w.heap.size+3) W W'):MkB w v rv a R W' :=
 ⟨(hb.block _ (by omega)).trans h.v,(hb.block _ (by omega)).trans h.a,(hb.block _ (by omega)).trans h.r,h.b.trans (hb.mono (by omega))⟩
theorem MkB.new (w:World)(v:Vr)(rv:Value)(a:Qx.Ask)(R:Array Value):MkB w v rv a R (((w.alloc (.cells #[.int .i64 v.num,.int .i64 v.time,rv] 24)).alloc (.cells #[.int .i64 a.kind,.int .i64 a.fr,.int .i64 a.un,.int .i64 a.pers] 26)).alloc (.cells R 32)):=by
 refine ⟨?_,?_,?_,(((Below.refl _ _).alloc (zn _) _).alloc (by simp) _).alloc (by simp;omega) _⟩
 all_goals repeat (first | (refine Z76 ?_;first | rfl | (simp only [World.size_alloc];done) | (simp only [World.size_alloc];omega)) | (refine Z4r ?_ ?_;· (simp only [World.size_alloc];omega)))
theorem MkB.cells {w W:World}{v:Vr}{rv:Value}{a:Qx.Ask}{R:Array Value}(h:MkB w v rv a R W):W.cell? ⟨w.heap.size,0,none⟩=some (.int .i64 v.num)∧W.cell? ⟨w.heap.size,1,none⟩=some (.int .i64 v.time)∧W.cell? ⟨w.heap.size,2,none⟩=some rv ∧
 W.cell? ⟨w.heap.size+1,0,none⟩=some (.int .i64 a.kind)∧W.cell? ⟨w.heap.size+1,1,none⟩=some (.int .i64 a.fr)∧W.cell? ⟨w.heap.size+1,2,none⟩=some (.int .i64 a.un)∧W.cell? ⟨w.heap.size+1,3,none⟩=some (.int .i64 a.pers):=by
 refine ⟨?_,?_,?_,?_,?_,?_,?_⟩
 · rw [zc h.v];rfl
 · rw [zc h.v];rfl
 · rw [zc h.v];rfl
 · rw [zc h.a];rfl
 · rw [zc h.a];rfl
 · rw [zc h.a];rfl
 · rw [zc h.a];rfl
theorem MkB.setRow {w W:World}{v:Vr}{rv:Value}{a:Qx.Ask}{R:Array Value}(h:MkB w v rv a R W)(R':Array Value):MkB w v rv a R' (W.setRow (w.heap.size+1+1) R') :=
 ⟨(Z04 _ _ _ _ (by omega)).trans h.v,(Z04 _ _ _ _ (by omega)).trans h.a,setRow_heap _ _ R R' _ _ h.r,Z39 h.b (by omega) _⟩
theorem Z6q {w W:World}{v:Vr}{rv:Value}{a:Qx.Ask}{q:Qt}{nv:Value}{er:Int}(h:MkB w v rv a (qtC q nv) W):∀ (tmps:Array Value),tmps[10]?.getD undef=.pointer (some ⟨w.heap.size+1+1,0,none⟩)→tmps[11]?.getD undef=.int .i64 er →
 (results Tryz.f16 tmps).run Tryz.prog W=.ok (.tuple #[.agg (qtC q nv),.int .i64 er]) W:=by
 intro tmps t8 t9
 have hr:W.heap[w.heap.size+1+1]?=_:=h.r
 have k:=fun i v (hv:(qtC q nv)[i]?=some v)=>(show W.cell? ⟨w.heap.size+1+1,i,none⟩=some v by rw [zc hr,hv])
 have k0:=k 0 (.int .i64 q.ver) rfl
 have k1:=k 1 (.int .i64 q.time) rfl
 have k2:=k 2 (.int .i64 q.total) rfl
 have k3:=k 3 (.int .i64 q.keep) rfl
 have k4:=k 4 (.int .i64 q.ask.kind) rfl
 have k5:=k 5 (.int .i64 q.ask.fr) rfl
 have k6:=k 6 (.int .i64 q.ask.un) rfl
 have k7:=k 7 (.int .i64 q.ask.pers) rfl
 have k8:=k 8 nv rfl
 have k9:=k 9 (.int .u64 (q.dig:Nat)) rfl
 have k10:=k 10 (.int .i64 q.sE) rfl
 have k11:=k 11 (.int .i64 q.sS) rfl
 simp [results,Tryz.results16,go_sem,t8,t9,k0,k1,k2,k3,k4,k5,k6,k7,k8,k9,k10,k11,qtC]
theorem Z3s (w:World)(B:Nat):QtV w B (.agg (qtC Qt.zero (.slice none 0 0))) Qt.zero:=⟨none,0,rfl,Z02.nil _ _ _⟩
theorem Zng {Q:Qt}{v:Vr}{t kp:Int}{a:Qx.Ask}{ns:List Int}{d:Nat}(hl:ns.length≤60)(hQ:(⟨v.num,t,ns.sum,kp,a,ns,d,0,0⟩:Qt)=Q):Q.says.length≤1000:=by
 subst hQ;simp [Qt.says]
 omega
theorem Zka {Q:Qt}{v:Vr}{t kp:Int}{a:Qx.Ask}{ns:List Int}{d:Nat}(_hub:useB v.rs=true)(hok:useB v.rs=true∧a.okB=true∧Z0a v.rs a (a.un - a.fr).toNat a.fr=.ok (ns,kp)∧ns.sum≤1000000000)(hp:Z0g v.rs a=.ok (ns,kp))(ht:0≤t∧t≤1000000000)(hn:1≤v.num∧v.num≤1000000)(hd:d<18446744073709551616)
 (hQ:(⟨v.num,t,ns.sum,kp,a,ns,d,0,0⟩:Qt)=Q):∀ x∈Q.says,-9223372036854775808≤x∧x≤9223372036854775807:=by
 subst hQ;obtain ⟨f1,f2,f3,f4,_⟩:=Z1F hp
 have f5:=Z5v hp;have f6:=Z7n hp;obtain ⟨a1,a2,a3,a4,a5,a6,a7,a8⟩:=Z3k hok.2.1
 intro x hx
 simp only [Qt.says,List.mem_append,List.mem_cons,List.not_mem_nil,or_false] at hx
 rcases hx with (hx | hx) | hx
 · rcases hx with rfl | rfl | rfl | rfl | rfl | rfl | rfl | rfl | rfl
   all_goals (try dsimp only);omega
 · have:=f6 x hx;omega
 · rcases hx with rfl | rfl
   all_goals omega
def MkP (x:Qt × Int)(w:World)(e:Ending)(w':World):Prop :=
 ∃ QV,e=.returned (.tuple #[QV,.int .i64 x.2])∧QtV w' w'.heap.size QV x.1∧Below w.heap.size w w'
set_option maxHeartbeats 16000000 in
theorem Zb9 (v:Vr)(a:Qx.Ask)(t s o:Int)(V:Value)(w:World)(hV:VrV w w.heap.size V v)(ht:Tabs w.heap.size w) :
 Calls Tryz.prog 16 #[V,askV a,.int .i64 t,.int .i64 s,.int .i64 o] w (MkP (Z5a v a t s o) w):=by
 have hdg:=fun W (hb:Below w.heap.size w W)=>Z4m v V W (by obtain ⟨A,c,rfl,h⟩:=hV;exact ⟨A,c,rfl,(h.on hb).up hb.size⟩) (Z1y ht hb)
 have hpl:=fun W (hb:Below w.heap.size w W)=>Zba v a t v.dig V W (by obtain ⟨A,c,rfl,h⟩:=hV;exact ⟨A,c,rfl,(h.on hb).up hb.size⟩)
 have hsg:=fun W l U (hb:Below w.heap.size w W) h1 h2 h3=>Z6u s o U l w.heap.size W h1 h2 h3 (ht.on hb)
 have htm:=fun W=>Z65 t W
 have hmno:=@Znf v a t s o
 have hmall:=@Z9B v a t s o
 have hpval:=fun e (h:Z0g v.rs a=.error e)=>Z7D h
 have hpok:=fun ns kp (h:Z0g v.rs a=.ok (ns,kp))=>Z6H h
 obtain ⟨A,c,rfl,hR⟩:=hV
 have hB0:=MkB.new w v (.slice A v.rs.length c) a (qtC Qt.zero (.slice none 0 0))
 obtain ⟨M,hM⟩:∃ M,Z5a v a t s o=M:=⟨_,rfl⟩
 rw [hM] at hmno hmall ⊢
 clear hM;unfold vrV at hdg hpl ⊢
 obtain ⟨q0,q1,q2,q3,q4,q5,q6⟩:=hB0.cells
 simp only [askV,qtC,Qt.zero] at hpl hB0 q0 q1 q2 q3 q4 q5 q6 ⊢
 have HB:=zh hB0;have HDG:=zh hdg;have HPL:=zh hpl;have HSG:=zh hsg;have HTM:=zh htm;have HMNO:=zh hmno;have HMALL:=zh hmall;have HPV:=zh hpval;have HPOK:=zh hpok;have HR:=zh hR;have HT:=zh ht;clear hB0 hdg hpl hsg htm hmno hmall hpval hpok hR ht;go_enter Tryz.func16,Tryz.ntmps16
 go_wp2_with fail;refine (HDG.out _ HB.out.b).mono ?_
 rintro e w2 ⟨hb2,rfl⟩;have hB2:=HB.out.on hb2
 obtain ⟨q0,q1,q2,q3,q4,q5,q6⟩:=hB2.cells
 have HB2:=zh hB2;clear hB2 hb2 HB HDG;cases h1:v.okB with
 | false =>
  obtain rfl:=HMNO.out (fun h=>by rw [h1] at h;simp at h)
  simp only [Bool.false_eq_true,if_false,if_true,Option.getD_none]
  have hset:=HB2.out.setRow (qtC Qt.zero (.slice none 0 0))
  have hres:=Z6q (er:=1) hset
  have hr2:=HB2.out.r
  have hz1:=Z0A Qt.zero none 0 0
  simp only [qtC,Qt.zero] at hset hres hr2 hz1
  have HSET:=zh hset;have HRES:=zh hres;have HR2:=zh hr2;clear hset hres hr2;go_wp2_with (refine Z0p rfl _ _ rfl (w.heap.size+1+1) _ _ rfl rfl HR2.out rfl rfl hz1 ?_)
  refine bodyPost_ret (v:=.tuple #[.agg (qtC Qt.zero (.slice none 0 0)),.int .i64 1]) (HRES.out _ rfl rfl) rfl ?_
  exact ⟨_,rfl,Z3s _ _,HSET.out.b⟩
 | true =>
  simp only [if_true,Option.getD_some]
  obtain ⟨hub,htv0,htv1,hnu0,hnu1⟩:=Z75 h1
  go_wp2_with fail;refine (HTM.out _).mono ?_
  rintro e w' ⟨rfl,rfl⟩;cases h2:Z2g t with
  | false =>
   obtain rfl:=HMNO.out (fun h=>by rw [h2] at h;simp at h)
   have hset:=HB2.out.setRow (qtC Qt.zero (.slice none 0 0))
   have hres:=Z6q (er:=1) hset
   have hr2:=HB2.out.r
   have hz1:=Z0A Qt.zero none 0 0
   simp only [qtC,Qt.zero] at hset hres hr2 hz1
   have HSET:=zh hset;have HRES:=zh hres;have HR2:=zh hr2;clear hset hres hr2;go_wp2_with (refine Z0p rfl _ _ rfl (w.heap.size+1+1) _ _ rfl rfl HR2.out rfl rfl hz1 ?_)
   refine bodyPost_ret (v:=.tuple #[.agg (qtC Qt.zero (.slice none 0 0)),.int .i64 1]) (HRES.out _ rfl rfl) rfl ?_
   exact ⟨_,rfl,Z3s _ _,HSET.out.b⟩
  | true =>
   have htm2:0≤t∧t≤1000000000:=by simpa [Z2g] using h2
   have hs0:=HSG.out w2 [] (.slice none 0 0) HB2.out.b (Z02.nil _ _ _) (by simp) (by simp)
   unfold Zfx at hs0
   by_cases h3:(secB s&&secB o)=true
   · rw [if_pos h3] at hs0
     obtain ⟨h31,h32⟩:=Bool.and_eq_true_iff.1 h3
     generalize ((sigE s.toNat o.toNat []:Nat):Int)=E0 at hs0
     generalize ((sigS s.toNat o.toNat []:Nat):Int)=S0 at hs0
     have HS0:=zh hs0;clear hs0;go_wp2_with fail;refine (HS0.out).mono ?_
     rintro e w3 ⟨rfl,hb3⟩;have hB4:=HB2.out.on (hb3.trans (((Below.refl w3.heap.size w3).alloc (zn _) (.cells #[.int .i64 E0,.int .i64 S0] 30)).mono hb3.size))
     obtain ⟨q0,q1,q2,q3,q4,q5,q6⟩:=hB4.cells
     have hpl4:=HPL.out _ hB4.b
     have HB4:=zh hB4;have HPL4:=zh hpl4;clear hB4 hpl4 hb3 HS0 HPL HTM HB2;go_wp2_with fail;refine HPL4.out.mono ?_
     intro e w5 hh
     obtain ⟨hb5,hh⟩:=hh
     have hB5:=HB4.out.on hb5
     cases hX:Z0g v.rs a with
     | error er =>
      rw [hX] at hh
      dsimp only at hh
      subst hh;obtain ⟨e0,e1,e2⟩:=HPV.out er hX
      have hB6:=hB5.on ((Below.refl w5.heap.size w5).alloc (zn _) (.cells (qtC Qt.zero (.slice none 0 0)) 89))
      have hz2:=Z0A Qt.zero none 0 0
      obtain ⟨q0,q1,q2,q3,q4,q5,q6⟩:=hB6.cells
      simp only [qtC,Qt.zero,Int.natCast_zero] at hB6 hz2 q0 q1 q2 q3 q4 q5 q6 ⊢
      have HB6:=zh hB6;clear hB6 hB5 HB4 HPL4 hb5;cases h4:a.okB with
      | false =>
       obtain rfl:=e2 h4
       obtain rfl:=HMNO.out (fun h=>by rw [h4] at h;simp at h)
       have hset:=HB6.out.setRow (qtC Qt.zero (.slice none 0 0))
       have hres:=Z6q (er:=1) hset
       have hr2:=HB6.out.r
       have hz1:=Z0A Qt.zero none 0 0
       simp only [qtC,Qt.zero] at hset hres hr2 hz1
       have HSET:=zh hset;have HRES:=zh hres;have HR2:=zh hr2;clear hset hres hr2;go_wp2_with (first | (refine Z0e rfl _ _ rfl _ _ rfl rfl rfl rfl hz2 ?_) | refine Z0p rfl _ _ rfl (w.heap.size+1+1) _ _ rfl rfl HR2.out rfl rfl hz1 ?_)
       refine bodyPost_ret (v:=.tuple #[.agg (qtC Qt.zero (.slice none 0 0)),.int .i64 1]) (HRES.out _ rfl rfl) rfl ?_
       exact ⟨_,rfl,Z3s _ _,HSET.out.b⟩
      | true =>
       have hM:=HMALL.out h1 h4 h2 h31 h32
       have en1:=e1 hub h4
       have d1:(er==1)=false:=by simpa using en1
       have d2:(er != 0)=true:=by simpa using e0
       by_cases h5:t<v.time
       · have d3:decide (t<v.time)=true:=by simpa using h5
         rw [if_pos h5] at hM
         subst hM;have hset:=HB6.out.setRow (qtC Qt.zero (.slice none 0 0))
         have hres:=Z6q (er:=6) hset
         have hr2:=HB6.out.r
         have hz1:=Z0A Qt.zero none 0 0
         simp only [qtC,Qt.zero] at hset hres hr2 hz1
         have HSET:=zh hset;have HRES:=zh hres;have HR2:=zh hr2;clear hset hres hr2;go_wp2_with (first | (refine Z0e rfl _ _ rfl _ _ rfl rfl rfl rfl hz2 ?_) | refine Z0p rfl _ _ rfl (w.heap.size+1+1) _ _ rfl rfl HR2.out rfl rfl hz1 ?_)
         refine bodyPost_ret (v:=.tuple #[.agg (qtC Qt.zero (.slice none 0 0)),.int .i64 6]) (HRES.out _ rfl rfl) rfl ?_
         exact ⟨_,rfl,Z3s _ _,HSET.out.b⟩
       · have d3:decide (t<v.time)=false:=by simpa using h5
         rw [if_neg h5,Zdv hX] at hM
         subst hM;have hset:=HB6.out.setRow (qtC Qt.zero (.slice none 0 0))
         have hres:=Z6q (er:=er) hset
         have hr2:=HB6.out.r
         have hz1:=Z0A Qt.zero none 0 0
         simp only [qtC,Qt.zero] at hset hres hr2 hz1
         have HSET:=zh hset;have HRES:=zh hres;have HR2:=zh hr2;clear hset hres hr2;go_wp2_with (first | (refine Z0e rfl _ _ rfl _ _ rfl rfl rfl rfl hz2 ?_) | refine Z0p rfl _ _ rfl (w.heap.size+1+1) _ _ rfl rfl HR2.out rfl rfl hz1 ?_)
         refine bodyPost_ret (v:=.tuple #[.agg (qtC Qt.zero (.slice none 0 0)),.int .i64 er]) (HRES.out _ rfl rfl) rfl ?_
         exact ⟨_,rfl,Z3s _ _,HSET.out.b⟩
     | ok p =>
      obtain ⟨ns,kp⟩:=p
      rw [hX] at hh
      obtain ⟨A2,rfl,hns,hfresh⟩:=hh
      have h4:=(HPOK.out ns kp hX).2.1
      have hM:=HMALL.out h1 h4 h2 h31 h32
      have hl60:=Z5v hX;have hB6:=hB5.on ((Below.refl w5.heap.size w5).alloc (zn _) (.cells (qtC ⟨v.num,t,ns.sum,kp,a,ns,v.dig,0,0⟩ (.slice A2 ns.length ns.length)) 89))
      have hz2:=Z0A ⟨v.num,t,ns.sum,kp,a,ns,v.dig,0,0⟩ A2 ns.length ns.length
      obtain ⟨q0,q1,q2,q3,q4,q5,q6⟩:=hB6.cells
      by_cases h5:t<v.time
      · have d3:decide (t<v.time)=true:=by simpa using h5
        rw [if_pos h5] at hM
        subst hM;simp only [qtC] at hB6 hz2 q0 q1 q2 q3 q4 q5 q6 ⊢
        have HB6:=zh hB6;clear hB6 hB5 HB4 HPL4 hb5;have hset:=HB6.out.setRow (qtC Qt.zero (.slice none 0 0))
        have hres:=Z6q (er:=6) hset
        have hr2:=HB6.out.r
        have hz1:=Z0A Qt.zero none 0 0
        simp only [qtC,Qt.zero] at hset hres hr2 hz1
        have HSET:=zh hset;have HRES:=zh hres;have HR2:=zh hr2;clear hset hres hr2;go_wp2_with (first | (refine Z0e rfl _ _ rfl _ _ rfl rfl rfl rfl hz2 ?_) | refine Z0p rfl _ _ rfl (w.heap.size+1+1) _ _ rfl rfl HR2.out rfl rfl hz1 ?_)
        refine bodyPost_ret (v:=.tuple #[.agg (qtC Qt.zero (.slice none 0 0)),.int .i64 6]) (HRES.out _ rfl rfl) rfl ?_
        exact ⟨_,rfl,Z3s _ _,HSET.out.b⟩
      · have d3:decide (t<v.time)=false:=by simpa using h5
        rw [if_neg h5,Z9C hX] at hM
        dsimp only at hM
        have hdlt:=Zb8 v;generalize v.dig=dg at *
        obtain ⟨Q,hQ⟩:∃ Q:Qt,(⟨v.num,t,ns.sum,kp,a,ns,dg,0,0⟩:Qt)=Q:=⟨_,rfl⟩
        have hrange:=Zka hub (HPOK.out ns kp hX) hX htm2 ⟨hnu0,hnu1⟩ hdlt hQ
        have hslen:=Zng hl60 hQ
        have hqn:Q.nights=ns:=by rw [← hQ]
        have hqd:Q.dig<18446744073709551616:=by rw [← hQ];exact hdlt
        rw [hQ] at hM
        have hnb:=za w5 (.cells (qtC ⟨v.num,t,ns.sum,kp,a,ns,dg,0,0⟩ (.slice A2 ns.length ns.length)) 89)
        have hal6:=(Below.refl w5.heap.size w5).alloc (zn _) (.cells (qtC ⟨v.num,t,ns.sum,kp,a,ns,dg,0,0⟩ (.slice A2 ns.length ns.length)) 89)
        have hfr:∀ p,A2=some p→w.heap.size+3≤p.block:=fun p e=>by
         have h1:=hfresh p e
         have h2:=(zs HB4.out.r)
         omega
        have hwk:(⟨v.num,t,ns.sum,kp,a,ns,dg,0,0⟩:Qt).says=Q.says:=by rw [hQ]
        have hqt:QtV (w5.alloc (.cells (qtC ⟨v.num,t,ns.sum,kp,a,ns,dg,0,0⟩ (.slice A2 ns.length ns.length)) 89)) (w5.alloc (.cells (qtC ⟨v.num,t,ns.sum,kp,a,ns,dg,0,0⟩ (.slice A2 ns.length ns.length)) 89)).heap.size (.agg (qtC ⟨v.num,t,ns.sum,kp,a,ns,dg,0,0⟩ (.slice A2 ns.length ns.length))) ⟨v.num,t,ns.sum,kp,a,ns,dg,0,0⟩:=⟨A2,ns.length,rfl,(hns.on hal6).up hal6.size⟩
        have hsy:=Z77 ⟨v.num,t,ns.sum,kp,a,ns,dg,0,0⟩ _ _ hqt hdlt (by show ns.length≤50000;omega)
        rw [hwk] at hsy
        simp only [qtC] at hB6 hz2 q0 q1 q2 q3 q4 q5 q6 hnb hsy hal6 ⊢
        have hnsz:=hB5.r
        have HB6:=zh hB6;have HSY:=zh hsy;have HNB:=zh hnb;have HNS:=zh hns;have HQ:=zh hQ;have HRG:=zh hrange;have HNSZ:=zh hnsz;clear hB6 hsy hnb hns hQ hrange hnsz hB5 HB4 HPL4 hb5 hqt;go_wp2_with (first | (refine Z0e rfl _ _ rfl _ _ rfl rfl rfl rfl hz2 ?_) | (with_reducible refine Z86 rfl _ rfl w5.heap.size rfl _ rfl _ HNB.out ?_))
        generalize w5.alloc (.cells #[.int .i64 v.num,.int .i64 t,.int .i64 ns.sum,.int .i64 kp,.int .i64 a.kind,.int .i64 a.fr,.int .i64 a.un,.int .i64 a.pers,.slice A2 ns.length ns.length,.int .u64 (dg:Nat),.int .i64 0,.int .i64 0] 89)=w6 at *
        refine HSY.out.mono ?_
        rintro e w7 ⟨r7,rfl,hr7,hb7⟩;have hB7:=HB6.out.on hb7
        have hs7:=HSG.out w7 Q.says r7 hB7.b hr7 (by omega) HRG.out
        unfold Zfx at hs7
        rw [if_pos h3] at hs7
        have hnb7:=(hb7.block _ (zs HNB.out)).trans HNB.out
        have hE1:((sigE s.toNat o.toNat Q.says:Nat):Int)=((sigE s.toNat o.toNat Q.says:Nat):Int):=rfl
        generalize ((sigE s.toNat o.toNat Q.says:Nat):Int)=E1 at *
        generalize ((sigS s.toNat o.toNat Q.says:Nat):Int)=S1 at *
        have hz6:w5.heap.size<w6.heap.size:=(zs HNB.out)
        have hb57:Below w5.heap.size w5 w7:=hal6.trans (hb7.mono (by omega))
        have HS7:=zh hs7;have HB7:=zh hB7;have HNB7:=zh hnb7;clear hs7 hB7 hnb7 hb7 hr7 HSY HB6 HNB hE1 hal6;go_wp2_with fail;refine HS7.out.mono ?_
        rintro e w8 ⟨rfl,hb8⟩;have hB8:=HB7.out.on hb8
        have hnb8:=(hb8.block _ (zs HNB7.out)).trans HNB7.out
        have hz7:w5.heap.size<w7.heap.size:=(zs HNB7.out)
        have hb58:Below w5.heap.size w5 w8:=hb57.trans (hb8.mono (by omega))
        have hnz:w.heap.size+3≤w5.heap.size:=by have:=(zs HNSZ.out);omega
        have c10:w8.cell? ⟨w5.heap.size,10,none⟩=some (.int .i64 0):=by rw [zc hnb8];rfl
        have c11:w8.cell? ⟨w5.heap.size,11,none⟩=some (.int .i64 0):=by rw [zc hnb8];rfl
        have f10:w8.frozen? ⟨w5.heap.size,10,none⟩=false:=by simp [World.frozen?,hnb8]
        have f11:w8.frozen? ⟨w5.heap.size,11,none⟩=false:=by simp [World.frozen?,hnb8]
        have hst:((w8.setCell ⟨w5.heap.size,10,none⟩ (.int .i64 E1)).setCell ⟨w5.heap.size,11,none⟩ (.int .i64 S1)).heap[w5.heap.size]?=some (.cells (qtC ⟨v.num,t,ns.sum,kp,a,ns,dg,E1,S1⟩ (.slice A2 ns.length ns.length)) 89 (0,0)):=by
         simp [World.setCell,Array.getElem?_modify,hnb8,qtC]
        have hB9:=hB8.far (((Below.refl (w.heap.size+3) w8).setCell (p:=⟨w5.heap.size,10,none⟩) hnz (.int .i64 E1)).setCell (p:=⟨w5.heap.size,11,none⟩) hnz (.int .i64 S1))
        have hb59:=(hb58.setCell (p:=⟨w5.heap.size,10,none⟩) (zn _) (.int .i64 E1)).setCell (p:=⟨w5.heap.size,11,none⟩) (zn _) (.int .i64 S1)
        have hI9:=(HNS.out.on hb59).setRow' (R:=qtC ⟨v.num,t,ns.sum,kp,a,ns,dg,E1,S1⟩ (.slice A2 ns.length ns.length)) hfr
        have hset:=hB9.setRow (qtC ⟨v.num,t,ns.sum,kp,a,ns,dg,E1,S1⟩ (.slice A2 ns.length ns.length))
        have hres:=Z6q (er:=0) hset
        have hr9:=hB9.r
        have hz1:=Z0A ⟨v.num,t,ns.sum,kp,a,ns,dg,E1,S1⟩ A2 ns.length ns.length
        have hsz9:=(Z3x ((w8.setCell ⟨w5.heap.size,10,none⟩ (.int .i64 E1)).setCell ⟨w5.heap.size,11,none⟩ (.int .i64 S1)) (w.heap.size+1+1) (qtC ⟨v.num,t,ns.sum,kp,a,ns,dg,E1,S1⟩ (.slice A2 ns.length ns.length)))
        have hz59:=hb59.size
        simp only [qtC] at hst hset hres hr9 hz1 hI9 hsz9
        have HST:=zh hst;have HSET:=zh hset;have HRES:=zh hres;have HR9:=zh hr9;have HI9:=zh hI9;have HB8:=zh hB8;have HNB8:=zh hnb8;clear hst hset hres hr9 hI9 hB8 hnb8 hb8 hB9 HS7 HB7 HNB7;go_wp2_with (first | (with_reducible refine Z0x rfl _ rfl w5.heap.size rfl _ rfl _ HST.out ?_) | (refine Z0p rfl _ _ rfl (w.heap.size+1+1) _ _ rfl rfl HR9.out rfl rfl hz1 ?_))
        refine bodyPost_ret (v:=.tuple #[.agg (qtC ⟨v.num,t,ns.sum,kp,a,ns,dg,E1,S1⟩ (.slice A2 ns.length ns.length)),.int .i64 0]) (HRES.out _ rfl rfl) rfl ?_
        obtain rfl:=HQ.out
        subst hM;exact ⟨_,rfl,⟨A2,ns.length,rfl,HI9.out.up (Nat.le_trans hz59 (Nat.le_of_eq hsz9.symm))⟩,HSET.out.b⟩
   · rw [if_neg h3] at hs0
     obtain rfl:=HMNO.out (fun h=>h3 (by rw [h.2.2.2.1,h.2.2.2.2];rfl))
     have HS0:=zh hs0;clear hs0;go_wp2_with fail;refine (HS0.out).mono ?_
     rintro e w3 ⟨rfl,hb3⟩;have hB4:=HB2.out.on (hb3.trans (((Below.refl w3.heap.size w3).alloc (zn _) (.cells #[.int .i64 0,.int .i64 0] 30)).mono hb3.size))
     have HB4:=zh hB4;clear hB4 hb3 HS0;have hset:=HB4.out.setRow (qtC Qt.zero (.slice none 0 0))
     have hres:=Z6q (er:=1) hset
     have hr2:=HB4.out.r
     have hz1:=Z0A Qt.zero none 0 0
     simp only [qtC,Qt.zero] at hset hres hr2 hz1
     have HSET:=zh hset;have HRES:=zh hres;have HR2:=zh hr2;clear hset hres hr2;go_wp2_with (refine Z0p rfl _ _ rfl (w.heap.size+1+1) _ _ rfl rfl HR2.out rfl rfl hz1 ?_)
     refine bodyPost_ret (v:=.tuple #[.agg (qtC Qt.zero (.slice none 0 0)),.int .i64 1]) (HRES.out _ rfl rfl) rfl ?_
     exact ⟨_,rfl,Z3s _ _,HSET.out.b⟩
end Go.Proofs.YtnepkoepbapgeaaGreatDoor
