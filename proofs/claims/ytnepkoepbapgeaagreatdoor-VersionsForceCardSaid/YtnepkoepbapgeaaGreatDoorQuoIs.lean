/-
  Several texts in one: QuoMk, QuoIs.
-/
import Derived.Test.YtnepkoepbapgeaaGreatDoorQuoDgt
import Derived.Test.YtnepkoepbapgeaaGreatDoorQuoPla
import Derived.Test.YtnepkoepbapgeaaGreatDoorQuoVfy
import Derived.Test.YtnepkoepbapgeaaGreatDoorQuoUse
import Derived.Test.YtnepkoepbapgeaaGreatDoorShelf
namespace Go.Proofs.YtnepkoepbapgeaaGreatDoor
set_option maxHeartbeats 16000000
set_option maxRecDepth 100000
section
open Go.RowKit Lx Px Qx
namespace Qx
theorem ZqF {v:Vr}{a:Ask}{t s o:Int}(h:¬ (v.okB=true∧a.okB=true∧Z0D t=true∧secB s=true∧secB o=true)):Z3x v a t s o=(.zero,1):=by
 unfold Z3x
 rw [if_neg]
 intro hc
 simp only [Bool.and_eq_true] at hc
 exact h ⟨hc.1.1.1.1,hc.1.1.1.2,hc.1.1.2,hc.1.2,hc.2⟩
theorem Zfw {v:Vr}{a:Ask}{t s o:Int}(h1:v.okB=true)(h2:a.okB=true)(h3:Z0D t=true)(h4:secB s=true)(h5:secB o=true):Z3x v a t s o=if t<v.time then (.zero,6) else match Z2F v a t with
 | .error e=>(.zero,e)
 | .ok q=>({ q with sE:=sigE s.toNat o.toNat q.says,sS:=sigS s.toNat o.toNat q.says },0):=by
 unfold Z3x
 rw [if_pos (by rw [h1,h2,h3,h4,h5];rfl)]
 by_cases h:t<v.time
 · rw [if_pos h,if_pos h]
 · rw [if_neg h,if_neg h];cases Z2F v a t <;> rfl
theorem Z8c {v:Vr}(h:v.okB=true):useB v.rs=true∧0≤v.time∧v.time≤1000000000∧1≤v.num∧v.num≤1000000:=by
 unfold Vr.okB at h
 simp only [Bool.and_eq_true,decide_eq_true_eq,Z0D] at h
 exact ⟨h.1.2,h.1.1.2.1,h.1.1.2.2,h.1.1.1.1,h.1.1.1.2⟩
theorem Z8d {v:Vr}{a:Ask}{t:Int}{ns:List Int}{kp:Int}(h:Z0g v.rs a=.ok (ns,kp)):Z2F v a t=.ok ⟨v.num,t,ns.sum,kp,a,ns,v.dig,0,0⟩:=by unfold Z2F;rw [h]
theorem Zbk {v:Vr}{a:Ask}{t e:Int}(h:Z0g v.rs a=.error e):Z2F v a t=.error e:=by unfold Z2F;rw [h]
theorem Z90 (v:Vr):v.dig<18446744073709551616:=Zg9 _ _
end Qx
structure MkB (w:World) (v:Vr) (rv:Value) (a:Qx.Ask) (R:Array Value) (W:World):Prop where
 v:W.heap[w.heap.size]?=some (.cells #[.int .i64 v.num,.int .i64 v.time,rv] 24 (0,0))
 a:W.heap[w.heap.size+1]?=some (.cells #[.int .i64 a.kind,.int .i64 a.fr,.int .i64 a.un,.int .i64 a.pers] 26 (0,0))
 r:W.heap[w.heap.size+2]?=some (.cells R 32 (0,0))
 b:Below w.heap.size w W
theorem MkB.on {w W W':World}{v:Vr}{rv:Value}{a:Qx.Ask}{R:Array Value}(h:MkB w v rv a R W)(hb:Below W.heap.size W W'):MkB w v rv a R W' :=
 ⟨(hb.block _ (zs h.v)).trans h.v,(hb.block _ (zs h.a)).trans h.a,(hb.block _ (zs h.r)).trans h.r,Z00 h.b hb⟩
theorem MkB.far {w W W':World}{v:Vr}{rv:Value}{a:Qx.Ask}{R:Array Value}(h:MkB w v rv a R W)(hb:Below (w.heap.size+3) W W'):MkB w v rv a R W' :=
 ⟨(hb.block _ (by omega)).trans h.v,(hb.block _ (by omega)).trans h.a,(hb.block _ (by omega)).trans h.r,h.b.trans (hb.mono (by omega))⟩
theorem MkB.new (w:World)(v:Vr)(rv:Value)(a:Qx.Ask)(R:Array Value):MkB w v rv a R (((w.alloc (.cells #[.int .i64 v.num,.int .i64 v.time,rv] 24)).alloc (.cells #[.int .i64 a.kind,.int .i64 a.fr,.int .i64 a.un,.int .i64 a.pers] 26)).alloc (.cells R 32)):=by
 refine ⟨?_,?_,?_,(((Below.refl _ _).alloc (zn _) _).alloc (by simp) _).alloc (by simp;omega) _⟩
 all_goals repeat (first | (refine Z8h ?_;first | rfl | (simp only [World.size_alloc];done) | (simp only [World.size_alloc];omega)) | (refine Z5b ?_ ?_;· (simp only [World.size_alloc];omega)))
theorem MkB.cells {w W:World}{v:Vr}{rv:Value}{a:Qx.Ask}{R:Array Value}(h:MkB w v rv a R W):W.cell? ⟨w.heap.size,0,none⟩=some (.int .i64 v.num)∧W.cell? ⟨w.heap.size,1,none⟩=some (.int .i64 v.time)∧W.cell? ⟨w.heap.size,2,none⟩=some rv ∧
 W.cell? ⟨w.heap.size+1,0,none⟩=some (.int .i64 a.kind)∧W.cell? ⟨w.heap.size+1,1,none⟩=some (.int .i64 a.fr)∧W.cell? ⟨w.heap.size+1,2,none⟩=some (.int .i64 a.un)∧W.cell? ⟨w.heap.size+1,3,none⟩=some (.int .i64 a.pers):=by
 refine ⟨?_,?_,?_,?_,?_,?_,?_⟩
 · rw [zc h.v];rfl
 · rw [zc h.v];rfl
 · rw [zc h.v];rfl
 · rw [zc h.a];rfl
 · rw [zc h.a];rfl
 · rw [zc h.a];rfl
 · rw [zc h.a];rfl
theorem MkB.setRow {w W:World}{v:Vr}{rv:Value}{a:Qx.Ask}{R:Array Value}(h:MkB w v rv a R W)(R':Array Value):MkB w v rv a R' (W.setRow (w.heap.size+1+1) R') :=
 ⟨(Z03 _ _ _ _ (by omega)).trans h.v,(Z03 _ _ _ _ (by omega)).trans h.a,setRow_heap _ _ R R' _ _ h.r,Z3r h.b (by omega) _⟩
theorem Z7x {w W:World}{v:Vr}{rv:Value}{a:Qx.Ask}{q:Qt}{nv:Value}{er:Int}(h:MkB w v rv a (qtC q nv) W):∀ (tmps:Array Value),tmps[10]?.getD undef=.pointer (some ⟨w.heap.size+1+1,0,none⟩)→tmps[11]?.getD undef=.int .i64 er →
 (results Tryz.f16 tmps).run Tryz.prog W=.ok (.tuple #[.agg (qtC q nv),.int .i64 er]) W:=by
 intro tmps t8 t9
 have hr:W.heap[w.heap.size+1+1]?=_:=h.r
 have k:=fun i v (hv:(qtC q nv)[i]?=some v)=>(show W.cell? ⟨w.heap.size+1+1,i,none⟩=some v by rw [zc hr,hv])
 have k0:=k 0 (.int .i64 q.ver) rfl
 have k1:=k 1 (.int .i64 q.time) rfl
 have k2:=k 2 (.int .i64 q.total) rfl
 have k3:=k 3 (.int .i64 q.keep) rfl
 have k4:=k 4 (.int .i64 q.ask.kind) rfl
 have k5:=k 5 (.int .i64 q.ask.fr) rfl
 have k6:=k 6 (.int .i64 q.ask.un) rfl
 have k7:=k 7 (.int .i64 q.ask.pers) rfl
 have k8:=k 8 nv rfl
 have k9:=k 9 (.int .u64 (q.dig:Nat)) rfl
 have k10:=k 10 (.int .i64 q.sE) rfl
 have k11:=k 11 (.int .i64 q.sS) rfl
 simp [results,Tryz.results16,go_sem,t8,t9,k0,k1,k2,k3,k4,k5,k6,k7,k8,k9,k10,k11,qtC]
theorem Z44 (w:World)(B:Nat):QtV w B (.agg (qtC Qt.zero (.slice none 0 0))) Qt.zero:=⟨none,0,rfl,Z07.nil _ _ _⟩
theorem ZqG {Q:Qt}{v:Vr}{t kp:Int}{a:Qx.Ask}{ns:List Int}{d:Nat}(hl:ns.length≤60)(hQ:(⟨v.num,t,ns.sum,kp,a,ns,d,0,0⟩:Qt)=Q):Q.says.length≤1000:=by
 subst hQ;simp [Qt.says]
 omega
theorem Znk {Q:Qt}{v:Vr}{t kp:Int}{a:Qx.Ask}{ns:List Int}{d:Nat}(_hub:useB v.rs=true)(hok:useB v.rs=true∧a.okB=true∧Z0d v.rs a (a.un - a.fr).toNat a.fr=.ok (ns,kp)∧ns.sum≤1000000000)(hp:Z0g v.rs a=.ok (ns,kp))(ht:0≤t∧t≤1000000000)(hn:1≤v.num∧v.num≤1000000)(hd:d<18446744073709551616)
 (hQ:(⟨v.num,t,ns.sum,kp,a,ns,d,0,0⟩:Qt)=Q):∀ x∈Q.says,-9223372036854775808≤x∧x≤9223372036854775807:=by
 subst hQ;obtain ⟨f1,f2,f3,f4,_⟩:=Z2j hp
 have f5:=Z6t hp;have f6:=Z6A hp;obtain ⟨a1,a2,a3,a4,a5,a6,a7,a8⟩:=Z4C hok.2.1
 intro x hx
 simp only [Qt.says,List.mem_append,List.mem_cons,List.not_mem_nil,or_false] at hx
 rcases hx with (hx | hx) | hx
 · rcases hx with rfl | rfl | rfl | rfl | rfl | rfl | rfl | rfl | rfl
   all_goals (try dsimp only);omega
 · have:=f6 x hx;omega
 · rcases hx with rfl | rfl
   all_goals omega
def MkP (x:Qt × Int)(w:World)(e:Ending)(w':World):Prop :=
 ∃ QV,e=.returned (.tuple #[QV,.int .i64 x.2])∧QtV w' w'.heap.size QV x.1∧Below w.heap.size w w'
theorem Z6k (v:Vr)(a:Qx.Ask)(t s o:Int)(V:Value)(w:World)(hV:VrV w w.heap.size V v)(ht:Tabs w.heap.size w) :
 Calls Tryz.prog 16 #[V,askV a,.int .i64 t,.int .i64 s,.int .i64 o] w (MkP (Z3x v a t s o) w):=by
 have hdg:=fun W (hb:Below w.heap.size w W)=>Z7e v V W (by obtain ⟨A,c,rfl,h⟩:=hV;exact ⟨A,c,rfl,(h.on hb).up hb.size⟩) (Z05 ht hb)
 have hpl:=fun W (hb:Below w.heap.size w W)=>ZcG v a t v.dig V W (by obtain ⟨A,c,rfl,h⟩:=hV;exact ⟨A,c,rfl,(h.on hb).up hb.size⟩)
 have hsg:=fun W l U (hb:Below w.heap.size w W) h1 h2 h3=>Zdh s o U l w.heap.size W h1 h2 h3 (ht.on hb)
 have htm:=fun W=>Z7h t W
 have hmno:=@ZqF v a t s o
 have hmall:=@Zfw v a t s o
 have hpval:=fun e (h:Z0g v.rs a=.error e)=>Z6s h
 have hpok:=fun ns kp (h:Z0g v.rs a=.ok (ns,kp))=>Z8i h
 obtain ⟨A,c,rfl,hR⟩:=hV
 have hB0:=MkB.new w v (.slice A v.rs.length c) a (qtC Qt.zero (.slice none 0 0))
 obtain ⟨M,hM⟩:∃ M,Z3x v a t s o=M:=⟨_,rfl⟩
 rw [hM] at hmno hmall ⊢
 clear hM;unfold vrV at hdg hpl ⊢
 obtain ⟨q0,q1,q2,q3,q4,q5,q6⟩:=hB0.cells
 simp only [askV,qtC,Qt.zero] at hpl hB0 q0 q1 q2 q3 q4 q5 q6 ⊢
 have HB:=zh hB0;have HDG:=zh hdg;have HPL:=zh hpl;have HSG:=zh hsg;have HTM:=zh htm;have HMNO:=zh hmno;have HMALL:=zh hmall;have HPV:=zh hpval;have HPOK:=zh hpok;have HR:=zh hR;have HT:=zh ht;clear hB0 hdg hpl hsg htm hmno hmall hpval hpok hR ht;go_enter Tryz.func16,Tryz.ntmps16
 go_wp2_with fail;refine (HDG.out _ HB.out.b).mono ?_
 rintro e w2 ⟨hb2,rfl⟩;have hB2:=HB.out.on hb2
 obtain ⟨q0,q1,q2,q3,q4,q5,q6⟩:=hB2.cells
 have HB2:=zh hB2;clear hB2 hb2 HB HDG;cases h1:v.okB with
 | false =>
  obtain rfl:=HMNO.out (fun h=>by rw [h1] at h;simp at h)
  simp only [Bool.false_eq_true,if_false,if_true,Option.getD_none]
  have hset:=HB2.out.setRow (qtC Qt.zero (.slice none 0 0))
  have hres:=Z7x (er:=1) hset
  have hr2:=HB2.out.r
  have hz1:=Z0F Qt.zero none 0 0
  simp only [qtC,Qt.zero] at hset hres hr2 hz1
  have HSET:=zh hset;have HRES:=zh hres;have HR2:=zh hr2;clear hset hres hr2;go_wp2_with (refine Z0s rfl _ _ rfl (w.heap.size+1+1) _ _ rfl rfl HR2.out rfl rfl hz1 ?_)
  refine bodyPost_ret (v:=.tuple #[.agg (qtC Qt.zero (.slice none 0 0)),.int .i64 1]) (HRES.out _ rfl rfl) rfl ?_
  exact ⟨_,rfl,Z44 _ _,HSET.out.b⟩
 | true =>
  simp only [if_true,Option.getD_some]
  obtain ⟨hub,htv0,htv1,hnu0,hnu1⟩:=Z8c h1
  go_wp2_with fail;refine (HTM.out _).mono ?_
  rintro e w' ⟨rfl,rfl⟩;cases h2:Z0D t with
  | false =>
   obtain rfl:=HMNO.out (fun h=>by rw [h2] at h;simp at h)
   have hset:=HB2.out.setRow (qtC Qt.zero (.slice none 0 0))
   have hres:=Z7x (er:=1) hset
   have hr2:=HB2.out.r
   have hz1:=Z0F Qt.zero none 0 0
   simp only [qtC,Qt.zero] at hset hres hr2 hz1
   have HSET:=zh hset;have HRES:=zh hres;have HR2:=zh hr2;clear hset hres hr2;go_wp2_with (refine Z0s rfl _ _ rfl (w.heap.size+1+1) _ _ rfl rfl HR2.out rfl rfl hz1 ?_)
   refine bodyPost_ret (v:=.tuple #[.agg (qtC Qt.zero (.slice none 0 0)),.int .i64 1]) (HRES.out _ rfl rfl) rfl ?_
   exact ⟨_,rfl,Z44 _ _,HSET.out.b⟩
  | true =>
   have htm2:0≤t∧t≤1000000000:=by simpa [Z0D] using h2
   have hs0:=HSG.out w2 [] (.slice none 0 0) HB2.out.b (Z07.nil _ _ _) (by simp) (by simp)
   unfold Zpd at hs0
   by_cases h3:(secB s&&secB o)=true
   · rw [if_pos h3] at hs0
     obtain ⟨h31,h32⟩:=Bool.and_eq_true_iff.1 h3
     generalize ((sigE s.toNat o.toNat []:Nat):Int)=E0 at hs0
     generalize ((sigS s.toNat o.toNat []:Nat):Int)=S0 at hs0
     have HS0:=zh hs0;clear hs0;go_wp2_with fail;refine (HS0.out).mono ?_
     rintro e w3 ⟨rfl,hb3⟩;have hB4:=HB2.out.on (hb3.trans (((Below.refl w3.heap.size w3).alloc (zn _) (.cells #[.int .i64 E0,.int .i64 S0] 30)).mono hb3.size))
     obtain ⟨q0,q1,q2,q3,q4,q5,q6⟩:=hB4.cells
     have hpl4:=HPL.out _ hB4.b
     have HB4:=zh hB4;have HPL4:=zh hpl4;clear hB4 hpl4 hb3 HS0 HPL HTM HB2;go_wp2_with fail;refine HPL4.out.mono ?_
     intro e w5 hh
     obtain ⟨hb5,hh⟩:=hh
     have hB5:=HB4.out.on hb5
     cases hX:Z0g v.rs a with
     | error er =>
      rw [hX] at hh
      dsimp only at hh
      subst hh;obtain ⟨e0,e1,e2⟩:=HPV.out er hX
      have hB6:=hB5.on ((Below.refl w5.heap.size w5).alloc (zn _) (.cells (qtC Qt.zero (.slice none 0 0)) 89))
      have hz2:=Z0F Qt.zero none 0 0
      obtain ⟨q0,q1,q2,q3,q4,q5,q6⟩:=hB6.cells
      simp only [qtC,Qt.zero,Int.natCast_zero] at hB6 hz2 q0 q1 q2 q3 q4 q5 q6 ⊢
      have HB6:=zh hB6;clear hB6 hB5 HB4 HPL4 hb5;cases h4:a.okB with
      | false =>
       obtain rfl:=e2 h4
       obtain rfl:=HMNO.out (fun h=>by rw [h4] at h;simp at h)
       have hset:=HB6.out.setRow (qtC Qt.zero (.slice none 0 0))
       have hres:=Z7x (er:=1) hset
       have hr2:=HB6.out.r
       have hz1:=Z0F Qt.zero none 0 0
       simp only [qtC,Qt.zero] at hset hres hr2 hz1
       have HSET:=zh hset;have HRES:=zh hres;have HR2:=zh hr2;clear hset hres hr2;go_wp2_with (first | (refine Z0j rfl _ _ rfl _ _ rfl rfl rfl rfl hz2 ?_) | refine Z0s rfl _ _ rfl (w.heap.size+1+1) _ _ rfl rfl HR2.out rfl rfl hz1 ?_)
       refine bodyPost_ret (v:=.tuple #[.agg (qtC Qt.zero (.slice none 0 0)),.int .i64 1]) (HRES.out _ rfl rfl) rfl ?_
       exact ⟨_,rfl,Z44 _ _,HSET.out.b⟩
      | true =>
       have hM:=HMALL.out h1 h4 h2 h31 h32
       have en1:=e1 hub h4
       have d1:(er==1)=false:=by simpa using en1
       have d2:(er != 0)=true:=by simpa using e0
       by_cases h5:t<v.time
       · have d3:decide (t<v.time)=true:=by simpa using h5
         rw [if_pos h5] at hM
         subst hM;have hset:=HB6.out.setRow (qtC Qt.zero (.slice none 0 0))
         have hres:=Z7x (er:=6) hset
         have hr2:=HB6.out.r
         have hz1:=Z0F Qt.zero none 0 0
         simp only [qtC,Qt.zero] at hset hres hr2 hz1
         have HSET:=zh hset;have HRES:=zh hres;have HR2:=zh hr2;clear hset hres hr2;go_wp2_with (first | (refine Z0j rfl _ _ rfl _ _ rfl rfl rfl rfl hz2 ?_) | refine Z0s rfl _ _ rfl (w.heap.size+1+1) _ _ rfl rfl HR2.out rfl rfl hz1 ?_)
         refine bodyPost_ret (v:=.tuple #[.agg (qtC Qt.zero (.slice none 0 0)),.int .i64 6]) (HRES.out _ rfl rfl) rfl ?_
         exact ⟨_,rfl,Z44 _ _,HSET.out.b⟩
       · have d3:decide (t<v.time)=false:=by simpa using h5
         rw [if_neg h5,Zbk hX] at hM
         subst hM;have hset:=HB6.out.setRow (qtC Qt.zero (.slice none 0 0))
         have hres:=Z7x (er:=er) hset
         have hr2:=HB6.out.r
         have hz1:=Z0F Qt.zero none 0 0
         simp only [qtC,Qt.zero] at hset hres hr2 hz1
         have HSET:=zh hset;have HRES:=zh hres;have HR2:=zh hr2;clear hset hres hr2;go_wp2_with (first | (refine Z0j rfl _ _ rfl _ _ rfl rfl rfl rfl hz2 ?_) | refine Z0s rfl _ _ rfl (w.heap.size+1+1) _ _ rfl rfl HR2.out rfl rfl hz1 ?_)
         refine bodyPost_ret (v:=.tuple #[.agg (qtC Qt.zero (.slice none 0 0)),.int .i64 er]) (HRES.out _ rfl rfl) rfl ?_
         exact ⟨_,rfl,Z44 _ _,HSET.out.b⟩
     | ok p =>
      obtain ⟨ns,kp⟩:=p
      rw [hX] at hh
      obtain ⟨A2,rfl,hns,hfresh⟩:=hh
      have h4:=(HPOK.out ns kp hX).2.1
      have hM:=HMALL.out h1 h4 h2 h31 h32
      have hl60:=Z6t hX;have hB6:=hB5.on ((Below.refl w5.heap.size w5).alloc (zn _) (.cells (qtC ⟨v.num,t,ns.sum,kp,a,ns,v.dig,0,0⟩ (.slice A2 ns.length ns.length)) 89))
      have hz2:=Z0F ⟨v.num,t,ns.sum,kp,a,ns,v.dig,0,0⟩ A2 ns.length ns.length
      obtain ⟨q0,q1,q2,q3,q4,q5,q6⟩:=hB6.cells
      by_cases h5:t<v.time
      · have d3:decide (t<v.time)=true:=by simpa using h5
        rw [if_pos h5] at hM
        subst hM;simp only [qtC] at hB6 hz2 q0 q1 q2 q3 q4 q5 q6 ⊢
        have HB6:=zh hB6;clear hB6 hB5 HB4 HPL4 hb5;have hset:=HB6.out.setRow (qtC Qt.zero (.slice none 0 0))
        have hres:=Z7x (er:=6) hset
        have hr2:=HB6.out.r
        have hz1:=Z0F Qt.zero none 0 0
        simp only [qtC,Qt.zero] at hset hres hr2 hz1
        have HSET:=zh hset;have HRES:=zh hres;have HR2:=zh hr2;clear hset hres hr2;go_wp2_with (first | (refine Z0j rfl _ _ rfl _ _ rfl rfl rfl rfl hz2 ?_) | refine Z0s rfl _ _ rfl (w.heap.size+1+1) _ _ rfl rfl HR2.out rfl rfl hz1 ?_)
        refine bodyPost_ret (v:=.tuple #[.agg (qtC Qt.zero (.slice none 0 0)),.int .i64 6]) (HRES.out _ rfl rfl) rfl ?_
        exact ⟨_,rfl,Z44 _ _,HSET.out.b⟩
      · have d3:decide (t<v.time)=false:=by simpa using h5
        rw [if_neg h5,Z8d hX] at hM
        dsimp only at hM
        have hdlt:=Z90 v;generalize v.dig=dg at *
        obtain ⟨Q,hQ⟩:∃ Q:Qt,(⟨v.num,t,ns.sum,kp,a,ns,dg,0,0⟩:Qt)=Q:=⟨_,rfl⟩
        have hrange:=Znk hub (HPOK.out ns kp hX) hX htm2 ⟨hnu0,hnu1⟩ hdlt hQ
        have hslen:=ZqG hl60 hQ
        have hqn:Q.nights=ns:=by rw [← hQ]
        have hqd:Q.dig<18446744073709551616:=by rw [← hQ];exact hdlt
        rw [hQ] at hM
        have hnb:=za w5 (.cells (qtC ⟨v.num,t,ns.sum,kp,a,ns,dg,0,0⟩ (.slice A2 ns.length ns.length)) 89)
        have hal6:=(Below.refl w5.heap.size w5).alloc (zn _) (.cells (qtC ⟨v.num,t,ns.sum,kp,a,ns,dg,0,0⟩ (.slice A2 ns.length ns.length)) 89)
        have hfr:∀ p,A2=some p→w.heap.size+3≤p.block:=fun p e=>by
         have h1:=hfresh p e
         have h2:=(zs HB4.out.r)
         omega
        have hwk:(⟨v.num,t,ns.sum,kp,a,ns,dg,0,0⟩:Qt).says=Q.says:=by rw [hQ]
        have hqt:QtV (w5.alloc (.cells (qtC ⟨v.num,t,ns.sum,kp,a,ns,dg,0,0⟩ (.slice A2 ns.length ns.length)) 89)) (w5.alloc (.cells (qtC ⟨v.num,t,ns.sum,kp,a,ns,dg,0,0⟩ (.slice A2 ns.length ns.length)) 89)).heap.size (.agg (qtC ⟨v.num,t,ns.sum,kp,a,ns,dg,0,0⟩ (.slice A2 ns.length ns.length))) ⟨v.num,t,ns.sum,kp,a,ns,dg,0,0⟩:=⟨A2,ns.length,rfl,(hns.on hal6).up hal6.size⟩
        have hsy:=Z8j ⟨v.num,t,ns.sum,kp,a,ns,dg,0,0⟩ _ _ hqt hdlt (by show ns.length≤50000;omega)
        rw [hwk] at hsy
        simp only [qtC] at hB6 hz2 q0 q1 q2 q3 q4 q5 q6 hnb hsy hal6 ⊢
        have hnsz:=hB5.r
        have HB6:=zh hB6;have HSY:=zh hsy;have HNB:=zh hnb;have HNS:=zh hns;have HQ:=zh hQ;have HRG:=zh hrange;have HNSZ:=zh hnsz;clear hB6 hsy hnb hns hQ hrange hnsz hB5 HB4 HPL4 hb5 hqt;go_wp2_with (first | (refine Z0j rfl _ _ rfl _ _ rfl rfl rfl rfl hz2 ?_) | (with_reducible refine Z9n rfl _ rfl w5.heap.size rfl _ rfl _ HNB.out ?_))
        generalize w5.alloc (.cells #[.int .i64 v.num,.int .i64 t,.int .i64 ns.sum,.int .i64 kp,.int .i64 a.kind,.int .i64 a.fr,.int .i64 a.un,.int .i64 a.pers,.slice A2 ns.length ns.length,.int .u64 (dg:Nat),.int .i64 0,.int .i64 0] 89)=w6 at *
        refine HSY.out.mono ?_
        rintro e w7 ⟨r7,rfl,hr7,hb7⟩;have hB7:=HB6.out.on hb7
        have hs7:=HSG.out w7 Q.says r7 hB7.b hr7 (by omega) HRG.out
        unfold Zpd at hs7
        rw [if_pos h3] at hs7
        have hnb7:=(hb7.block _ (zs HNB.out)).trans HNB.out
        have hE1:((sigE s.toNat o.toNat Q.says:Nat):Int)=((sigE s.toNat o.toNat Q.says:Nat):Int):=rfl
        generalize ((sigE s.toNat o.toNat Q.says:Nat):Int)=E1 at *
        generalize ((sigS s.toNat o.toNat Q.says:Nat):Int)=S1 at *
        have hz6:w5.heap.size<w6.heap.size:=(zs HNB.out)
        have hb57:Below w5.heap.size w5 w7:=hal6.trans (hb7.mono (by omega))
        have HS7:=zh hs7;have HB7:=zh hB7;have HNB7:=zh hnb7;clear hs7 hB7 hnb7 hb7 hr7 HSY HB6 HNB hE1 hal6;go_wp2_with fail;refine HS7.out.mono ?_
        rintro e w8 ⟨rfl,hb8⟩;have hB8:=HB7.out.on hb8
        have hnb8:=(hb8.block _ (zs HNB7.out)).trans HNB7.out
        have hz7:w5.heap.size<w7.heap.size:=(zs HNB7.out)
        have hb58:Below w5.heap.size w5 w8:=hb57.trans (hb8.mono (by omega))
        have hnz:w.heap.size+3≤w5.heap.size:=by have:=(zs HNSZ.out);omega
        have c10:w8.cell? ⟨w5.heap.size,10,none⟩=some (.int .i64 0):=by rw [zc hnb8];rfl
        have c11:w8.cell? ⟨w5.heap.size,11,none⟩=some (.int .i64 0):=by rw [zc hnb8];rfl
        have f10:w8.frozen? ⟨w5.heap.size,10,none⟩=false:=by simp [World.frozen?,hnb8]
        have f11:w8.frozen? ⟨w5.heap.size,11,none⟩=false:=by simp [World.frozen?,hnb8]
        have hst:((w8.setCell ⟨w5.heap.size,10,none⟩ (.int .i64 E1)).setCell ⟨w5.heap.size,11,none⟩ (.int .i64 S1)).heap[w5.heap.size]?=some (.cells (qtC ⟨v.num,t,ns.sum,kp,a,ns,dg,E1,S1⟩ (.slice A2 ns.length ns.length)) 89 (0,0)):=by
         simp [World.setCell,Array.getElem?_modify,hnb8,qtC]
        have hB9:=hB8.far (((Below.refl (w.heap.size+3) w8).setCell (p:=⟨w5.heap.size,10,none⟩) hnz (.int .i64 E1)).setCell (p:=⟨w5.heap.size,11,none⟩) hnz (.int .i64 S1))
        have hb59:=(hb58.setCell (p:=⟨w5.heap.size,10,none⟩) (zn _) (.int .i64 E1)).setCell (p:=⟨w5.heap.size,11,none⟩) (zn _) (.int .i64 S1)
        have hI9:=(HNS.out.on hb59).setRow' (R:=qtC ⟨v.num,t,ns.sum,kp,a,ns,dg,E1,S1⟩ (.slice A2 ns.length ns.length)) hfr
        have hset:=hB9.setRow (qtC ⟨v.num,t,ns.sum,kp,a,ns,dg,E1,S1⟩ (.slice A2 ns.length ns.length))
        have hres:=Z7x (er:=0) hset
        have hr9:=hB9.r
        have hz1:=Z0F ⟨v.num,t,ns.sum,kp,a,ns,dg,E1,S1⟩ A2 ns.length ns.length
        have hsz9:=(Z4b ((w8.setCell ⟨w5.heap.size,10,none⟩ (.int .i64 E1)).setCell ⟨w5.heap.size,11,none⟩ (.int .i64 S1)) (w.heap.size+1+1) (qtC ⟨v.num,t,ns.sum,kp,a,ns,dg,E1,S1⟩ (.slice A2 ns.length ns.length)))
        have hz59:=hb59.size
        simp only [qtC] at hst hset hres hr9 hz1 hI9 hsz9
        have HST:=zh hst;have HSET:=zh hset;have HRES:=zh hres;have HR9:=zh hr9;have HI9:=zh hI9;have HB8:=zh hB8;have HNB8:=zh hnb8;clear hst hset hres hr9 hI9 hB8 hnb8 hb8 hB9 HS7 HB7 HNB7;go_wp2_with (first | (with_reducible refine Z0f rfl _ rfl w5.heap.size rfl _ rfl _ HST.out ?_) | (refine Z0s rfl _ _ rfl (w.heap.size+1+1) _ _ rfl rfl HR9.out rfl rfl hz1 ?_))
        refine bodyPost_ret (v:=.tuple #[.agg (qtC ⟨v.num,t,ns.sum,kp,a,ns,dg,E1,S1⟩ (.slice A2 ns.length ns.length)),.int .i64 0]) (HRES.out _ rfl rfl) rfl ?_
        obtain rfl:=HQ.out
        subst hM;exact ⟨_,rfl,⟨A2,ns.length,rfl,HI9.out.up (Nat.le_trans hz59 (Nat.le_of_eq hsz9.symm))⟩,HSET.out.b⟩
   · rw [if_neg h3] at hs0
     obtain rfl:=HMNO.out (fun h=>h3 (by rw [h.2.2.2.1,h.2.2.2.2];rfl))
     have HS0:=zh hs0;clear hs0;go_wp2_with fail;refine (HS0.out).mono ?_
     rintro e w3 ⟨rfl,hb3⟩;have hB4:=HB2.out.on (hb3.trans (((Below.refl w3.heap.size w3).alloc (zn _) (.cells #[.int .i64 0,.int .i64 0] 30)).mono hb3.size))
     have HB4:=zh hB4;clear hB4 hb3 HS0;have hset:=HB4.out.setRow (qtC Qt.zero (.slice none 0 0))
     have hres:=Z7x (er:=1) hset
     have hr2:=HB4.out.r
     have hz1:=Z0F Qt.zero none 0 0
     simp only [qtC,Qt.zero] at hset hres hr2 hz1
     have HSET:=zh hset;have HRES:=zh hres;have HR2:=zh hr2;clear hset hres hr2;go_wp2_with (refine Z0s rfl _ _ rfl (w.heap.size+1+1) _ _ rfl rfl HR2.out rfl rfl hz1 ?_)
     refine bodyPost_ret (v:=.tuple #[.agg (qtC Qt.zero (.slice none 0 0)),.int .i64 1]) (HRES.out _ rfl rfl) rfl ?_
     exact ⟨_,rfl,Z44 _ _,HSET.out.b⟩
end
section
open Go.RowKit Lx Px Qx
theorem ZqH (l m:List Int):(l==m)=decide (l=m):=by
 by_cases h:l=m
 · subst h;simp
 · rw [decide_eq_false h];simpa using h
theorem ZjE (v u:Value)(l m:List Int)(B:Nat)(w:World)(hv:Z07 w B v l)(hu:Z07 w B u m)(hl:l.length≤1000000)(hm:m.length≤1000000) :
 Calls Tryz.prog 94 #[v,u] w fun e w'=>e=.returned (.bool (decide (l=m)))∧Below w.heap.size w w':=by
 obtain ⟨A,c,rfl,hA⟩:=hv
 obtain ⟨A',c',rfl,hA'⟩:=hu
 by_cases h0:l=[]
 · subst h0
   refine (Tryz.slices_Equal_int_empty A A' c m.length c' w (by omega)).mono ?_
   rintro e w' ⟨rfl,rfl⟩;refine ⟨?_,Below.refl _ _⟩
   cases m <;> simp
 · by_cases h1:l.length=m.length
   · obtain ⟨b,o,rfl,_,hc⟩:=hA h0
     obtain ⟨b',o',rfl,_,hc'⟩:=hA' (by intro e;subst e;simp at h1;exact h0 h1)
     refine (Tryz.slices_Equal_int b o l.length c b' o' m.length c' l m w (zn _) (zn _) (by omega) (by omega)
      (fun j hj=>by rw [hc j hj,List.getD_eq_getElem?_getD,List.getElem?_eq_getElem hj];rfl) (fun j hj=>by rw [hc' j hj,List.getD_eq_getElem?_getD,List.getElem?_eq_getElem hj];rfl)).mono ?_
     rintro e w' ⟨rfl,q,rfl⟩;refine ⟨?_,⟨rfl,rfl,rfl,zn _,fun _ _=>rfl⟩⟩
     rw [List.take_length,List.take_length,ZqH]
   · refine (Tryz.slices_Equal_int_lens A A' l.length c m.length c' w h1).mono ?_
     rintro e w' ⟨rfl,rfl⟩;refine ⟨?_,Below.refl _ _⟩
     rw [decide_eq_false (by rintro rfl;exact h1 rfl)]
structure IsK (w:World) (P:Array Value) (PV:Value) (pn:List Int) (Q:Array Value) (QV:Value) (qn:List Int) (W:World):Prop where
 p:W.heap[w.heap.size]?=some (.cells P 89 (0,0))
 q:W.heap[w.heap.size+1]?=some (.cells Q 89 (0,0))
 i:Z07 W W.heap.size PV pn
 j:Z07 W W.heap.size QV qn
 b:Below w.heap.size w W
theorem IsK.on {w W W':World}{P Q:Array Value}{PV QV:Value}{pn qn:List Int}(h:IsK w P PV pn Q QV qn W)(hb:Below W.heap.size W W'):IsK w P PV pn Q QV qn W' :=
 ⟨(hb.block _ (zs h.p)).trans h.p,(hb.block _ (zs h.q)).trans h.q,(h.i.on hb).up hb.size,(h.j.on hb).up hb.size,Z00 h.b hb⟩
theorem IsK.drew {w W:World}{P Q:Array Value}{PV QV:Value}{pn qn:List Int}(h:IsK w P PV pn Q QV qn W):IsK w P PV pn Q QV qn W.drew:=h.on (Below.refl _ _).drew
theorem IsK.new (w:World){P Q:Array Value}{PV QV:Value}{pn qn:List Int}(h:Z07 w w.heap.size PV pn)(h2:Z07 w w.heap.size QV qn):IsK w P PV pn Q QV qn ((w.alloc (.cells P 89)).alloc (.cells Q 89)):=by
 have hb:=((Below.refl w.heap.size w).alloc (zn _) (.cells P 89)).alloc (by simp) (.cells Q 89)
 refine ⟨Z0C (za w _) _,?_,(h.on hb).up hb.size,(h2.on hb).up hb.size,hb⟩
 have:=za (w.alloc (.cells P 89)) (.cells Q 89)
 rwa [World.size_alloc] at this
theorem IsK.cp {w W:World}{P Q:Array Value}{PV QV:Value}{pn qn:List Int}(h:IsK w P PV pn Q QV qn W)(i:Nat)(v:Value)(hv:P[i]?=some v):W.cell? ⟨w.heap.size,i,none⟩=some v:=by rw [zc h.p,hv]
theorem IsK.cq {w W:World}{P Q:Array Value}{PV QV:Value}{pn qn:List Int}(h:IsK w P PV pn Q QV qn W)(i:Nat)(v:Value)(hv:Q[i]?=some v):W.cell? ⟨w.heap.size+1,i,none⟩=some v:=by rw [zc h.q,hv]
theorem Zhh (p q:Qt)(V U:Value)(w:World)(hV:QtV w w.heap.size V p)(hU:QtV w w.heap.size U q)(hd:p.dig<18446744073709551616)(hd2:q.dig<18446744073709551616)(hn:p.nights.length≤50000)(hn2:q.nights.length≤50000) :
 Calls Tryz.prog 56 #[V,U] w fun e w'=>e=.returned (.bool (p.same q))∧Below w.heap.size w w':=by
 obtain ⟨PA,pc,rfl,hI⟩:=hV
 obtain ⟨QA,qc,rfl,hJ⟩:=hU
 have hsays:=fun W (h:Z07 W W.heap.size (.slice PA p.nights.length pc) p.nights)=>Z8j p (qtV p (.slice PA p.nights.length pc)) W ⟨PA,pc,rfl,h⟩ hd hn
 have hsays2:=fun W (h:Z07 W W.heap.size (.slice QA q.nights.length qc) q.nights)=>Z8j q (qtV q (.slice QA q.nights.length qc)) W ⟨QA,qc,rfl,h⟩ hd2 hn2
 have hl1:p.says.length≤1000000:=by simp [Qt.says];omega
 have hl2:q.says.length≤1000000:=by simp [Qt.says];omega
 have heq:=fun W v u (h1:Z07 W W.heap.size v p.says) (h2:Z07 W W.heap.size u q.says)=>ZjE v u p.says q.says W.heap.size W h1 h2 hl1 hl2
 have hss:=Qt.same_says p q
 obtain ⟨R,hR⟩:∃ R,p.same q=R:=⟨_,rfl⟩
 rw [hR] at hss ⊢
 clear hR;generalize decide (p.says=q.says)=bs at *
 generalize p.says=psays at *
 generalize q.says=qsays at *
 obtain ⟨pv,pt,po,pk,⟨k1,f1,u1,s1⟩,pn,pd,pe,ps⟩:=p
 obtain ⟨qv,qt,qo,qk,⟨k2,f2,u2,s2⟩,qn,qd,qe,qs⟩:=q
 simp only [qtV] at hsays hsays2 hI hJ ⊢
 simp only at hss hd hd2 hn hn2
 have hK0:=IsK.new w (P:=#[.int .i64 pv,.int .i64 pt,.int .i64 po,.int .i64 pk,.int .i64 k1,.int .i64 f1,.int .i64 u1,.int .i64 s1,.slice PA pn.length pc,.int .u64 (pd:Nat),.int .i64 pe,.int .i64 ps]) (Q:=#[.int .i64 qv,.int .i64 qt,.int .i64 qo,.int .i64 qk,.int .i64 k2,.int .i64 f2,.int .i64 u2,.int .i64 s2,.slice QA qn.length qc,.int .u64 (qd:Nat),.int .i64 qe,.int .i64 qs]) hI hJ
 have HMS:Hid (∀ wx,IsK w #[.int .i64 pv,.int .i64 pt,.int .i64 po,.int .i64 pk,.int .i64 k1,.int .i64 f1,.int .i64 u1,.int .i64 s1,.slice PA pn.length pc,.int .u64 (pd:Nat),.int .i64 pe,.int .i64 ps] (.slice PA pn.length pc) pn #[.int .i64 qv,.int .i64 qt,.int .i64 qo,.int .i64 qk,.int .i64 k2,.int .i64 f2,.int .i64 u2,.int .i64 s2,.slice QA qn.length qc,.int .u64 (qd:Nat),.int .i64 qe,.int .i64 qs] (.slice QA qn.length qc) qn wx→wx.cell? ⟨w.heap.size,0,none⟩=some (.int .i64 pv)∧wx.cell? ⟨w.heap.size,1,none⟩=some (.int .i64 pt)∧wx.cell? ⟨w.heap.size,2,none⟩=some (.int .i64 po)∧wx.cell? ⟨w.heap.size,3,none⟩=some (.int .i64 pk)∧wx.cell? ⟨w.heap.size,4,none⟩=some (.int .i64 k1)∧wx.cell? ⟨w.heap.size,5,none⟩=some (.int .i64 f1)∧wx.cell? ⟨w.heap.size,6,none⟩=some (.int .i64 u1)∧wx.cell? ⟨w.heap.size,7,none⟩=some (.int .i64 s1)∧wx.cell? ⟨w.heap.size,8,none⟩=some (.slice PA pn.length pc)∧wx.cell? ⟨w.heap.size,9,none⟩=some (.int .u64 (pd:Nat))∧wx.cell? ⟨w.heap.size,10,none⟩=some (.int .i64 pe)∧wx.cell? ⟨w.heap.size,11,none⟩=some (.int .i64 ps)∧wx.cell? ⟨w.heap.size+1,0,none⟩=some (.int .i64 qv)∧wx.cell? ⟨w.heap.size+1,1,none⟩=some (.int .i64 qt)∧wx.cell? ⟨w.heap.size+1,2,none⟩=some (.int .i64 qo)∧wx.cell? ⟨w.heap.size+1,3,none⟩=some (.int .i64 qk)∧wx.cell? ⟨w.heap.size+1,4,none⟩=some (.int .i64 k2)∧wx.cell? ⟨w.heap.size+1,5,none⟩=some (.int .i64 f2)∧wx.cell? ⟨w.heap.size+1,6,none⟩=some (.int .i64 u2)∧wx.cell? ⟨w.heap.size+1,7,none⟩=some (.int .i64 s2)∧wx.cell? ⟨w.heap.size+1,8,none⟩=some (.slice QA qn.length qc)∧wx.cell? ⟨w.heap.size+1,9,none⟩=some (.int .u64 (qd:Nat))∧wx.cell? ⟨w.heap.size+1,10,none⟩=some (.int .i64 qe)∧wx.cell? ⟨w.heap.size+1,11,none⟩=some (.int .i64 qs)∧IsK w #[.int .i64 pv,.int .i64 pt,.int .i64 po,.int .i64 pk,.int .i64 k1,.int .i64 f1,.int .i64 u1,.int .i64 s1,.slice PA pn.length pc,.int .u64 (pd:Nat),.int .i64 pe,.int .i64 ps] (.slice PA pn.length pc) pn #[.int .i64 qv,.int .i64 qt,.int .i64 qo,.int .i64 qk,.int .i64 k2,.int .i64 f2,.int .i64 u2,.int .i64 s2,.slice QA qn.length qc,.int .u64 (qd:Nat),.int .i64 qe,.int .i64 qs] (.slice QA qn.length qc) qn wx):=fun wx h=>⟨h.cp 0 _ rfl,h.cp 1 _ rfl,h.cp 2 _ rfl,h.cp 3 _ rfl,h.cp 4 _ rfl,h.cp 5 _ rfl,h.cp 6 _ rfl,h.cp 7 _ rfl,h.cp 8 _ rfl,h.cp 9 _ rfl,h.cp 10 _ rfl,h.cp 11 _ rfl,h.cq 0 _ rfl,h.cq 1 _ rfl,h.cq 2 _ rfl,h.cq 3 _ rfl,h.cq 4 _ rfl,h.cq 5 _ rfl,h.cq 6 _ rfl,h.cq 7 _ rfl,h.cq 8 _ rfl,h.cq 9 _ rfl,h.cq 10 _ rfl,h.cq 11 _ rfl,h⟩
 have HSP:Hid (∀ wx,IsK w #[.int .i64 pv,.int .i64 pt,.int .i64 po,.int .i64 pk,.int .i64 k1,.int .i64 f1,.int .i64 u1,.int .i64 s1,.slice PA pn.length pc,.int .u64 (pd:Nat),.int .i64 pe,.int .i64 ps] (.slice PA pn.length pc) pn #[.int .i64 qv,.int .i64 qt,.int .i64 qo,.int .i64 qk,.int .i64 k2,.int .i64 f2,.int .i64 u2,.int .i64 s2,.slice QA qn.length qc,.int .u64 (qd:Nat),.int .i64 qe,.int .i64 qs] (.slice QA qn.length qc) qn wx→Calls Tryz.prog 51 #[.agg #[.int .i64 pv,.int .i64 pt,.int .i64 po,.int .i64 pk,.int .i64 k1,.int .i64 f1,.int .i64 u1,.int .i64 s1,.slice PA pn.length pc,.int .u64 (pd:Nat),.int .i64 pe,.int .i64 ps]] wx fun e w'=>∃ r,e=.returned r∧Z07 w' w'.heap.size r psays∧Below wx.heap.size wx w'):=fun wx h=>hsays wx h.i
 have HSQ:Hid (∀ wx,IsK w #[.int .i64 pv,.int .i64 pt,.int .i64 po,.int .i64 pk,.int .i64 k1,.int .i64 f1,.int .i64 u1,.int .i64 s1,.slice PA pn.length pc,.int .u64 (pd:Nat),.int .i64 pe,.int .i64 ps] (.slice PA pn.length pc) pn #[.int .i64 qv,.int .i64 qt,.int .i64 qo,.int .i64 qk,.int .i64 k2,.int .i64 f2,.int .i64 u2,.int .i64 s2,.slice QA qn.length qc,.int .u64 (qd:Nat),.int .i64 qe,.int .i64 qs] (.slice QA qn.length qc) qn wx→Calls Tryz.prog 51 #[.agg #[.int .i64 qv,.int .i64 qt,.int .i64 qo,.int .i64 qk,.int .i64 k2,.int .i64 f2,.int .i64 u2,.int .i64 s2,.slice QA qn.length qc,.int .u64 (qd:Nat),.int .i64 qe,.int .i64 qs]] wx fun e w'=>∃ r,e=.returned r∧Z07 w' w'.heap.size r qsays∧Below wx.heap.size wx w'):=fun wx h=>hsays2 wx h.j
 have HK0:=zh hK0;have HEQ:=zh heq;have HSS:=zh hss;clear hK0 heq hss hsays hsays2 hI hJ;by_cases h0:k1=k2
 · subst h0
   by_cases h1:f1=f2
   · subst h1
     by_cases h2:u1=u2
     · subst h2
       by_cases h3:s1=s2
       · subst h3
         by_cases hdd:pd=qd
         · subst hdd
           obtain rfl:R=bs:=by rw [← HSS.out];simp
           go_enter Tryz.func56,Tryz.ntmps56
           go_wp2_with fail;go_region_held3 (fun w'=>w'.cell? ⟨w.heap.size,0,none⟩=some (.int .i64 pv)∧w'.cell? ⟨w.heap.size,1,none⟩=some (.int .i64 pt)∧w'.cell? ⟨w.heap.size,2,none⟩=some (.int .i64 po)∧w'.cell? ⟨w.heap.size,3,none⟩=some (.int .i64 pk)∧w'.cell? ⟨w.heap.size,4,none⟩=some (.int .i64 k1)∧w'.cell? ⟨w.heap.size,5,none⟩=some (.int .i64 f1)∧w'.cell? ⟨w.heap.size,6,none⟩=some (.int .i64 u1)∧w'.cell? ⟨w.heap.size,7,none⟩=some (.int .i64 s1)∧w'.cell? ⟨w.heap.size,8,none⟩=some (.slice PA pn.length pc)∧w'.cell? ⟨w.heap.size,9,none⟩=some (.int .u64 (pd:Nat))∧w'.cell? ⟨w.heap.size,10,none⟩=some (.int .i64 pe)∧w'.cell? ⟨w.heap.size,11,none⟩=some (.int .i64 ps)∧w'.cell? ⟨w.heap.size+1,0,none⟩=some (.int .i64 qv)∧w'.cell? ⟨w.heap.size+1,1,none⟩=some (.int .i64 qt)∧w'.cell? ⟨w.heap.size+1,2,none⟩=some (.int .i64 qo)∧w'.cell? ⟨w.heap.size+1,3,none⟩=some (.int .i64 qk)∧w'.cell? ⟨w.heap.size+1,4,none⟩=some (.int .i64 k1)∧w'.cell? ⟨w.heap.size+1,5,none⟩=some (.int .i64 f1)∧w'.cell? ⟨w.heap.size+1,6,none⟩=some (.int .i64 u1)∧w'.cell? ⟨w.heap.size+1,7,none⟩=some (.int .i64 s1)∧w'.cell? ⟨w.heap.size+1,8,none⟩=some (.slice QA qn.length qc)∧w'.cell? ⟨w.heap.size+1,9,none⟩=some (.int .u64 (pd:Nat))∧w'.cell? ⟨w.heap.size+1,10,none⟩=some (.int .i64 qe)∧w'.cell? ⟨w.heap.size+1,11,none⟩=some (.int .i64 qs)∧IsK w #[.int .i64 pv,.int .i64 pt,.int .i64 po,.int .i64 pk,.int .i64 k1,.int .i64 f1,.int .i64 u1,.int .i64 s1,.slice PA pn.length pc,.int .u64 (pd:Nat),.int .i64 pe,.int .i64 ps] (.slice PA pn.length pc) pn #[.int .i64 qv,.int .i64 qt,.int .i64 qo,.int .i64 qk,.int .i64 k1,.int .i64 f1,.int .i64 u1,.int .i64 s1,.slice QA qn.length qc,.int .u64 (pd:Nat),.int .i64 qe,.int .i64 qs] (.slice QA qn.length qc) qn w')
            (first | (with_reducible exact HMS.out _ HK0.out.drew) | (with_reducible exact HMS.out _ L6) | (with_reducible exact HMS.out _ L5) | (with_reducible exact HMS.out _ L7) | fail)
            (first
             | (go_at_call 51;have hA:=(‹_∧_∧_∧_∧_∧_∧_∧_∧_∧_∧_∧_∧_∧_∧_∧_∧_∧_∧_∧_∧_∧_∧_∧_∧IsK w #[.int .i64 pv,.int .i64 pt,.int .i64 po,.int .i64 pk,.int .i64 k1,.int .i64 f1,.int .i64 u1,.int .i64 s1,.slice PA pn.length pc,.int .u64 (pd:Nat),.int .i64 pe,.int .i64 ps] (.slice PA pn.length pc) pn #[.int .i64 qv,.int .i64 qt,.int .i64 qo,.int .i64 qk,.int .i64 k1,.int .i64 f1,.int .i64 u1,.int .i64 s1,.slice QA qn.length qc,.int .u64 (pd:Nat),.int .i64 qe,.int .i64 qs] (.slice QA qn.length qc) qn _›).2.2.2.2.2.2.2.2.2.2.2.2.2.2.2.2.2.2.2.2.2.2.2.2;with_reducible refine (HSP.out _ hA).mono ?_;rintro ex w5 ⟨r5,rfl,hr5,hb5⟩;have L5:=hA.on hb5;have HR5:=zh hr5;clear hr5;try (have hq5:=(HR6.out.on hb5).up hb5.size;have HQ5:=zh hq5;clear hq5);clear hb5 hA)
             | (go_at_call 51;have hA:=(‹_∧_∧_∧_∧_∧_∧_∧_∧_∧_∧_∧_∧_∧_∧_∧_∧_∧_∧_∧_∧_∧_∧_∧_∧IsK w #[.int .i64 pv,.int .i64 pt,.int .i64 po,.int .i64 pk,.int .i64 k1,.int .i64 f1,.int .i64 u1,.int .i64 s1,.slice PA pn.length pc,.int .u64 (pd:Nat),.int .i64 pe,.int .i64 ps] (.slice PA pn.length pc) pn #[.int .i64 qv,.int .i64 qt,.int .i64 qo,.int .i64 qk,.int .i64 k1,.int .i64 f1,.int .i64 u1,.int .i64 s1,.slice QA qn.length qc,.int .u64 (pd:Nat),.int .i64 qe,.int .i64 qs] (.slice QA qn.length qc) qn _›).2.2.2.2.2.2.2.2.2.2.2.2.2.2.2.2.2.2.2.2.2.2.2.2;with_reducible refine (HSQ.out _ hA).mono ?_;rintro ex w6 ⟨r6,rfl,hr6,hb6⟩;have L6:=hA.on hb6;have HR6:=zh hr6;clear hr6;try (have hq6:=(HR5.out.on hb6).up hb6.size;have HQ6:=zh hq6;clear hq6);clear hb6 hA)
             | (go_at_call 94;have hA:=(‹_∧_∧_∧_∧_∧_∧_∧_∧_∧_∧_∧_∧_∧_∧_∧_∧_∧_∧_∧_∧_∧_∧_∧_∧IsK w #[.int .i64 pv,.int .i64 pt,.int .i64 po,.int .i64 pk,.int .i64 k1,.int .i64 f1,.int .i64 u1,.int .i64 s1,.slice PA pn.length pc,.int .u64 (pd:Nat),.int .i64 pe,.int .i64 ps] (.slice PA pn.length pc) pn #[.int .i64 qv,.int .i64 qt,.int .i64 qo,.int .i64 qk,.int .i64 k1,.int .i64 f1,.int .i64 u1,.int .i64 s1,.slice QA qn.length qc,.int .u64 (pd:Nat),.int .i64 qe,.int .i64 qs] (.slice QA qn.length qc) qn _›).2.2.2.2.2.2.2.2.2.2.2.2.2.2.2.2.2.2.2.2.2.2.2.2;(first | (refine (HEQ.out _ _ _ HR5.out HQ5.out).mono ?_) | (refine (HEQ.out _ _ _ HQ6.out HR6.out).mono ?_));rintro ex w7 ⟨rfl,hb7⟩;have L7:=hA.on hb7;clear hb7 hA))
           all_goals
            have hA:=(‹_∧_∧_∧_∧_∧_∧_∧_∧_∧_∧_∧_∧_∧_∧_∧_∧_∧_∧_∧_∧_∧_∧_∧_∧IsK w #[.int .i64 pv,.int .i64 pt,.int .i64 po,.int .i64 pk,.int .i64 k1,.int .i64 f1,.int .i64 u1,.int .i64 s1,.slice PA pn.length pc,.int .u64 (pd:Nat),.int .i64 pe,.int .i64 ps] (.slice PA pn.length pc) pn #[.int .i64 qv,.int .i64 qt,.int .i64 qo,.int .i64 qk,.int .i64 k1,.int .i64 f1,.int .i64 u1,.int .i64 s1,.slice QA qn.length qc,.int .u64 (pd:Nat),.int .i64 qe,.int .i64 qs] (.slice QA qn.length qc) qn _›).2.2.2.2.2.2.2.2.2.2.2.2.2.2.2.2.2.2.2.2.2.2.2.2
            go_wp2_with fail;go_ret
            exact ⟨rfl,hA.b⟩
         · have d1:((pd:Int)==(qd:Int))=false:=by simp;omega
           have d2:¬ ((pd:Int)=(qd:Int)):=by omega
           obtain rfl:R=false:=by rw [← HSS.out];simp [hdd]
           obtain ⟨c0,c1,c2,c3,c4,c5,c6,c7,c8,c9,c10,c11,c12,c13,c14,c15,c16,c17,c18,c19,c20,c21,c22,c23,_⟩:=HMS.out _ HK0.out
           have hD:=HK0.out.drew.b
           have HD:=zh hD;clear hD HK0;go_enter Tryz.func56,Tryz.ntmps56
           go_wp2_with fail;go_region
           all_goals
            go_wp2_with fail;go_ret
            exact ⟨rfl,HD.out⟩
       · have d1:(s1==s2)=false:=by simpa using h3
         obtain rfl:R=false:=by rw [← HSS.out];simp [h3]
         obtain ⟨c0,c1,c2,c3,c4,c5,c6,c7,c8,c9,c10,c11,c12,c13,c14,c15,c16,c17,c18,c19,c20,c21,c22,c23,_⟩:=HMS.out _ HK0.out
         have hD:=HK0.out.drew.b
         have HD:=zh hD;clear hD HK0;go_enter Tryz.func56,Tryz.ntmps56
         go_wp2_with fail;go_region
         all_goals
          go_wp2_with fail;go_ret
          exact ⟨rfl,HD.out⟩
     · have d1:(u1==u2)=false:=by simpa using h2
       obtain rfl:R=false:=by rw [← HSS.out];simp [h2]
       obtain ⟨c0,c1,c2,c3,c4,c5,c6,c7,c8,c9,c10,c11,c12,c13,c14,c15,c16,c17,c18,c19,c20,c21,c22,c23,_⟩:=HMS.out _ HK0.out
       have hD:=HK0.out.drew.b
       have HD:=zh hD;clear hD HK0;go_enter Tryz.func56,Tryz.ntmps56
       go_wp2_with fail;go_region
       all_goals
        go_wp2_with fail;go_ret
        exact ⟨rfl,HD.out⟩
   · have d1:(f1==f2)=false:=by simpa using h1
     obtain rfl:R=false:=by rw [← HSS.out];simp [h1]
     obtain ⟨c0,c1,c2,c3,c4,c5,c6,c7,c8,c9,c10,c11,c12,c13,c14,c15,c16,c17,c18,c19,c20,c21,c22,c23,_⟩:=HMS.out _ HK0.out
     have hD:=HK0.out.drew.b
     have HD:=zh hD;clear hD HK0;go_enter Tryz.func56,Tryz.ntmps56
     go_wp2_with fail;go_region
     all_goals
      go_wp2_with fail;go_ret
      exact ⟨rfl,HD.out⟩
 · have d1:(k1==k2)=false:=by simpa using h0
   obtain rfl:R=false:=by rw [← HSS.out];simp [h0]
   obtain ⟨c0,c1,c2,c3,c4,c5,c6,c7,c8,c9,c10,c11,c12,c13,c14,c15,c16,c17,c18,c19,c20,c21,c22,c23,_⟩:=HMS.out _ HK0.out
   have hD:=HK0.out.drew.b
   have HD:=zh hD;clear hD HK0;go_enter Tryz.func56,Tryz.ntmps56
   go_wp2_with fail;go_region
   all_goals
    go_wp2_with fail;go_ret
    exact ⟨rfl,HD.out⟩
end
end Go.Proofs.YtnepkoepbapgeaaGreatDoor
