/-
  Walks: the reference of package quote: Says.
-/
import Derived.Test.YtnepkoepbapgeaaGreatDoorQuoUse
import Derived.Test.YtnepkoepbapgeaaGreatDoorQuoSay
namespace Go.Proofs.YtnepkoepbapgeaaGreatDoor
set_option maxRecDepth 100000
open Go.RowKit Lx Px Qx
set_option maxHeartbeats 16000000 in
theorem Zi7 (q:Qt)(V:Value)(w:World)(hV:QtV w w.heap.size V q)(hd:q.dig<18446744073709551616)(hn:q.nights.length≤50000) :
 Calls Tryz.prog 29 #[V] w fun e w'=>∃ r,e=.returned r∧Z02 w' w'.heap.size r q.says∧Below w.heap.size w w':=by
 obtain ⟨PA,pc,rfl,hI⟩:=hV
 have hsay:q.says=([q.ver,q.time,q.total,q.keep,q.ask.kind,q.ask.fr,q.ask.un,q.ask.pers,(q.nights.length:Int)]++q.nights)++[((q.dig / 4294967296:Nat):Int),((q.dig % 4294967296:Nat):Int)]:=rfl
 rw [hsay]
 clear hsay;obtain ⟨pv,pt,po,pk,⟨k1,f1,u1,s1⟩,pn,pd,pe,ps⟩:=q
 simp only [qtV] at hI hd hn ⊢
 have hb0:=(Below.refl w.heap.size w).alloc (zn _) (.cells #[.int .i64 pv,.int .i64 pt,.int .i64 po,.int .i64 pk,.int .i64 k1,.int .i64 f1,.int .i64 u1,.int .i64 s1,.slice PA pn.length pc,.int .u64 (pd:Nat),.int .i64 pe,.int .i64 ps] 32)
 have hx0:=za w (.cells #[.int .i64 pv,.int .i64 pt,.int .i64 po,.int .i64 pk,.int .i64 k1,.int .i64 f1,.int .i64 u1,.int .i64 s1,.slice PA pn.length pc,.int .u64 (pd:Nat),.int .i64 pe,.int .i64 ps] 32)
 have hI0:=hI.on hb0
 have hdiv:(pd:Int).tdiv 4294967296=((pd / 4294967296:Nat):Int):=by rw [Int.tdiv_eq_ediv_of_nonneg (by omega)];omega
 have hmod:(pd:Int).tmod 4294967296=((pd % 4294967296:Nat):Int):=by rw [Int.tmod_eq_emod_of_nonneg (by omega)];omega
 have hw1:IntKind.i64.wrap ((pd / 4294967296:Nat):Int)=((pd / 4294967296:Nat):Int):=IntWalk.i64_in _ (by omega)
 have hw2:IntKind.i64.wrap ((pd % 4294967296:Nat):Int)=((pd % 4294967296:Nat):Int):=IntWalk.i64_in _ (by omega)
 have hw3:IntKind.u64.wrap ((pd / 4294967296:Nat):Int)=((pd / 4294967296:Nat):Int):=by rw [IntKind.wrap_u64];omega
 have hi0:(0:Int)≤((pd / 4294967296:Nat):Int):=by omega
 have hi1:((pd / 4294967296:Nat):Int)≤4294967295:=by omega
 generalize pd / 4294967296=hi at *
 generalize pd % 4294967296=lo at *
 have HX0:=zh hx0;have HI0:=zh hI0;have HB0:=zh hb0;clear hx0 hI0 hb0 hI;go_enter Tryz.func29,Tryz.ntmps29
 go_upto_region 1 with fail
 generalize w.alloc (.cells #[.int .i64 pv,.int .i64 pt,.int .i64 po,.int .i64 pk,.int .i64 k1,.int .i64 f1,.int .i64 u1,.int .i64 s1,.slice PA pn.length pc,.int .u64 (pd:Nat),.int .i64 pe,.int .i64 ps] 32)=w1 at *
 have hz1:w.heap.size<w1.heap.size:=(zs HX0.out)
 have c0:w1.cell? ⟨w.heap.size,0,none⟩=some (.int .i64 pv):=by rw [zc HX0.out];rfl
 have c1:w1.cell? ⟨w.heap.size,1,none⟩=some (.int .i64 pt):=by rw [zc HX0.out];rfl
 have c2:w1.cell? ⟨w.heap.size,2,none⟩=some (.int .i64 po):=by rw [zc HX0.out];rfl
 have c3:w1.cell? ⟨w.heap.size,3,none⟩=some (.int .i64 pk):=by rw [zc HX0.out];rfl
 have c4:w1.cell? ⟨w.heap.size,4,none⟩=some (.int .i64 k1):=by rw [zc HX0.out];rfl
 have c5:w1.cell? ⟨w.heap.size,5,none⟩=some (.int .i64 f1):=by rw [zc HX0.out];rfl
 have c6:w1.cell? ⟨w.heap.size,6,none⟩=some (.int .i64 u1):=by rw [zc HX0.out];rfl
 have c7:w1.cell? ⟨w.heap.size,7,none⟩=some (.int .i64 s1):=by rw [zc HX0.out];rfl
 have c8:w1.cell? ⟨w.heap.size,8,none⟩=some (.slice PA pn.length pc):=by rw [zc HX0.out];rfl
 go_upto_region 2 with fail
 have hown:(w1.alloc (.cells #[.int .i64 pv,.int .i64 pt,.int .i64 po,.int .i64 pk,.int .i64 k1,.int .i64 f1,.int .i64 u1,.int .i64 s1,.int .i64 (pn.length:Nat)] 3)).ownsRow (w.heap.size+1) 3 1 (.slice (some ⟨w1.heap.size,0,none⟩) 9 9) 9 (([pv,pt,po,pk,k1,f1,u1,s1,((pn.length:Nat):Int)]:List Int).map (.int .i64)) :=
  World.ownsRow_lit w1 #[.int .i64 pv,.int .i64 pt,.int .i64 po,.int .i64 pk,.int .i64 k1,.int .i64 f1,.int .i64 u1,.int .i64 s1,.int .i64 (pn.length:Nat)] 9 (by omega) (by unfold maxLen;omega) rfl
 have hal:=(Below.refl w1.heap.size w1).alloc (zn _) (.cells #[.int .i64 pv,.int .i64 pt,.int .i64 po,.int .i64 pk,.int .i64 k1,.int .i64 f1,.int .i64 u1,.int .i64 s1,.int .i64 (pn.length:Nat)] 3)
 have hI2:=HI0.out.on (hal.mono (Nat.le_of_lt hz1))
 have hx2:=(hal.block _ hz1).trans HX0.out
 have hb2:=HB0.out.trans (hal.mono (Nat.le_of_lt hz1))
 have hz2:=hal.size
 generalize w1.alloc (.cells #[.int .i64 pv,.int .i64 pt,.int .i64 po,.int .i64 pk,.int .i64 k1,.int .i64 f1,.int .i64 u1,.int .i64 s1,.int .i64 (pn.length:Nat)] 3)=w2 at *
 generalize hl9:([pv,pt,po,pk,k1,f1,u1,s1,((pn.length:Nat):Int)]:List Int)=l9 at *
 have hl9n:l9.length=9:=by rw [← hl9];rfl
 have c8:w2.cell? ⟨w.heap.size,8,none⟩=some (.slice PA pn.length pc):=by rw [zc hx2];rfl
 have hlist:pv::pt::po::pk::k1::f1::u1::s1::(pn.length:Int)::(pn++[(hi:Int),(lo:Int)])=(l9++pn)++[(hi:Int),(lo:Int)]:=by rw [← hl9];simp
 have HOWN:=zh hown;have HI2:=zh hI2;have HX2:=zh hx2;have HB2:=zh hb2;have HLS:=zh hlist;clear hown hI2 hx2 hb2 hlist HX0 HI0 HB0 hal c0 c1 c2 c3 c4 c5 c6 c7 hl9;go_upto_region 3 with (at_builtin;refine Z16 rfl _ _ rfl (w.heap.size+1) w.heap.size (.slice (some ⟨w1.heap.size,0,none⟩) 9 9) l9 rfl (by rw [hl9n];exact HOWN.out) PA pn.length pc pn rfl HI2.out (by omega) (by omega) ?_;intro v3 w3 hown3 hgrow3)
 have hx3:=(hgrow3.block w.heap.size (by omega) (by intro e;have e:=Option.some.inj e;dsimp only at e;omega)).trans HX2.out
 have hb3:Below w.heap.size w w3:=HB2.out.grown hgrow3 (by omega) (fun g e=>by have e:=Option.some.inj e;dsimp only at e;omega)
 have c9:w3.cell? ⟨w.heap.size,9,none⟩=some (.int .u64 (pd:Nat)):=by rw [zc hx3];rfl
 obtain ⟨A3,c3,rfl,hc3⟩:=Z3m hown3 rfl
 have hob:=hown3.lt
 have hz3:w.heap.size+1≤w3.heap.size:=by have:=hgrow3.size;omega
 have hll:(l9++pn).length≤60000:=by rw [List.length_append,hl9n];omega
 have HOWN3:=zh hown3;have HB3:=zh hb3;have HOB:=zh hob;clear hown3 hb3 hob HOWN HI2 HX2 HB2 c8 hgrow3 hx3;go_wp2_with (at_builtin;go_loud (refine Z16 rfl _ _ rfl (w.heap.size+1) (w3.heap.size+1) _ (l9++pn) rfl (HOWN3.out.alloc _) _ 2 2 [(hi:Int),(lo:Int)] rfl (Z4b (W:=w3) hi lo) (by simp only [List.length_append,List.length_cons,List.length_nil];omega) (by simp;omega) ?_;intro v4 w4 hown4 hgrow4))
 have hb4:Below w.heap.size w w4:=(HB3.out.alloc (by omega) (.cells #[.int .i64 hi,.int .i64 lo] 3)).grown hgrow4 (by simp;omega) (fun g e=>by have:=(HOB.out g e).1;omega)
 go_ret
 refine ⟨_,rfl,?_,hb4⟩
 rw [HLS.out]
 exact Z02.own hown4 rfl
end Go.Proofs.YtnepkoepbapgeaaGreatDoor
