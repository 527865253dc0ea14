/-
  Several texts in one: QuoBox, QuoR12c, QuoUse.
-/
import Derived.Test.YtnepkoepbapgeaaGreatDoorQuoSay
import Derived.Test.YtnepkoepbapgeaaGreatDoorQuoR10d
import Derived.Test.YtnepkoepbapgeaaGreatDoorPrtCan
namespace Go.Proofs.YtnepkoepbapgeaaGreatDoor
set_option maxHeartbeats 16000000
set_option maxRecDepth 100000
section
open Go.RowKit Lx Px Qx
theorem Z8c {ops:Array Oper}{rest:List Oper}{op:Oper}{a:Act}{w:World}{Q:Exit→Act→World→Prop}(hgd:op.guard=none)(x:Operand)(ho:op.op=.load 32 x)
 (g o:Nat) (hx:a.eval x=.pointer (some ⟨g,o,none⟩)) (cs:Array Value) (hs:cs.size=12) (hc:∀ j v,cs[j]?=some v→w.cell? ⟨g,o+j,none⟩=some v)
 (h:wpList Tryz.prog ops Q rest (a.put op.dst (.agg cs)) w):wpList Tryz.prog ops Q (op::rest) a w:=by
 refine wpList_plain hgd fun _ hK=>?_
 have hr:=Z10 w g o 32 cs _ hc Tryz.underlying32 rfl (by rw [Tryz.infoQtSz,hs])
 unfold Oper.wp execOp
 simp only [ho,hx,Instr.loadAt,Instr.sureAddr,Sem.run_bind,Sem.run_pure,Result.andThen_ok,hr]
 exact hK _ _ h
theorem Z0x {ops:Array Oper}{rest:List Oper}{op:Oper}{a:Act}{w:World}{Q:Exit→Act→World→Prop}(hgd:op.guard=none)(x:Operand)(ho:op.op=.load 32 x)
 (g:Nat) (hx:a.eval x=.pointer (some ⟨g,0,none⟩)) (cs:Array Value) (hs:cs.size=12) (t:TypeId) (hg:w.heap[g]?=some (.cells cs t (0,0)))
 (h:wpList Tryz.prog ops Q rest (a.put op.dst (.agg cs)) w):wpList Tryz.prog ops Q (op::rest) a w :=
 Z8c hgd x ho g 0 hx cs hs (fun j v hv=>by rw [Nat.zero_add,zc hg,hv]) h
theorem Z0p {ops:Array Oper}{rest:List Oper}{op:Oper}{a:Act}{w:World}{Q:Exit→Act→World→Prop}(hgd:op.guard=none)(x y:Operand)(ho:op.op=.store 32 x y)
 (g:Nat) (zs cs:Array Value) (hx:a.eval x=.pointer (some ⟨g,0,none⟩)) (hy:a.eval y=.agg cs) (hg:w.heap[g]?=some (.cells zs 32 (0,0))) (hz:zs.size=12) (hs:cs.size=12) (h1:cs.all (·.oneCell')=true)
 (h:wpList Tryz.prog ops Q rest (a.put op.dst undef) (w.setRow g cs)):wpList Tryz.prog ops Q (op::rest) a w :=
 wpList_store_row hgd 32 x y ho g cs hx hy _ zs hg (by rw [Tryz.infoQtSz,hs]) (by omega) h1 h
theorem Z0t {ops:Array Oper}{rest:List Oper}{op:Oper}{a:Act}{w:World}{Q:Exit→Act→World→Prop}(hgd:op.guard=none)(x y:Operand)(ho:op.op=.store 32 x y)
 (zs cs:Array Value) (hx:a.eval x=.pointer (some ⟨w.heap.size,0,none⟩)) (hy:a.eval y=.agg cs) (hz:zs.size=12) (hs:cs.size=12) (h1:cs.all (·.oneCell')=true)
 (h:wpList Tryz.prog ops Q rest (a.put op.dst undef) (w.alloc (.cells cs 32))):wpList Tryz.prog ops Q (op::rest) a (w.alloc (.cells zs 32)):=by
 refine wpList_store_row hgd 32 x y ho w.heap.size cs hx hy _ zs (za w _) (by rw [Tryz.infoQtSz,hs]) (by omega) h1 ?_
 rw [Z2d]
 exact h
theorem Z8d {ops:Array Oper}{rest:List Oper}{op:Oper}{a:Act}{w:World}{Q:Exit→Act→World→Prop}(hgd:op.guard=none)(x:Operand)(ho:op.op=.load 89 x)
 (g o:Nat) (hx:a.eval x=.pointer (some ⟨g,o,none⟩)) (cs:Array Value) (hs:cs.size=12) (hc:∀ j v,cs[j]?=some v→w.cell? ⟨g,o+j,none⟩=some v)
 (h:wpList Tryz.prog ops Q rest (a.put op.dst (.agg cs)) w):wpList Tryz.prog ops Q (op::rest) a w:=by
 refine wpList_plain hgd fun _ hK=>?_
 have hr:=Z10 w g o 89 cs _ hc Tryz.underlying89 rfl (by rw [Tryz.infoNtSz,hs])
 unfold Oper.wp execOp
 simp only [ho,hx,Instr.loadAt,Instr.sureAddr,Sem.run_bind,Sem.run_pure,Result.andThen_ok,hr]
 exact hK _ _ h
theorem Z86 {ops:Array Oper}{rest:List Oper}{op:Oper}{a:Act}{w:World}{Q:Exit→Act→World→Prop}(hgd:op.guard=none)(x:Operand)(ho:op.op=.load 89 x)
 (g:Nat) (hx:a.eval x=.pointer (some ⟨g,0,none⟩)) (cs:Array Value) (hs:cs.size=12) (t:TypeId) (hg:w.heap[g]?=some (.cells cs t (0,0)))
 (h:wpList Tryz.prog ops Q rest (a.put op.dst (.agg cs)) w):wpList Tryz.prog ops Q (op::rest) a w :=
 Z8d hgd x ho g 0 hx cs hs (fun j v hv=>by rw [Nat.zero_add,zc hg,hv]) h
theorem Z4c {ops:Array Oper}{rest:List Oper}{op:Oper}{a:Act}{w:World}{Q:Exit→Act→World→Prop}(hgd:op.guard=none)(x y:Operand)(ho:op.op=.store 89 x y)
 (g:Nat) (zs cs:Array Value) (hx:a.eval x=.pointer (some ⟨g,0,none⟩)) (hy:a.eval y=.agg cs) (hg:w.heap[g]?=some (.cells zs 89 (0,0))) (hz:zs.size=12) (hs:cs.size=12) (h1:cs.all (·.oneCell')=true)
 (h:wpList Tryz.prog ops Q rest (a.put op.dst undef) (w.setRow g cs)):wpList Tryz.prog ops Q (op::rest) a w :=
 wpList_store_row hgd 89 x y ho g cs hx hy _ zs hg (by rw [Tryz.infoNtSz,hs]) (by omega) h1 h
theorem Z0e {ops:Array Oper}{rest:List Oper}{op:Oper}{a:Act}{w:World}{Q:Exit→Act→World→Prop}(hgd:op.guard=none)(x y:Operand)(ho:op.op=.store 89 x y)
 (zs cs:Array Value) (hx:a.eval x=.pointer (some ⟨w.heap.size,0,none⟩)) (hy:a.eval y=.agg cs) (hz:zs.size=12) (hs:cs.size=12) (h1:cs.all (·.oneCell')=true)
 (h:wpList Tryz.prog ops Q rest (a.put op.dst undef) (w.alloc (.cells cs 89))):wpList Tryz.prog ops Q (op::rest) a (w.alloc (.cells zs 89)):=by
 refine wpList_store_row hgd 89 x y ho w.heap.size cs hx hy _ zs (za w _) (by rw [Tryz.infoNtSz,hs]) (by omega) h1 ?_
 rw [Z2d]
 exact h
end
section
open Go.RowKit Lx Px Qx
structure SmK (w:World) (P:Array Value) (PV:Value) (pn:List Int) (Q:Array Value) (QV:Value) (qn:List Int) (W:World):Prop where
 p:W.heap[w.heap.size]?=some (.cells P 32 (0,0))
 q:W.heap[w.heap.size+1]?=some (.cells Q 32 (0,0))
 i:Z02 W W.heap.size PV pn
 j:Z02 W W.heap.size QV qn
 b:Below w.heap.size w W
theorem SmK.on {w W W':World}{P Q:Array Value}{PV QV:Value}{pn qn:List Int}(h:SmK w P PV pn Q QV qn W)(hb:Below W.heap.size W W'):SmK w P PV pn Q QV qn W' :=
 ⟨(hb.block _ (zs h.p)).trans h.p,(hb.block _ (zs h.q)).trans h.q,(h.i.on hb).up hb.size,(h.j.on hb).up hb.size,Z00 h.b hb⟩
theorem SmK.new (w:World){P Q:Array Value}{PV QV:Value}{pn qn:List Int}(h:Z02 w w.heap.size PV pn)(h2:Z02 w w.heap.size QV qn):SmK w P PV pn Q QV qn ((w.alloc (.cells P 32)).alloc (.cells Q 32)):=by
 have hb:=((Below.refl w.heap.size w).alloc (zn _) (.cells P 32)).alloc (by simp) (.cells Q 32)
 refine ⟨Z0z (za w _) _,?_,(h.on hb).up hb.size,(h2.on hb).up hb.size,hb⟩
 have:=za (w.alloc (.cells P 32)) (.cells Q 32)
 rwa [World.size_alloc] at this
theorem SmK.cp {w W:World}{P Q:Array Value}{PV QV:Value}{pn qn:List Int}(h:SmK w P PV pn Q QV qn W)(i:Nat)(v:Value)(hv:P[i]?=some v):W.cell? ⟨w.heap.size,i,none⟩=some v:=by rw [zc h.p,hv]
theorem SmK.cq {w W:World}{P Q:Array Value}{PV QV:Value}{pn qn:List Int}(h:SmK w P PV pn Q QV qn W)(i:Nat)(v:Value)(hv:Q[i]?=some v):W.cell? ⟨w.heap.size+1,i,none⟩=some v:=by rw [zc h.q,hv]
theorem Ziv (p q:Qt)(V U:Value)(w:World)(hV:QtV w w.heap.size V p)(hU:QtV w w.heap.size U q)(hn:p.nights.length≤1000000) :
 Calls Tryz.prog 27 #[V,U] w fun e w'=>e=.returned (.bool (p.same q))∧Below w.heap.size w w':=by
 obtain ⟨PA,pc,rfl,hI⟩:=hV
 obtain ⟨QA,qc,rfl,hJ⟩:=hU
 have hsi:=fun W (h1:Z02 W W.heap.size (.slice PA p.nights.length pc) p.nights) (h2:Z02 W W.heap.size (.slice QA q.nights.length qc) q.nights)=>Zaw _ _ p.nights q.nights W.heap.size W h1 h2 (zn _) hn
 have hss:=Qt.same_iff p q
 obtain ⟨R,hR⟩:∃ R,p.same q=R:=⟨_,rfl⟩
 rw [hR] at hss ⊢
 clear hR;obtain ⟨pv,pt,po,pk,⟨k1,f1,u1,s1⟩,pn,pd,pe,ps⟩:=p
 obtain ⟨qv,qt,qo,qk,⟨k2,f2,u2,s2⟩,qn,qd,qe,qs⟩:=q
 simp only [qtV] at hsi hI hJ ⊢
 simp only [Ask.mk.injEq] at hss hn
 have hK0:=SmK.new w (P:=#[.int .i64 pv,.int .i64 pt,.int .i64 po,.int .i64 pk,.int .i64 k1,.int .i64 f1,.int .i64 u1,.int .i64 s1,.slice PA pn.length pc,.int .u64 (pd:Nat),.int .i64 pe,.int .i64 ps]) (Q:=#[.int .i64 qv,.int .i64 qt,.int .i64 qo,.int .i64 qk,.int .i64 k2,.int .i64 f2,.int .i64 u2,.int .i64 s2,.slice QA qn.length qc,.int .u64 (qd:Nat),.int .i64 qe,.int .i64 qs]) hI hJ
 have hno:¬ (pv=qv∧pt=qt∧po=qo∧pk=qk∧(k1=k2∧f1=f2∧u1=u2∧s1=s2)∧pn=qn∧pd=qd)→R=false:=fun h=>by
  cases R with
  | false=>rfl
  | true=>exact absurd (hss.1 rfl) h
 have hyes:pv=qv∧pt=qt∧po=qo∧pk=qk∧(k1=k2∧f1=f2∧u1=u2∧s1=s2)∧pn=qn∧pd=qd→R=true:=fun h=>hss.2 h
 have HK0:=zh hK0;have HSI:=zh hsi;have HNO:=zh hno;have HYES:=zh hyes;clear hK0 hsi hno hyes hI hJ hss;have c0:=HK0.out.cp 0 (.int .i64 pv) rfl
 have c1:=HK0.out.cp 1 (.int .i64 pt) rfl
 have c2:=HK0.out.cp 2 (.int .i64 po) rfl
 have c3:=HK0.out.cp 3 (.int .i64 pk) rfl
 have c4:=HK0.out.cp 4 (.int .i64 k1) rfl
 have c5:=HK0.out.cp 5 (.int .i64 f1) rfl
 have c6:=HK0.out.cp 6 (.int .i64 u1) rfl
 have c7:=HK0.out.cp 7 (.int .i64 s1) rfl
 have c8:=HK0.out.cp 8 (.slice PA pn.length pc) rfl
 have c9:=HK0.out.cp 9 (.int .u64 (pd:Nat)) rfl
 have c10:=HK0.out.cp 10 (.int .i64 pe) rfl
 have c11:=HK0.out.cp 11 (.int .i64 ps) rfl
 have e0:=HK0.out.cq 0 (.int .i64 qv) rfl
 have e1:=HK0.out.cq 1 (.int .i64 qt) rfl
 have e2:=HK0.out.cq 2 (.int .i64 qo) rfl
 have e3:=HK0.out.cq 3 (.int .i64 qk) rfl
 have e4:=HK0.out.cq 4 (.int .i64 k2) rfl
 have e5:=HK0.out.cq 5 (.int .i64 f2) rfl
 have e6:=HK0.out.cq 6 (.int .i64 u2) rfl
 have e7:=HK0.out.cq 7 (.int .i64 s2) rfl
 have e8:=HK0.out.cq 8 (.slice QA qn.length qc) rfl
 have e9:=HK0.out.cq 9 (.int .u64 (qd:Nat)) rfl
 have e10:=HK0.out.cq 10 (.int .i64 qe) rfl
 have e11:=HK0.out.cq 11 (.int .i64 qs) rfl
 by_cases h0:pv=qv
 · subst h0
   by_cases h1:pt=qt
   · subst h1
     by_cases h2:po=qo
     · subst h2
       by_cases h3:pk=qk
       · subst h3
         by_cases h4:k1=k2
         · subst h4
           by_cases h5:f1=f2
           · subst h5
             by_cases h6:u1=u2
             · subst h6
               by_cases h7:s1=s2
               · subst h7
                 have hc:=HSI.out _ HK0.out.i HK0.out.j
                 have HC:=zh hc;clear hc;go_enter Tryz.func27,Tryz.ntmps27
                 go_wp2_with fail;generalize (w.alloc (.cells #[.int .i64 pv,.int .i64 pt,.int .i64 po,.int .i64 pk,.int .i64 k1,.int .i64 f1,.int .i64 u1,.int .i64 s1,.slice PA pn.length pc,.int .u64 (pd:Nat),.int .i64 pe,.int .i64 ps] 32)).alloc (.cells #[.int .i64 pv,.int .i64 pt,.int .i64 po,.int .i64 pk,.int .i64 k1,.int .i64 f1,.int .i64 u1,.int .i64 s1,.slice QA qn.length qc,.int .u64 (qd:Nat),.int .i64 qe,.int .i64 qs] 32)=w1 at *
                 refine HC.out.mono ?_
                 rintro e w2 ⟨rfl,hb2⟩;have hK2:=HK0.out.on hb2
                 have HK2:=zh hK2;clear hK2 hb2 HK0 HC c0 e0 c1 e1 c2 e2 c3 e3 c4 e4 c5 e5 c6 e6 c7 e7 c8 e8 c9 e9 c10 e10 c11 e11;have c9:=HK2.out.cp 9 (.int .u64 (pd:Nat)) rfl
                 have e9:=HK2.out.cq 9 (.int .u64 (qd:Nat)) rfl
                 by_cases hns:pn=qn
                 · have hdn:decide (pn=qn)=true:=by simpa using hns
                   rw [hdn]
                   by_cases hdd:pd=qd
                   · subst hdd
                     have hr:=HYES.out (by simp [hns])
                     subst hr;go_wp2_with fail;go_ret
                     exact ⟨rfl,HK2.out.b⟩
                   · have d1:((pd:Int)==(qd:Int))=false:=by simp;omega
                     have d2:¬ ((pd:Int)=(qd:Int)):=by omega
                     have hr:=HNO.out (fun h=>hdd h.2.2.2.2.2.2)
                     subst hr;go_wp2_with fail;go_ret
                     exact ⟨rfl,HK2.out.b⟩
                 · have hdn:decide (pn=qn)=false:=by simpa using hns
                   rw [hdn]
                   have hr:=HNO.out (fun h=>hns h.2.2.2.2.2.1)
                   subst hr;go_wp2_with fail;go_ret
                   exact ⟨rfl,HK2.out.b⟩
               · have d1:(s1==s2)=false:=by simpa using h7
                 have hr:=HNO.out (fun h=>h7 (h.2.2.2.2.1.2.2.2))
                 subst hr;go_enter Tryz.func27,Tryz.ntmps27
                 go_wp2_with fail;go_ret
                 exact ⟨rfl,HK0.out.b⟩
             · have d1:(u1==u2)=false:=by simpa using h6
               have hr:=HNO.out (fun h=>h6 (h.2.2.2.2.1.2.2.1))
               subst hr;go_enter Tryz.func27,Tryz.ntmps27
               go_wp2_with fail;go_ret
               exact ⟨rfl,HK0.out.b⟩
           · have d1:(f1==f2)=false:=by simpa using h5
             have hr:=HNO.out (fun h=>h5 (h.2.2.2.2.1.2.1))
             subst hr;go_enter Tryz.func27,Tryz.ntmps27
             go_wp2_with fail;go_ret
             exact ⟨rfl,HK0.out.b⟩
         · have d1:(k1==k2)=false:=by simpa using h4
           have hr:=HNO.out (fun h=>h4 (h.2.2.2.2.1.1))
           subst hr;go_enter Tryz.func27,Tryz.ntmps27
           go_wp2_with fail;go_ret
           exact ⟨rfl,HK0.out.b⟩
       · have d1:(pk==qk)=false:=by simpa using h3
         have hr:=HNO.out (fun h=>h3 (h.2.2.2.1))
         subst hr;go_enter Tryz.func27,Tryz.ntmps27
         go_wp2_with fail;go_ret
         exact ⟨rfl,HK0.out.b⟩
     · have d1:(po==qo)=false:=by simpa using h2
       have hr:=HNO.out (fun h=>h2 (h.2.2.1))
       subst hr;go_enter Tryz.func27,Tryz.ntmps27
       go_wp2_with fail;go_ret
       exact ⟨rfl,HK0.out.b⟩
   · have d1:(pt==qt)=false:=by simpa using h1
     have hr:=HNO.out (fun h=>h1 (h.2.1))
     subst hr;go_enter Tryz.func27,Tryz.ntmps27
     go_wp2_with fail;go_ret
     exact ⟨rfl,HK0.out.b⟩
 · have d1:(pv==qv)=false:=by simpa using h0
   have hr:=HNO.out (fun h=>h0 (h.1))
   subst hr;go_enter Tryz.func27,Tryz.ntmps27
   go_wp2_with fail;go_ret
   exact ⟨rfl,HK0.out.b⟩
end
section
open Go.RowKit Lx Px Qx
structure LwB (w:World) (v:Vr) (rv:Value) (a:Qx.Ask) (W:World):Prop where
 hv:W.heap[w.heap.size]?=some (.cells #[.int .i64 v.num,.int .i64 v.time,rv] 24 (0,0))
 ha:W.heap[w.heap.size+1]?=some (.cells #[.int .i64 a.kind,.int .i64 a.fr,.int .i64 a.un,.int .i64 a.pers] 26 (0,0))
 hR:RtsV W w.heap.size rv v.rs
 b:Below w.heap.size w W
theorem LwB.on {w W W':World}{v:Vr}{rv:Value}{a:Qx.Ask}(h:LwB w v rv a W)(hb:Below W.heap.size W W'):LwB w v rv a W' :=
 ⟨(hb.block _ (zs h.hv)).trans h.hv,(hb.block _ (zs h.ha)).trans h.ha,h.hR.on (hb.mono h.b.size),Z00 h.b hb⟩
theorem LwB.new (w:World)(v:Vr)(rv:Value)(a:Qx.Ask)(h:RtsV w w.heap.size rv v.rs):LwB w v rv a ((w.alloc (.cells #[.int .i64 v.num,.int .i64 v.time,rv] 24)).alloc (.cells #[.int .i64 a.kind,.int .i64 a.fr,.int .i64 a.un,.int .i64 a.pers] 26)):=by
 have hb:=((Below.refl w.heap.size w).alloc (zn _) (.cells #[.int .i64 v.num,.int .i64 v.time,rv] 24)).alloc (by simp) (.cells #[.int .i64 a.kind,.int .i64 a.fr,.int .i64 a.un,.int .i64 a.pers] 26)
 refine ⟨Z0z (za w _) _,?_,h.on hb,hb⟩
 have:=za (w.alloc (.cells #[.int .i64 v.num,.int .i64 v.time,rv] 24)) (.cells #[.int .i64 a.kind,.int .i64 a.fr,.int .i64 a.un,.int .i64 a.pers] 26)
 rwa [World.size_alloc] at this
theorem LwB.cells {w W:World}{v:Vr}{rv:Value}{a:Qx.Ask}(h:LwB w v rv a W):W.cell? ⟨w.heap.size,0,none⟩=some (.int .i64 v.num)∧W.cell? ⟨w.heap.size,1,none⟩=some (.int .i64 v.time)∧W.cell? ⟨w.heap.size,2,none⟩=some rv ∧
 W.cell? ⟨w.heap.size+1,0,none⟩=some (.int .i64 a.kind)∧W.cell? ⟨w.heap.size+1,1,none⟩=some (.int .i64 a.fr)∧W.cell? ⟨w.heap.size+1,2,none⟩=some (.int .i64 a.un)∧W.cell? ⟨w.heap.size+1,3,none⟩=some (.int .i64 a.pers):=by
 refine ⟨?_,?_,?_,?_,?_,?_,?_⟩
 · rw [zc h.hv];rfl
 · rw [zc h.hv];rfl
 · rw [zc h.hv];rfl
 · rw [zc h.ha];rfl
 · rw [zc h.ha];rfl
 · rw [zc h.ha];rfl
 · rw [zc h.ha];rfl
theorem LwB.ver {w W:World}{v:Vr}{A:Option Addr}{c:Nat}{a:Qx.Ask}(h:LwB w v (.slice A v.rs.length c) a W):VrV W W.heap.size (.agg #[.int .i64 v.num,.int .i64 v.time,.slice A v.rs.length c]) v:=⟨A,c,rfl,h.hR.up h.b.size⟩
theorem LwB.far {w W W':World}{v:Vr}{rv:Value}{a:Qx.Ask}(h:LwB w v rv a W)(hb:Below (w.heap.size+2) W W'):LwB w v rv a W' :=
 ⟨(hb.block _ (by omega)).trans h.hv,(hb.block _ (by omega)).trans h.ha,h.hR.on (hb.mono (by omega)),h.b.trans (hb.mono (by omega))⟩
def UseP (v:Vr)(a:Qx.Ask)(s:Int)(w:World)(e:Ending)(w':World):Prop:=(∃ b,e=.returned (.bool b)∧(b=true→v.okB=true∧a.okB=true∧secB s=true))∧Below w.heap.size w w'
theorem Zfv (v:Vr)(a:Qx.Ask)(s:Int)(V:Value)(w:World)(hV:VrV w w.heap.size V v) :
 Calls Tryz.prog 23 #[V,askV a,.int .i64 s] w (UseP v a s w):=by
 obtain ⟨A,c,rfl,hR⟩:=hV
 have hB0:=LwB.new w v (.slice A v.rs.length c) a hR
 have hfew:=fun W (h:LwB w v (.slice A v.rs.length c) a W)=>Zfk v _ W h.ver
 have hver:=fun W (h:LwB w v (.slice A v.rs.length c) a W)=>Zbm v _ W h.ver
 have hask:=fun W=>Zkw a W
 have hsec:=fun W=>Zc5 s W
 obtain ⟨b1,h1⟩:∃ b,v.okB=b:=⟨_,rfl⟩
 obtain ⟨b2,h2⟩:∃ b,a.okB=b:=⟨_,rfl⟩
 obtain ⟨b3,h3⟩:∃ b,secB s=b:=⟨_,rfl⟩
 rw [h1] at hver
 rw [h2] at hask
 rw [h3] at hsec
 have H1:=zh h1;have H2:=zh h2;have H3:=zh h3;clear h1 h2 h3;unfold vrV askV at *
 obtain ⟨q0,q1,q2,q3,q4,q5,q6⟩:=hB0.cells
 have HB0:=zh hB0;have HFEW:=zh hfew;have HVER:=zh hver;have HASK:=zh hask;have HSEC:=zh hsec;clear hB0 hfew hver hask hsec;go_enter Tryz.func23,Tryz.ntmps23
 go_wp2_with fail;refine (HFEW.out _ HB0.out).mono ?_
 rintro e w2 ⟨⟨b0,rfl⟩,hb2⟩
 have hB2:=HB0.out.on hb2
 obtain ⟨q0,q1,q2,q3,q4,q5,q6⟩:=hB2.cells
 have HB2:=zh hB2;clear hB2 HB0 hb2;cases b0 with
 | false =>
  go_wp2_with fail;go_ret
  exact ⟨⟨_,rfl,fun h=>by cases h⟩,HB2.out.b⟩
 | true =>
  go_wp2_with fail;refine ((HVER.out _ HB2.out)).mono ?_
  rintro e w3 ⟨rfl,hb3⟩;have hB3:=HB2.out.on hb3
  clear q0 q1 q2 q3 q4 q5 q6 hb3;obtain ⟨q0,q1,q2,q3,q4,q5,q6⟩:=hB3.cells
  have HB3:=zh hB3;clear hB3;cases b1 with
  | false =>
   go_wp2_with fail;go_ret
   exact ⟨⟨_,rfl,fun h=>by cases h⟩,HB3.out.b⟩
  | true =>
   go_wp2_with fail;refine ((HASK.out _)).mono ?_
   rintro e w4 ⟨rfl,hb4⟩;have hB4:=HB3.out.on hb4
   have HB4:=zh hB4;clear hB4 q0 q1 q2 q3 q4 q5 q6 hb4;cases b2 with
   | false =>
    go_wp2_with fail;go_ret
    exact ⟨⟨_,rfl,fun h=>by cases h⟩,HB4.out.b⟩
   | true =>
    go_wp2_with fail;refine ((HSEC.out _)).mono ?_
    rintro e w5 ⟨rfl,rfl⟩;go_wp2_with fail;go_ret
    exact ⟨⟨_,rfl,fun h=>⟨H1.out,H2.out,H3.out.trans h⟩⟩,HB4.out.b⟩
end
end Go.Proofs.YtnepkoepbapgeaaGreatDoor
