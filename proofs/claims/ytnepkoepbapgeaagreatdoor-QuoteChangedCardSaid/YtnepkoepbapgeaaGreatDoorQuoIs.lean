/-
  Walks: is of package quote.
-/
import Derived.Test.YtnepkoepbapgeaaGreatDoorQuoUse
import Derived.Test.YtnepkoepbapgeaaGreatDoorShelf
namespace Go.Proofs.YtnepkoepbapgeaaGreatDoor
set_option maxRecDepth 100000
open Go.RowKit Lx Px Qx
theorem Znb (l m:List Int):(l==m)=decide (l=m):=by
 by_cases h:l=m
 · subst h;simp
 · rw [decide_eq_false h];simpa using h
theorem Zhm (v u:Value)(l m:List Int)(B:Nat)(w:World)(hv:Z02 w B v l)(hu:Z02 w B u m)(hl:l.length≤1000000)(hm:m.length≤1000000) :
 Calls Tryz.prog 94 #[v,u] w fun e w'=>e=.returned (.bool (decide (l=m)))∧Below w.heap.size w w':=by
 obtain ⟨A,c,rfl,hA⟩:=hv
 obtain ⟨A',c',rfl,hA'⟩:=hu
 by_cases h0:l=[]
 · subst h0
   refine (Tryz.slices_Equal_int_empty A A' c m.length c' w (by omega)).mono ?_
   rintro e w' ⟨rfl,rfl⟩;refine ⟨?_,Below.refl _ _⟩
   cases m <;> simp
 · by_cases h1:l.length=m.length
   · obtain ⟨b,o,rfl,_,hc⟩:=hA h0
     obtain ⟨b',o',rfl,_,hc'⟩:=hA' (by intro e;subst e;simp at h1;exact h0 h1)
     refine (Tryz.slices_Equal_int b o l.length c b' o' m.length c' l m w (zn _) (zn _) (by omega) (by omega)
      (fun j hj=>by rw [hc j hj,List.getD_eq_getElem?_getD,List.getElem?_eq_getElem hj];rfl) (fun j hj=>by rw [hc' j hj,List.getD_eq_getElem?_getD,List.getElem?_eq_getElem hj];rfl)).mono ?_
     rintro e w' ⟨rfl,q,rfl⟩;refine ⟨?_,⟨rfl,rfl,rfl,zn _,fun _ _=>rfl⟩⟩
     rw [List.take_length,List.take_length,Znb]
   · refine (Tryz.slices_Equal_int_lens A A' l.length c m.length c' w h1).mono ?_
     rintro e w' ⟨rfl,rfl⟩;refine ⟨?_,Below.refl _ _⟩
     rw [decide_eq_false (by rintro rfl;exact h1 rfl)]
structure IsK (w:World) (P:Array Value) (PV:Value) (pn:List Int) (Q:Array Value) (QV:Value) (qn:List Int) (W:World):Prop where
 p:W.heap[w.heap.size]?=some (.cells P 89 (0,0))
 q:W.heap[w.heap.size+1]?=some (.cells Q 89 (0,0))
 i:Z02 W W.heap.size PV pn
 j:Z02 W W.heap.size QV qn
 b:Below w.heap.size w W
theorem IsK.on {w W W':World}{P Q:Array Value}{PV QV:Value}{pn qn:List Int}(h:IsK w P PV pn Q QV qn W)(hb:Below W.heap.size W W'):IsK w P PV pn Q QV qn W' :=
 ⟨(hb.block _ (zs h.p)).trans h.p,(hb.block _ (zs h.q)).trans h.q,(h.i.on hb).up hb.size,(h.j.on hb).up hb.size,Z00 h.b hb⟩
theorem IsK.drew {w W:World}{P Q:Array Value}{PV QV:Value}{pn qn:List Int}(h:IsK w P PV pn Q QV qn W):IsK w P PV pn Q QV qn W.drew:=h.on (Below.refl _ _).drew
theorem IsK.new (w:World){P Q:Array Value}{PV QV:Value}{pn qn:List Int}(h:Z02 w w.heap.size PV pn)(h2:Z02 w w.heap.size QV qn):IsK w P PV pn Q QV qn ((w.alloc (.cells P 89)).alloc (.cells Q 89)):=by
 have hb:=((Below.refl w.heap.size w).alloc (zn _) (.cells P 89)).alloc (by simp) (.cells Q 89)
 refine ⟨Z0z (za w _) _,?_,(h.on hb).up hb.size,(h2.on hb).up hb.size,hb⟩
 have:=za (w.alloc (.cells P 89)) (.cells Q 89)
 rwa [World.size_alloc] at this
theorem IsK.cp {w W:World}{P Q:Array Value}{PV QV:Value}{pn qn:List Int}(h:IsK w P PV pn Q QV qn W)(i:Nat)(v:Value)(hv:P[i]?=some v):W.cell? ⟨w.heap.size,i,none⟩=some v:=by rw [zc h.p,hv]
theorem IsK.cq {w W:World}{P Q:Array Value}{PV QV:Value}{pn qn:List Int}(h:IsK w P PV pn Q QV qn W)(i:Nat)(v:Value)(hv:Q[i]?=some v):W.cell? ⟨w.heap.size+1,i,none⟩=some v:=by rw [zc h.q,hv]
set_option maxHeartbeats 16000000 in
theorem ZeE (p q:Qt)(V U:Value)(w:World)(hV:QtV w w.heap.size V p)(hU:QtV w w.heap.size U q)(hd:p.dig<18446744073709551616)(hd2:q.dig<18446744073709551616)(hn:p.nights.length≤50000)(hn2:q.nights.length≤50000) :
 Calls Tryz.prog 56 #[V,U] w fun e w'=>e=.returned (.bool (p.same q))∧Below w.heap.size w w':=by
 obtain ⟨PA,pc,rfl,hI⟩:=hV
 obtain ⟨QA,qc,rfl,hJ⟩:=hU
 have hsays:=fun W (h:Z02 W W.heap.size (.slice PA p.nights.length pc) p.nights)=>Z77 p (qtV p (.slice PA p.nights.length pc)) W ⟨PA,pc,rfl,h⟩ hd hn
 have hsays2:=fun W (h:Z02 W W.heap.size (.slice QA q.nights.length qc) q.nights)=>Z77 q (qtV q (.slice QA q.nights.length qc)) W ⟨QA,qc,rfl,h⟩ hd2 hn2
 have hl1:p.says.length≤1000000:=by simp [Qt.says];omega
 have hl2:q.says.length≤1000000:=by simp [Qt.says];omega
 have heq:=fun W v u (h1:Z02 W W.heap.size v p.says) (h2:Z02 W W.heap.size u q.says)=>Zhm v u p.says q.says W.heap.size W h1 h2 hl1 hl2
 have hss:=Qt.same_says p q
 obtain ⟨R,hR⟩:∃ R,p.same q=R:=⟨_,rfl⟩
 rw [hR] at hss ⊢
 clear hR;generalize decide (p.says=q.says)=bs at *
 generalize p.says=psays at *
 generalize q.says=qsays at *
 obtain ⟨pv,pt,po,pk,⟨k1,f1,u1,s1⟩,pn,pd,pe,ps⟩:=p
 obtain ⟨qv,qt,qo,qk,⟨k2,f2,u2,s2⟩,qn,qd,qe,qs⟩:=q
 simp only [qtV] at hsays hsays2 hI hJ ⊢
 simp only at hss hd hd2 hn hn2
 have hK0:=IsK.new w (P:=#[.int .i64 pv,.int .i64 pt,.int .i64 po,.int .i64 pk,.int .i64 k1,.int .i64 f1,.int .i64 u1,.int .i64 s1,.slice PA pn.length pc,.int .u64 (pd:Nat),.int .i64 pe,.int .i64 ps]) (Q:=#[.int .i64 qv,.int .i64 qt,.int .i64 qo,.int .i64 qk,.int .i64 k2,.int .i64 f2,.int .i64 u2,.int .i64 s2,.slice QA qn.length qc,.int .u64 (qd:Nat),.int .i64 qe,.int .i64 qs]) hI hJ
 have HMS:Hid (∀ wx,IsK w #[.int .i64 pv,.int .i64 pt,.int .i64 po,.int .i64 pk,.int .i64 k1,.int .i64 f1,.int .i64 u1,.int .i64 s1,.slice PA pn.length pc,.int .u64 (pd:Nat),.int .i64 pe,.int .i64 ps] (.slice PA pn.length pc) pn #[.int .i64 qv,.int .i64 qt,.int .i64 qo,.int .i64 qk,.int .i64 k2,.int .i64 f2,.int .i64 u2,.int .i64 s2,.slice QA qn.length qc,.int .u64 (qd:Nat),.int .i64 qe,.int .i64 qs] (.slice QA qn.length qc) qn wx→wx.cell? ⟨w.heap.size,0,none⟩=some (.int .i64 pv)∧wx.cell? ⟨w.heap.size,1,none⟩=some (.int .i64 pt)∧wx.cell? ⟨w.heap.size,2,none⟩=some (.int .i64 po)∧wx.cell? ⟨w.heap.size,3,none⟩=some (.int .i64 pk)∧wx.cell? ⟨w.heap.size,4,none⟩=some (.int .i64 k1)∧wx.cell? ⟨w.heap.size,5,none⟩=some (.int .i64 f1)∧wx.cell? ⟨w.heap.size,6,none⟩=some (.int .i64 u1)∧wx.cell? ⟨w.heap.size,7,none⟩=some (.int .i64 s1)∧wx.cell? ⟨w.heap.size,8,none⟩=some (.slice PA pn.length pc)∧wx.cell? ⟨w.heap.size,9,none⟩=some (.int .u64 (pd:Nat))∧wx.cell? ⟨w.heap.size,10,none⟩=some (.int .i64 pe)∧wx.cell? ⟨w.heap.size,11,none⟩=some (.int .i64 ps)∧wx.cell? ⟨w.heap.size+1,0,none⟩=some (.int .i64 qv)∧wx.cell? ⟨w.heap.size+1,1,none⟩=some (.int .i64 qt)∧wx.cell? ⟨w.heap.size+1,2,none⟩=some (.int .i64 qo)∧wx.cell? ⟨w.heap.size+1,3,none⟩=some (.int .i64 qk)∧wx.cell? ⟨w.heap.size+1,4,none⟩=some (.int .i64 k2)∧wx.cell? ⟨w.heap.size+1,5,none⟩=some (.int .i64 f2)∧wx.cell? ⟨w.heap.size+1,6,none⟩=some (.int .i64 u2)∧wx.cell? ⟨w.heap.size+1,7,none⟩=some (.int .i64 s2)∧wx.cell? ⟨w.heap.size+1,8,none⟩=some (.slice QA qn.length qc)∧wx.cell? ⟨w.heap.size+1,9,none⟩=some (.int .u64 (qd:Nat))∧wx.cell? ⟨w.heap.size+1,10,none⟩=some (.int .i64 qe)∧wx.cell? ⟨w.heap.size+1,11,none⟩=some (.int .i64 qs)∧IsK w #[.int .i64 pv,.int .i64 pt,.int .i64 po,.int .i64 pk,.int .i64 k1,.int .i64 f1,.int .i64 u1,.int .i64 s1,.slice PA pn.length pc,.int .u64 (pd:Nat),.int .i64 pe,.int .i64 ps] (.slice PA pn.length pc) pn #[.int .i64 qv,.int .i64 qt,.int .i64 qo,.int .i64 qk,.int .i64 k2,.int .i64 f2,.int .i64 u2,.int .i64 s2,.slice QA qn.length qc,.int .u64 (qd:Nat),.int .i64 qe,.int .i64 qs] (.slice QA qn.length qc) qn wx):=fun wx h=>⟨h.cp 0 _ rfl,h.cp 1 _ rfl,h.cp 2 _ rfl,h.cp 3 _ rfl,h.cp 4 _ rfl,h.cp 5 _ rfl,h.cp 6 _ rfl,h.cp 7 _ rfl,h.cp 8 _ rfl,h.cp 9 _ rfl,h.cp 10 _ rfl,h.cp 11 _ rfl,h.cq 0 _ rfl,h.cq 1 _ rfl,h.cq 2 _ rfl,h.cq 3 _ rfl,h.cq 4 _ rfl,h.cq 5 _ rfl,h.cq 6 _ rfl,h.cq 7 _ rfl,h.cq 8 _ rfl,h.cq 9 _ rfl,h.cq 10 _ rfl,h.cq 11 _ rfl,h⟩
 have HSP:Hid (∀ wx,IsK w #[.int .i64 pv,.int .i64 pt,.int .i64 po,.int .i64 pk,.int .i64 k1,.int .i64 f1,.int .i64 u1,.int .i64 s1,.slice PA pn.length pc,.int .u64 (pd:Nat),.int .i64 pe,.int .i64 ps] (.slice PA pn.length pc) pn #[.int .i64 qv,.int .i64 qt,.int .i64 qo,.int .i64 qk,.int .i64 k2,.int .i64 f2,.int .i64 u2,.int .i64 s2,.slice QA qn.length qc,.int .u64 (qd:Nat),.int .i64 qe,.int .i64 qs] (.slice QA qn.length qc) qn wx→Calls Tryz.prog 51 #[.agg #[.int .i64 pv,.int .i64 pt,.int .i64 po,.int .i64 pk,.int .i64 k1,.int .i64 f1,.int .i64 u1,.int .i64 s1,.slice PA pn.length pc,.int .u64 (pd:Nat),.int .i64 pe,.int .i64 ps]] wx fun e w'=>∃ r,e=.returned r∧Z02 w' w'.heap.size r psays∧Below wx.heap.size wx w'):=fun wx h=>hsays wx h.i
 have HSQ:Hid (∀ wx,IsK w #[.int .i64 pv,.int .i64 pt,.int .i64 po,.int .i64 pk,.int .i64 k1,.int .i64 f1,.int .i64 u1,.int .i64 s1,.slice PA pn.length pc,.int .u64 (pd:Nat),.int .i64 pe,.int .i64 ps] (.slice PA pn.length pc) pn #[.int .i64 qv,.int .i64 qt,.int .i64 qo,.int .i64 qk,.int .i64 k2,.int .i64 f2,.int .i64 u2,.int .i64 s2,.slice QA qn.length qc,.int .u64 (qd:Nat),.int .i64 qe,.int .i64 qs] (.slice QA qn.length qc) qn wx→Calls Tryz.prog 51 #[.agg #[.int .i64 qv,.int .i64 qt,.int .i64 qo,.int .i64 qk,.int .i64 k2,.int .i64 f2,.int .i64 u2,.int .i64 s2,.slice QA qn.length qc,.int .u64 (qd:Nat),.int .i64 qe,.int .i64 qs]] wx fun e w'=>∃ r,e=.returned r∧Z02 w' w'.heap.size r qsays∧Below wx.heap.size wx w'):=fun wx h=>hsays2 wx h.j
 have HK0:=zh hK0;have HEQ:=zh heq;have HSS:=zh hss;clear hK0 heq hss hsays hsays2 hI hJ;by_cases h0:k1=k2
 · subst h0
   by_cases h1:f1=f2
   · subst h1
     by_cases h2:u1=u2
     · subst h2
       by_cases h3:s1=s2
       · subst h3
         by_cases hdd:pd=qd
         · subst hdd
           obtain rfl:R=bs:=by rw [← HSS.out];simp
           go_enter Tryz.func56,Tryz.ntmps56
           go_wp2_with fail;go_region_held3 (fun w'=>w'.cell? ⟨w.heap.size,0,none⟩=some (.int .i64 pv)∧w'.cell? ⟨w.heap.size,1,none⟩=some (.int .i64 pt)∧w'.cell? ⟨w.heap.size,2,none⟩=some (.int .i64 po)∧w'.cell? ⟨w.heap.size,3,none⟩=some (.int .i64 pk)∧w'.cell? ⟨w.heap.size,4,none⟩=some (.int .i64 k1)∧w'.cell? ⟨w.heap.size,5,none⟩=some (.int .i64 f1)∧w'.cell? ⟨w.heap.size,6,none⟩=some (.int .i64 u1)∧w'.cell? ⟨w.heap.size,7,none⟩=some (.int .i64 s1)∧w'.cell? ⟨w.heap.size,8,none⟩=some (.slice PA pn.length pc)∧w'.cell? ⟨w.heap.size,9,none⟩=some (.int .u64 (pd:Nat))∧w'.cell? ⟨w.heap.size,10,none⟩=some (.int .i64 pe)∧w'.cell? ⟨w.heap.size,11,none⟩=some (.int .i64 ps)∧w'.cell? ⟨w.heap.size+1,0,none⟩=some (.int .i64 qv)∧w'.cell? ⟨w.heap.size+1,1,none⟩=some (.int .i64 qt)∧w'.cell? ⟨w.heap.size+1,2,none⟩=some (.int .i64 qo)∧w'.cell? ⟨w.heap.size+1,3,none⟩=some (.int .i64 qk)∧w'.cell? ⟨w.heap.size+1,4,none⟩=some (.int .i64 k1)∧w'.cell? ⟨w.heap.size+1,5,none⟩=some (.int .i64 f1)∧w'.cell? ⟨w.heap.size+1,6,none⟩=some (.int .i64 u1)∧w'.cell? ⟨w.heap.size+1,7,none⟩=some (.int .i64 s1)∧w'.cell? ⟨w.heap.size+1,8,none⟩=some (.slice QA qn.length qc)∧w'.cell? ⟨w.heap.size+1,9,none⟩=some (.int .u64 (pd:Nat))∧w'.cell? ⟨w.heap.size+1,10,none⟩=some (.int .i64 qe)∧w'.cell? ⟨w.heap.size+1,11,none⟩=some (.int .i64 qs)∧IsK w #[.int .i64 pv,.int .i64 pt,.int .i64 po,.int .i64 pk,.int .i64 k1,.int .i64 f1,.int .i64 u1,.int .i64 s1,.slice PA pn.length pc,.int .u64 (pd:Nat),.int .i64 pe,.int .i64 ps] (.slice PA pn.length pc) pn #[.int .i64 qv,.int .i64 qt,.int .i64 qo,.int .i64 qk,.int .i64 k1,.int .i64 f1,.int .i64 u1,.int .i64 s1,.slice QA qn.length qc,.int .u64 (pd:Nat),.int .i64 qe,.int .i64 qs] (.slice QA qn.length qc) qn w')
            (first | (with_reducible exact HMS.out _ HK0.out.drew) | (with_reducible exact HMS.out _ L6) | (with_reducible exact HMS.out _ L5) | (with_reducible exact HMS.out _ L7) | fail)
            (first
             | (go_at_call 51;have hA:=(‹_∧_∧_∧_∧_∧_∧_∧_∧_∧_∧_∧_∧_∧_∧_∧_∧_∧_∧_∧_∧_∧_∧_∧_∧IsK w #[.int .i64 pv,.int .i64 pt,.int .i64 po,.int .i64 pk,.int .i64 k1,.int .i64 f1,.int .i64 u1,.int .i64 s1,.slice PA pn.length pc,.int .u64 (pd:Nat),.int .i64 pe,.int .i64 ps] (.slice PA pn.length pc) pn #[.int .i64 qv,.int .i64 qt,.int .i64 qo,.int .i64 qk,.int .i64 k1,.int .i64 f1,.int .i64 u1,.int .i64 s1,.slice QA qn.length qc,.int .u64 (pd:Nat),.int .i64 qe,.int .i64 qs] (.slice QA qn.length qc) qn _›).2.2.2.2.2.2.2.2.2.2.2.2.2.2.2.2.2.2.2.2.2.2.2.2;with_reducible refine (HSP.out _ hA).mono ?_;rintro ex w5 ⟨r5,rfl,hr5,hb5⟩;have L5:=hA.on hb5;have HR5:=zh hr5;clear hr5;try (have hq5:=(HR6.out.on hb5).up hb5.size;have HQ5:=zh hq5;clear hq5);clear hb5 hA)
             | (go_at_call 51;have hA:=(‹_∧_∧_∧_∧_∧_∧_∧_∧_∧_∧_∧_∧_∧_∧_∧_∧_∧_∧_∧_∧_∧_∧_∧_∧IsK w #[.int .i64 pv,.int .i64 pt,.int .i64 po,.int .i64 pk,.int .i64 k1,.int .i64 f1,.int .i64 u1,.int .i64 s1,.slice PA pn.length pc,.int .u64 (pd:Nat),.int .i64 pe,.int .i64 ps] (.slice PA pn.length pc) pn #[.int .i64 qv,.int .i64 qt,.int .i64 qo,.int .i64 qk,.int .i64 k1,.int .i64 f1,.int .i64 u1,.int .i64 s1,.slice QA qn.length qc,.int .u64 (pd:Nat),.int .i64 qe,.int .i64 qs] (.slice QA qn.length qc) qn _›).2.2.2.2.2.2.2.2.2.2.2.2.2.2.2.2.2.2.2.2.2.2.2.2;with_reducible refine (HSQ.out _ hA).mono ?_;rintro ex w6 ⟨r6,rfl,hr6,hb6⟩;have L6:=hA.on hb6;have HR6:=zh hr6;clear hr6;try (have hq6:=(HR5.out.on hb6).up hb6.size;have HQ6:=zh hq6;clear hq6);clear hb6 hA)
             | (go_at_call 94;have hA:=(‹_∧_∧_∧_∧_∧_∧_∧_∧_∧_∧_∧_∧_∧_∧_∧_∧_∧_∧_∧_∧_∧_∧_∧_∧IsK w #[.int .i64 pv,.int .i64 pt,.int .i64 po,.int .i64 pk,.int .i64 k1,.int .i64 f1,.int .i64 u1,.int .i64 s1,.slice PA pn.length pc,.int .u64 (pd:Nat),.int .i64 pe,.int .i64 ps] (.slice PA pn.length pc) pn #[.int .i64 qv,.int .i64 qt,.int .i64 qo,.int .i64 qk,.int .i64 k1,.int .i64 f1,.int .i64 u1,.int .i64 s1,.slice QA qn.length qc,.int .u64 (pd:Nat),.int .i64 qe,.int .i64 qs] (.slice QA qn.length qc) qn _›).2.2.2.2.2.2.2.2.2.2.2.2.2.2.2.2.2.2.2.2.2.2.2.2;(first | (refine (HEQ.out _ _ _ HR5.out HQ5.out).mono ?_) | (refine (HEQ.out _ _ _ HQ6.out HR6.out).mono ?_));rintro ex w7 ⟨rfl,hb7⟩;have L7:=hA.on hb7;clear hb7 hA))
           all_goals
            have hA:=(‹_∧_∧_∧_∧_∧_∧_∧_∧_∧_∧_∧_∧_∧_∧_∧_∧_∧_∧_∧_∧_∧_∧_∧_∧IsK w #[.int .i64 pv,.int .i64 pt,.int .i64 po,.int .i64 pk,.int .i64 k1,.int .i64 f1,.int .i64 u1,.int .i64 s1,.slice PA pn.length pc,.int .u64 (pd:Nat),.int .i64 pe,.int .i64 ps] (.slice PA pn.length pc) pn #[.int .i64 qv,.int .i64 qt,.int .i64 qo,.int .i64 qk,.int .i64 k1,.int .i64 f1,.int .i64 u1,.int .i64 s1,.slice QA qn.length qc,.int .u64 (pd:Nat),.int .i64 qe,.int .i64 qs] (.slice QA qn.length qc) qn _›).2.2.2.2.2.2.2.2.2.2.2.2.2.2.2.2.2.2.2.2.2.2.2.2
            go_wp2_with fail;go_ret
            exact ⟨rfl,hA.b⟩
         · have d1:((pd:Int)==(qd:Int))=false:=by simp;omega
           have d2:¬ ((pd:Int)=(qd:Int)):=by omega
           obtain rfl:R=false:=by rw [← HSS.out];simp [hdd]
           obtain ⟨c0,c1,c2,c3,c4,c5,c6,c7,c8,c9,c10,c11,c12,c13,c14,c15,c16,c17,c18,c19,c20,c21,c22,c23,_⟩:=HMS.out _ HK0.out
           have hD:=HK0.out.drew.b
           have HD:=zh hD;clear hD HK0;go_enter Tryz.func56,Tryz.ntmps56
           go_wp2_with fail;go_region
           all_goals
            go_wp2_with fail;go_ret
            exact ⟨rfl,HD.out⟩
       · have d1:(s1==s2)=false:=by simpa using h3
         obtain rfl:R=false:=by rw [← HSS.out];simp [h3]
         obtain ⟨c0,c1,c2,c3,c4,c5,c6,c7,c8,c9,c10,c11,c12,c13,c14,c15,c16,c17,c18,c19,c20,c21,c22,c23,_⟩:=HMS.out _ HK0.out
         have hD:=HK0.out.drew.b
         have HD:=zh hD;clear hD HK0;go_enter Tryz.func56,Tryz.ntmps56
         go_wp2_with fail;go_region
         all_goals
          go_wp2_with fail;go_ret
          exact ⟨rfl,HD.out⟩
     · have d1:(u1==u2)=false:=by simpa using h2
       obtain rfl:R=false:=by rw [← HSS.out];simp [h2]
       obtain ⟨c0,c1,c2,c3,c4,c5,c6,c7,c8,c9,c10,c11,c12,c13,c14,c15,c16,c17,c18,c19,c20,c21,c22,c23,_⟩:=HMS.out _ HK0.out
       have hD:=HK0.out.drew.b
       have HD:=zh hD;clear hD HK0;go_enter Tryz.func56,Tryz.ntmps56
       go_wp2_with fail;go_region
       all_goals
        go_wp2_with fail;go_ret
        exact ⟨rfl,HD.out⟩
   · have d1:(f1==f2)=false:=by simpa using h1
     obtain rfl:R=false:=by rw [← HSS.out];simp [h1]
     obtain ⟨c0,c1,c2,c3,c4,c5,c6,c7,c8,c9,c10,c11,c12,c13,c14,c15,c16,c17,c18,c19,c20,c21,c22,c23,_⟩:=HMS.out _ HK0.out
     have hD:=HK0.out.drew.b
     have HD:=zh hD;clear hD HK0;go_enter Tryz.func56,Tryz.ntmps56
     go_wp2_with fail;go_region
     all_goals
      go_wp2_with fail;go_ret
      exact ⟨rfl,HD.out⟩
 · have d1:(k1==k2)=false:=by simpa using h0
   obtain rfl:R=false:=by rw [← HSS.out];simp [h0]
   obtain ⟨c0,c1,c2,c3,c4,c5,c6,c7,c8,c9,c10,c11,c12,c13,c14,c15,c16,c17,c18,c19,c20,c21,c22,c23,_⟩:=HMS.out _ HK0.out
   have hD:=HK0.out.drew.b
   have HD:=zh hD;clear hD HK0;go_enter Tryz.func56,Tryz.ntmps56
   go_wp2_with fail;go_region
   all_goals
    go_wp2_with fail;go_ret
    exact ⟨rfl,HD.out⟩
end Go.Proofs.YtnepkoepbapgeaaGreatDoor
