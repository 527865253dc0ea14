/-
  Several texts in one: QuoTyp2, QuoApp, QuoTyp3, QuoTyp4.
-/
import Derived.Test.YtnepkoepbapgeaaGreatDoorQuoTyp1
import Derived.Test.YtnepkoepbapgeaaGreatDoorShelf
import Derived.Shelf.Abstract
import Derived.Test.YtnepkoepbapgeaaGreatDoorProg
import Derived.Laws.OwnMore
import Derived.Test.YtnepkoepbapgeaaGreatDoorPrtNum
namespace Go.Proofs.YtnepkoepbapgeaaGreatDoor
set_option maxHeartbeats 4000000
set_option maxRecDepth 100000
section
open Go.RowKit Lx Px Qx
def TFn (W:World)(v:Value)(op:Int):Prop :=
 ∃ g cap,v=.func (.func g) #[] cap∧(∀ args w,(callFunc g args).run Tryz.prog w=.ok (.enter g args) w) ∧
  ∀ (W':World) (A:Option Addr) (c B:Nat) (ts:List Int),Below W.heap.size W W'→ts.length=arO op→(∀ t∈ts,1≤t∧t≤3)→Z07 W' B (.slice A ts.length c) ts→Calls Tryz.prog g (#[.slice A ts.length c]++cap) W' (TP (opL op ts) W')
theorem TFn.on {W W':World}{v:Value}{op:Int}(h:TFn W v op)(hb:Below W.heap.size W W'):TFn W' v op:=by
 obtain ⟨g,cap,e,h1,h2⟩:=h
 exact ⟨g,cap,e,h1,fun W2 A c B ts hb2=>h2 W2 A c B ts (Z00 hb hb2)⟩
theorem Zaw {ts:List Int}(h:ts.length=2):∃ x y,ts=[x,y]:=by
 match ts,h with
 | [x,y],_=>exact ⟨x,y,rfl⟩
theorem Zp8 {ts:List Int}(h:ts.length=3):∃ x y z,ts=[x,y,z]:=by
 match ts,h with
 | [x,y,z],_=>exact ⟨x,y,z,rfl⟩
theorem one_of {ts:List Int}(h:ts.length=1):∃ x,ts=[x]:=by
 match ts,h with
 | [x],_=>exact ⟨x,rfl⟩
theorem Z6E (W:World){op:Int}(h:op=4∨op=5∨op=8∨op=9):TFn W (.func (.func 230) #[] #[]) op:=by
 refine ⟨_,_,rfl,enters_of Tryz.func230 (by kernel_rfl) rfl,fun W' A c B ts _ hl hn hv=>?_⟩
 have ho:arO op=2:=by unfold arO;rcases h with rfl | rfl | rfl | rfl <;> decide
 obtain ⟨x,y,rfl⟩:=Zaw (hl.trans ho)
 have:=Zdc x y A c B W' hv (by have:=hn x (by simp);omega)
 rwa [show opL op [x,y]=if x=y∧x≠3 then x else 0 by unfold opL opT;rcases h with rfl | rfl | rfl | rfl <;> rfl]
theorem Z9j (W:World){op:Int}(h:op=11∨op=12):TFn W (.func (.func 229) #[] #[]) op:=by
 refine ⟨_,_,rfl,enters_of Tryz.func229 (by kernel_rfl) rfl,fun W' A c B ts _ hl hn hv=>?_⟩
 have ho:arO op=2:=by unfold arO;rcases h with rfl | rfl <;> decide
 obtain ⟨x,y,rfl⟩:=Zaw (hl.trans ho)
 have:=Zeu x y A c B W' hv (by have:=hn x (by simp);omega)
 rwa [show opL op [x,y]=if x=y∧x≠3 then 3 else 0 by unfold opL opT;rcases h with rfl | rfl <;> rfl]
theorem Z7m (W:World){op:Int}(h:op=13∨op=14∨op=15):TFn W (.func (.func 232) #[] #[]) op:=by
 refine ⟨_,_,rfl,enters_of Tryz.func232 (by kernel_rfl) rfl,fun W' A c B ts _ hl _ hv=>?_⟩
 have hle:ts.length≤10:=by rw [hl];unfold arO;(repeat' split) <;> omega
 have:=ZhG ts A c B W' hv hle
 rwa [show opL op ts=all3 ts from ?_]
 rcases h with rfl | rfl | rfl
 · obtain ⟨x,y,rfl⟩:=Zaw hl
   simp [opL,opT,all3]
 · obtain ⟨x,y,rfl⟩:=Zaw hl
   simp [opL,opT,all3]
 · obtain ⟨x,rfl⟩:=one_of hl
   simp [opL,opT,all3]
theorem Zs0 (W:World):TFn W (.func (.func 236) #[] #[]) 7:=by
 refine ⟨_,_,rfl,enters_of Tryz.func236 (by kernel_rfl) rfl,fun W' A c B ts _ hl hn hv=>?_⟩
 obtain ⟨x,y,rfl⟩:=Zaw hl
 exact ZrH x y A c B W' hv (by have:=hn x (by simp);omega)
theorem tfn_if (W:World):TFn W (.func (.func 237) #[] #[]) 10:=by
 refine ⟨_,_,rfl,enters_of Tryz.func237 (by kernel_rfl) rfl,fun W' A c B ts _ hl hn hv=>?_⟩
 obtain ⟨x,y,z,rfl⟩:=Zp8 hl
 exact if_any x y z A c B W' hv (by have:=hn y (by simp);omega)
def Bx1 (w:World)(b:Nat)(t:Int):Prop:=w.heap[b]?=some (.cells #[.int .i64 t] 3 (0,0))
theorem Z7n {W:World}{b:Nat}{op t:Int}(h:Bx1 W b t)(ht:t≠0)(ho:opL op []=t)(ha:arO op=0):TFn W (.func (.func 266) #[] #[.pointer (some ⟨b,0,none⟩)]) op:=by
 refine ⟨_,_,rfl,enters_of Tryz.func266 (by kernel_rfl) rfl,fun W' A c B ts hb hl _ _=>?_⟩
 have:ts=[]:=List.length_eq_zero_iff.1 (hl.trans ha)
 subst this;have hx:W'.heap[b]?=_:=(hb.block b (zs h)).trans h
 refine (Zev t ⟨b,0,none⟩ _ W' (by rw [zc hx];rfl)).mono ?_
 rintro e w' ⟨rfl,rfl⟩;rw [ho]
 exact ⟨Below.refl _ _,.inl ⟨ht,rfl⟩⟩
theorem Zs1 (x y:Int)(A:Option Addr)(c B:Nat)(w:World)(h:Z07 w B (.slice A 2 c) [x,y])(hx:1≤x∧x≤3)(hy:1≤y∧y≤3) :
 Calls Tryz.prog 233 #[.slice A 2 c] w (TP (opL 6 [x,y]) w):=by
 obtain ⟨b,o,rfl,_,hcc⟩:=Z4D h (by simp)
 have hct:∀ (k:Int) (W:World),W=w→Calls Tryz.prog 235 #[.slice (some ⟨b,o,none⟩) 2 c,.int .i64 k] W fun e w'=>e=.returned (.bool ([x,y].contains k))∧w'=W:=fun k W hW=>by
  subst hW;exact Tryz.slices_Contains_int b o 2 c [x,y] k W (by simp) (by omega) (fun j hj=>by rw [hcc j hj];simp [List.getD_eq_getElem?_getD,List.getElem?_eq_getElem hj])
 have c0:w.cell? ⟨b,o,none⟩=some (.int .i64 x):=hcc 0 (by simp)
 have c1:w.cell? ⟨b,o+1,none⟩=some (.int .i64 y):=hcc 1 (by simp)
 have hB:=h
 clear h hcc hB;by_cases h3:x=3∨y=3
 · have e3:[x,y].contains 3=true:=by rcases h3 with rfl | rfl <;> simp
   have ho:opL 6 [x,y]=0:=by unfold opL opT;rcases h3 with rfl | rfl <;> simp
   have k3:=hct 3;rw [e3] at k3
   have K3:=zh k3;have HO:=zh ho;have H3:=zh h3;clear k3 ho h3 hct e3;go_enter Tryz.func233,Tryz.ntmps233
   go_wp2_with fail;refine (K3.out w rfl).mono ?_
   rintro e w' ⟨rfl,rfl⟩;go_wp2_with fail;refine (Z4c _).mono ?_
   rintro e w' ⟨rfl,rfl⟩;go_wp2_with fail;rw [HO.out]
   exact ⟨rfl,Below.refl _ _,.inr ⟨rfl,rfl⟩⟩
 · have e3:[x,y].contains 3=false:=by simp;omega
   have k3:=hct 3;rw [e3] at k3
   by_cases h1:x=1∨y=1
   · have e1:[x,y].contains 1=true:=by rcases h1 with rfl | rfl <;> simp
     have ho:opL 6 [x,y]=max x y:=by unfold opL opT;simp;omega
     have hm:max x y≠0:=by omega
     have k1:=hct 1;rw [e1] at k1
     have K3:=zh k3;have K1:=zh k1;have HO:=zh ho;have HM:=zh hm;have H1:=zh h1;have H3:=zh h3;clear k3 k1 ho hm h1 h3 hct e3 e1;go_enter Tryz.func233,Tryz.ntmps233
     go_wp2_with fail;refine (K3.out w rfl).mono ?_
     rintro e w' ⟨rfl,rfl⟩;go_wp2_with fail;refine (K1.out _ rfl).mono ?_
     rintro e w' ⟨rfl,rfl⟩;go_wp2_with fail;refine (Z6D _).mono ?_
     rintro e w' ⟨rfl,rfl⟩;go_wp2_with fail;go_region
     all_goals (go_wp2_with fail;go_ret;rw [HO.out];exact ⟨Zet _ 1,.inl ⟨HM.out,rfl⟩⟩)
   · have e1:[x,y].contains 1=false:=by simp;omega
     have ho:opL 6 [x,y]=0:=by unfold opL opT;simp;omega
     have k1:=hct 1;rw [e1] at k1
     have K3:=zh k3;have K1:=zh k1;have HO:=zh ho;have H1:=zh h1;have H3:=zh h3;clear k3 k1 ho h1 h3 hct e3 e1;go_enter Tryz.func233,Tryz.ntmps233
     go_wp2_with fail;refine (K3.out w rfl).mono ?_
     rintro e w' ⟨rfl,rfl⟩;go_wp2_with fail;refine (K1.out _ rfl).mono ?_
     rintro e w' ⟨rfl,rfl⟩;go_wp2_with fail;refine (Z4c _).mono ?_
     rintro e w' ⟨rfl,rfl⟩;go_wp2_with fail;rw [HO.out]
     exact ⟨rfl,Below.refl _ _,.inr ⟨rfl,rfl⟩⟩
theorem Zs2 (W:World):TFn W (.func (.func 233) #[] #[]) 6:=by
 refine ⟨_,_,rfl,enters_of Tryz.func233 (by kernel_rfl) rfl,fun W' A c B ts _ hl hn hv=>?_⟩
 obtain ⟨x,y,rfl⟩:=Zaw hl
 exact Zs1 x y A c B W' hv (hn x (by simp)) (hn y (by simp))
def ZkG (F:World→Value→Int→Prop)(lo:Int)(w:World)(r:Nat):Prop:=∀ op,lo≤op→op≤15→∃ L1 V L2,Z33 w r (L1++(op,V)::L2)∧(∀ p∈L1,p.1≠op)∧F w V op
theorem Z06 {w w1:World}{B r:Nat}(hg:w.grownBy w1 (some r))(hB:B≤w.heap.size)(hr:B≤r):Below B w w1:=(Below.refl B w).grown hg hB (fun g e=>by injection e with e;omega)
theorem Bx1.ins {w w1:World}{b r:Nat}{t:Int}(h:Bx1 w b t)(hg:w.grownBy w1 (some r))(hne:b≠r):Bx1 w1 b t:=(hg.block b (zs h) (by simp;exact hne)).trans h
theorem Bx1.on {w w1:World}{b:Nat}{t:Int}(h:Bx1 w b t)(hb:Below w.heap.size w w1):Bx1 w1 b t:=(hb.block b (zs h)).trans h
def OpsP (w:World)(e:Ending)(w':World):Prop:=∃ r,e=.returned (.map (some r))∧ZkG TFn 1 w' r∧w.heap.size≤r∧Below w.heap.size w w'

theorem Zgf (w:World):Calls Tryz.prog 177 #[] w (OpsP w):=by
 have hmm:=@run_makeMap Tryz.prog
 have h0:=Z33.new w
 have g0:Below w.heap.size w (w.alloc (.map #[] 0)):=(Below.refl _ _).alloc (zn _) _
 have l0:w.heap.size<(w.alloc (.map #[] 0)).heap.size:=by simp
 go_enter Tryz.func177,Tryz.ntmps177
 go_wp2_with fail;generalize w.alloc (.map #[] 0)=w0 at *
 clear hmm;refine (Z7k 1 _).mono ?_
 rintro e w' ⟨rfl,rfl⟩;have a0:=(Below.refl w0.heap.size w0).alloc (zn _) (.cells #[.int .i64 1] 3)
 have b1:Bx1 (w0.alloc (.cells #[.int .i64 1] 3)) w0.heap.size 1:=za w0 _
 have n1:w0.heap.size≠w.heap.size:=by omega
 have h0':=h0.on a0
 have g0':=Z00 g0 a0
 have l0':w.heap.size<(w0.alloc (.cells #[.int .i64 1] 3)).heap.size:=by simp;omega
 clear h0 g0 l0 a0;go_wp2_with fail;generalize hx1:w0.heap.size=x1 at *
 clear hx1;generalize w0.alloc (.cells #[.int .i64 1] 3)=v0 at *
 refine Z0e Tryz.underlying226 Tryz.underlying3 h0' (by simp) ?_
 intro w1 h1 q1
 have g1:=g0'.trans (Z06 q1 (Nat.le_of_lt l0') (zn _))
 have l1:w.heap.size<w1.heap.size:=by have:=q1.size;omega
 replace b1:=b1.ins q1 n1
 simp only [List.nil_append] at h1
 clear h0' g0' l0' q1;go_wp2_with fail;refine (Z7k 1 _).mono ?_
 rintro e w' ⟨rfl,rfl⟩;have a1:=(Below.refl w1.heap.size w1).alloc (zn _) (.cells #[.int .i64 1] 3)
 have b3:Bx1 (w1.alloc (.cells #[.int .i64 1] 3)) w1.heap.size 1:=za w1 _
 have n3:w1.heap.size≠w.heap.size:=by omega
 have h1':=h1.on a1
 have g1':=Z00 g1 a1
 have l1':w.heap.size<(w1.alloc (.cells #[.int .i64 1] 3)).heap.size:=by simp;omega
 replace b1:=b1.on a1
 clear h1 g1 l1 a1;go_wp2_with fail;generalize hx3:w1.heap.size=x3 at *
 clear hx3;generalize w1.alloc (.cells #[.int .i64 1] 3)=v1 at *
 refine Z0e Tryz.underlying226 Tryz.underlying3 h1' (by simp) ?_
 intro w2 h2 q2
 have g2:=g1'.trans (Z06 q2 (Nat.le_of_lt l1') (zn _))
 have l2:w.heap.size<w2.heap.size:=by have:=q2.size;omega
 replace b1:=b1.ins q2 n1
 replace b3:=b3.ins q2 n3
 simp only [List.nil_append,List.cons_append] at h2
 clear h1' g1' l1' q2;go_wp2_with fail;refine (Z7k 2 _).mono ?_
 rintro e w' ⟨rfl,rfl⟩;have a2:=(Below.refl w2.heap.size w2).alloc (zn _) (.cells #[.int .i64 2] 3)
 have b2:Bx1 (w2.alloc (.cells #[.int .i64 2] 3)) w2.heap.size 2:=za w2 _
 have n2:w2.heap.size≠w.heap.size:=by omega
 have h2':=h2.on a2
 have g2':=Z00 g2 a2
 have l2':w.heap.size<(w2.alloc (.cells #[.int .i64 2] 3)).heap.size:=by simp;omega
 replace b1:=b1.on a2
 replace b3:=b3.on a2
 clear h2 g2 l2 a2;go_wp2_with fail;generalize hx2:w2.heap.size=x2 at *
 clear hx2;generalize w2.alloc (.cells #[.int .i64 2] 3)=v2 at *
 refine Z0e Tryz.underlying226 Tryz.underlying3 h2' (by simp) ?_
 intro w3 h3 q3
 have g3:=g2'.trans (Z06 q3 (Nat.le_of_lt l2') (zn _))
 have l3:w.heap.size<w3.heap.size:=by have:=q3.size;omega
 replace b1:=b1.ins q3 n1
 replace b3:=b3.ins q3 n3
 replace b2:=b2.ins q3 n2
 simp only [List.nil_append,List.cons_append] at h3
 clear h2' g2' l2' q3;go_wp2_with fail;refine Z0e Tryz.underlying226 Tryz.underlying3 h3 (by simp) ?_
 intro w4 h4 q4
 have g4:=g3.trans (Z06 q4 (Nat.le_of_lt l3) (zn _))
 have l4:w.heap.size<w4.heap.size:=by have:=q4.size;omega
 replace b1:=b1.ins q4 n1
 replace b3:=b3.ins q4 n3
 replace b2:=b2.ins q4 n2
 simp only [List.nil_append,List.cons_append] at h4
 clear h3 g3 l3 q4;go_wp2_with fail;refine Z0e Tryz.underlying226 Tryz.underlying3 h4 (by simp) ?_
 intro w5 h5 q5
 have g5:=g4.trans (Z06 q5 (Nat.le_of_lt l4) (zn _))
 have l5:w.heap.size<w5.heap.size:=by have:=q5.size;omega
 replace b1:=b1.ins q5 n1
 replace b3:=b3.ins q5 n3
 replace b2:=b2.ins q5 n2
 simp only [List.nil_append,List.cons_append] at h5
 clear h4 g4 l4 q5;go_wp2_with fail;refine Z0e Tryz.underlying226 Tryz.underlying3 h5 (by simp) ?_
 intro w6 h6 q6
 have g6:=g5.trans (Z06 q6 (Nat.le_of_lt l5) (zn _))
 have l6:w.heap.size<w6.heap.size:=by have:=q6.size;omega
 replace b1:=b1.ins q6 n1
 replace b3:=b3.ins q6 n3
 replace b2:=b2.ins q6 n2
 simp only [List.nil_append,List.cons_append] at h6
 clear h5 g5 l5 q6;go_wp2_with fail;refine Z0e Tryz.underlying226 Tryz.underlying3 h6 (by simp) ?_
 intro w7 h7 q7
 have g7:=g6.trans (Z06 q7 (Nat.le_of_lt l6) (zn _))
 have l7:w.heap.size<w7.heap.size:=by have:=q7.size;omega
 replace b1:=b1.ins q7 n1
 replace b3:=b3.ins q7 n3
 replace b2:=b2.ins q7 n2
 simp only [List.nil_append,List.cons_append] at h7
 clear h6 g6 l6 q7;go_wp2_with fail;refine Z0e Tryz.underlying226 Tryz.underlying3 h7 (by simp) ?_
 intro w8 h8 q8
 have g8:=g7.trans (Z06 q8 (Nat.le_of_lt l7) (zn _))
 have l8:w.heap.size<w8.heap.size:=by have:=q8.size;omega
 replace b1:=b1.ins q8 n1
 replace b3:=b3.ins q8 n3
 replace b2:=b2.ins q8 n2
 simp only [List.nil_append,List.cons_append] at h8
 clear h7 g7 l7 q8;go_wp2_with fail;refine Z0e Tryz.underlying226 Tryz.underlying3 h8 (by simp) ?_
 intro w9 h9 q9
 have g9:=g8.trans (Z06 q9 (Nat.le_of_lt l8) (zn _))
 have l9:w.heap.size<w9.heap.size:=by have:=q9.size;omega
 replace b1:=b1.ins q9 n1
 replace b3:=b3.ins q9 n3
 replace b2:=b2.ins q9 n2
 simp only [List.nil_append,List.cons_append] at h9
 clear h8 g8 l8 q9;go_wp2_with fail;refine Z0e Tryz.underlying226 Tryz.underlying3 h9 (by simp) ?_
 intro w10 h10 q10
 have g10:=g9.trans (Z06 q10 (Nat.le_of_lt l9) (zn _))
 have l10:w.heap.size<w10.heap.size:=by have:=q10.size;omega
 replace b1:=b1.ins q10 n1
 replace b3:=b3.ins q10 n3
 replace b2:=b2.ins q10 n2
 simp only [List.nil_append,List.cons_append] at h10
 clear h9 g9 l9 q10;go_wp2_with fail;refine Z0e Tryz.underlying226 Tryz.underlying3 h10 (by simp) ?_
 intro w11 h11 q11
 have g11:=g10.trans (Z06 q11 (Nat.le_of_lt l10) (zn _))
 have l11:w.heap.size<w11.heap.size:=by have:=q11.size;omega
 replace b1:=b1.ins q11 n1
 replace b3:=b3.ins q11 n3
 replace b2:=b2.ins q11 n2
 simp only [List.nil_append,List.cons_append] at h11
 clear h10 g10 l10 q11;go_wp2_with fail;refine Z0e Tryz.underlying226 Tryz.underlying3 h11 (by simp) ?_
 intro w12 h12 q12
 have g12:=g11.trans (Z06 q12 (Nat.le_of_lt l11) (zn _))
 have l12:w.heap.size<w12.heap.size:=by have:=q12.size;omega
 replace b1:=b1.ins q12 n1
 replace b3:=b3.ins q12 n3
 replace b2:=b2.ins q12 n2
 simp only [List.nil_append,List.cons_append] at h12
 clear h11 g11 l11 q12;go_wp2_with fail;refine Z0e Tryz.underlying226 Tryz.underlying3 h12 (by simp) ?_
 intro w13 h13 q13
 have g13:=g12.trans (Z06 q13 (Nat.le_of_lt l12) (zn _))
 have l13:w.heap.size<w13.heap.size:=by have:=q13.size;omega
 replace b1:=b1.ins q13 n1
 replace b3:=b3.ins q13 n3
 replace b2:=b2.ins q13 n2
 simp only [List.nil_append,List.cons_append] at h13
 clear h12 g12 l12 q13;go_wp2_with fail;refine Z0e Tryz.underlying226 Tryz.underlying3 h13 (by simp) ?_
 intro w14 h14 q14
 have g14:=g13.trans (Z06 q14 (Nat.le_of_lt l13) (zn _))
 have l14:w.heap.size<w14.heap.size:=by have:=q14.size;omega
 replace b1:=b1.ins q14 n1
 replace b3:=b3.ins q14 n3
 replace b2:=b2.ins q14 n2
 simp only [List.nil_append,List.cons_append] at h14
 clear h13 g13 l13 q14;go_wp2_with fail;refine Z0e Tryz.underlying226 Tryz.underlying3 h14 (by simp) ?_
 intro w15 h15 q15
 have g15:=g14.trans (Z06 q15 (Nat.le_of_lt l14) (zn _))
 have l15:w.heap.size<w15.heap.size:=by have:=q15.size;omega
 replace b1:=b1.ins q15 n1
 replace b3:=b3.ins q15 n3
 replace b2:=b2.ins q15 n2
 simp only [List.nil_append,List.cons_append] at h15
 clear h14 g14 l14 q15;go_wp2_with fail;go_ret
 refine ⟨_,rfl,?_,zn _,g15⟩
 intro op ho1 ho2
 rcases (show op=1∨op=3∨op=2∨op=4∨op=5∨op=8∨op=9∨op=11∨op=12∨op=13∨op=14∨op=15∨op=6∨op=7∨op=10 by omega) with rfl | rfl | rfl | rfl | rfl | rfl | rfl | rfl | rfl | rfl | rfl | rfl | rfl | rfl | rfl
 · exact ⟨[],_,[(3,_),(2,_),(4,_),(5,_),(8,_),(9,_),(11,_),(12,_),(13,_),(14,_),(15,_),(6,_),(7,_),(10,_)],h15,by simp,Z7n b1 (by decide) rfl rfl⟩
 · exact ⟨[(1,_)],_,[(2,_),(4,_),(5,_),(8,_),(9,_),(11,_),(12,_),(13,_),(14,_),(15,_),(6,_),(7,_),(10,_)],h15,by simp,Z7n b3 (by decide) rfl rfl⟩
 · exact ⟨[(1,_),(3,_)],_,[(4,_),(5,_),(8,_),(9,_),(11,_),(12,_),(13,_),(14,_),(15,_),(6,_),(7,_),(10,_)],h15,by simp,Z7n b2 (by decide) rfl rfl⟩
 · exact ⟨[(1,_),(3,_),(2,_)],_,[(5,_),(8,_),(9,_),(11,_),(12,_),(13,_),(14,_),(15,_),(6,_),(7,_),(10,_)],h15,by simp,Z6E _ (by decide)⟩
 · exact ⟨[(1,_),(3,_),(2,_),(4,_)],_,[(8,_),(9,_),(11,_),(12,_),(13,_),(14,_),(15,_),(6,_),(7,_),(10,_)],h15,by simp,Z6E _ (by decide)⟩
 · exact ⟨[(1,_),(3,_),(2,_),(4,_),(5,_)],_,[(9,_),(11,_),(12,_),(13,_),(14,_),(15,_),(6,_),(7,_),(10,_)],h15,by simp,Z6E _ (by decide)⟩
 · exact ⟨[(1,_),(3,_),(2,_),(4,_),(5,_),(8,_)],_,[(11,_),(12,_),(13,_),(14,_),(15,_),(6,_),(7,_),(10,_)],h15,by simp,Z6E _ (by decide)⟩
 · exact ⟨[(1,_),(3,_),(2,_),(4,_),(5,_),(8,_),(9,_)],_,[(12,_),(13,_),(14,_),(15,_),(6,_),(7,_),(10,_)],h15,by simp,Z9j _ (by decide)⟩
 · exact ⟨[(1,_),(3,_),(2,_),(4,_),(5,_),(8,_),(9,_),(11,_)],_,[(13,_),(14,_),(15,_),(6,_),(7,_),(10,_)],h15,by simp,Z9j _ (by decide)⟩
 · exact ⟨[(1,_),(3,_),(2,_),(4,_),(5,_),(8,_),(9,_),(11,_),(12,_)],_,[(14,_),(15,_),(6,_),(7,_),(10,_)],h15,by simp,Z7m _ (by decide)⟩
 · exact ⟨[(1,_),(3,_),(2,_),(4,_),(5,_),(8,_),(9,_),(11,_),(12,_),(13,_)],_,[(15,_),(6,_),(7,_),(10,_)],h15,by simp,Z7m _ (by decide)⟩
 · exact ⟨[(1,_),(3,_),(2,_),(4,_),(5,_),(8,_),(9,_),(11,_),(12,_),(13,_),(14,_)],_,[(6,_),(7,_),(10,_)],h15,by simp,Z7m _ (by decide)⟩
 · exact ⟨[(1,_),(3,_),(2,_),(4,_),(5,_),(8,_),(9,_),(11,_),(12,_),(13,_),(14,_),(15,_)],_,[(7,_),(10,_)],h15,by simp,Zs2 _⟩
 · exact ⟨[(1,_),(3,_),(2,_),(4,_),(5,_),(8,_),(9,_),(11,_),(12,_),(13,_),(14,_),(15,_),(6,_)],_,[(10,_)],h15,by simp,Zs0 _⟩
 · exact ⟨[(1,_),(3,_),(2,_),(4,_),(5,_),(8,_),(9,_),(11,_),(12,_),(13,_),(14,_),(15,_),(6,_),(7,_)],_,[],h15,by simp,tfn_if _⟩
end
section
open Go.RowKit Lx Px Qx
theorem Tryz.infoInt:(Tryz.prog.info? 3).map (fun i=>(i.zero,i.size,i.bytes))=some (some (.int .i64 0),1,8):=by kernel_rfl
theorem Z5w {ops:Array Oper}{rest:List Oper}{o:Oper}{a:Act}{Q:Exit→Act→World→Prop}(w:World)(hgd:o.guard=none)(s x:Operand)
 (ho:o.op=.call { callee:=.builtin .append,args:=#[s,x],argTypes:=#[27,27] }) (base:Nat) (v:Value) (ts:List Int) (hs:a.eval s=v) (hown:w.ownsRow base 3 1 v ts.length (ts.map (.int .i64)))
 (b:Nat) (t:Int) (hx:a.eval x=.slice (some ⟨b,0,none⟩) 1 1) (hn:w.cell? ⟨b,0,none⟩=some (.int .i64 t)) (hl:ts.length≤1000000) (hbase:base≤w.heap.size)
 (h:∀ v' w',w'.ownsRow base 3 1 v' (ts++[t]).length ((ts++[t]).map (.int .i64))→w.grownBy w' v.ownBlock→wpList Tryz.prog ops Q rest (a.put o.dst v') w'):wpList Tryz.prog ops Q (o::rest) a w:=by
 obtain ⟨i0,hi,hz0,hz1,hz2⟩:=info_parts Tryz.infoInt
 refine wpList_append_own w hgd s x 27 ho base 3 i0 _ 1 8 Tryz.underlying27 hi hz0 hz1 hz2 rfl (by decide) v ts.length _ hs hown ⟨b,0,none⟩ 1 1 [.int .i64 t] hx rfl ?_ ?_ (by unfold maxLen;omega) (by omega) hbase ?_
 · intro j u hj
   have:j=0:=by
    rcases Nat.eq_zero_or_pos j with h | h
    · exact h
    · rw [List.getElem?_eq_none (by simp;omega)] at hj;cases hj
   subst this;simp at hj
   subst hj;exact hn
 · simp [Value.oneCell']
 · intro v' w' h1 h2 _
   refine h v' w' ?_ h2
   rw [List.length_append,List.map_append]
   exact h1
end
section
open Go.RowKit Lx Px Qx
def OfC (a:Int × Int)(l:Fo):Prop :=
 ∀ (w:World) (v:Value) (B r:Nat),FoV w B v l→B≤w.heap.size→ZkG TFn 1 w r→Z04 a.1 a.2 (flen l)=true→wfF l →
  Calls Tryz.prog 176 #[.agg #[.int .i64 a.1,.int .i64 a.2,v],.map (some r)] w (TP (typE a l) w)
theorem ZkG.on {F:World→Value→Int→Prop}{lo:Int}{w w':World}{r:Nat}(hF:∀ v op,F w v op→F w' v op)(h:ZkG F lo w r)(hb:Below w.heap.size w w'):ZkG F lo w' r:=by
 intro op h1 h2
 obtain ⟨L1,V,L2,hm,hn,hv⟩:=h op h1 h2
 exact ⟨L1,V,L2,hm.on hb,hn,hF _ _ hv⟩
def OfL (l:Fo)(w:World)(op n:Int)(av v i:Value)(wr:World):Prop :=
 ∃ (k:Nat) (ts:List Int),k≤flen l∧i=.int .i64 k∧ts.length=k∧(∀ j,j<k→ts.getD j 0=typE (getF l j).1 (getF l j).2∧ts.getD j 0≠0) ∧
  wr.ownsRow (w.heap.size+1) 3 1 v ts.length (ts.map (.int .i64))∧Below w.heap.size w wr∧w.heap.size<wr.heap.size∧wr.heap[w.heap.size]?=some (.cells #[.int .i64 op,.int .i64 n,av] 63 (0,0))
theorem Z6F {w w':World}{base e s n:Nat}{v:Value}{xs:List Value}(h:w.ownsRow base e s v n xs)(hb:Below w.heap.size w w'):w'.ownsRow base e s v n xs:=by
 obtain ⟨hl,hown⟩:=h
 refine ⟨hl,?_⟩
 rcases hown with h0 | ⟨g,cap,cur,hv,hg,hgk,rest⟩
 · exact .inl h0
 · exact .inr ⟨g,cap,cur,hv,hg,(hb.block g (zs hgk)).trans hgk,rest⟩
theorem ZpG (a:Int × Int)(l:Fo)(ih:∀ k,k<flen l→OfC (getF l k).1 (getF l k).2):OfC a l:=by
 intro w v B r hv hB hO hf hw
 obtain ⟨A,c,rfl,hA⟩:=hv
 obtain ⟨op,n⟩:=a
 obtain ⟨har,ho1,ho2⟩:=Z9i hf
 dsimp only at hf ho1 ho2 har
 have hfl:=Z54 hf;have hx:=za w (.cells #[.int .i64 op,.int .i64 n,.slice A (flen l) c] 63)
 have hb0:=(Below.refl w.heap.size w).alloc (zn _) (.cells #[.int .i64 op,.int .i64 n,.slice A (flen l) c] 63)
 have IH:=zh ih;have HO:=zh hO;have HW:=zh hw;have HA:=zh hA;have HF:=zh hf;have HX:=zh hx;have HB0:=zh hb0;have HAR:=zh har;clear ih hO hw hA hf hx hb0 har;go_enter Tryz.func176,Tryz.ntmps176
 go_wp2_with fail;go_loopw [5,11] (fun v i wr=>OfL l w op n (.slice A (flen l) c) v i wr) (fun _ i _=>flen l - (intOf i).toNat)
 case atStart=>exact ⟨0,[],Nat.zero_le _,rfl,rfl,fun j hj=>absurd hj (by omega),World.ownsRow_nil _ _ _ _,HB0.out,by simp,HX.out⟩
 case round =>
  obtain ⟨k,ts,hk,rfl,htl,hts,hown,hbl,hsz,hbx⟩:=hrel
  have HTS:=zh hts;have HOWN:=zh hown;have HTL:=zh htl;have HBX:=zh hbx;clear hts hown htl hbx;by_cases hkl:k<flen l
  · have hkeep:∀ p:Addr,p.block<B→wr.cell? p=w.cell? p:=fun p hp=>hbl.cell (by omega)
    obtain ⟨ad,A',c',rfl,hlo,t0,t1,t2,t3⟩:=FoAt.get l A 0 k (FoAt.keep hkeep l A 0 HA.out) hkl
    rw [Nat.zero_add] at t0 t1 t2
    have hrec:=IH.out k hkl
    obtain ⟨hwf1,hwf2⟩:=ZkD HW.out hkl
    have hno:=fun h=>ZkF (a:=(op,n)) hkl h
    have htE:=Zav (getF l k).1 (getF l k).2
    have hnew:∀ t,t=typE (getF l k).1 (getF l k).2→t≠0→∀ j,j<k+1→(ts++[t]).getD j 0=typE (getF l j).1 (getF l j).2∧(ts++[t]).getD j 0≠0:=by
     intro t ht h0 j hj
     have htl':=HTL.out
     by_cases hjk:j=k
     · subst hjk
       rw [← htl',List.getD_eq_getElem?_getD]
       simp only [List.getElem?_concat_length,Option.getD_some]
       rw [htl']
       exact ⟨ht,h0⟩
     · have:=HTS.out j (by omega)
       rw [List.getD_eq_getElem?_getD,List.getElem?_append_left (by omega),← List.getD_eq_getElem?_getD]
       exact this
    obtain ⟨⟨op',n'⟩,l',hel⟩:∃ a' l',getF l k=(a',l'):=⟨_,_,rfl⟩
    rw [hel] at t0 t1 t2 t3 hrec hwf1 hwf2 hno hnew htE
    dsimp only at t0 t1 t2 t3 hrec hwf1 hwf2 hno hnew htE
    obtain ⟨t,hte⟩:∃ t,t=typE (op',n') l':=⟨_,rfl⟩
    rw [← hte] at hno hnew htE
    have hb2:(ad.add (k*3)).block<wr.heap.size:=by rw [Z11];omega
    have HTE:=zh hte;have HRC:=zh hrec;have W1:=zh hwf1;have W2:=zh hwf2;have HNO:=zh hno;have HNEW:=zh hnew;have HEL:=zh hel;have T3:=zh t3;clear hte hrec hwf1 hwf2 hno hnew hel t3 hkeep HTS;have ha:=(Below.refl wr.heap.size wr).alloc (zn _) (.cells #[.int .i64 op',.int .i64 n',.slice A' (flen l') c'] 63)
    have hba:=Z00 hbl ha
    have hO2:=HO.out.on (fun v op h=>TFn.on h hba) hba
    have hown2:=Z6F HOWN.out ha
    have hbx2:=(ha.block _ hsz).trans HBX.out
    have hF2:=FoAt.keep (fun p hp=>ha.cell (by omega)) l' A' 0 T3.out
    have hz2:wr.heap.size<(wr.alloc (.cells #[.int .i64 op',.int .i64 n',.slice A' (flen l') c'] 63)).heap.size:=by simp
    have HA1:=zh ha;have HBA:=zh hba;have HO2:=zh hO2;have HOWN2:=zh hown2;have HBX2:=zh hbx2;have HF2:=zh hF2;clear ha hba hO2 hown2 hbx2 hF2;go_wp2_with fail;generalize wr.alloc (.cells #[.int .i64 op',.int .i64 n',.slice A' (flen l') c'] 63)=W3 at *
    refine (HRC.out W3 (.slice A' (flen l') c') B r ⟨A',c',rfl,HF2.out⟩ (by omega) HO2.out W1.out W2.out).mono ?_
    intro e w9 ht'
    have ht:TP t W3 e w9:=by rw [HTE.out];exact ht'
    clear ht';by_cases h0:t=0
    · subst h0
      obtain ⟨hb9,rfl⟩:=ht.no
      have hr:=HNO.out rfl
      have HR:=zh hr;clear hr;go_wp2_with fail;rw [HR.out]
      exact ⟨rfl,Z00 HBA.out hb9,.inr ⟨rfl,rfl⟩⟩
    · obtain ⟨hb9,rfl⟩:=ht.yes h0
      have hown3:=Z6F HOWN2.out hb9
      have hbx3:=(hb9.block _ (by omega)).trans HBX2.out
      have hb3:=Z00 HBA.out hb9
      have hz3:=hb9.size
      have hnx:=HNEW.out t rfl h0
      clear ht;have HOWN3:=zh hown3;have HBX3:=zh hbx3;have HB3:=zh hb3;have HNX:=zh hnx;have H0:=zh h0;clear hown3 hbx3 hb3 hnx h0 HOWN2 HBX2 HBA HO2 HF2 HNEW hb9;go_wp2_with (at_builtin;refine Z5w _ rfl _ _ rfl (w.heap.size+1) _ ts rfl (HOWN3.out.alloc _) w9.heap.size t rfl (by simp [go_sem]) (by have:=HTL.out;omega) (by simp;omega) ?_;intro v' w5 hown' hgrow)
      have hob:∀ g,u5.ownBlock=some g→w.heap.size+1≤g:=fun g e=>(HOWN3.out.lt g e).1
      have hb5:Below w.heap.size w w5:=(HB3.out.alloc (by omega) (.cells #[.int .i64 t] 3)).grown hgrow (by simp;omega) (fun g e=>by have:=hob g e;omega)
      have hx5:=(hgrow.block w.heap.size (by simp;omega) (fun e=>by have:=hob _ e.symm;omega)).trans (Z0C HBX3.out _)
      have hs5:w.heap.size<w5.heap.size:=by have:=hgrow.size;simp at this;omega
      go_roundw
      case rel=>exact ⟨k+1,ts++[t],by omega,by go_num,by rw [List.length_append,HTL.out];rfl,HNX.out,hown',hb5,hs5,hx5⟩
      case measure=>simp [intOf];omega
  · have hke:k=flen l:=by omega
    subst hke;have hE:typE (op,n) l=opL op ts:=ZkE HTL.out HTS.out
    have hge:∀ t∈ts,1≤t∧t≤3:=by
     intro t ht
     obtain ⟨j,hj,rfl⟩:=List.getElem_of_mem ht
     have h1:=HTS.out j (by have:=HTL.out;omega)
     have h2:=Zav (getF l j).1 (getF l j).2
     rw [← h1.1] at h2
     rw [List.getD_eq_getElem?_getD,List.getElem?_eq_getElem hj,Option.getD_some] at h1 h2
     omega
    have hO2:=HO.out.on (fun v op h=>TFn.on h hbl) hbl
    obtain ⟨L1,V,L2,hm,hn,g,cap,rfl,hcf,hcall⟩:=hO2 op ho1 ho2
    have hlk:=Zbt Tryz.underlying226 Tryz.underlying3 hm hn
    have hv:=Z07.own HOWN.out rfl
    obtain ⟨A5,c5,rfl,hA5⟩:=hv
    have hc:=hcall wr A5 c5 wr.heap.size ts (Below.refl _ _) (HTL.out.trans HAR.out) hge ⟨A5,c5,rfl,hA5⟩
    have x0:wr.cell? ⟨w.heap.size,0,none⟩=some (.int .i64 op):=by rw [zc HBX.out];rfl
    rw [← hE] at hc
    have dl:decide ((flen l:Int)<(flen l:Int))=false:=by simp
    have HC:=zh hc;have HE:=zh hE;clear hc hE hA5 hm hn hO2 hge hcall HOWN HTS HTL HBX IH HF;go_wp2_with fail;refine HC.out.mono ?_
    intro e w9 ht
    rcases ht with ⟨hb9,⟨h0,rfl⟩ | ⟨h0,rfl⟩⟩
    · have H0:=zh h0
      clear h0;go_wp2_with fail;go_ret
      exact ⟨Z00 hbl hb9,.inl ⟨H0.out,rfl⟩⟩
    · have H0:=zh h0
      clear h0;go_wp2_with fail;exact ⟨rfl,Z00 hbl hb9,.inr ⟨H0.out,rfl⟩⟩
theorem of_all (f:Fo):∀ k,k<flen f→OfC (getF f k).1 (getF f k).2:=by
 induction f with
 | nil=>intro k h;simp [flen] at h
 | node b o a l r ihl ihr =>
  intro k h
  cases k with
  | zero=>exact ZpG a l ihl
  | succ k=>exact ihr k (by simp [flen] at h;omega)
theorem of_any (a:Int × Int)(l:Fo):OfC a l:=ZpG a l (of_all l)
end
section
open Go.RowKit Lx Px Qx
theorem Z5g {P:Program}{c:Code}{Q:Exit→Act→List Frame→World→Prop}{a:Act}{cs:List Frame}{w:World}(R:Act→World→Prop)(h:c.wp P (fun e a' w'=>e=.normal∧R a' w') a w)(hR:∀ a' w',R a' w'→Q .normal a' cs w'):c.wpS P Q a cs w :=
 wpS_of_wp (Code.wp_mono (fun e a' w' h=>by obtain ⟨he,hr⟩:=h;subst he;exact hR a' w' hr) h)
def InfB (w:World)(t e:Int)(wx:World):Prop :=
 wx.heap[w.heap.size+1]?=some (.cells #[.int .i64 t] 3 (0,0))∧wx.heap[w.heap.size+2]?=some (.cells #[.int .i64 e] 35 (0,0))∧Below w.heap.size w wx
theorem InfB.on {w wx wy:World}{t e:Int}(h:InfB w t e wx)(hb:Below wx.heap.size wx wy):InfB w t e wy :=
 ⟨(hb.block _ (zs h.1)).trans h.1,(hb.block _ (zs h.2.1)).trans h.2.1,Z00 h.2.2 hb⟩
theorem Z6G {w:World}{b:Nat}{x:Value}{ty:TypeId}(h:w.heap[b]?=some (.cells #[x] ty (0,0)))(y:Value):(w.setCell ⟨b,0,none⟩ y).heap[b]?=some (.cells #[y] ty (0,0)):=by
 simp [World.setCell,Array.getElem?_modify,h]
theorem Z0r {w:World}{b:Nat}{x:Value}{ty:TypeId}(h:w.heap[b]?=some (.cells #[x] ty (0,0))):w.cell? ⟨b,0,none⟩=some x:=by rw [zc h];rfl
theorem InfB.set {w wx:World}{t e:Int}(h:InfB w t e wx)(t' e':Int):InfB w t' e' ((wx.setCell ⟨w.heap.size+1,0,none⟩ (.int .i64 t')).setCell ⟨w.heap.size+2,0,none⟩ (.int .i64 e')):=by
 refine ⟨?_,?_,?_⟩
 · rw [Below.heap_setCell _ _ _ _ (by show w.heap.size+1≠w.heap.size+2;omega)]
   exact Z6G h.1 _
 · refine Z6G (x:=.int .i64 e) ?_ _
   rw [Below.heap_setCell _ _ _ _ (by show w.heap.size+2≠w.heap.size+1;omega)]
   exact h.2.1
 · exact (h.2.2.setCell (p:=⟨w.heap.size+1,0,none⟩) (by show w.heap.size≤w.heap.size+1;omega) _).setCell (p:=⟨w.heap.size+2,0,none⟩) (by show w.heap.size≤w.heap.size+2;omega) _
theorem Z4f (w wx:World)(t e:Int)(h:InfB w t e wx) :
 CallsD Tryz.prog 175 #[.pointer (some ⟨w.heap.size+1,0,none⟩),.pointer (some ⟨w.heap.size+1+1,0,none⟩)] (.panicking [Z7j]) wx fun en u' w' =>
  en=.returned (.tuple #[])∧u'=.panicking [{ Z7j with recovered:=true }]∧InfB w 0 20 w':=by
 refine callsD_of_wpS Tryz.func175 rfl fun c₀ cs hu=>?_
 unfold Z7j at hu ⊢
 apply wpS_seq
 apply wpS_region
 simp [wpOpsS,go_sem,recoverD,hu,Tryz.ntmps175,Exit.thenS]
 refine Z5g (fun a' w'=>a'.defers=[]∧InfB w 0 20 w') ?_ ?_
 · have htm:∀ V:Value,(#[Value.pointer (some ⟨w.heap.size+1,0,none⟩),Value.pointer (some ⟨w.heap.size+1+1,0,none⟩)]++(Array.replicate 9 undef).setIfInBounds 3 V)=#[Value.pointer (some ⟨w.heap.size+1,0,none⟩),Value.pointer (some ⟨w.heap.size+1+1,0,none⟩),undef,undef,undef,V,undef,undef,undef,undef,undef]:=fun _=>by kernel_rfl
   rw [htm]
   have hta:∀ w:World,(Instr.typeAssert (.iface 224 (.agg #[])) 20 224 true).run Tryz.prog w=.ok (.tuple #[.agg #[],.bool true]) w:=fun _=>by kernel_rfl
   have ha:=(Below.refl wx.heap.size wx).alloc (zn _) (.cells #[] 224)
   have h2:=h.on ha
   have H2:=zh h2;clear h2 hu htm h ha;go_upto_region 7 with fail
   clear hta;generalize wx.alloc (.cells #[] 224)=W at *
   obtain ⟨k1,k2,kb⟩:=H2.out
   have a0:W.cell? ⟨w.heap.size+1,0,none⟩=some (.int .i64 t):=by rw [zc k1];rfl
   have a1:W.cell? ⟨w.heap.size+2,0,none⟩=some (.int .i64 e):=by rw [zc k2];rfl
   have a2:W.frozen? ⟨w.heap.size+1,0,none⟩=false:=by simp [World.frozen?,k1]
   have a3:W.frozen? ⟨w.heap.size+2,0,none⟩=false:=by simp [World.frozen?,k2]
   have hS:=H2.out.set 0 20
   have HS:=zh hS;clear hS k1 k2 kb H2;go_wp2_with fail;exact HS.out
 · rintro a' w' ⟨hd,hS⟩
   cases c₀
   simp_all [bodyPostS,results,Tryz.results175]
theorem Z9k (p q:Addr)(w:World) :
 CallsD Tryz.prog 175 #[.pointer (some p),.pointer (some q)] .returning w fun e u' w'=>e=.returned (.tuple #[])∧u'=.returning∧w'=w:=by
 refine callsD_of_wpS Tryz.func175 rfl fun c₀ cs hu=>?_
 apply wpS_seq
 apply wpS_region
 simp [wpOpsS,go_sem,recoverD,hu,Tryz.ntmps175,Exit.thenS]
 refine Z5g (fun a' w'=>a'.defers=[]∧w'=w) ?_ ?_
 · have htm:∀ V:Value,(#[Value.pointer (some p),Value.pointer (some q)]++(Array.replicate 9 undef).setIfInBounds 3 V)=#[Value.pointer (some p),Value.pointer (some q),undef,undef,undef,V,undef,undef,undef,undef,undef]:=fun _=>by kernel_rfl
   rw [htm]
   clear htm hu;go_wp2_with fail
 · rintro a' w' ⟨hd,rfl⟩
   cases c₀
   simp_all [bodyPostS,results,Tryz.results175]
theorem Zp9 (w:World)(cs:Array Value)(t:TypeId):InfB w 0 0 (((w.alloc (.cells cs t)).alloc (.cells #[.int .i64 0] 3)).alloc (.cells #[.int .i64 0] 35)):=by
 refine ⟨?_,?_,(((Below.refl _ _).alloc (zn _) _).alloc (by simp) _).alloc (by simp;omega) _⟩
 · rw [Below.heap_alloc _ _ _ (by simp)]
   have:=za (w.alloc (.cells cs t)) (.cells #[.int .i64 0] 3)
   simpa using this
 · have:=za ((w.alloc (.cells cs t)).alloc (.cells #[.int .i64 0] 3)) (.cells #[.int .i64 0] 35)
   simpa using this
def Z3u (a:Int × Int)(l:Fo):Int × Int:=if Z0i a.1 a.2 l then (typE a l,if typE a l=0 then 20 else 0) else (0,1)
def InferP (a:Int × Int)(l:Fo)(w:World)(e:Ending)(w':World):Prop:=e=.returned (.tuple #[.int .i64 (Z3u a l).1,.int .i64 (Z3u a l).2])∧Below w.heap.size w w'
theorem Zdd (op n:Int)(l:Fo)(v:Value)(w:World)(hv:FoV w w.heap.size v l):Calls Tryz.prog 132 #[.agg #[.int .i64 op,.int .i64 n,v]] w (InferP (op,n) l w):=by
 obtain ⟨A,c,rfl,hA⟩:=hv
 have hmf:∀ (fn:Fn) (first cap:Array Value) (w:World),(Instr.makeFunc fn first cap).run Tryz.prog w=.ok (.func fn first cap) w:=fun _ _ _ _=>rfl
 have hI:=Zp9 w #[.int .i64 op,.int .i64 n,.slice A (flen l) c] 63
 have hx:((((w.alloc (.cells #[.int .i64 op,.int .i64 n,.slice A (flen l) c] 63)).alloc (.cells #[.int .i64 0] 3)).alloc (.cells #[.int .i64 0] 35))).heap[w.heap.size]?=some (.cells #[.int .i64 op,.int .i64 n,.slice A (flen l) c] 63 (0,0)):=by
  rw [Below.heap_alloc _ _ _ (by simp;omega),Below.heap_alloc _ _ _ (by simp)]
  exact za w _
 have hF:FoAt (((w.alloc (.cells #[.int .i64 op,.int .i64 n,.slice A (flen l) c] 63)).alloc (.cells #[.int .i64 0] 3)).alloc (.cells #[.int .i64 0] 35)) w.heap.size l A 0:=FoAt.keep (fun p hp=>hI.2.2.cell hp) l A 0 hA
 have HI:=zh hI;have HX:=zh hx;have HF:=zh hF;clear hI hx hF hA;go_enter_defers Tryz.func132,Tryz.ntmps132
 go_wp2_with fail;generalize ((w.alloc (.cells #[.int .i64 op,.int .i64 n,.slice A (flen l) c] 63)).alloc (.cells #[.int .i64 0] 3)).alloc (.cells #[.int .i64 0] 35)=W at *
 have hsz:=HI.out.2.2.size
 refine (Z3b op n l (.slice A (flen l) c) W ⟨A,c,rfl,FoAt.up hsz l A 0 HF.out⟩).mono ?_
 rintro e w2 ⟨rfl,hb2⟩;have hI2:=HI.out.on hb2
 have hx2:=(hb2.block _ (zs HX.out)).trans HX.out
 have hF2:=FoAt.keep (fun p hp=>hb2.cell (by omega)) l A 0 HF.out
 have hs2:=hb2.size
 clear hb2;have I2:=zh hI2;have X2:=zh hx2;have F2:=zh hF2;clear hI2 hx2 hF2 HI HX HF;cases hvb:Z0i op n l with
 | false =>
  have hr:Z3u (op,n) l=(0,1):=by simp [Z3u,hvb]
  obtain ⟨k1,k2,kb⟩:=I2.out
  have a0:w2.cell? ⟨w.heap.size+1,0,none⟩=some (.int .i64 0):=by rw [zc k1];rfl
  have a1:w2.cell? ⟨w.heap.size+2,0,none⟩=some (.int .i64 0):=by rw [zc k2];rfl
  have a2:w2.frozen? ⟨w.heap.size+1,0,none⟩=false:=by simp [World.frozen?,k1]
  have a3:w2.frozen? ⟨w.heap.size+2,0,none⟩=false:=by simp [World.frozen?,k2]
  have hS:=I2.out.set 0 1
  have HR:=zh hr;have HS:=zh hS;clear hr hS k1 k2 kb I2 hvb hmf;go_wp2_with fail;obtain ⟨k1,k2,kb⟩:=HS.out
  have q1:=Z0r k1;have q2:=Z0r k2;refine ⟨.tuple #[.int .i64 0,.int .i64 1],by simp [results,Tryz.results132,go_sem,q1,q2],?_,kb⟩
  rw [HR.out]
 | true =>
  obtain ⟨hf,hw⟩:=Z6C hvb
  have hr:Z3u (op,n) l=(typE (op,n) l,if typE (op,n) l=0 then 20 else 0):=by simp [Z3u,hvb]
  have x0:w2.cell? ⟨w.heap.size,0,none⟩=some (.int .i64 op):=by rw [zc X2.out];rfl
  have x1:w2.cell? ⟨w.heap.size,1,none⟩=some (.int .i64 n):=by rw [zc X2.out];rfl
  have x2:w2.cell? ⟨w.heap.size,2,none⟩=some (.slice A (flen l) c):=by rw [zc X2.out];rfl
  have HR:=zh hr;have HFM:=zh hf;have HW:=zh hw;have HVB:=zh hvb;clear hr hf hw hvb;go_wp2_with fail;clear hmf;have hof:=fun W r=>of_any (op,n) l W (.slice A (flen l) c) w.heap.size r
  refine wp_region_any (by kernel_rfl) ?_
  try (change wpAny _ _ _ _ _ _ _ (World.drew _))
  have X3:w2.drew.cell? ⟨w.heap.size,0,none⟩=some (.int .i64 op):=x0
  have Y3:w2.drew.cell? ⟨w.heap.size,1,none⟩=some (.int .i64 n):=x1
  have Z3:w2.drew.cell? ⟨w.heap.size,2,none⟩=some (.slice A (flen l) c):=x2
  have B3:Below w2.heap.size w2 w2.drew:=(Below.refl _ _).drew
  have S3:w.heap.size<w2.drew.heap.size:=(zs X2.out)
  have G3:=I2.out.on B3
  have F3:=FoAt.keep (fun p hp=>B3.cell (by omega)) l A 0 F2.out
  have GG:=zh G3;have FF:=zh F3;clear G3 F3 x0 x1 x2 I2 X2 F2 B3;generalize w2.drew=w3 at *
  refine wpAny_ready (rs:=[0,1]) (by kernel_rfl) (by simp) ?_
  refine AllReady.cons rfl (fun K hK=>?_) ?_
  · go_simp
    refine hK _ _ ?_
    clear hK K;refine wpAny_ready (rs:=[1]) (by kernel_rfl) (by simp) ?_
    refine AllReady.cons rfl (fun K hK=>?_) AllReady.nil
    go_simp
    refine (Zgf w3).mono ?_
    rintro e w4 ⟨r,rfl,hO,hr,hb4⟩;have x4:=(hb4.cell (p:=⟨w.heap.size,0,none⟩) S3).trans X3
    have y4:=(hb4.cell (p:=⟨w.heap.size,1,none⟩) S3).trans Y3
    have z4:=(hb4.cell (p:=⟨w.heap.size,2,none⟩) S3).trans Z3
    have i4:=GG.out.on hb4
    have f4:=FoAt.keep (fun p hp=>hb4.cell (by omega)) l A 0 FF.out
    have s4:=hb4.size
    have HO:=zh hO;have I4:=zh i4;have F4:=zh f4;clear hO i4 f4 X3 Y3 Z3 GG FF hb4;refine hK _ _ ?_
    clear hK K;refine wpAny_ready (rs:=[2]) (by kernel_rfl) (by simp) ?_
    refine AllReady.cons rfl (fun K hK=>?_) AllReady.nil
    go_simp
    refine (hof w4 r ⟨A,c,rfl,F4.out⟩ (by omega) HO.out HFM.out HW.out).mono ?_
    intro e w5 ht
    have i5:=I4.out.on ht.1
    by_cases h0:typE (op,n) l=0
    · rw [h0] at ht
      obtain ⟨hb5,rfl⟩:=ht.no
      have hR:Z3u (op,n) l=(0,20):=by rw [HR.out,h0];rfl
      refine leaves_cons (f:=175) (args:=#[.pointer (some ⟨w.heap.size+1,0,none⟩),.pointer (some ⟨w.heap.size+1+1,0,none⟩)]) (by simp) (by simp [go_sem]) ?_
      refine (Z4f w w5 0 0 i5).mono ?_
      rintro en u' w6 ⟨rfl,rfl,k1,k2,kb⟩
      have q1:=Z0r k1;have q2:=Z0r k2;refine ⟨.tuple #[.int .i64 0,.int .i64 20],by simp [results,Tryz.results132,go_sem,q1,q2],?_,kb⟩
      rw [hR]
    · obtain ⟨hb5,rfl⟩:=ht.yes h0
      have hR:Z3u (op,n) l=(typE (op,n) l,0):=by rw [HR.out,if_neg h0]
      generalize typE (op,n) l=t at *
      have i6:=i5.set t 0
      obtain ⟨j1,j2,jb⟩:=i5
      have a0:=Z0r j1;have a1:=Z0r j2;have a2:w5.frozen? ⟨w.heap.size+1,0,none⟩=false:=by simp [World.frozen?,j1]
      have a3:w5.frozen? ⟨w.heap.size+2,0,none⟩=false:=by simp [World.frozen?,j2]
      clear j1 j2 jb ht h0 HR hof;refine hK _ _ ?_
      clear hK K;refine wpAny_ready (rs:=[3]) (by kernel_rfl) (by simp) ?_
      refine AllReady.cons rfl (fun K hK=>?_) AllReady.nil
      go_simp
      refine hK _ _ ?_
      clear hK K;refine wpAny_ready (rs:=[4]) (by kernel_rfl) (by simp) ?_
      refine AllReady.cons rfl (fun K hK=>?_) AllReady.nil
      go_simp
      refine hK _ _ ?_
      clear hK K;refine wpAny_done (by kernel_rfl) ?_ _
      go_wp2_with fail;refine leaves_cons (f:=175) (args:=#[.pointer (some ⟨w.heap.size+1,0,none⟩),.pointer (some ⟨w.heap.size+1+1,0,none⟩)]) (by simp) (by simp [go_sem]) ?_
      refine (Z9k _ _ _).mono ?_
      rintro en u' w6 ⟨rfl,rfl,rfl⟩
      obtain ⟨k1,k2,kb⟩:=i6
      have q1:=Z0r k1;have q2:=Z0r k2;refine ⟨.tuple #[.int .i64 t,.int .i64 0],by simp [results,Tryz.results132,go_sem,q1,q2],?_,kb⟩
      rw [hR]
  · refine AllReady.cons rfl (fun K hK=>?_) AllReady.nil
    go_simp
    refine (Zgf w3).mono ?_
    rintro e w4 ⟨r,rfl,hO,hr,hb4⟩;have x4:=(hb4.cell (p:=⟨w.heap.size,0,none⟩) S3).trans X3
    have y4:=(hb4.cell (p:=⟨w.heap.size,1,none⟩) S3).trans Y3
    have z4:=(hb4.cell (p:=⟨w.heap.size,2,none⟩) S3).trans Z3
    have i4:=GG.out.on hb4
    have f4:=FoAt.keep (fun p hp=>hb4.cell (by omega)) l A 0 FF.out
    have s4:=hb4.size
    have HO:=zh hO;have I4:=zh i4;have F4:=zh f4;clear hO i4 f4 X3 Y3 Z3 GG FF hb4;refine hK _ _ ?_
    clear hK K;refine wpAny_ready (rs:=[0]) (by kernel_rfl) (by simp) ?_
    refine AllReady.cons rfl (fun K hK=>?_) AllReady.nil
    go_simp
    refine hK _ _ ?_
    clear hK K;refine wpAny_ready (rs:=[2]) (by kernel_rfl) (by simp) ?_
    refine AllReady.cons rfl (fun K hK=>?_) AllReady.nil
    go_simp
    refine (hof w4 r ⟨A,c,rfl,F4.out⟩ (by omega) HO.out HFM.out HW.out).mono ?_
    intro e w5 ht
    have i5:=I4.out.on ht.1
    by_cases h0:typE (op,n) l=0
    · rw [h0] at ht
      obtain ⟨hb5,rfl⟩:=ht.no
      have hR:Z3u (op,n) l=(0,20):=by rw [HR.out,h0];rfl
      refine leaves_cons (f:=175) (args:=#[.pointer (some ⟨w.heap.size+1,0,none⟩),.pointer (some ⟨w.heap.size+1+1,0,none⟩)]) (by simp) (by simp [go_sem]) ?_
      refine (Z4f w w5 0 0 i5).mono ?_
      rintro en u' w6 ⟨rfl,rfl,k1,k2,kb⟩
      have q1:=Z0r k1;have q2:=Z0r k2;refine ⟨.tuple #[.int .i64 0,.int .i64 20],by simp [results,Tryz.results132,go_sem,q1,q2],?_,kb⟩
      rw [hR]
    · obtain ⟨hb5,rfl⟩:=ht.yes h0
      have hR:Z3u (op,n) l=(typE (op,n) l,0):=by rw [HR.out,if_neg h0]
      generalize typE (op,n) l=t at *
      have i6:=i5.set t 0
      obtain ⟨j1,j2,jb⟩:=i5
      have a0:=Z0r j1;have a1:=Z0r j2;have a2:w5.frozen? ⟨w.heap.size+1,0,none⟩=false:=by simp [World.frozen?,j1]
      have a3:w5.frozen? ⟨w.heap.size+2,0,none⟩=false:=by simp [World.frozen?,j2]
      clear j1 j2 jb ht h0 HR hof;refine hK _ _ ?_
      clear hK K;refine wpAny_ready (rs:=[3]) (by kernel_rfl) (by simp) ?_
      refine AllReady.cons rfl (fun K hK=>?_) AllReady.nil
      go_simp
      refine hK _ _ ?_
      clear hK K;refine wpAny_ready (rs:=[4]) (by kernel_rfl) (by simp) ?_
      refine AllReady.cons rfl (fun K hK=>?_) AllReady.nil
      go_simp
      refine hK _ _ ?_
      clear hK K;refine wpAny_done (by kernel_rfl) ?_ _
      go_wp2_with fail;refine leaves_cons (f:=175) (args:=#[.pointer (some ⟨w.heap.size+1,0,none⟩),.pointer (some ⟨w.heap.size+1+1,0,none⟩)]) (by simp) (by simp [go_sem]) ?_
      refine (Z9k _ _ _).mono ?_
      rintro en u' w6 ⟨rfl,rfl,rfl⟩
      obtain ⟨k1,k2,kb⟩:=i6
      have q1:=Z0r k1;have q2:=Z0r k2;refine ⟨.tuple #[.int .i64 t,.int .i64 0],by simp [results,Tryz.results132,go_sem,q1,q2],?_,kb⟩
      rw [hR]
end
end Go.Proofs.YtnepkoepbapgeaaGreatDoor
