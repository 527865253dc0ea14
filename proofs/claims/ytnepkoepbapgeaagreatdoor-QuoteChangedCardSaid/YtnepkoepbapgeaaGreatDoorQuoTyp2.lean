/-
  Walks: the map of operators that package types makes.
-/
import Derived.Test.YtnepkoepbapgeaaGreatDoorQuoTyp1
import Derived.Test.YtnepkoepbapgeaaGreatDoorShelf
import Derived.Shelf.Abstract
namespace Go.Proofs.YtnepkoepbapgeaaGreatDoor
set_option maxRecDepth 100000
open Go.RowKit Lx Px Qx
def TFn (W:World)(v:Value)(op:Int):Prop :=
 ∃ g cap,v=.func (.func g) #[] cap∧(∀ args w,(callFunc g args).run Tryz.prog w=.ok (.enter g args) w) ∧
  ∀ (W':World) (A:Option Addr) (c B:Nat) (ts:List Int),Below W.heap.size W W'→ts.length=arO op→(∀ t∈ts,1≤t∧t≤3)→Z02 W' B (.slice A ts.length c) ts→Calls Tryz.prog g (#[.slice A ts.length c]++cap) W' (TP (opL op ts) W')
theorem TFn.on {W W':World}{v:Value}{op:Int}(h:TFn W v op)(hb:Below W.heap.size W W'):TFn W' v op:=by
 obtain ⟨g,cap,e,h1,h2⟩:=h
 exact ⟨g,cap,e,h1,fun W2 A c B ts hb2=>h2 W2 A c B ts (Z00 hb hb2)⟩
theorem Z97 {ts:List Int}(h:ts.length=2):∃ x y,ts=[x,y]:=by
 match ts,h with
 | [x,y],_=>exact ⟨x,y,rfl⟩
theorem ZkA {ts:List Int}(h:ts.length=3):∃ x y z,ts=[x,y,z]:=by
 match ts,h with
 | [x,y,z],_=>exact ⟨x,y,z,rfl⟩
theorem one_of {ts:List Int}(h:ts.length=1):∃ x,ts=[x]:=by
 match ts,h with
 | [x],_=>exact ⟨x,rfl⟩
theorem Z5C (W:World){op:Int}(h:op=4∨op=5∨op=8∨op=9):TFn W (.func (.func 230) #[] #[]) op:=by
 refine ⟨_,_,rfl,enters_of Tryz.func230 (by kernel_rfl) rfl,fun W' A c B ts _ hl hn hv=>?_⟩
 have ho:arO op=2:=by unfold arO;rcases h with rfl | rfl | rfl | rfl <;> decide
 obtain ⟨x,y,rfl⟩:=Z97 (hl.trans ho)
 have:=Zbr x y A c B W' hv (by have:=hn x (by simp);omega)
 rwa [show opL op [x,y]=if x=y∧x≠3 then x else 0 by unfold opL opT;rcases h with rfl | rfl | rfl | rfl <;> rfl]
theorem Z84 (W:World){op:Int}(h:op=11∨op=12):TFn W (.func (.func 229) #[] #[]) op:=by
 refine ⟨_,_,rfl,enters_of Tryz.func229 (by kernel_rfl) rfl,fun W' A c B ts _ hl hn hv=>?_⟩
 have ho:arO op=2:=by unfold arO;rcases h with rfl | rfl <;> decide
 obtain ⟨x,y,rfl⟩:=Z97 (hl.trans ho)
 have:=ZcE x y A c B W' hv (by have:=hn x (by simp);omega)
 rwa [show opL op [x,y]=if x=y∧x≠3 then 3 else 0 by unfold opL opT;rcases h with rfl | rfl <;> rfl]
theorem Z6h (W:World){op:Int}(h:op=13∨op=14∨op=15):TFn W (.func (.func 232) #[] #[]) op:=by
 refine ⟨_,_,rfl,enters_of Tryz.func232 (by kernel_rfl) rfl,fun W' A c B ts _ hl _ hv=>?_⟩
 have hle:ts.length≤10:=by rw [hl];unfold arO;(repeat' split) <;> omega
 have:=Zfs ts A c B W' hv hle
 rwa [show opL op ts=all3 ts from ?_]
 rcases h with rfl | rfl | rfl
 · obtain ⟨x,y,rfl⟩:=Z97 hl
   simp [opL,opT,all3]
 · obtain ⟨x,y,rfl⟩:=Z97 hl
   simp [opL,opT,all3]
 · obtain ⟨x,rfl⟩:=one_of hl
   simp [opL,opT,all3]
theorem Zpe (W:World):TFn W (.func (.func 236) #[] #[]) 7:=by
 refine ⟨_,_,rfl,enters_of Tryz.func236 (by kernel_rfl) rfl,fun W' A c B ts _ hl hn hv=>?_⟩
 obtain ⟨x,y,rfl⟩:=Z97 hl
 exact Zpd x y A c B W' hv (by have:=hn x (by simp);omega)
theorem tfn_if (W:World):TFn W (.func (.func 237) #[] #[]) 10:=by
 refine ⟨_,_,rfl,enters_of Tryz.func237 (by kernel_rfl) rfl,fun W' A c B ts _ hl hn hv=>?_⟩
 obtain ⟨x,y,z,rfl⟩:=ZkA hl
 exact if_any x y z A c B W' hv (by have:=hn y (by simp);omega)
def Bx1 (w:World)(b:Nat)(t:Int):Prop:=w.heap[b]?=some (.cells #[.int .i64 t] 3 (0,0))
theorem Z6i {W:World}{b:Nat}{op t:Int}(h:Bx1 W b t)(ht:t≠0)(ho:opL op []=t)(ha:arO op=0):TFn W (.func (.func 266) #[] #[.pointer (some ⟨b,0,none⟩)]) op:=by
 refine ⟨_,_,rfl,enters_of Tryz.func266 (by kernel_rfl) rfl,fun W' A c B ts hb hl _ _=>?_⟩
 have:ts=[]:=List.length_eq_zero_iff.1 (hl.trans ha)
 subst this;have hx:W'.heap[b]?=_:=(hb.block b (zs h)).trans h
 refine (ZcF t ⟨b,0,none⟩ _ W' (by rw [zc hx];rfl)).mono ?_
 rintro e w' ⟨rfl,rfl⟩;rw [ho]
 exact ⟨Below.refl _ _,.inl ⟨ht,rfl⟩⟩
theorem Zpf (x y:Int)(A:Option Addr)(c B:Nat)(w:World)(h:Z02 w B (.slice A 2 c) [x,y])(hx:1≤x∧x≤3)(hy:1≤y∧y≤3) :
 Calls Tryz.prog 233 #[.slice A 2 c] w (TP (opL 6 [x,y]) w):=by
 obtain ⟨b,o,rfl,_,hcc⟩:=Z5b h (by simp)
 have hct:∀ (k:Int) (W:World),W=w→Calls Tryz.prog 235 #[.slice (some ⟨b,o,none⟩) 2 c,.int .i64 k] W fun e w'=>e=.returned (.bool ([x,y].contains k))∧w'=W:=fun k W hW=>by
  subst hW;exact Tryz.slices_Contains_int b o 2 c [x,y] k W (by simp) (by omega) (fun j hj=>by rw [hcc j hj];simp [List.getD_eq_getElem?_getD,List.getElem?_eq_getElem hj])
 have c0:w.cell? ⟨b,o,none⟩=some (.int .i64 x):=hcc 0 (by simp)
 have c1:w.cell? ⟨b,o+1,none⟩=some (.int .i64 y):=hcc 1 (by simp)
 have hB:=h
 clear h hcc hB;by_cases h3:x=3∨y=3
 · have e3:[x,y].contains 3=true:=by rcases h3 with rfl | rfl <;> simp
   have ho:opL 6 [x,y]=0:=by unfold opL opT;rcases h3 with rfl | rfl <;> simp
   have k3:=hct 3;rw [e3] at k3
   have K3:=zh k3;have HO:=zh ho;have H3:=zh h3;clear k3 ho h3 hct e3;go_enter Tryz.func233,Tryz.ntmps233
   go_wp2_with fail;refine (K3.out w rfl).mono ?_
   rintro e w' ⟨rfl,rfl⟩;go_wp2_with fail;refine (Z3y _).mono ?_
   rintro e w' ⟨rfl,rfl⟩;go_wp2_with fail;rw [HO.out]
   exact ⟨rfl,Below.refl _ _,.inr ⟨rfl,rfl⟩⟩
 · have e3:[x,y].contains 3=false:=by simp;omega
   have k3:=hct 3;rw [e3] at k3
   by_cases h1:x=1∨y=1
   · have e1:[x,y].contains 1=true:=by rcases h1 with rfl | rfl <;> simp
     have ho:opL 6 [x,y]=max x y:=by unfold opL opT;simp;omega
     have hm:max x y≠0:=by omega
     have k1:=hct 1;rw [e1] at k1
     have K3:=zh k3;have K1:=zh k1;have HO:=zh ho;have HM:=zh hm;have H1:=zh h1;have H3:=zh h3;clear k3 k1 ho hm h1 h3 hct e3 e1;go_enter Tryz.func233,Tryz.ntmps233
     go_wp2_with fail;refine (K3.out w rfl).mono ?_
     rintro e w' ⟨rfl,rfl⟩;go_wp2_with fail;refine (K1.out _ rfl).mono ?_
     rintro e w' ⟨rfl,rfl⟩;go_wp2_with fail;refine (Z5B _).mono ?_
     rintro e w' ⟨rfl,rfl⟩;go_wp2_with fail;go_region
     all_goals (go_wp2_with fail;go_ret;rw [HO.out];exact ⟨ZcD _ 1,.inl ⟨HM.out,rfl⟩⟩)
   · have e1:[x,y].contains 1=false:=by simp;omega
     have ho:opL 6 [x,y]=0:=by unfold opL opT;simp;omega
     have k1:=hct 1;rw [e1] at k1
     have K3:=zh k3;have K1:=zh k1;have HO:=zh ho;have H1:=zh h1;have H3:=zh h3;clear k3 k1 ho h1 h3 hct e3 e1;go_enter Tryz.func233,Tryz.ntmps233
     go_wp2_with fail;refine (K3.out w rfl).mono ?_
     rintro e w' ⟨rfl,rfl⟩;go_wp2_with fail;refine (K1.out _ rfl).mono ?_
     rintro e w' ⟨rfl,rfl⟩;go_wp2_with fail;refine (Z3y _).mono ?_
     rintro e w' ⟨rfl,rfl⟩;go_wp2_with fail;rw [HO.out]
     exact ⟨rfl,Below.refl _ _,.inr ⟨rfl,rfl⟩⟩
theorem Zpg (W:World):TFn W (.func (.func 233) #[] #[]) 6:=by
 refine ⟨_,_,rfl,enters_of Tryz.func233 (by kernel_rfl) rfl,fun W' A c B ts _ hl hn hv=>?_⟩
 obtain ⟨x,y,rfl⟩:=Z97 hl
 exact Zpf x y A c B W' hv (hn x (by simp)) (hn y (by simp))
def Zit (F:World→Value→Int→Prop)(lo:Int)(w:World)(r:Nat):Prop:=∀ op,lo≤op→op≤15→∃ L1 V L2,Z2u w r (L1++(op,V)::L2)∧(∀ p∈L1,p.1≠op)∧F w V op
theorem Z06 {w w1:World}{B r:Nat}(hg:w.grownBy w1 (some r))(hB:B≤w.heap.size)(hr:B≤r):Below B w w1:=(Below.refl B w).grown hg hB (fun g e=>by injection e with e;omega)
theorem Bx1.ins {w w1:World}{b r:Nat}{t:Int}(h:Bx1 w b t)(hg:w.grownBy w1 (some r))(hne:b≠r):Bx1 w1 b t:=(hg.block b (zs h) (by simp;exact hne)).trans h
theorem Bx1.on {w w1:World}{b:Nat}{t:Int}(h:Bx1 w b t)(hb:Below w.heap.size w w1):Bx1 w1 b t:=(hb.block b (zs h)).trans h
def OpsP (w:World)(e:Ending)(w':World):Prop:=∃ r,e=.returned (.map (some r))∧Zit TFn 1 w' r∧w.heap.size≤r∧Below w.heap.size w w'

set_option maxHeartbeats 4000000 in
theorem Ze6 (w:World):Calls Tryz.prog 177 #[] w (OpsP w):=by
 have hmm:=@run_makeMap Tryz.prog
 have h0:=Z2u.new w
 have g0:Below w.heap.size w (w.alloc (.map #[] 0)):=(Below.refl _ _).alloc (zn _) _
 have l0:w.heap.size<(w.alloc (.map #[] 0)).heap.size:=by simp
 go_enter Tryz.func177,Tryz.ntmps177
 go_wp2_with fail;generalize w.alloc (.map #[] 0)=w0 at *
 clear hmm;refine (Z6g 1 _).mono ?_
 rintro e w' ⟨rfl,rfl⟩;have a0:=(Below.refl w0.heap.size w0).alloc (zn _) (.cells #[.int .i64 1] 3)
 have b1:Bx1 (w0.alloc (.cells #[.int .i64 1] 3)) w0.heap.size 1:=za w0 _
 have n1:w0.heap.size≠w.heap.size:=by omega
 have h0':=h0.on a0
 have g0':=Z00 g0 a0
 have l0':w.heap.size<(w0.alloc (.cells #[.int .i64 1] 3)).heap.size:=by simp;omega
 clear h0 g0 l0 a0;go_wp2_with fail;generalize hx1:w0.heap.size=x1 at *
 clear hx1;generalize w0.alloc (.cells #[.int .i64 1] 3)=v0 at *
 refine Z0b Tryz.underlying226 Tryz.underlying3 h0' (by simp) ?_
 intro w1 h1 q1
 have g1:=g0'.trans (Z06 q1 (Nat.le_of_lt l0') (zn _))
 have l1:w.heap.size<w1.heap.size:=by have:=q1.size;omega
 replace b1:=b1.ins q1 n1
 simp only [List.nil_append] at h1
 clear h0' g0' l0' q1;go_wp2_with fail;refine (Z6g 1 _).mono ?_
 rintro e w' ⟨rfl,rfl⟩;have a1:=(Below.refl w1.heap.size w1).alloc (zn _) (.cells #[.int .i64 1] 3)
 have b3:Bx1 (w1.alloc (.cells #[.int .i64 1] 3)) w1.heap.size 1:=za w1 _
 have n3:w1.heap.size≠w.heap.size:=by omega
 have h1':=h1.on a1
 have g1':=Z00 g1 a1
 have l1':w.heap.size<(w1.alloc (.cells #[.int .i64 1] 3)).heap.size:=by simp;omega
 replace b1:=b1.on a1
 clear h1 g1 l1 a1;go_wp2_with fail;generalize hx3:w1.heap.size=x3 at *
 clear hx3;generalize w1.alloc (.cells #[.int .i64 1] 3)=v1 at *
 refine Z0b Tryz.underlying226 Tryz.underlying3 h1' (by simp) ?_
 intro w2 h2 q2
 have g2:=g1'.trans (Z06 q2 (Nat.le_of_lt l1') (zn _))
 have l2:w.heap.size<w2.heap.size:=by have:=q2.size;omega
 replace b1:=b1.ins q2 n1
 replace b3:=b3.ins q2 n3
 simp only [List.nil_append,List.cons_append] at h2
 clear h1' g1' l1' q2;go_wp2_with fail;refine (Z6g 2 _).mono ?_
 rintro e w' ⟨rfl,rfl⟩;have a2:=(Below.refl w2.heap.size w2).alloc (zn _) (.cells #[.int .i64 2] 3)
 have b2:Bx1 (w2.alloc (.cells #[.int .i64 2] 3)) w2.heap.size 2:=za w2 _
 have n2:w2.heap.size≠w.heap.size:=by omega
 have h2':=h2.on a2
 have g2':=Z00 g2 a2
 have l2':w.heap.size<(w2.alloc (.cells #[.int .i64 2] 3)).heap.size:=by simp;omega
 replace b1:=b1.on a2
 replace b3:=b3.on a2
 clear h2 g2 l2 a2;go_wp2_with fail;generalize hx2:w2.heap.size=x2 at *
 clear hx2;generalize w2.alloc (.cells #[.int .i64 2] 3)=v2 at *
 refine Z0b Tryz.underlying226 Tryz.underlying3 h2' (by simp) ?_
 intro w3 h3 q3
 have g3:=g2'.trans (Z06 q3 (Nat.le_of_lt l2') (zn _))
 have l3:w.heap.size<w3.heap.size:=by have:=q3.size;omega
 replace b1:=b1.ins q3 n1
 replace b3:=b3.ins q3 n3
 replace b2:=b2.ins q3 n2
 simp only [List.nil_append,List.cons_append] at h3
 clear h2' g2' l2' q3;go_wp2_with fail;refine Z0b Tryz.underlying226 Tryz.underlying3 h3 (by simp) ?_
 intro w4 h4 q4
 have g4:=g3.trans (Z06 q4 (Nat.le_of_lt l3) (zn _))
 have l4:w.heap.size<w4.heap.size:=by have:=q4.size;omega
 replace b1:=b1.ins q4 n1
 replace b3:=b3.ins q4 n3
 replace b2:=b2.ins q4 n2
 simp only [List.nil_append,List.cons_append] at h4
 clear h3 g3 l3 q4;go_wp2_with fail;refine Z0b Tryz.underlying226 Tryz.underlying3 h4 (by simp) ?_
 intro w5 h5 q5
 have g5:=g4.trans (Z06 q5 (Nat.le_of_lt l4) (zn _))
 have l5:w.heap.size<w5.heap.size:=by have:=q5.size;omega
 replace b1:=b1.ins q5 n1
 replace b3:=b3.ins q5 n3
 replace b2:=b2.ins q5 n2
 simp only [List.nil_append,List.cons_append] at h5
 clear h4 g4 l4 q5;go_wp2_with fail;refine Z0b Tryz.underlying226 Tryz.underlying3 h5 (by simp) ?_
 intro w6 h6 q6
 have g6:=g5.trans (Z06 q6 (Nat.le_of_lt l5) (zn _))
 have l6:w.heap.size<w6.heap.size:=by have:=q6.size;omega
 replace b1:=b1.ins q6 n1
 replace b3:=b3.ins q6 n3
 replace b2:=b2.ins q6 n2
 simp only [List.nil_append,List.cons_append] at h6
 clear h5 g5 l5 q6;go_wp2_with fail;refine Z0b Tryz.underlying226 Tryz.underlying3 h6 (by simp) ?_
 intro w7 h7 q7
 have g7:=g6.trans (Z06 q7 (Nat.le_of_lt l6) (zn _))
 have l7:w.heap.size<w7.heap.size:=by have:=q7.size;omega
 replace b1:=b1.ins q7 n1
 replace b3:=b3.ins q7 n3
 replace b2:=b2.ins q7 n2
 simp only [List.nil_append,List.cons_append] at h7
 clear h6 g6 l6 q7;go_wp2_with fail;refine Z0b Tryz.underlying226 Tryz.underlying3 h7 (by simp) ?_
 intro w8 h8 q8
 have g8:=g7.trans (Z06 q8 (Nat.le_of_lt l7) (zn _))
 have l8:w.heap.size<w8.heap.size:=by have:=q8.size;omega
 replace b1:=b1.ins q8 n1
 replace b3:=b3.ins q8 n3
 replace b2:=b2.ins q8 n2
 simp only [List.nil_append,List.cons_append] at h8
 clear h7 g7 l7 q8;go_wp2_with fail;refine Z0b Tryz.underlying226 Tryz.underlying3 h8 (by simp) ?_
 intro w9 h9 q9
 have g9:=g8.trans (Z06 q9 (Nat.le_of_lt l8) (zn _))
 have l9:w.heap.size<w9.heap.size:=by have:=q9.size;omega
 replace b1:=b1.ins q9 n1
 replace b3:=b3.ins q9 n3
 replace b2:=b2.ins q9 n2
 simp only [List.nil_append,List.cons_append] at h9
 clear h8 g8 l8 q9;go_wp2_with fail;refine Z0b Tryz.underlying226 Tryz.underlying3 h9 (by simp) ?_
 intro w10 h10 q10
 have g10:=g9.trans (Z06 q10 (Nat.le_of_lt l9) (zn _))
 have l10:w.heap.size<w10.heap.size:=by have:=q10.size;omega
 replace b1:=b1.ins q10 n1
 replace b3:=b3.ins q10 n3
 replace b2:=b2.ins q10 n2
 simp only [List.nil_append,List.cons_append] at h10
 clear h9 g9 l9 q10;go_wp2_with fail;refine Z0b Tryz.underlying226 Tryz.underlying3 h10 (by simp) ?_
 intro w11 h11 q11
 have g11:=g10.trans (Z06 q11 (Nat.le_of_lt l10) (zn _))
 have l11:w.heap.size<w11.heap.size:=by have:=q11.size;omega
 replace b1:=b1.ins q11 n1
 replace b3:=b3.ins q11 n3
 replace b2:=b2.ins q11 n2
 simp only [List.nil_append,List.cons_append] at h11
 clear h10 g10 l10 q11;go_wp2_with fail;refine Z0b Tryz.underlying226 Tryz.underlying3 h11 (by simp) ?_
 intro w12 h12 q12
 have g12:=g11.trans (Z06 q12 (Nat.le_of_lt l11) (zn _))
 have l12:w.heap.size<w12.heap.size:=by have:=q12.size;omega
 replace b1:=b1.ins q12 n1
 replace b3:=b3.ins q12 n3
 replace b2:=b2.ins q12 n2
 simp only [List.nil_append,List.cons_append] at h12
 clear h11 g11 l11 q12;go_wp2_with fail;refine Z0b Tryz.underlying226 Tryz.underlying3 h12 (by simp) ?_
 intro w13 h13 q13
 have g13:=g12.trans (Z06 q13 (Nat.le_of_lt l12) (zn _))
 have l13:w.heap.size<w13.heap.size:=by have:=q13.size;omega
 replace b1:=b1.ins q13 n1
 replace b3:=b3.ins q13 n3
 replace b2:=b2.ins q13 n2
 simp only [List.nil_append,List.cons_append] at h13
 clear h12 g12 l12 q13;go_wp2_with fail;refine Z0b Tryz.underlying226 Tryz.underlying3 h13 (by simp) ?_
 intro w14 h14 q14
 have g14:=g13.trans (Z06 q14 (Nat.le_of_lt l13) (zn _))
 have l14:w.heap.size<w14.heap.size:=by have:=q14.size;omega
 replace b1:=b1.ins q14 n1
 replace b3:=b3.ins q14 n3
 replace b2:=b2.ins q14 n2
 simp only [List.nil_append,List.cons_append] at h14
 clear h13 g13 l13 q14;go_wp2_with fail;refine Z0b Tryz.underlying226 Tryz.underlying3 h14 (by simp) ?_
 intro w15 h15 q15
 have g15:=g14.trans (Z06 q15 (Nat.le_of_lt l14) (zn _))
 have l15:w.heap.size<w15.heap.size:=by have:=q15.size;omega
 replace b1:=b1.ins q15 n1
 replace b3:=b3.ins q15 n3
 replace b2:=b2.ins q15 n2
 simp only [List.nil_append,List.cons_append] at h15
 clear h14 g14 l14 q15;go_wp2_with fail;go_ret
 refine ⟨_,rfl,?_,zn _,g15⟩
 intro op ho1 ho2
 rcases (show op=1∨op=3∨op=2∨op=4∨op=5∨op=8∨op=9∨op=11∨op=12∨op=13∨op=14∨op=15∨op=6∨op=7∨op=10 by omega) with rfl | rfl | rfl | rfl | rfl | rfl | rfl | rfl | rfl | rfl | rfl | rfl | rfl | rfl | rfl
 · exact ⟨[],_,[(3,_),(2,_),(4,_),(5,_),(8,_),(9,_),(11,_),(12,_),(13,_),(14,_),(15,_),(6,_),(7,_),(10,_)],h15,by simp,Z6i b1 (by decide) rfl rfl⟩
 · exact ⟨[(1,_)],_,[(2,_),(4,_),(5,_),(8,_),(9,_),(11,_),(12,_),(13,_),(14,_),(15,_),(6,_),(7,_),(10,_)],h15,by simp,Z6i b3 (by decide) rfl rfl⟩
 · exact ⟨[(1,_),(3,_)],_,[(4,_),(5,_),(8,_),(9,_),(11,_),(12,_),(13,_),(14,_),(15,_),(6,_),(7,_),(10,_)],h15,by simp,Z6i b2 (by decide) rfl rfl⟩
 · exact ⟨[(1,_),(3,_),(2,_)],_,[(5,_),(8,_),(9,_),(11,_),(12,_),(13,_),(14,_),(15,_),(6,_),(7,_),(10,_)],h15,by simp,Z5C _ (by decide)⟩
 · exact ⟨[(1,_),(3,_),(2,_),(4,_)],_,[(8,_),(9,_),(11,_),(12,_),(13,_),(14,_),(15,_),(6,_),(7,_),(10,_)],h15,by simp,Z5C _ (by decide)⟩
 · exact ⟨[(1,_),(3,_),(2,_),(4,_),(5,_)],_,[(9,_),(11,_),(12,_),(13,_),(14,_),(15,_),(6,_),(7,_),(10,_)],h15,by simp,Z5C _ (by decide)⟩
 · exact ⟨[(1,_),(3,_),(2,_),(4,_),(5,_),(8,_)],_,[(11,_),(12,_),(13,_),(14,_),(15,_),(6,_),(7,_),(10,_)],h15,by simp,Z5C _ (by decide)⟩
 · exact ⟨[(1,_),(3,_),(2,_),(4,_),(5,_),(8,_),(9,_)],_,[(12,_),(13,_),(14,_),(15,_),(6,_),(7,_),(10,_)],h15,by simp,Z84 _ (by decide)⟩
 · exact ⟨[(1,_),(3,_),(2,_),(4,_),(5,_),(8,_),(9,_),(11,_)],_,[(13,_),(14,_),(15,_),(6,_),(7,_),(10,_)],h15,by simp,Z84 _ (by decide)⟩
 · exact ⟨[(1,_),(3,_),(2,_),(4,_),(5,_),(8,_),(9,_),(11,_),(12,_)],_,[(14,_),(15,_),(6,_),(7,_),(10,_)],h15,by simp,Z6h _ (by decide)⟩
 · exact ⟨[(1,_),(3,_),(2,_),(4,_),(5,_),(8,_),(9,_),(11,_),(12,_),(13,_)],_,[(15,_),(6,_),(7,_),(10,_)],h15,by simp,Z6h _ (by decide)⟩
 · exact ⟨[(1,_),(3,_),(2,_),(4,_),(5,_),(8,_),(9,_),(11,_),(12,_),(13,_),(14,_)],_,[(6,_),(7,_),(10,_)],h15,by simp,Z6h _ (by decide)⟩
 · exact ⟨[(1,_),(3,_),(2,_),(4,_),(5,_),(8,_),(9,_),(11,_),(12,_),(13,_),(14,_),(15,_)],_,[(7,_),(10,_)],h15,by simp,Zpg _⟩
 · exact ⟨[(1,_),(3,_),(2,_),(4,_),(5,_),(8,_),(9,_),(11,_),(12,_),(13,_),(14,_),(15,_),(6,_)],_,[(10,_)],h15,by simp,Zpe _⟩
 · exact ⟨[(1,_),(3,_),(2,_),(4,_),(5,_),(8,_),(9,_),(11,_),(12,_),(13,_),(14,_),(15,_),(6,_),(7,_)],_,[],h15,by simp,tfn_if _⟩
end Go.Proofs.YtnepkoepbapgeaaGreatDoor
