/-
  Several texts in one: QuoRat2, QuoRat3.
-/
import Derived.Test.YtnepkoepbapgeaaGreatDoorQuoRat
import Derived.Test.YtnepkoepbapgeaaGreatDoorQuoLd
import Derived.StillTailTactics
import Derived.Shelf.Abstract
import Derived.Test.YtnepkoepbapgeaaGreatDoorQuoTyp1
namespace Go.Proofs.YtnepkoepbapgeaaGreatDoor
set_option maxHeartbeats 1000000
set_option maxRecDepth 100000
section
open Go.RowKit Lx Px Qx
namespace Qx
def vN:V→Int
 | .ok n _=>n
 | .no _=>0
def vD:V→Int
 | .ok _ d=>d
 | .no _=>0
def vE:V→Int
 | .ok _ _=>0
 | .no e=>e
end Qx
theorem Zp1 (v:V):retV v=.tuple #[.agg #[.int .i64 (vN v),.int .i64 (vD v)],.int .i64 (vE v)]:=by cases v <;> rfl
def RetV (v:V)(w:World)(e:Ending)(w':World):Prop:=e=.returned (.tuple #[.agg #[.int .i64 (vN v),.int .i64 (vD v)],.int .i64 (vE v)])∧Below w.heap.size w w'
theorem Zcu (n d:Int)(w:World)(h0 : -4000000000000000000≤n)(h1:n≤4000000000000000000)(h2:1≤d)(h3:d≤4000000000000000000) :
 Calls Tryz.prog 215 #[.agg #[.int .i64 n,.int .i64 d]] w (RetV (ratV n d) w):=by
 have:=Zp0 n d w h0 h1 h2 h3
 rw [Zp1] at this
 exact this
def RatB (w:World)(b:Nat)(n d:Int):Prop:=w.heap[b]?=some (.cells #[.int .i64 n,.int .i64 d] 60 (0,0))
theorem RatB.on {w w':World}{b:Nat}{n d:Int}(h:RatB w b n d)(hb:Below w.heap.size w w'):RatB w' b n d:=(hb.block b (zs h)).trans h
theorem RatB.lt {w:World}{b:Nat}{n d:Int}(h:RatB w b n d):b<w.heap.size:=(zs h)
theorem RatB.c0 {w:World}{b:Nat}{n d:Int}(h:RatB w b n d):w.cell? ⟨b,0,none⟩=some (.int .i64 n):=by rw [zc h];rfl
theorem RatB.c1 {w:World}{b:Nat}{n d:Int}(h:RatB w b n d):w.cell? ⟨b,1,none⟩=some (.int .i64 d):=by rw [zc h];rfl
theorem RatB.fr {w:World}{b:Nat}{n d:Int}(h:RatB w b n d)(i:Nat):w.frozen? ⟨b,i,none⟩=false:=by
 have h':w.heap[b]?=_:=h
 simp [World.frozen?,h']
theorem RatB.new (w:World)(n d:Int):RatB (w.alloc (.cells #[.int .i64 n,.int .i64 d] 60)) w.heap.size n d:=za w _
theorem Z09 {w w':World}{b:Nat}(h:Below w.heap.size w w')(hb:w.heap.size≤b)(x y:Value):Below w.heap.size w ((w'.setCell ⟨b,0,none⟩ x).setCell ⟨b,1,none⟩ y) :=
 (h.setCell (p:=⟨b,0,none⟩) hb _).setCell (p:=⟨b,1,none⟩) hb _
theorem Zmh (k:Int)(w:World)(h0 : -1000000000000000≤k)(h1:k≤1000000000000000):Calls Tryz.prog 214 #[.int .i64 k] w fun e w'=>e=.returned (.bool false)∧w=w':=by
 have d1:decide (k < -1000000000000000)=false:=by simpa using h0
 have d2:decide ((1000000000000000:Int)<k)=false:=by simpa using h1
 go_enter Tryz.func214,Tryz.ntmps214
 go_wp2_with fail;go_ret
 exact ⟨rfl,rfl⟩
theorem Z9F (n d:Int)(w:World)(h0 : -1000000000000000≤n)(h1:n≤1000000000000000)(h2 : -1000000000000000≤d)(h3:d≤1000000000000000)(h4:d≠0) :
 Calls Tryz.prog 161 #[.int .i64 n,.int .i64 d] w (RetV (Z2F n d) w):=by
 have b1:Below w.heap.size w (w.alloc (.cells #[.int .i64 0,.int .i64 0] 60)):=(Below.refl _ _).alloc (zn _) _
 have x1:=RatB.new w 0 0
 have t0:(d==0)=false:=by simpa using h4
 by_cases hd:d<0
 · have hr:∀ W:World,Calls Tryz.prog 215 #[.agg #[.int .i64 (-n),.int .i64 (-d)]] W (RetV (Z2F n d) W):=fun W=>by
    have:=Zcu (-n) (-d) W (by omega) (by omega) (by omega) (by omega)
    rwa [show Z2F n d=ratV (-n) (-d) by unfold Z2F;rw [if_pos hd]]
   generalize Z2F n d=V at *
   have dd:decide (d<0)=true:=by simpa using hd
   have HR:=zh hr;have HB:=zh b1;have HX:=zh x1;have H4:=zh h4;clear hr b1 x1 h4;go_enter Tryz.func161,Tryz.ntmps161
   go_wp2_with (go_at_call 214;refine (Zmh _ _ (by omega) (by omega)).mono ?_;rintro e w' ⟨rfl,rfl⟩)
   generalize w.alloc (.cells #[.int .i64 0,.int .i64 0] 60)=W1 at *
   refine (HR.out W1).mono ?_
   rintro e w2 ⟨rfl,hb⟩;have x2:=HX.out.on hb
   have B2:=zh (Z00 HB.out hb)
   have z0:=x2.c0
   have z1:=x2.c1
   have y0:=x2.fr 0
   have y1:=x2.fr 1
   clear x2 hb;go_wp2_with fail;refine bodyPost_ret (v:=.tuple #[.agg #[.int .i64 (vN V),.int .i64 (vD V)],.int .i64 (vE V)]) (by simp [results,Tryz.results161,go_sem,z0,z1]) rfl ⟨rfl,Z09 B2.out (zn _) _ _⟩
 · have hr:∀ W:World,Calls Tryz.prog 215 #[.agg #[.int .i64 n,.int .i64 d]] W (RetV (Z2F n d) W):=fun W=>by
    have:=Zcu n d W (by omega) (by omega) (by omega) (by omega)
    rwa [show Z2F n d=ratV n d by unfold Z2F;rw [if_neg hd]]
   generalize Z2F n d=V at *
   have dd:decide (d<0)=false:=by simpa using hd
   have HR:=zh hr;have HB:=zh b1;have HX:=zh x1;have H4:=zh h4;clear hr b1 x1 h4;go_enter Tryz.func161,Tryz.ntmps161
   go_wp2_with (go_at_call 214;refine (Zmh _ _ (by omega) (by omega)).mono ?_;rintro e w' ⟨rfl,rfl⟩)
   generalize w.alloc (.cells #[.int .i64 0,.int .i64 0] 60)=W1 at *
   refine (HR.out W1).mono ?_
   rintro e w2 ⟨rfl,hb⟩;have x2:=HX.out.on hb
   have B2:=zh (Z00 HB.out hb)
   have z0:=x2.c0
   have z1:=x2.c1
   have y0:=x2.fr 0
   have y1:=x2.fr 1
   clear x2 hb;go_wp2_with fail;refine bodyPost_ret (v:=.tuple #[.agg #[.int .i64 (vN V),.int .i64 (vD V)],.int .i64 (vE V)]) (by simp [results,Tryz.results161,go_sem,z0,z1]) rfl ⟨rfl,Z09 B2.out (zn _) _ _⟩
theorem Z0q (w:World)(a b c d e f:Int):RatB (((w.alloc (.cells #[.int .i64 a,.int .i64 b] 60)).alloc (.cells #[.int .i64 c,.int .i64 d] 60)).alloc (.cells #[.int .i64 e,.int .i64 f] 60)) w.heap.size a b ∧
 RatB (((w.alloc (.cells #[.int .i64 a,.int .i64 b] 60)).alloc (.cells #[.int .i64 c,.int .i64 d] 60)).alloc (.cells #[.int .i64 e,.int .i64 f] 60)) (w.heap.size+1) c d ∧
 RatB (((w.alloc (.cells #[.int .i64 a,.int .i64 b] 60)).alloc (.cells #[.int .i64 c,.int .i64 d] 60)).alloc (.cells #[.int .i64 e,.int .i64 f] 60)) (w.heap.size+2) e f:=by
 obtain ⟨g1,g2⟩:=Z1x w (.cells #[.int .i64 a,.int .i64 b] 60) (.cells #[.int .i64 c,.int .i64 d] 60)
 refine ⟨Z0z g1 _,Z0z g2 _,?_⟩
 have:=za ((w.alloc (.cells #[.int .i64 a,.int .i64 b] 60)).alloc (.cells #[.int .i64 c,.int .i64 d] 60)) (.cells #[.int .i64 e,.int .i64 f] 60)
 simpa [RatB] using this
theorem Z9G (a b c d n m:Int)(g:FuncId)(cap:Array Value)(w:World)(hg:∀ args w,(callFunc g args).run Tryz.prog w=.ok (.enter g args) w)(ha:ratB a b=true)(hc:ratB c d=true)
 (hf:∀ W:World,Below w.heap.size w W→Calls Tryz.prog g cap W fun e w'=>e=.returned (.agg #[.int .i64 n,.int .i64 m])∧Below W.heap.size W w')
 (h0 : -4000000000000000000≤n) (h1:n≤4000000000000000000) (h2:1≤m) (h3:m≤4000000000000000000) :
 Calls Tryz.prog 247 #[.agg #[.int .i64 a,.int .i64 b],.agg #[.int .i64 c,.int .i64 d],.func (.func g) #[] cap] w (RetV (ratV n m) w):=by
 have hr:=fun W=>Zcu n m W h0 h1 h2 h3
 generalize ratV n m=V at *
 have v1:=fun W=>Z0E a b W
 have v2:=fun W=>Z0E c d W
 rw [ha] at v1
 rw [hc] at v2
 have b1:Below w.heap.size w (((w.alloc (.cells #[.int .i64 a,.int .i64 b] 60)).alloc (.cells #[.int .i64 c,.int .i64 d] 60)).alloc (.cells #[.int .i64 0,.int .i64 0] 60)):=(((Below.refl _ _).alloc (zn _) _).alloc (by simp) _).alloc (by simp;omega) _
 have x1:=Z0q w a b c d 0 0
 have HR:=zh hr;have V1:=zh v1;have V2:=zh v2;have HB:=zh b1;have HX:=zh x1;have HF:=zh hf;have HA:=zh ha;have HC:=zh hc;clear hr v1 v2 b1 x1 hf ha hc;go_enter Tryz.func247,Tryz.ntmps247
 go_wp2_with fail;generalize ((w.alloc (.cells #[.int .i64 a,.int .i64 b] 60)).alloc (.cells #[.int .i64 c,.int .i64 d] 60)).alloc (.cells #[.int .i64 0,.int .i64 0] 60)=W1 at *
 refine (V1.out W1).mono ?_
 rintro e w2 ⟨rfl,hb⟩;obtain ⟨x1,x2,x3⟩:=HX.out
 have X2:=zh (x2.on hb)
 have X3:=zh (x3.on hb)
 have B2:=zh (Z00 HB.out hb)
 clear x1 x2 x3 hb HX HB V1;have z0:=X2.out.c0
 have z1:=X2.out.c1
 go_wp2_with fail;refine (V2.out _).mono ?_
 rintro e w3 ⟨rfl,hb⟩;have Y3:=zh (X3.out.on hb)
 have B3:=zh (Z00 B2.out hb)
 clear hb X2 X3 B2 z0 z1;go_wp2_with fail;refine (HF.out _ B3.out).mono ?_
 rintro e w4 ⟨rfl,hb⟩;have Y4:=zh (Y3.out.on hb)
 have B4:=zh (Z00 B3.out hb)
 clear hb Y3 B3;go_wp2_with fail;refine (HR.out _).mono ?_
 rintro e w5 ⟨rfl,hb⟩;have x5:=Y4.out.on hb
 have B5:=zh (Z00 B4.out hb)
 have z0:=x5.c0
 have z1:=x5.c1
 have y0:=x5.fr 0
 have y1:=x5.fr 1
 clear x5 hb Y4 B4;go_wp2_with fail;refine bodyPost_ret (v:=.tuple #[.agg #[.int .i64 (vN V),.int .i64 (vD V)],.int .i64 (vE V)]) (by simp [results,Tryz.results247,go_sem,z0,z1]) rfl ⟨rfl,Z09 B5.out (by omega) _ _⟩
end
section
open Go.RowKit Lx Px Qx
theorem Z2f {a b c d:Int}(h1:ratB a b=true)(h2:ratB c d=true):(-1000000000000000≤a*d∧a*d≤1000000000000000)∧(-1000000000000000≤c*b∧c*b≤1000000000000000)∧(1≤b*d∧b*d≤1000000000000)∧(-1000000000000000000≤a*c∧a*c≤1000000000000000000):=by
 obtain ⟨b1,b2,a1,a2,_⟩:=Z1b h1
 obtain ⟨d1,d2,c1,c2,_⟩:=Z1b h2
 have e1:=Z4E (x:=d) (y:=a) (a:=1000000) (b:=1000000000) (by omega) d2 a1 a2 (by omega)
 have e2:=Z4E (x:=b) (y:=c) (a:=1000000) (b:=1000000000) (by omega) b2 c1 c2 (by omega)
 have e3:=Z4E (x:=b) (y:=d) (a:=1000000) (b:=1000000) (by omega) b2 (by omega) d2 (by omega)
 have e4:1≤b*d:=Int.mul_pos (by omega) (by omega)
 have e5 : -1000000000000000000≤a*c∧a*c≤1000000000000000000:=by
  by_cases ha:0≤a
  · have:=Z4E (x:=a) (y:=c) (a:=1000000000) (b:=1000000000) ha a2 c1 c2 (by omega);omega
  · have:=Z4E (x:=-a) (y:=c) (a:=1000000000) (b:=1000000000) (by omega) (by omega) c1 c2 (by omega)
    rw [Int.neg_mul] at this;omega
 rw [Int.mul_comm d a] at e1
 rw [Int.mul_comm b c] at e2
 refine ⟨?_,?_,?_,e5⟩ <;> omega
theorem Zkq (a b c d:Int)(p q:Nat)(w:World)(h1:ratB a b=true)(h2:ratB c d=true)(hp:RatB w p a b)(hq:RatB w q c d) :
 Calls Tryz.prog 248 #[.pointer (some ⟨p,0,none⟩),.pointer (some ⟨q,0,none⟩)] w fun e w'=>e=.returned (.agg #[.int .i64 (a*d+c*b),.int .i64 (b*d)])∧Below w.heap.size w w':=by
 obtain ⟨⟨k1,k2⟩,⟨k3,k4⟩,⟨k5,k6⟩,⟨k7,k8⟩⟩:=Z2f h1 h2
 have t0:=hp.c0
 have t1:=hp.c1
 have t2:=hq.c0
 have t3:=hq.c1
 have l1:=hp.lt
 have l2:=hq.lt
 clear h1 h2 hp hq;go_enter Tryz.func248,Tryz.ntmps248
 go_wp2_with fail;exact bodyPost_ret (v:=.agg #[.int .i64 (a*d+c*b),.int .i64 (b*d)]) (by simp [results,Tryz.results248,go_sem]) rfl ⟨rfl,(Below.refl _ _).alloc (zn _) _⟩
theorem Zp2 (a b c d:Int)(w:World)(h1:ratB a b=true)(h2:ratB c d=true) :
 Calls Tryz.prog 190 #[.agg #[.int .i64 a,.int .i64 b],.agg #[.int .i64 c,.int .i64 d]] w (RetV (addV a b c d) w):=by
 have hmf:∀ (fn:Fn) (first cap:Array Value) (w:World),(Instr.makeFunc fn first cap).run Tryz.prog w=.ok (.func fn first cap) w:=fun _ _ _ _=>rfl
 obtain ⟨⟨k1,k2⟩,⟨k3,k4⟩,⟨k5,k6⟩,⟨k7,k8⟩⟩:=Z2f h1 h2
 have b1:Below w.heap.size w (((w.alloc (.cells #[.int .i64 a,.int .i64 b] 60)).alloc (.cells #[.int .i64 c,.int .i64 d] 60)).alloc (.cells #[.int .i64 0,.int .i64 0] 60)):=(((Below.refl _ _).alloc (zn _) _).alloc (by simp) _).alloc (by simp;omega) _
 have x1:=Z0q w a b c d 0 0
 have hj:∀ W:World,RatB W w.heap.size a b→RatB W (w.heap.size+1) c d→Calls Tryz.prog 247 #[.agg #[.int .i64 a,.int .i64 b],.agg #[.int .i64 c,.int .i64 d],.func (.func 248) #[] #[.pointer (some ⟨w.heap.size,0,none⟩),.pointer (some ⟨w.heap.size+1,0,none⟩)]] W (RetV (addV a b c d) W):=fun W q1 q2 =>
  Z9G a b c d (a*d+c*b) (b*d) 248 _ W (enters_of Tryz.func248 (by kernel_rfl) rfl) h1 h2 (fun W' hb=>Zkq a b c d _ _ W' h1 h2 (q1.on hb) (q2.on hb)) (by omega) (by omega) (by omega) (by omega)
 generalize addV a b c d=V at *
 have HJ:=zh hj;have HB:=zh b1;have HX:=zh x1;have H1:=zh h1;have H2:=zh h2;clear hj b1 x1 h1 h2 k1 k2 k3 k4 k5 k6 k7 k8;go_enter Tryz.func190,Tryz.ntmps190
 go_wp2_with fail;generalize ((w.alloc (.cells #[.int .i64 a,.int .i64 b] 60)).alloc (.cells #[.int .i64 c,.int .i64 d] 60)).alloc (.cells #[.int .i64 0,.int .i64 0] 60)=W1 at *
 refine (HJ.out W1 HX.out.1 HX.out.2.1).mono ?_
 rintro e w2 ⟨rfl,hb⟩;have x2:=HX.out.2.2.on hb
 have B2:=zh (Z00 HB.out hb)
 have z0:=x2.c0
 have z1:=x2.c1
 have y0:=x2.fr 0
 have y1:=x2.fr 1
 clear x2 hb;go_wp2_with fail;refine bodyPost_ret (v:=.tuple #[.agg #[.int .i64 (vN V),.int .i64 (vD V)],.int .i64 (vE V)]) (by simp [results,Tryz.results190,go_sem,z0,z1]) rfl ⟨rfl,Z09 B2.out (by omega) _ _⟩
theorem Zkr (a b c d:Int)(p q:Nat)(w:World)(h1:ratB a b=true)(h2:ratB c d=true)(hp:RatB w p a b)(hq:RatB w q c d) :
 Calls Tryz.prog 249 #[.pointer (some ⟨p,0,none⟩),.pointer (some ⟨q,0,none⟩)] w fun e w'=>e=.returned (.agg #[.int .i64 (a*d - c*b),.int .i64 (b*d)])∧Below w.heap.size w w':=by
 obtain ⟨⟨k1,k2⟩,⟨k3,k4⟩,⟨k5,k6⟩,⟨k7,k8⟩⟩:=Z2f h1 h2
 have t0:=hp.c0
 have t1:=hp.c1
 have t2:=hq.c0
 have t3:=hq.c1
 have l1:=hp.lt
 have l2:=hq.lt
 clear h1 h2 hp hq;go_enter Tryz.func249,Tryz.ntmps249
 go_wp2_with fail;exact bodyPost_ret (v:=.agg #[.int .i64 (a*d - c*b),.int .i64 (b*d)]) (by simp [results,Tryz.results249,go_sem]) rfl ⟨rfl,(Below.refl _ _).alloc (zn _) _⟩
theorem Zp3 (a b c d:Int)(w:World)(h1:ratB a b=true)(h2:ratB c d=true) :
 Calls Tryz.prog 192 #[.agg #[.int .i64 a,.int .i64 b],.agg #[.int .i64 c,.int .i64 d]] w (RetV (subV a b c d) w):=by
 have hmf:∀ (fn:Fn) (first cap:Array Value) (w:World),(Instr.makeFunc fn first cap).run Tryz.prog w=.ok (.func fn first cap) w:=fun _ _ _ _=>rfl
 obtain ⟨⟨k1,k2⟩,⟨k3,k4⟩,⟨k5,k6⟩,⟨k7,k8⟩⟩:=Z2f h1 h2
 have b1:Below w.heap.size w (((w.alloc (.cells #[.int .i64 a,.int .i64 b] 60)).alloc (.cells #[.int .i64 c,.int .i64 d] 60)).alloc (.cells #[.int .i64 0,.int .i64 0] 60)):=(((Below.refl _ _).alloc (zn _) _).alloc (by simp) _).alloc (by simp;omega) _
 have x1:=Z0q w a b c d 0 0
 have hj:∀ W:World,RatB W w.heap.size a b→RatB W (w.heap.size+1) c d→Calls Tryz.prog 247 #[.agg #[.int .i64 a,.int .i64 b],.agg #[.int .i64 c,.int .i64 d],.func (.func 249) #[] #[.pointer (some ⟨w.heap.size,0,none⟩),.pointer (some ⟨w.heap.size+1,0,none⟩)]] W (RetV (subV a b c d) W):=fun W q1 q2 =>
  Z9G a b c d (a*d - c*b) (b*d) 249 _ W (enters_of Tryz.func249 (by kernel_rfl) rfl) h1 h2 (fun W' hb=>Zkr a b c d _ _ W' h1 h2 (q1.on hb) (q2.on hb)) (by omega) (by omega) (by omega) (by omega)
 generalize subV a b c d=V at *
 have HJ:=zh hj;have HB:=zh b1;have HX:=zh x1;have H1:=zh h1;have H2:=zh h2;clear hj b1 x1 h1 h2 k1 k2 k3 k4 k5 k6 k7 k8;go_enter Tryz.func192,Tryz.ntmps192
 go_wp2_with fail;generalize ((w.alloc (.cells #[.int .i64 a,.int .i64 b] 60)).alloc (.cells #[.int .i64 c,.int .i64 d] 60)).alloc (.cells #[.int .i64 0,.int .i64 0] 60)=W1 at *
 refine (HJ.out W1 HX.out.1 HX.out.2.1).mono ?_
 rintro e w2 ⟨rfl,hb⟩;have x2:=HX.out.2.2.on hb
 have B2:=zh (Z00 HB.out hb)
 have z0:=x2.c0
 have z1:=x2.c1
 have y0:=x2.fr 0
 have y1:=x2.fr 1
 clear x2 hb;go_wp2_with fail;refine bodyPost_ret (v:=.tuple #[.agg #[.int .i64 (vN V),.int .i64 (vD V)],.int .i64 (vE V)]) (by simp [results,Tryz.results192,go_sem,z0,z1]) rfl ⟨rfl,Z09 B2.out (by omega) _ _⟩
theorem Zks (a b c d:Int)(p q:Nat)(w:World)(h1:ratB a b=true)(h2:ratB c d=true)(hp:RatB w p a b)(hq:RatB w q c d) :
 Calls Tryz.prog 250 #[.pointer (some ⟨p,0,none⟩),.pointer (some ⟨q,0,none⟩)] w fun e w'=>e=.returned (.agg #[.int .i64 (a*c),.int .i64 (b*d)])∧Below w.heap.size w w':=by
 obtain ⟨⟨k1,k2⟩,⟨k3,k4⟩,⟨k5,k6⟩,⟨k7,k8⟩⟩:=Z2f h1 h2
 have t0:=hp.c0
 have t1:=hp.c1
 have t2:=hq.c0
 have t3:=hq.c1
 have l1:=hp.lt
 have l2:=hq.lt
 clear h1 h2 hp hq;go_enter Tryz.func250,Tryz.ntmps250
 go_wp2_with fail;exact bodyPost_ret (v:=.agg #[.int .i64 (a*c),.int .i64 (b*d)]) (by simp [results,Tryz.results250,go_sem]) rfl ⟨rfl,(Below.refl _ _).alloc (zn _) _⟩
theorem Zp4 (a b c d:Int)(w:World)(h1:ratB a b=true)(h2:ratB c d=true) :
 Calls Tryz.prog 194 #[.agg #[.int .i64 a,.int .i64 b],.agg #[.int .i64 c,.int .i64 d]] w (RetV (mulV a b c d) w):=by
 have hmf:∀ (fn:Fn) (first cap:Array Value) (w:World),(Instr.makeFunc fn first cap).run Tryz.prog w=.ok (.func fn first cap) w:=fun _ _ _ _=>rfl
 obtain ⟨⟨k1,k2⟩,⟨k3,k4⟩,⟨k5,k6⟩,⟨k7,k8⟩⟩:=Z2f h1 h2
 have b1:Below w.heap.size w (((w.alloc (.cells #[.int .i64 a,.int .i64 b] 60)).alloc (.cells #[.int .i64 c,.int .i64 d] 60)).alloc (.cells #[.int .i64 0,.int .i64 0] 60)):=(((Below.refl _ _).alloc (zn _) _).alloc (by simp) _).alloc (by simp;omega) _
 have x1:=Z0q w a b c d 0 0
 have hj:∀ W:World,RatB W w.heap.size a b→RatB W (w.heap.size+1) c d→Calls Tryz.prog 247 #[.agg #[.int .i64 a,.int .i64 b],.agg #[.int .i64 c,.int .i64 d],.func (.func 250) #[] #[.pointer (some ⟨w.heap.size,0,none⟩),.pointer (some ⟨w.heap.size+1,0,none⟩)]] W (RetV (mulV a b c d) W):=fun W q1 q2 =>
  Z9G a b c d (a*c) (b*d) 250 _ W (enters_of Tryz.func250 (by kernel_rfl) rfl) h1 h2 (fun W' hb=>Zks a b c d _ _ W' h1 h2 (q1.on hb) (q2.on hb)) (by omega) (by omega) (by omega) (by omega)
 generalize mulV a b c d=V at *
 have HJ:=zh hj;have HB:=zh b1;have HX:=zh x1;have H1:=zh h1;have H2:=zh h2;clear hj b1 x1 h1 h2 k1 k2 k3 k4 k5 k6 k7 k8;go_enter Tryz.func194,Tryz.ntmps194
 go_wp2_with fail;generalize ((w.alloc (.cells #[.int .i64 a,.int .i64 b] 60)).alloc (.cells #[.int .i64 c,.int .i64 d] 60)).alloc (.cells #[.int .i64 0,.int .i64 0] 60)=W1 at *
 refine (HJ.out W1 HX.out.1 HX.out.2.1).mono ?_
 rintro e w2 ⟨rfl,hb⟩;have x2:=HX.out.2.2.on hb
 have B2:=zh (Z00 HB.out hb)
 have z0:=x2.c0
 have z1:=x2.c1
 have y0:=x2.fr 0
 have y1:=x2.fr 1
 clear x2 hb;go_wp2_with fail;refine bodyPost_ret (v:=.tuple #[.agg #[.int .i64 (vN V),.int .i64 (vD V)],.int .i64 (vE V)]) (by simp [results,Tryz.results194,go_sem,z0,z1]) rfl ⟨rfl,Z09 B2.out (by omega) _ _⟩
theorem Zcv (a b c d:Int)(w:World)(h1:ratB a b=true)(h2:ratB c d=true) :
 Calls Tryz.prog 252 #[.agg #[.int .i64 a,.int .i64 b],.agg #[.int .i64 c,.int .i64 d]] w fun e w'=>e=.returned (.tuple #[.int .i64 (cmpI a b c d),.int .i64 0])∧Below w.heap.size w w':=by
 obtain ⟨⟨k1,k2⟩,⟨k3,k4⟩,_,_⟩:=Z2f h1 h2
 have v1:=fun W=>Z0E a b W
 have v2:=fun W=>Z0E c d W
 rw [h1] at v1
 rw [h2] at v2
 have b1:Below w.heap.size w ((w.alloc (.cells #[.int .i64 a,.int .i64 b] 60)).alloc (.cells #[.int .i64 c,.int .i64 d] 60)):=((Below.refl _ _).alloc (zn _) _).alloc (by simp) _
 have x1:RatB _ w.heap.size a b∧RatB _ (w.heap.size+1) c d:=Z1x w (.cells #[.int .i64 a,.int .i64 b] 60) (.cells #[.int .i64 c,.int .i64 d] 60)
 have hcm:cmpI a b c d=if a*d<c*b then -1 else if c*b<a*d then 1 else 0:=rfl
 have V1:=zh v1;have V2:=zh v2;have HB:=zh b1;have HX:=zh x1;have HCM:=zh hcm;have H1:=zh h1;have H2:=zh h2;clear v1 v2 b1 x1 hcm h1 h2;go_enter Tryz.func252,Tryz.ntmps252
 go_wp2_with fail;generalize (w.alloc (.cells #[.int .i64 a,.int .i64 b] 60)).alloc (.cells #[.int .i64 c,.int .i64 d] 60)=W1 at *
 refine (V1.out W1).mono ?_
 rintro e w2 ⟨rfl,hb⟩;have X1:=zh (HX.out.1.on hb)
 have X2:=zh (HX.out.2.on hb)
 have B2:=zh (Z00 HB.out hb)
 clear hb HX HB V1;have z0:=X2.out.c0
 have z1:=X2.out.c1
 go_wp2_with fail;refine (V2.out _).mono ?_
 rintro e w3 ⟨rfl,hb⟩;have Y1:=X1.out.on hb
 have Y2:=X2.out.on hb
 have B3:=zh (Z00 B2.out hb)
 clear hb X1 X2 B2 z0 z1;have u0:=Y1.c0
 have u1:=Y1.c1
 have u2:=Y2.c0
 have u3:=Y2.c1
 have q1:IntKind.i64.wrap (a*d)=a*d:=IntWalk.i64_in _ (by omega)
 have q2:IntKind.i64.wrap (c*b)=c*b:=IntWalk.i64_in _ (by omega)
 clear Y1 Y2;go_wp2_with fail;go_quiet (fail)
 clear u0 u1 u2 u3 q1 q2;generalize a*d=x at *
 generalize c*b=y at *
 by_cases hlt:x<y
 · have d1:decide (x<y)=true:=by simpa using hlt
   have hr:cmpI a b c d = -1:=by rw [HCM.out,if_pos hlt]
   have HR:=zh hr;have HL:=zh hlt;clear hr hlt;go_wp2_with fail;go_ret2
   rw [HR.out]
   exact ⟨rfl,Z0n B3.out _⟩
 · have d1:decide (x<y)=false:=by simpa using hlt
   by_cases hgt:y<x
   · have d2:decide (y<x)=true:=by simpa using hgt
     have hr:cmpI a b c d=1:=by rw [HCM.out,if_neg hlt,if_pos hgt]
     have HR:=zh hr;have HL:=zh hlt;have HG:=zh hgt;clear hr hlt hgt;go_wp2_with fail;go_ret2
     rw [HR.out]
     exact ⟨rfl,Z0n B3.out _⟩
   · have d2:decide (y<x)=false:=by simpa using hgt
     have hr:cmpI a b c d=0:=by rw [HCM.out,if_neg hlt,if_neg hgt]
     have HR:=zh hr;have HL:=zh hlt;have HG:=zh hgt;clear hr hlt hgt;go_wp2_with fail;go_ret2
     rw [HR.out]
     exact ⟨rfl,Z0n B3.out _⟩
end
end Go.Proofs.YtnepkoepbapgeaaGreatDoor
