/-
  Walks: the operators of package rate.
-/
import Derived.Test.YtnepkoepbapgeaaGreatDoorQuoRat3
import Derived.Test.YtnepkoepbapgeaaGreatDoorQuoTyp4
import Derived.Deep.RegionHeld3
namespace Go.Proofs.YtnepkoepbapgeaaGreatDoor
set_option maxHeartbeats 4000000
set_option maxRecDepth 100000
open Go.RowKit Lx Px Qx
def Zf3 (k:Int):PanicEntry:={ v:=.iface 202 (.agg #[.int .i64 k]),recovered:=false }
def endV:V→Ending
 | .ok n d=>.returned (.agg #[.int .i64 n,.int .i64 d])
 | .no k=>.panicked [Zf3 k]
def VP (v:V)(w:World)(e:Ending)(w':World):Prop:=Below w.heap.size w w'∧e=endV v
theorem VP.isok {n d:Int}{w w':World}{e:Ending}(h:VP (.ok n d) w e w'):Below w.heap.size w w'∧e=.returned (.agg #[.int .i64 n,.int .i64 d]):=h
theorem VP.isno {k:Int}{w w':World}{e:Ending}(h:VP (.no k) w e w'):Below w.heap.size w w'∧e=.panicked [Zf3 k]:=h
theorem Z4q (v:V)(w:World)(h:∀ k,v=.no k→k≠0):Calls Tryz.prog 189 #[.agg #[.int .i64 (vN v),.int .i64 (vD v)],.int .i64 (vE v)] w (VP v w):=by
 cases v with
 | ok n d =>
  show Calls Tryz.prog _ #[.agg #[.int .i64 n,.int .i64 d],.int .i64 0] w _
  go_enter Tryz.func189,Tryz.ntmps189
  go_wp2_with fail;exact bodyPost_ret (v:=.agg #[.int .i64 n,.int .i64 d]) (by simp [results,Tryz.results189,go_sem]) rfl ⟨((Below.refl _ _).alloc (zn _) _).alloc (by simp) _,rfl⟩
 | no k =>
  have hk:=h k rfl
  have h1:(k==0)=false:=by simpa using hk
  have h2:(k != 0)=true:=by simpa using hk
  show Calls Tryz.prog _ #[.agg #[.int .i64 0,.int .i64 0],.int .i64 k] w _
  have HK:=zh hk;have H:=zh h;clear hk h;go_enter Tryz.func189,Tryz.ntmps189
  go_wp2_with fail;exact ⟨rfl,((Below.refl _ _).alloc (zn _) _).alloc (by simp) _,rfl⟩
theorem Z46 (b:Bool)(w:World):Calls Tryz.prog 199 #[.bool b] w (VP (truV b) w):=by
 cases b with
 | true =>
  go_enter Tryz.func199,Tryz.ntmps199
  go_wp2_with fail;exact bodyPost_ret (v:=.agg #[.int .i64 1,.int .i64 1]) (by simp [results,Tryz.results199,go_sem]) rfl ⟨(Below.refl _ _).alloc (zn _) _,rfl⟩
 | false =>
  go_enter Tryz.func199,Tryz.ntmps199
  go_wp2_with fail;exact bodyPost_ret (v:=.agg #[.int .i64 0,.int .i64 1]) (by simp [results,Tryz.results199,go_sem]) rfl ⟨(Below.refl _ _).alloc (zn _) _,rfl⟩
theorem Z47 (a b c d:Int)(w:World)(h1:ratB a b=true)(h2:ratB c d=true):Calls Tryz.prog 200 #[.agg #[.int .i64 a,.int .i64 b],.agg #[.int .i64 c,.int .i64 d]] w fun e w'=>e=.returned (.int .i64 (cmpI a b c d))∧Below w.heap.size w w':=by
 have hc:=fun W=>Zcv a b c d W h1 h2
 generalize cmpI a b c d=z at *
 have b1:Below w.heap.size w ((w.alloc (.cells #[.int .i64 a,.int .i64 b] 60)).alloc (.cells #[.int .i64 c,.int .i64 d] 60)):=((Below.refl _ _).alloc (zn _) _).alloc (by simp) _
 have HC:=zh hc;have HB:=zh b1;have H1:=zh h1;have H2:=zh h2;clear hc b1 h1 h2;go_enter Tryz.func200,Tryz.ntmps200
 go_wp2_with fail;refine (HC.out _).mono ?_
 rintro e w2 ⟨rfl,hb⟩;have B2:=zh (Z00 HB.out hb)
 clear hb;go_wp2_with fail;go_ret
 exact ⟨rfl,B2.out⟩
theorem Zf4 (a b c d:Int)(w:World)(h1:ratB a b=true)(h2:ratB c d=true):Calls Tryz.prog 196 #[.agg #[.int .i64 a,.int .i64 b],.agg #[.int .i64 c,.int .i64 d]] w (RetV (divV a b c d) w):=by
 obtain ⟨⟨k1,k2⟩,⟨k3,k4⟩,_,_⟩:=Z2f h1 h2
 obtain ⟨bp1,bp2,_,_,_⟩:=Z1b h1
 rw [Int.mul_comm c b] at k3 k4
 have b1:Below w.heap.size w (((w.alloc (.cells #[.int .i64 a,.int .i64 b] 60)).alloc (.cells #[.int .i64 c,.int .i64 d] 60)).alloc (.cells #[.int .i64 0,.int .i64 0] 60)):=(((Below.refl _ _).alloc (zn _) _).alloc (by simp) _).alloc (by simp;omega) _
 have x1:=Z0q w a b c d 0 0
 by_cases hc:c=0
 · subst hc
   have hV:divV a b 0 d=.no 22:=by unfold divV;rw [if_pos rfl]
   rw [hV]
   have HB:=zh b1;have HX:=zh x1;have H1:=zh h1;have H2:=zh h2;have HV:=zh hV;clear b1 x1 h1 h2 hV;go_enter Tryz.func196,Tryz.ntmps196
   go_wp2_with fail;refine bodyPost_ret (v:=.tuple #[.agg #[.int .i64 0,.int .i64 0],.int .i64 22]) (by simp [results,Tryz.results196,go_sem]) rfl ⟨rfl,?_⟩
   exact (((Below.refl _ _).alloc (zn _) _).alloc (by simp) _).alloc (by simp;omega) _
 · have tc:(c==0)=false:=by simpa using hc
   have hm:∀ W:World,Calls Tryz.prog 161 #[.int .i64 (a*d),.int .i64 (b*c)] W (RetV (divV a b c d) W):=fun W=>by
    have:=Z9F (a*d) (b*c) W (by omega) (by omega) (by omega) (by omega) (Int.mul_ne_zero (by omega) hc)
    rwa [show divV a b c d=Z2F (a*d) (b*c) by unfold divV;rw [if_neg hc]]
   generalize divV a b c d=V at *
   have HM:=zh hm;have HB:=zh b1;have HX:=zh x1;have H1:=zh h1;have H2:=zh h2;have HCC:=zh hc;clear hm b1 x1 h1 h2 hc;go_enter Tryz.func196,Tryz.ntmps196
   go_wp2_with fail;generalize ((w.alloc (.cells #[.int .i64 a,.int .i64 b] 60)).alloc (.cells #[.int .i64 c,.int .i64 d] 60)).alloc (.cells #[.int .i64 0,.int .i64 0] 60)=W1 at *
   refine (HM.out W1).mono ?_
   rintro e w2 ⟨rfl,hb⟩;have x2:=HX.out.2.2.on hb
   have B2:=zh (Z00 HB.out hb)
   have z0:=x2.c0
   have z1:=x2.c1
   have y0:=x2.fr 0
   have y1:=x2.fr 1
   clear x2 hb;go_wp2_with fail;refine bodyPost_ret (v:=.tuple #[.agg #[.int .i64 (vN V),.int .i64 (vD V)],.int .i64 (vE V)]) (by simp [results,Tryz.results196,go_sem,z0,z1]) rfl ⟨rfl,Z09 B2.out (by omega) _ _⟩
theorem Znh (a b c d:Int)(w:World)(h1:ratB a b=true)(h2:ratB c d=true):Calls Tryz.prog 188 #[.agg #[.int .i64 a,.int .i64 b],.agg #[.int .i64 c,.int .i64 d]] w (VP (addV a b c d) w):=by
 have b1:Below w.heap.size w (((w.alloc (.cells #[.int .i64 a,.int .i64 b] 60)).alloc (.cells #[.int .i64 c,.int .i64 d] 60)).alloc (.cells #[.int .i64 0,.int .i64 0] 60)):=(((Below.refl _ _).alloc (zn _) _).alloc (by simp) _).alloc (by simp;omega) _
 have x1:=Z0q w a b c d 0 0
 have hc:=fun W=>Zp2 a b c d W h1 h2
 have hm:=fun W=>Z4q (addV a b c d) W (fun k e=>by have:=Z5t (op:=4) (a:=a) (b:=b) (c:=c) (d:=d) (e:=k) e;omega)
 generalize addV a b c d=V at *
 have HC:=zh hc;have HM:=zh hm;have HB:=zh b1;have HX:=zh x1;have H1:=zh h1;have H2:=zh h2;clear hc hm b1 x1 h1 h2;go_enter Tryz.func188,Tryz.ntmps188
 go_wp2_with fail;generalize ((w.alloc (.cells #[.int .i64 a,.int .i64 b] 60)).alloc (.cells #[.int .i64 c,.int .i64 d] 60)).alloc (.cells #[.int .i64 0,.int .i64 0] 60)=W1 at *
 refine (HC.out W1).mono ?_
 rintro e w2 ⟨rfl,hb⟩;have X2:=zh (HX.out.2.2.on hb)
 have B2:=zh (Z00 HB.out hb)
 clear hb HX HB;go_wp2_with fail;refine (HM.out _).mono ?_
 cases V with
 | no k =>
  intro e w3 hh
  obtain ⟨hb,rfl⟩:=hh.isno
  exact ⟨rfl,Z00 B2.out hb,rfl⟩
 | ok x y =>
  intro e w3 hh
  obtain ⟨hb,rfl⟩:=hh.isok
  clear hh;have x3:=X2.out.on hb
  have B3:=zh (Z00 B2.out hb)
  have z0:=x3.c0
  have z1:=x3.c1
  have y0:=x3.fr 0
  have y1:=x3.fr 1
  clear x3 hb;go_wp2_with fail;refine bodyPost_ret (v:=.agg #[.int .i64 x,.int .i64 y]) (by simp [results,Tryz.results188,go_sem,z0,z1]) rfl ⟨Z09 B3.out (by omega) _ _,rfl⟩
theorem Zni (a b c d:Int)(w:World)(h1:ratB a b=true)(h2:ratB c d=true):Calls Tryz.prog 191 #[.agg #[.int .i64 a,.int .i64 b],.agg #[.int .i64 c,.int .i64 d]] w (VP (subV a b c d) w):=by
 have b1:Below w.heap.size w (((w.alloc (.cells #[.int .i64 a,.int .i64 b] 60)).alloc (.cells #[.int .i64 c,.int .i64 d] 60)).alloc (.cells #[.int .i64 0,.int .i64 0] 60)):=(((Below.refl _ _).alloc (zn _) _).alloc (by simp) _).alloc (by simp;omega) _
 have x1:=Z0q w a b c d 0 0
 have hc:=fun W=>Zp3 a b c d W h1 h2
 have hm:=fun W=>Z4q (subV a b c d) W (fun k e=>by have:=Z5t (op:=5) (a:=a) (b:=b) (c:=c) (d:=d) (e:=k) e;omega)
 generalize subV a b c d=V at *
 have HC:=zh hc;have HM:=zh hm;have HB:=zh b1;have HX:=zh x1;have H1:=zh h1;have H2:=zh h2;clear hc hm b1 x1 h1 h2;go_enter Tryz.func191,Tryz.ntmps191
 go_wp2_with fail;generalize ((w.alloc (.cells #[.int .i64 a,.int .i64 b] 60)).alloc (.cells #[.int .i64 c,.int .i64 d] 60)).alloc (.cells #[.int .i64 0,.int .i64 0] 60)=W1 at *
 refine (HC.out W1).mono ?_
 rintro e w2 ⟨rfl,hb⟩;have X2:=zh (HX.out.2.2.on hb)
 have B2:=zh (Z00 HB.out hb)
 clear hb HX HB;go_wp2_with fail;refine (HM.out _).mono ?_
 cases V with
 | no k =>
  intro e w3 hh
  obtain ⟨hb,rfl⟩:=hh.isno
  exact ⟨rfl,Z00 B2.out hb,rfl⟩
 | ok x y =>
  intro e w3 hh
  obtain ⟨hb,rfl⟩:=hh.isok
  clear hh;have x3:=X2.out.on hb
  have B3:=zh (Z00 B2.out hb)
  have z0:=x3.c0
  have z1:=x3.c1
  have y0:=x3.fr 0
  have y1:=x3.fr 1
  clear x3 hb;go_wp2_with fail;refine bodyPost_ret (v:=.agg #[.int .i64 x,.int .i64 y]) (by simp [results,Tryz.results191,go_sem,z0,z1]) rfl ⟨Z09 B3.out (by omega) _ _,rfl⟩
theorem Znj (a b c d:Int)(w:World)(h1:ratB a b=true)(h2:ratB c d=true):Calls Tryz.prog 193 #[.agg #[.int .i64 a,.int .i64 b],.agg #[.int .i64 c,.int .i64 d]] w (VP (mulV a b c d) w):=by
 have b1:Below w.heap.size w (((w.alloc (.cells #[.int .i64 a,.int .i64 b] 60)).alloc (.cells #[.int .i64 c,.int .i64 d] 60)).alloc (.cells #[.int .i64 0,.int .i64 0] 60)):=(((Below.refl _ _).alloc (zn _) _).alloc (by simp) _).alloc (by simp;omega) _
 have x1:=Z0q w a b c d 0 0
 have hc:=fun W=>Zp4 a b c d W h1 h2
 have hm:=fun W=>Z4q (mulV a b c d) W (fun k e=>by have:=Z5t (op:=6) (a:=a) (b:=b) (c:=c) (d:=d) (e:=k) e;omega)
 generalize mulV a b c d=V at *
 have HC:=zh hc;have HM:=zh hm;have HB:=zh b1;have HX:=zh x1;have H1:=zh h1;have H2:=zh h2;clear hc hm b1 x1 h1 h2;go_enter Tryz.func193,Tryz.ntmps193
 go_wp2_with fail;generalize ((w.alloc (.cells #[.int .i64 a,.int .i64 b] 60)).alloc (.cells #[.int .i64 c,.int .i64 d] 60)).alloc (.cells #[.int .i64 0,.int .i64 0] 60)=W1 at *
 refine (HC.out W1).mono ?_
 rintro e w2 ⟨rfl,hb⟩;have X2:=zh (HX.out.2.2.on hb)
 have B2:=zh (Z00 HB.out hb)
 clear hb HX HB;go_wp2_with fail;refine (HM.out _).mono ?_
 cases V with
 | no k =>
  intro e w3 hh
  obtain ⟨hb,rfl⟩:=hh.isno
  exact ⟨rfl,Z00 B2.out hb,rfl⟩
 | ok x y =>
  intro e w3 hh
  obtain ⟨hb,rfl⟩:=hh.isok
  clear hh;have x3:=X2.out.on hb
  have B3:=zh (Z00 B2.out hb)
  have z0:=x3.c0
  have z1:=x3.c1
  have y0:=x3.fr 0
  have y1:=x3.fr 1
  clear x3 hb;go_wp2_with fail;refine bodyPost_ret (v:=.agg #[.int .i64 x,.int .i64 y]) (by simp [results,Tryz.results193,go_sem,z0,z1]) rfl ⟨Z09 B3.out (by omega) _ _,rfl⟩
theorem Znk (a b c d:Int)(w:World)(h1:ratB a b=true)(h2:ratB c d=true):Calls Tryz.prog 195 #[.agg #[.int .i64 a,.int .i64 b],.agg #[.int .i64 c,.int .i64 d]] w (VP (divV a b c d) w):=by
 have b1:Below w.heap.size w (((w.alloc (.cells #[.int .i64 a,.int .i64 b] 60)).alloc (.cells #[.int .i64 c,.int .i64 d] 60)).alloc (.cells #[.int .i64 0,.int .i64 0] 60)):=(((Below.refl _ _).alloc (zn _) _).alloc (by simp) _).alloc (by simp;omega) _
 have x1:=Z0q w a b c d 0 0
 have hc:=fun W=>Zf4 a b c d W h1 h2
 have hm:=fun W=>Z4q (divV a b c d) W (fun k e=>by have:=Z5t (op:=7) (a:=a) (b:=b) (c:=c) (d:=d) (e:=k) e;omega)
 generalize divV a b c d=V at *
 have HC:=zh hc;have HM:=zh hm;have HB:=zh b1;have HX:=zh x1;have H1:=zh h1;have H2:=zh h2;clear hc hm b1 x1 h1 h2;go_enter Tryz.func195,Tryz.ntmps195
 go_wp2_with fail;generalize ((w.alloc (.cells #[.int .i64 a,.int .i64 b] 60)).alloc (.cells #[.int .i64 c,.int .i64 d] 60)).alloc (.cells #[.int .i64 0,.int .i64 0] 60)=W1 at *
 refine (HC.out W1).mono ?_
 rintro e w2 ⟨rfl,hb⟩;have X2:=zh (HX.out.2.2.on hb)
 have B2:=zh (Z00 HB.out hb)
 clear hb HX HB;go_wp2_with fail;refine (HM.out _).mono ?_
 cases V with
 | no k =>
  intro e w3 hh
  obtain ⟨hb,rfl⟩:=hh.isno
  exact ⟨rfl,Z00 B2.out hb,rfl⟩
 | ok x y =>
  intro e w3 hh
  obtain ⟨hb,rfl⟩:=hh.isok
  clear hh;have x3:=X2.out.on hb
  have B3:=zh (Z00 B2.out hb)
  have z0:=x3.c0
  have z1:=x3.c1
  have y0:=x3.fr 0
  have y1:=x3.fr 1
  clear x3 hb;go_wp2_with fail;refine bodyPost_ret (v:=.agg #[.int .i64 x,.int .i64 y]) (by simp [results,Tryz.results195,go_sem,z0,z1]) rfl ⟨Z09 B3.out (by omega) _ _,rfl⟩
theorem Znm (a b c d:Int)(w:World)(h1:ratB a b=true)(h2:ratB c d=true):Calls Tryz.prog 198 #[.agg #[.int .i64 a,.int .i64 b],.agg #[.int .i64 c,.int .i64 d]] w (VP (truV (decide (cmpI a b c d<0))) w):=by
 have b1:Below w.heap.size w (((w.alloc (.cells #[.int .i64 a,.int .i64 b] 60)).alloc (.cells #[.int .i64 c,.int .i64 d] 60)).alloc (.cells #[.int .i64 0,.int .i64 0] 60)):=(((Below.refl _ _).alloc (zn _) _).alloc (by simp) _).alloc (by simp;omega) _
 have x1:=Z0q w a b c d 0 0
 have hc:=fun W=>Z47 a b c d W h1 h2
 generalize cmpI a b c d=z at *
 obtain ⟨t,ht⟩:∃ t,t=decide (z<0):=⟨_,rfl⟩
 have hm:=fun W=>Z46 (decide (z<0)) W
 rw [← ht]
 obtain ⟨x,y,hV⟩:∃ x y,truV t=.ok x y:=by cases t <;> exact ⟨_,_,rfl⟩
 have HC:=zh hc;have HM:=zh hm;have HB:=zh b1;have HX:=zh x1;have H1:=zh h1;have H2:=zh h2;have HT:=zh ht;have HV:=zh hV;clear hc hm b1 x1 h1 h2 ht hV;go_enter Tryz.func198,Tryz.ntmps198
 go_wp2_with fail;generalize ((w.alloc (.cells #[.int .i64 a,.int .i64 b] 60)).alloc (.cells #[.int .i64 c,.int .i64 d] 60)).alloc (.cells #[.int .i64 0,.int .i64 0] 60)=W1 at *
 refine (HC.out W1).mono ?_
 rintro e w2 ⟨rfl,hb⟩;have X2:=zh (HX.out.2.2.on hb)
 have B2:=zh (Z00 HB.out hb)
 clear hb HX HB;go_wp2_with fail;refine (HM.out _).mono ?_
 rw [← HT.out,HV.out]
 intro e w3 hh
 obtain ⟨hb,rfl⟩:=hh.isok
 clear hh;have x3:=X2.out.on hb
 have B3:=zh (Z00 B2.out hb)
 have z0:=x3.c0
 have z1:=x3.c1
 have y0:=x3.fr 0
 have y1:=x3.fr 1
 clear x3 hb;go_wp2_with fail;refine bodyPost_ret (v:=.agg #[.int .i64 x,.int .i64 y]) (by simp [results,Tryz.results198,go_sem,z0,z1]) rfl ⟨Z09 B3.out (by omega) _ _,by rw [HV.out];rfl⟩
theorem Znn (a b c d:Int)(w:World)(h1:ratB a b=true)(h2:ratB c d=true):Calls Tryz.prog 201 #[.agg #[.int .i64 a,.int .i64 b],.agg #[.int .i64 c,.int .i64 d]] w (VP (truV ((cmpI a b c d==0))) w):=by
 have b1:Below w.heap.size w (((w.alloc (.cells #[.int .i64 a,.int .i64 b] 60)).alloc (.cells #[.int .i64 c,.int .i64 d] 60)).alloc (.cells #[.int .i64 0,.int .i64 0] 60)):=(((Below.refl _ _).alloc (zn _) _).alloc (by simp) _).alloc (by simp;omega) _
 have x1:=Z0q w a b c d 0 0
 have hc:=fun W=>Z47 a b c d W h1 h2
 generalize cmpI a b c d=z at *
 obtain ⟨t,ht⟩:∃ t,t=(z==0):=⟨_,rfl⟩
 have hm:=fun W=>Z46 ((z==0)) W
 rw [← ht]
 obtain ⟨x,y,hV⟩:∃ x y,truV t=.ok x y:=by cases t <;> exact ⟨_,_,rfl⟩
 have HC:=zh hc;have HM:=zh hm;have HB:=zh b1;have HX:=zh x1;have H1:=zh h1;have H2:=zh h2;have HT:=zh ht;have HV:=zh hV;clear hc hm b1 x1 h1 h2 ht hV;go_enter Tryz.func201,Tryz.ntmps201
 go_wp2_with fail;generalize ((w.alloc (.cells #[.int .i64 a,.int .i64 b] 60)).alloc (.cells #[.int .i64 c,.int .i64 d] 60)).alloc (.cells #[.int .i64 0,.int .i64 0] 60)=W1 at *
 refine (HC.out W1).mono ?_
 rintro e w2 ⟨rfl,hb⟩;have X2:=zh (HX.out.2.2.on hb)
 have B2:=zh (Z00 HB.out hb)
 clear hb HX HB;go_wp2_with fail;refine (HM.out _).mono ?_
 rw [← HT.out,HV.out]
 intro e w3 hh
 obtain ⟨hb,rfl⟩:=hh.isok
 clear hh;have x3:=X2.out.on hb
 have B3:=zh (Z00 B2.out hb)
 have z0:=x3.c0
 have z1:=x3.c1
 have y0:=x3.fr 0
 have y1:=x3.fr 1
 clear x3 hb;go_wp2_with fail;refine bodyPost_ret (v:=.agg #[.int .i64 x,.int .i64 y]) (by simp [results,Tryz.results201,go_sem,z0,z1]) rfl ⟨Z09 B3.out (by omega) _ _,by rw [HV.out];rfl⟩
theorem Znp (a b c d:Int)(w:World):Calls Tryz.prog 202 #[.agg #[.int .i64 a,.int .i64 b],.agg #[.int .i64 c,.int .i64 d]] w (VP (truV (decide (a=1)&&decide (c=1))) w):=by
 have b1:Below w.heap.size w (((w.alloc (.cells #[.int .i64 a,.int .i64 b] 60)).alloc (.cells #[.int .i64 c,.int .i64 d] 60)).alloc (.cells #[.int .i64 0,.int .i64 0] 60)):=(((Below.refl _ _).alloc (zn _) _).alloc (by simp) _).alloc (by simp;omega) _
 have x1:=Z0q w a b c d 0 0
 obtain ⟨p,hp⟩:∃ p,p=decide (a=1):=⟨_,rfl⟩
 obtain ⟨q,hq⟩:∃ q,q=decide (c=1):=⟨_,rfl⟩
 have ep:(a==1)=p:=hp.symm
 have eq:(c==1)=q:=hq.symm
 have hm:=fun t W=>Z46 t W
 rw [← hp,← hq]
 have HM:=zh hm;have HB:=zh b1;have HX:=zh x1;have HP:=zh hp;have HQ:=zh hq;clear hm b1 x1 hp hq;cases p <;> cases q
 all_goals
  go_enter Tryz.func202,Tryz.ntmps202
  go_wp2_with fail;generalize ((w.alloc (.cells #[.int .i64 a,.int .i64 b] 60)).alloc (.cells #[.int .i64 c,.int .i64 d] 60)).alloc (.cells #[.int .i64 0,.int .i64 0] 60)=W1 at *
  refine (HM.out _ W1).mono ?_
  intro e w3 hh
  obtain ⟨hb,rfl⟩:=VP.isok hh
  clear hh;have x3:=HX.out.2.2.on hb
  have B3:=zh (Z00 HB.out hb)
  have z0:=x3.c0
  have z1:=x3.c1
  have y0:=x3.fr 0
  have y1:=x3.fr 1
  clear x3 hb;go_wp2_with fail;exact bodyPost_ret (by simp [results,Tryz.results202,go_sem,z0,z1]) rfl ⟨Z09 B3.out (by omega) _ _,rfl⟩
theorem Znq (a b c d:Int)(w:World):Calls Tryz.prog 203 #[.agg #[.int .i64 a,.int .i64 b],.agg #[.int .i64 c,.int .i64 d]] w (VP (truV (decide (a=1) || decide (c=1))) w):=by
 have b1:Below w.heap.size w (((w.alloc (.cells #[.int .i64 a,.int .i64 b] 60)).alloc (.cells #[.int .i64 c,.int .i64 d] 60)).alloc (.cells #[.int .i64 0,.int .i64 0] 60)):=(((Below.refl _ _).alloc (zn _) _).alloc (by simp) _).alloc (by simp;omega) _
 have x1:=Z0q w a b c d 0 0
 obtain ⟨p,hp⟩:∃ p,p=decide (a=1):=⟨_,rfl⟩
 obtain ⟨q,hq⟩:∃ q,q=decide (c=1):=⟨_,rfl⟩
 have ep:(a==1)=p:=hp.symm
 have eq:(c==1)=q:=hq.symm
 have hm:=fun t W=>Z46 t W
 rw [← hp,← hq]
 have HM:=zh hm;have HB:=zh b1;have HX:=zh x1;have HP:=zh hp;have HQ:=zh hq;clear hm b1 x1 hp hq;cases p <;> cases q
 all_goals
  go_enter Tryz.func203,Tryz.ntmps203
  go_wp2_with fail;generalize ((w.alloc (.cells #[.int .i64 a,.int .i64 b] 60)).alloc (.cells #[.int .i64 c,.int .i64 d] 60)).alloc (.cells #[.int .i64 0,.int .i64 0] 60)=W1 at *
  refine (HM.out _ W1).mono ?_
  intro e w3 hh
  obtain ⟨hb,rfl⟩:=VP.isok hh
  clear hh;have x3:=HX.out.2.2.on hb
  have B3:=zh (Z00 HB.out hb)
  have z0:=x3.c0
  have z1:=x3.c1
  have y0:=x3.fr 0
  have y1:=x3.fr 1
  clear x3 hb;go_wp2_with fail;exact bodyPost_ret (by simp [results,Tryz.results203,go_sem,z0,z1]) rfl ⟨Z09 B3.out (by omega) _ _,rfl⟩
def BetS (w:World)(p:Nat)(s a b c d:Int)(wx:World):Prop:=RatB wx w.heap.size a b∧RatB wx (w.heap.size+1) c d∧RatB wx (w.heap.size+2) 0 0∧Bx1 wx p s∧Below w.heap.size w wx
theorem BetS.on {w wx wy:World}{p:Nat}{s a b c d:Int}(h:BetS w p s a b c d wx)(hb:Below wx.heap.size wx wy):BetS w p s a b c d wy:=⟨h.1.on hb,h.2.1.on hb,h.2.2.1.on hb,h.2.2.2.1.on hb,Z00 h.2.2.2.2 hb⟩
theorem BetS.drew {w wx:World}{p:Nat}{s a b c d:Int}(h:BetS w p s a b c d wx):BetS w p s a b c d wx.drew:=h.on (Below.refl _ _).drew
theorem Zhv (a b c d:Int):cmpI a b c d = -1∨cmpI a b c d=0∨cmpI a b c d=1:=by unfold cmpI;repeat' split <;> omega
def betV (s a b c d:Int):V:=if 0<cmpI a b c d*s then .ok a b else .ok c d
theorem Zck (s a b c d:Int)(p:Nat)(w:World)(h1:ratB a b=true)(h2:ratB c d=true)(hs:s=1∨s = -1)(hp:Bx1 w p s) :
 Calls Tryz.prog 251 #[.agg #[.int .i64 a,.int .i64 b],.agg #[.int .i64 c,.int .i64 d],.pointer (some ⟨p,0,none⟩)] w (VP (betV s a b c d) w):=by
 have b1:Below w.heap.size w (((w.alloc (.cells #[.int .i64 a,.int .i64 b] 60)).alloc (.cells #[.int .i64 c,.int .i64 d] 60)).alloc (.cells #[.int .i64 0,.int .i64 0] 60)):=(((Below.refl _ _).alloc (zn _) _).alloc (by simp) _).alloc (by simp;omega) _
 have x1:=Z0q w a b c d 0 0
 have hp1:Bx1 _ p s:=hp.on b1
 have hc:=fun W=>Z47 a b c d W h1 h2
 have hv:=Zhv a b c d
 have hB:betV s a b c d=if 0<cmpI a b c d*s then .ok a b else .ok c d:=rfl
 have hpl:p<w.heap.size:=(zs hp)
 generalize cmpI a b c d=z at *
 have hzs:z*s=if s=1 then z else -z:=by rcases hs with rfl | rfl <;> simp
 obtain ⟨m,hm⟩:∃ m,m=z*s:=⟨_,rfl⟩
 rw [← hm] at hB
 have hmb : -1≤m∧m≤1:=by rw [hm,hzs];split <;> omega
 have hw1:IntKind.i64.wrap (z*s)=m:=by rw [← hm];exact IntWalk.i64_in _ (by omega)
 have HC:=zh hc;have HB:=zh b1;have HX:=zh x1;have HBV:=zh hB;have HP:=zh hp1;have HM:=zh hm;have HZ:=zh hzs;clear hc b1 x1 hB hp1 hm hzs hp h1 h2;go_enter Tryz.func251,Tryz.ntmps251
 go_wp2_with fail;generalize ((w.alloc (.cells #[.int .i64 a,.int .i64 b] 60)).alloc (.cells #[.int .i64 c,.int .i64 d] 60)).alloc (.cells #[.int .i64 0,.int .i64 0] 60)=W1 at *
 obtain ⟨x1,x2,x3⟩:=HX.out
 have t0:=x1.c0
 have t1:=x1.c1
 have t2:=x2.c0
 have t3:=x2.c1
 have t4:W1.cell? ⟨p,0,none⟩=some (.int .i64 s):=by rw [zc HP.out];rfl
 have hKeep:BetS w p s a b c d W1:=⟨x1,x2,x3,HP.out,HB.out⟩
 clear x1 x2 x3;have HK:=zh hKeep;clear hKeep HX HB HP;by_cases hgt:0<m
 all_goals
  first | (have dg:decide (0<m)=true:=by simpa using hgt) | (have dg:decide (0<m)=false:=by simpa using hgt)
  go_region_held3 (fun w'=>w'.cell? ⟨w.heap.size,0,none⟩=some (.int .i64 a)∧w'.cell? ⟨w.heap.size,1,none⟩=some (.int .i64 b)∧w'.cell? ⟨w.heap.size+1,0,none⟩=some (.int .i64 c)∧w'.cell? ⟨w.heap.size+1,1,none⟩=some (.int .i64 d)∧w'.cell? ⟨p,0,none⟩=some (.int .i64 s)∧BetS w p s a b c d w')
   (first | (exact ⟨t0,t1,t2,t3,t4,HK.out.drew⟩) | (exact ⟨u0,u1,u2,u3,u4,HU.out⟩) | go_keep)
   ((go_at_call 200;refine (HC.out _).mono ?_;rintro e w' ⟨rfl,hb⟩;have hu:=HK.out.drew.on hb;have u0:=hu.1.c0;have u1:=hu.1.c1;have u2:=hu.2.1.c0;have u3:=hu.2.1.c1;have u4:=Z0m hu.2.2.2.1;have HU:=zh hu;clear hu hb))
  have hu:=HU.out
  have z0:=hu.2.2.1.c0
  have z1:=hu.2.2.1.c1
  have y0:=hu.2.2.1.fr 0
  have y1:=hu.2.2.1.fr 1
  clear hu;first
   | (have hV:betV s a b c d=.ok a b:=by rw [HBV.out,if_pos hgt])
   | (have hV:betV s a b c d=.ok c d:=by rw [HBV.out,if_neg (by omega)])
  have HV:=zh hV;clear hV;go_wp2_with fail;rw [HV.out]
  exact bodyPost_ret (by simp [results,Tryz.results251,go_sem,z0,z1]) rfl ⟨Z09 HU.out.2.2.2.2 (by omega) _ _,rfl⟩
theorem Z8F (s:Int)(w:World):Calls Tryz.prog 197 #[.int .i64 s] w fun e w'=>e=.returned (.func (.func 251) #[] #[.pointer (some ⟨w.heap.size,0,none⟩)])∧w'=w.alloc (.cells #[.int .i64 s] 3):=by
 have hmf:∀ (fn:Fn) (first cap:Array Value) (w:World),(Instr.makeFunc fn first cap).run Tryz.prog w=.ok (.func fn first cap) w:=fun _ _ _ _=>rfl
 go_enter Tryz.func197,Tryz.ntmps197
 go_wp2_with fail;go_ret
 exact ⟨rfl,rfl⟩
def RFn (W:World)(v:Value)(op:Int):Prop :=
 ∃ g cap,v=.func (.func g) #[] cap∧(∀ args w,(callFunc g args).run Tryz.prog w=.ok (.enter g args) w) ∧
  ∀ (W':World) (a b c d:Int),Below W.heap.size W W'→ratB a b=true→ratB c d=true→Calls Tryz.prog g (#[.agg #[.int .i64 a,.int .i64 b],.agg #[.int .i64 c,.int .i64 d]]++cap) W' (VP (appV op a b c d) W')
theorem RFn.on {W W':World}{v:Value}{op:Int}(h:RFn W v op)(hb:Below W.heap.size W W'):RFn W' v op:=by
 obtain ⟨g,cap,e,h1,h2⟩:=h
 exact ⟨g,cap,e,h1,fun W2 a b c d hb2=>h2 W2 a b c d (Z00 hb hb2)⟩
theorem Z8G {W:World}{p:Nat}{s op:Int}(h:Bx1 W p s)(hs:s=1∨s = -1)(ho:∀ a b c d,appV op a b c d=betV s a b c d):RFn W (.func (.func 251) #[] #[.pointer (some ⟨p,0,none⟩)]) op :=
 ⟨_,_,rfl,enters_of Tryz.func251 (by kernel_rfl) rfl,fun W' a b c d hb h1 h2=>by rw [ho];exact Zck s a b c d p W' h1 h2 hs (h.on hb)⟩
theorem Znr (a b c d:Int):appV 8 a b c d=betV (-1) a b c d:=by
 show (if cmpI a b c d<0 then V.ok a b else .ok c d)=_
 unfold betV
 by_cases h:cmpI a b c d<0
 · rw [if_pos h,if_pos (by omega)]
 · rw [if_neg h,if_neg (by omega)]
theorem Zns (a b c d:Int):appV 9 a b c d=betV 1 a b c d:=by
 show (if 0<cmpI a b c d then V.ok a b else .ok c d)=_
 unfold betV
 rw [Int.mul_one]

theorem Znt (W:World):RFn W (.func (.func 188) #[] #[]) 4 :=
 ⟨_,_,rfl,enters_of Tryz.func188 (by kernel_rfl) rfl,fun W' a b c d _ h1 h2=>by exact Znh a b c d W' h1 h2⟩
theorem Znu (W:World):RFn W (.func (.func 191) #[] #[]) 5 :=
 ⟨_,_,rfl,enters_of Tryz.func191 (by kernel_rfl) rfl,fun W' a b c d _ h1 h2=>by exact Zni a b c d W' h1 h2⟩
theorem Znv (W:World):RFn W (.func (.func 193) #[] #[]) 6 :=
 ⟨_,_,rfl,enters_of Tryz.func193 (by kernel_rfl) rfl,fun W' a b c d _ h1 h2=>by exact Znj a b c d W' h1 h2⟩
theorem Znw (W:World):RFn W (.func (.func 195) #[] #[]) 7 :=
 ⟨_,_,rfl,enters_of Tryz.func195 (by kernel_rfl) rfl,fun W' a b c d _ h1 h2=>by exact Znk a b c d W' h1 h2⟩
theorem Znx (W:World):RFn W (.func (.func 198) #[] #[]) 11 :=
 ⟨_,_,rfl,enters_of Tryz.func198 (by kernel_rfl) rfl,fun W' a b c d _ h1 h2=>by exact Znm a b c d W' h1 h2⟩
theorem Zny (W:World):RFn W (.func (.func 201) #[] #[]) 12 :=
 ⟨_,_,rfl,enters_of Tryz.func201 (by kernel_rfl) rfl,fun W' a b c d _ h1 h2=>by show Calls _ _ _ _ (VP (truV (decide (cmpI a b c d=0))) W');exact Znn a b c d W' h1 h2⟩
theorem Znz (W:World):RFn W (.func (.func 202) #[] #[]) 13 :=
 ⟨_,_,rfl,enters_of Tryz.func202 (by kernel_rfl) rfl,fun W' a b c d _ _ _=>Znp a b c d W'⟩
theorem ZnA (W:World):RFn W (.func (.func 203) #[] #[]) 14 :=
 ⟨_,_,rfl,enters_of Tryz.func203 (by kernel_rfl) rfl,fun W' a b c d _ _ _=>Znq a b c d W'⟩
def Z8H (w:World)(r:Nat):Prop:=∀ op,4≤op→op≤14→op≠10→∃ L1 V L2,Z2u w r (L1++(op,V)::L2)∧(∀ p∈L1,p.1≠op)∧RFn w V op
theorem Z8H.on {w w':World}{r:Nat}(h:Z8H w r)(hb:Below w.heap.size w w'):Z8H w' r:=by
 intro op h1 h2 h3
 obtain ⟨L1,V,L2,hm,hn,hv⟩:=h op h1 h2 h3
 exact ⟨L1,V,L2,hm.on hb,hn,hv.on hb⟩
def ROpsP (w:World)(e:Ending)(w':World):Prop:=∃ r,e=.returned (.map (some r))∧Z8H w' r∧w.heap.size≤r∧Below w.heap.size w w'
theorem Z5u (w:World):Calls Tryz.prog 148 #[] w (ROpsP w):=by
 have hmm:=@run_makeMap Tryz.prog
 have h0:=Z2u.new w
 have g0:Below w.heap.size w (w.alloc (.map #[] 0)):=(Below.refl _ _).alloc (zn _) _
 have l0:w.heap.size<(w.alloc (.map #[] 0)).heap.size:=by simp
 go_enter Tryz.func148,Tryz.ntmps148
 go_wp2_with fail;generalize w.alloc (.map #[] 0)=w0 at *
 clear hmm;refine Z0b Tryz.underlying203 Tryz.underlying3 h0 (by simp) ?_
 intro w1 h1 q1
 have g1:=g0.trans (Z06 q1 (Nat.le_of_lt l0) (zn _))
 have l1:w.heap.size<w1.heap.size:=by have:=q1.size;omega
 simp only [List.nil_append] at h1
 clear h0 g0 l0 q1;go_wp2_with fail;refine Z0b Tryz.underlying203 Tryz.underlying3 h1 (by simp) ?_
 intro w2 h2 q2
 have g2:=g1.trans (Z06 q2 (Nat.le_of_lt l1) (zn _))
 have l2:w.heap.size<w2.heap.size:=by have:=q2.size;omega
 simp only [List.nil_append,List.cons_append] at h2
 clear h1 g1 l1 q2;go_wp2_with fail;refine Z0b Tryz.underlying203 Tryz.underlying3 h2 (by simp) ?_
 intro w3 h3 q3
 have g3:=g2.trans (Z06 q3 (Nat.le_of_lt l2) (zn _))
 have l3:w.heap.size<w3.heap.size:=by have:=q3.size;omega
 simp only [List.nil_append,List.cons_append] at h3
 clear h2 g2 l2 q3;go_wp2_with fail;refine Z0b Tryz.underlying203 Tryz.underlying3 h3 (by simp) ?_
 intro w4 h4 q4
 have g4:=g3.trans (Z06 q4 (Nat.le_of_lt l3) (zn _))
 have l4:w.heap.size<w4.heap.size:=by have:=q4.size;omega
 simp only [List.nil_append,List.cons_append] at h4
 clear h3 g3 l3 q4;go_wp2_with fail;refine (Z8F (-1) _).mono ?_
 rintro e w' ⟨rfl,rfl⟩;have a4:=(Below.refl w4.heap.size w4).alloc (zn _) (.cells #[.int .i64 (-1)] 3)
 have b8:Bx1 (w4.alloc (.cells #[.int .i64 (-1)] 3)) w4.heap.size (-1):=za w4 _
 have n8:w4.heap.size≠w.heap.size:=by omega
 have h4':=h4.on a4
 have g4':=Z00 g4 a4
 have l4':w.heap.size<(w4.alloc (.cells #[.int .i64 (-1)] 3)).heap.size:=by simp;omega
 clear h4 g4 l4 a4;go_wp2_with fail;generalize hx8:w4.heap.size=x8 at *
 clear hx8;generalize w4.alloc (.cells #[.int .i64 (-1)] 3)=v4 at *
 refine Z0b Tryz.underlying203 Tryz.underlying3 h4' (by simp) ?_
 intro w5 h5 q5
 have g5:=g4'.trans (Z06 q5 (Nat.le_of_lt l4') (zn _))
 have l5:w.heap.size<w5.heap.size:=by have:=q5.size;omega
 replace b8:=b8.ins q5 n8
 simp only [List.nil_append,List.cons_append] at h5
 clear h4' g4' l4' q5;go_wp2_with fail;refine (Z8F 1 _).mono ?_
 rintro e w' ⟨rfl,rfl⟩;have a5:=(Below.refl w5.heap.size w5).alloc (zn _) (.cells #[.int .i64 1] 3)
 have b9:Bx1 (w5.alloc (.cells #[.int .i64 1] 3)) w5.heap.size 1:=za w5 _
 have n9:w5.heap.size≠w.heap.size:=by omega
 have h5':=h5.on a5
 have g5':=Z00 g5 a5
 have l5':w.heap.size<(w5.alloc (.cells #[.int .i64 1] 3)).heap.size:=by simp;omega
 replace b8:=b8.on a5
 clear h5 g5 l5 a5;go_wp2_with fail;generalize hx9:w5.heap.size=x9 at *
 clear hx9;generalize w5.alloc (.cells #[.int .i64 1] 3)=v5 at *
 refine Z0b Tryz.underlying203 Tryz.underlying3 h5' (by simp) ?_
 intro w6 h6 q6
 have g6:=g5'.trans (Z06 q6 (Nat.le_of_lt l5') (zn _))
 have l6:w.heap.size<w6.heap.size:=by have:=q6.size;omega
 replace b8:=b8.ins q6 n8
 replace b9:=b9.ins q6 n9
 simp only [List.nil_append,List.cons_append] at h6
 clear h5' g5' l5' q6;go_wp2_with fail;refine Z0b Tryz.underlying203 Tryz.underlying3 h6 (by simp) ?_
 intro w7 h7 q7
 have g7:=g6.trans (Z06 q7 (Nat.le_of_lt l6) (zn _))
 have l7:w.heap.size<w7.heap.size:=by have:=q7.size;omega
 replace b8:=b8.ins q7 n8
 replace b9:=b9.ins q7 n9
 simp only [List.nil_append,List.cons_append] at h7
 clear h6 g6 l6 q7;go_wp2_with fail;refine Z0b Tryz.underlying203 Tryz.underlying3 h7 (by simp) ?_
 intro w8 h8 q8
 have g8:=g7.trans (Z06 q8 (Nat.le_of_lt l7) (zn _))
 have l8:w.heap.size<w8.heap.size:=by have:=q8.size;omega
 replace b8:=b8.ins q8 n8
 replace b9:=b9.ins q8 n9
 simp only [List.nil_append,List.cons_append] at h8
 clear h7 g7 l7 q8;go_wp2_with fail;refine Z0b Tryz.underlying203 Tryz.underlying3 h8 (by simp) ?_
 intro w9 h9 q9
 have g9:=g8.trans (Z06 q9 (Nat.le_of_lt l8) (zn _))
 have l9:w.heap.size<w9.heap.size:=by have:=q9.size;omega
 replace b8:=b8.ins q9 n8
 replace b9:=b9.ins q9 n9
 simp only [List.nil_append,List.cons_append] at h9
 clear h8 g8 l8 q9;go_wp2_with fail;refine Z0b Tryz.underlying203 Tryz.underlying3 h9 (by simp) ?_
 intro w10 h10 q10
 have g10:=g9.trans (Z06 q10 (Nat.le_of_lt l9) (zn _))
 have l10:w.heap.size<w10.heap.size:=by have:=q10.size;omega
 replace b8:=b8.ins q10 n8
 replace b9:=b9.ins q10 n9
 simp only [List.nil_append,List.cons_append] at h10
 clear h9 g9 l9 q10;go_wp2_with fail;go_ret
 refine ⟨_,rfl,?_,zn _,g10⟩
 intro op ho1 ho2 ho3
 rcases (show op=4∨op=5∨op=6∨op=7∨op=8∨op=9∨op=11∨op=12∨op=13∨op=14 by omega) with rfl | rfl | rfl | rfl | rfl | rfl | rfl | rfl | rfl | rfl
 · exact ⟨[],_,[(5,_),(6,_),(7,_),(8,_),(9,_),(11,_),(12,_),(13,_),(14,_)],h10,by simp,Znt _⟩
 · exact ⟨[(4,_)],_,[(6,_),(7,_),(8,_),(9,_),(11,_),(12,_),(13,_),(14,_)],h10,by simp,Znu _⟩
 · exact ⟨[(4,_),(5,_)],_,[(7,_),(8,_),(9,_),(11,_),(12,_),(13,_),(14,_)],h10,by simp,Znv _⟩
 · exact ⟨[(4,_),(5,_),(6,_)],_,[(8,_),(9,_),(11,_),(12,_),(13,_),(14,_)],h10,by simp,Znw _⟩
 · exact ⟨[(4,_),(5,_),(6,_),(7,_)],_,[(9,_),(11,_),(12,_),(13,_),(14,_)],h10,by simp,Z8G b8 (.inr rfl) Znr⟩
 · exact ⟨[(4,_),(5,_),(6,_),(7,_),(8,_)],_,[(11,_),(12,_),(13,_),(14,_)],h10,by simp,Z8G b9 (.inl rfl) Zns⟩
 · exact ⟨[(4,_),(5,_),(6,_),(7,_),(8,_),(9,_)],_,[(12,_),(13,_),(14,_)],h10,by simp,Znx _⟩
 · exact ⟨[(4,_),(5,_),(6,_),(7,_),(8,_),(9,_),(11,_)],_,[(13,_),(14,_)],h10,by simp,Zny _⟩
 · exact ⟨[(4,_),(5,_),(6,_),(7,_),(8,_),(9,_),(11,_),(12,_)],_,[(14,_)],h10,by simp,Znz _⟩
 · exact ⟨[(4,_),(5,_),(6,_),(7,_),(8,_),(9,_),(11,_),(12,_),(13,_)],_,[],h10,by simp,ZnA _⟩
end Go.Proofs.YtnepkoepbapgeaaGreatDoor
