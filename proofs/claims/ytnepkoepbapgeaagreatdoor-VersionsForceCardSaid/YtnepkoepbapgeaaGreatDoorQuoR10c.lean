/-
  Several texts in one: QuoRt1, QuoQt, QuoOpn, QuoTr, QuoR10a, QuoR10b, QuoR10c.
-/
import Derived.Test.YtnepkoepbapgeaaGreatDoorQuoRat3
import Derived.Test.YtnepkoepbapgeaaGreatDoorQuoVal
import Derived.Test.YtnepkoepbapgeaaGreatDoorQuoTyp1
import Derived.Test.YtnepkoepbapgeaaGreatDoorQuoPlain
import Derived.Carry
import Derived.Test.YtnepkoepbapgeaaGreatDoorQuoTyp4
import Derived.Test.YtnepkoepbapgeaaGreatDoorPrtW4
import Derived.Test.YtnepkoepbapgeaaGreatDoorPrtNum
namespace Go.Proofs.YtnepkoepbapgeaaGreatDoor
set_option maxHeartbeats 8000000
set_option maxRecDepth 100000
section
open Go.RowKit Lx Px Qx
def Z1q (n lo hi:Int):Bool:=decide (lo≤n)&&decide (n≤hi)
theorem Z4a (n lo hi:Int)(w:World):Calls Tryz.prog 73 #[.int .i64 n,.int .i64 lo,.int .i64 hi] w fun e w'=>e=.returned (.bool (Z1q n lo hi))∧w=w':=by
 unfold Z1q
 obtain ⟨b1,h1⟩:∃ b,decide (lo≤n)=b:=⟨_,rfl⟩
 obtain ⟨b2,h2⟩:∃ b,decide (n≤hi)=b:=⟨_,rfl⟩
 rw [h1,h2]
 cases b1 <;> cases b2
 all_goals
  go_enter Tryz.func73,Tryz.ntmps73
  go_wp2_with fail;go_ret
  exact ⟨rfl,rfl⟩
def askV (a:Qx.Ask):Value:=.agg #[.int .i64 a.kind,.int .i64 a.fr,.int .i64 a.un,.int .i64 a.pers]
theorem Zkh (a:Qx.Ask)(w:World):Calls Tryz.prog 65 #[askV a] w fun e w'=>e=.returned (.bool a.okB)∧Below w.heap.size w w':=by
 obtain ⟨kd,fr,un,ps⟩:=a
 have hb:=(Below.refl w.heap.size w).alloc (zn _) (.cells #[.int .i64 kd,.int .i64 fr,.int .i64 un,.int .i64 ps] 26)
 have hk:=fun W=>Z4a kd 1 20 W
 have hp:=fun W=>Z4a ps 1 8 W
 have hk':Z1q kd 1 20=(decide (1≤kd)&&decide (kd≤20)):=rfl
 have hp':Z1q ps 1 8=(decide (1≤ps)&&decide (ps≤8)):=rfl
 have hE:(⟨kd,fr,un,ps⟩:Qx.Ask).okB=((decide (0≤fr)&&decide (fr<un)&&decide (un≤366)&&decide (un - fr≤60))&&Z1q kd 1 20&&Z1q ps 1 8):=by
  rw [hk',hp'];simp only [Ask.okB,Bool.and_assoc]
 rw [hE]
 generalize Z1q kd 1 20=b1 at *
 generalize Z1q ps 1 8=b2 at *
 clear hk' hp' hE;dsimp only [askV]
 by_cases h1:0≤fr
 · have d1:decide (0≤fr)=true:=by simpa using h1
   by_cases h2:fr<un
   · have d2:decide (fr<un)=true:=by simpa using h2
     by_cases h3:un≤366
     · have d3:decide (un≤366)=true:=by simpa using h3
       obtain ⟨b4,d4⟩:∃ b,decide (un - fr≤60)=b:=⟨_,rfl⟩
       rw [d1,d2,d3,d4]
       have HK:=zh hk;have HP:=zh hp;have HB:=zh hb;clear hk hp hb;cases b4
       · go_enter Tryz.func65,Tryz.ntmps65
         go_wp2_with fail;go_ret
         exact ⟨rfl,HB.out⟩
       · cases b1
         · go_enter Tryz.func65,Tryz.ntmps65
           go_wp2_with fail;refine (HK.out _).mono ?_
           rintro e w' ⟨rfl,rfl⟩;go_wp2_with fail;go_ret
           exact ⟨rfl,HB.out⟩
         · go_enter Tryz.func65,Tryz.ntmps65
           go_wp2_with fail;refine (HK.out _).mono ?_
           rintro e w' ⟨rfl,rfl⟩;go_wp2_with fail;refine (HP.out _).mono ?_
           rintro e w' ⟨rfl,rfl⟩;go_wp2_with fail;go_ret
           exact ⟨by simp,HB.out⟩
     · have d3:decide (un≤366)=false:=by simpa using h3
       rw [d1,d2,d3]
       have HB:=zh hb;clear hb hk hp;go_enter Tryz.func65,Tryz.ntmps65
       go_wp2_with fail;go_ret
       exact ⟨rfl,HB.out⟩
   · have d2:decide (fr<un)=false:=by simpa using h2
     rw [d1,d2]
     have HB:=zh hb;clear hb hk hp;go_enter Tryz.func65,Tryz.ntmps65
     go_wp2_with fail;go_ret
     exact ⟨rfl,HB.out⟩
 · have d1:decide (0≤fr)=false:=by simpa using h1
   rw [d1]
   have HB:=zh hb;clear hb hk hp;go_enter Tryz.func65,Tryz.ntmps65
   go_wp2_with fail;go_ret
   exact ⟨rfl,HB.out⟩
theorem Z99 (n:Int)(w:World)(h0:0≤n)(h1:n≤366):Calls Tryz.prog 150 #[.int .i64 n] w fun e w'=>e=.returned (.tuple #[.int .i64 (wday n),.int .i64 0])∧w=w':=by
 have d1:decide (n<0)=false:=by simpa using h0
 have d2:decide (n > 366)=false:=by simpa using h1
 have d3:decide (366<n)=false:=by simpa using h1
 go_enter Tryz.func150,Tryz.ntmps150
 go_wp2_with fail;go_ret2
 exact ⟨rfl,rfl⟩
theorem Zan (n:Int):0≤wday n∧wday n≤6:=by unfold wday;omega
def vsV (v:Vs):Value:=.agg #[.int .i64 v.a,.int .i64 v.b,.int .i64 v.c,.int .i64 v.d]
theorem ZfG (a:Qx.Ask)(n:Int)(w:World)(ha:a.okB=true)(h0:a.fr≤n)(h1:n<a.un):Calls Tryz.prog 108 #[askV a,.int .i64 n] w fun e w'=>e=.returned (vsV (Z1p a n))∧Below w.heap.size w w':=by
 obtain ⟨kd,fr,un,ps⟩:=a
 simp only [Ask.okB,Bool.and_eq_true,decide_eq_true_eq] at ha
 dsimp only at h0 h1
 obtain ⟨⟨⟨⟨⟨⟨⟨a1,a2⟩,a3⟩,a4⟩,a5⟩,a6⟩,a7⟩,a8⟩:=ha
 have hw:=fun W=>Z99 n W (by omega) (by omega)
 have hb:Below w.heap.size w ((w.alloc (.cells #[.int .i64 kd,.int .i64 fr,.int .i64 un,.int .i64 ps] 26)).alloc (.cells #[.int .i64 (un - fr),.int .i64 ps,.int .i64 (n - fr),.int .i64 (wday n)] 148)) :=
  ((Below.refl w.heap.size w).alloc (zn _) _).alloc (by simp) _
 dsimp only [askV,vsV,Z1p]
 generalize wday n=d at *
 have HW:=zh hw;have HB:=zh hb;clear hw hb;go_enter Tryz.func108,Tryz.ntmps108
 go_wp2_with fail;refine (HW.out _).mono ?_
 rintro e w' ⟨rfl,rfl⟩;go_wp2_with fail;exact bodyPost_ret (v:=.agg #[.int .i64 (un - fr),.int .i64 ps,.int .i64 (n - fr),.int .i64 d]) (by simp [results,Tryz.results108,go_sem]) rfl ⟨rfl,HB.out⟩
end
section
open Go.RowKit Lx Px Qx
def qtV (q:Qt)(nv:Value):Value:=.agg #[.int .i64 q.ver,.int .i64 q.time,.int .i64 q.total,.int .i64 q.keep,.int .i64 q.ask.kind,.int .i64 q.ask.fr,.int .i64 q.ask.un,.int .i64 q.ask.pers,nv,.int .u64 (q.dig:Nat),.int .i64 q.sE,.int .i64 q.sS]
def QtV (w:World)(B:Nat)(V:Value)(q:Qt):Prop:=∃ A c,V=qtV q (.slice A q.nights.length c)∧Z07 w B (.slice A q.nights.length c) q.nights
theorem QtV.on {w w':World}{B:Nat}{V:Value}{q:Qt}(h:QtV w B V q)(hb:Below B w w'):QtV w' B V q:=by
 obtain ⟨A,c,e,h⟩:=h;exact ⟨A,c,e,h.on hb⟩
theorem QtV.up {w:World}{B B':Nat}{V:Value}{q:Qt}(h:QtV w B V q)(hb:B≤B'):QtV w B' V q:=by
 obtain ⟨A,c,e,h⟩:=h;exact ⟨A,c,e,h.up hb⟩
def Qx.Qt.i64 (q:Qt):Prop:=(∀ x∈q.says,-9223372036854775808≤x∧x≤9223372036854775807)∧q.dig<18446744073709551616
def vrV (v:Vr)(rv:Value):Value:=.agg #[.int .i64 v.num,.int .i64 v.time,rv]
def VrV (w:World)(B:Nat)(V:Value)(v:Vr):Prop:=∃ A c,V=vrV v (.slice A v.rs.length c)∧RtsV w B (.slice A v.rs.length c) v.rs
theorem VrV.on {w w':World}{B:Nat}{V:Value}{v:Vr}(h:VrV w B V v)(hb:Below B w w'):VrV w' B V v:=by
 obtain ⟨A,c,e,h⟩:=h;exact ⟨A,c,e,h.on hb⟩
theorem VrV.up {w:World}{B B':Nat}{V:Value}{v:Vr}(h:VrV w B V v)(hb:B≤B'):VrV w B' V v:=by
 obtain ⟨A,c,e,h⟩:=h;exact ⟨A,c,e,h.up hb⟩
def VssV (w:World)(B:Nat)(v:Value)(l:List Vr):Prop :=
 ∃ A c,v=.slice A l.length c∧l.length≤c∧(l≠[]→∃ g o,A=some ⟨g,o,none⟩∧g<B∧∀ k (h:k<l.length),∃ RA rc,RtsV w B (.slice RA l[k].rs.length rc) l[k].rs ∧
  w.cell? ⟨g,o+k*3,none⟩=some (.int .i64 l[k].num)∧w.cell? ⟨g,o+k*3+1,none⟩=some (.int .i64 l[k].time)∧w.cell? ⟨g,o+k*3+2,none⟩=some (.slice RA l[k].rs.length rc))
theorem VssV.nil (w:World)(B c:Nat):VssV w B (.slice none 0 c) []:=⟨none,c,rfl,Nat.zero_le _,fun h=>absurd rfl h⟩
theorem VssV.on {w w':World}{B:Nat}{v:Value}{l:List Vr}(h:VssV w B v l)(hb:Below B w w'):VssV w' B v l:=by
 obtain ⟨A,c,e,hcap,hA⟩:=h
 refine ⟨A,c,e,hcap,fun hl=>?_⟩
 obtain ⟨g,o,e1,hg,hr⟩:=hA hl
 refine ⟨g,o,e1,hg,fun k hk=>?_⟩
 obtain ⟨RA,rc,h1,h2,h3,h4⟩:=hr k hk
 exact ⟨RA,rc,h1.on hb,(hb.cell (p:=⟨g,o+k*3,none⟩) hg).trans h2,(hb.cell (p:=⟨g,o+k*3+1,none⟩) hg).trans h3,(hb.cell (p:=⟨g,o+k*3+2,none⟩) hg).trans h4⟩
theorem VssV.up {w:World}{B B':Nat}{v:Value}{l:List Vr}(h:VssV w B v l)(hb:B≤B'):VssV w B' v l:=by
 obtain ⟨A,c,e,hcap,hA⟩:=h
 refine ⟨A,c,e,hcap,fun hl=>?_⟩
 obtain ⟨g,o,e1,hg,hr⟩:=hA hl
 refine ⟨g,o,e1,by omega,fun k hk=>?_⟩
 obtain ⟨RA,rc,h1,h2⟩:=hr k hk
 exact ⟨RA,rc,h1.up hb,h2⟩
theorem Z1y {w:World}{B:Nat}{A:Option Addr}{n c:Nat}{l:List Vr}(h:VssV w B (.slice A n c) l){k:Nat}(hk:k<l.length):∃ g o RA rc,A=some ⟨g,o,none⟩∧g<B∧RtsV w B (.slice RA l[k].rs.length rc) l[k].rs ∧
 w.cell? ⟨g,o+k*3,none⟩=some (.int .i64 l[k].num)∧w.cell? ⟨g,o+k*3+1,none⟩=some (.int .i64 l[k].time)∧w.cell? ⟨g,o+k*3+2,none⟩=some (.slice RA l[k].rs.length rc):=by
 obtain ⟨A',c',e,_,hA⟩:=h
 injection e with e1 _ e3
 subst e1;obtain ⟨g,o,e2,hg,hr⟩:=hA (by intro e;rw [e] at hk;simp at hk)
 obtain ⟨RA,rc,h1,h2⟩:=hr k hk
 exact ⟨g,o,RA,rc,e2,hg,h1,h2⟩
theorem VssV.cap {w:World}{B:Nat}{A:Option Addr}{n c:Nat}{l:List Vr}(h:VssV w B (.slice A n c) l):l.length≤c:=by
 obtain ⟨A',c',e,h1,_⟩:=h
 injection e with _ _ e3
 omega
end
section
open Go.ChangeShapes Go.WideShapes Go.ChangeAt Go.RowKit Go.Deep Lx Px Qx
theorem Z40 {k:Int}(h:(Lit.int .i64 k).wf=true) : -9223372036854775808≤k∧k≤9223372036854775807:=by
 simp only [Lit.wf,Bool.and_eq_true,decide_eq_true_eq] at h
 exact h
section
variable {H:Type} {enc:TypeId × Value→H} {W:World}
theorem Zhy {n:Nat}{c:Value}{y:DataW H × List MemPlace}(h:DataW.trod enc Tryz.prog W 0 (fun _=>true) true n 22 [c]=some y):∃ l:List Rt,RtsV W W.heap.size c l:=by
 rcases DataW.trod_slice Tryz.underlying22 h with ⟨h0,_⟩ | ⟨a,len0,cap0,elems,rest,n,hfu,hx,hcs,hb,hl,hm,hlen,hel,hsp,hns⟩
 · simp at h0;subst h0
   exact ⟨[],RtsV.nil _ _⟩
 · simp at hx;subst hx
   obtain ⟨rs,hrl,hrs⟩:=Zb6 (fun i (r:Rt)=>RtAt W W.heap.size (a.add (i*16)) r∧a.block<W.heap.size) len0 (fun k hk=>by
    have he:=hel k hk
    rw [List.getElem?_eq_getElem (by omega),Option.bind_eq_some_iff] at he
    obtain ⟨cs',hc,ht'⟩:=he
    obtain ⟨r,WA,PA,wc,pc,rfl,h1,h2⟩:=Z96 ht'
    rw [Tryz.cellsRate] at hc
    obtain ⟨_,_,hat⟩:=World.cells?_some hc
    have hs0:=hat 0 (by omega)
    have hbl:a.block<W.heap.size:=by
     have:=ZaH hs0
     rw [Z11,Z11] at this
     exact this
    have hsp0:(a.add (k*16)).spot=none:=by
     rw [Go.Deep.add_add] at hs0
     exact Z95 hs0
    refine ⟨r,⟨hsp0,_,_,fun j u hj=>?_,h1,h2⟩,hbl⟩
    have hj16:j<16:=by
     have:=(List.getElem?_eq_some_iff.1 hj).1
     simpa [Z3w] using this
    have hc2:=hat j hj16
    rw [Go.Deep.add_add,Z7z hsp0] at hc2
    exact hc2.trans hj)
   exact ⟨rs,some a,cap0,by rw [hrl],fun i hi=>⟨a,rfl,(hrs i hi).2,(hrs i hi).1⟩⟩
theorem ZnC {a:Addr}(h:a.spot=none)(k:Nat):a.add k=⟨a.block,a.off+k,none⟩:=by
 unfold Addr.add
 split
 · rename_i h0;subst h0;cases a;cases h;rfl
 · rfl
theorem Tryz.cellsVer:Tryz.prog.cellsOf 24=3:=by kernel_rfl
theorem Tryz.cellsAsk:Tryz.prog.cellsOf 26=4:=by kernel_rfl
theorem ZnD {n:Nat}{cs:List Value}{y:DataW H × List MemPlace}(h:DataW.trod enc Tryz.prog W 0 (fun _=>true) true n 26 cs=some y) :
 ∃ a:Qx.Ask,cs=[.int .i64 a.kind,.int .i64 a.fr,.int .i64 a.un,.int .i64 a.pers]∧(∀ x∈[a.kind,a.fr,a.un,a.pers],-9223372036854775808≤x∧x≤9223372036854775807):=by
 obtain ⟨xs,n',hn',_,hl,hxl,hf⟩:=DataW.trod_struct Tryz.underlying26 h
 rw [Tryz.cellsAsk] at hl
 obtain ⟨c0,c1,c2,c3,rfl⟩:∃ c0 c1 c2 c3,cs=[c0,c1,c2,c3]:=by
  match cs,hl with
  | [c0,c1,c2,c3],_=>exact ⟨c0,c1,c2,c3,rfl⟩
 obtain ⟨x0,x1,x2,x3,rfl⟩:∃ x0 x1 x2 x3,xs=[x0,x1,x2,x3]:=by
  have hx3:xs.length=4:=hxl
  match xs,hx3 with
  | [x0,x1,x2,x3],_=>exact ⟨x0,x1,x2,x3,rfl⟩
 have g0:DataW.trod enc Tryz.prog W 0 (fun _=>true) true n' 3 [c0]=some x0:=hf 0 _ rfl
 have g1:DataW.trod enc Tryz.prog W 0 (fun _=>true) true n' 3 [c1]=some x1:=hf 1 _ rfl
 have g2:DataW.trod enc Tryz.prog W 0 (fun _=>true) true n' 3 [c2]=some x2:=hf 2 _ rfl
 have g3:DataW.trod enc Tryz.prog W 0 (fun _=>true) true n' 3 [c3]=some x3:=hf 3 _ rfl
 obtain ⟨k0,e0,_,r0⟩:=DataW.trod_int Tryz.underlying3 g0
 obtain ⟨k1,e1,_,r1⟩:=DataW.trod_int Tryz.underlying3 g1
 obtain ⟨k2,e2,_,r2⟩:=DataW.trod_int Tryz.underlying3 g2
 obtain ⟨k3,e3,_,r3⟩:=DataW.trod_int Tryz.underlying3 g3
 simp only [List.cons.injEq,and_true] at e0 e1 e2 e3
 subst e0 e1 e2 e3;refine ⟨⟨k0,k1,k2,k3⟩,rfl,?_⟩
 intro x hx
 simp only [List.mem_cons,List.not_mem_nil,or_false] at hx
 rcases hx with rfl | rfl | rfl | rfl
 · exact Z40 r0
 · exact Z40 r1
 · exact Z40 r2
 · exact Z40 r3
theorem ZnE {cs:Array Value}{l:List Value}(h:cs.toList=l):Value.agg cs=.agg l.toArray:=by rw [← h]
theorem ZfH {base:Nat}{v:Value}{d:DataW H}{p:List MemPlace}(hval:Value.okWide Tryz.prog W .any base 26 v)
 (h:DataW.Trod enc Tryz.prog W 0 (fun _=>true) true 26 v d p):∃ a:Qx.Ask,v=askV a∧(∀ x∈[a.kind,a.fr,a.un,a.pers],-9223372036854775808≤x∧x≤9223372036854775807):=by
 obtain ⟨cs,rfl,hsz⟩:=okWide_struct Tryz.underlying26 hval
 obtain ⟨fuel,hf⟩:=h
 obtain ⟨a,hcs,hr⟩:=ZnD (cs:=cs.toList) hf
 exact ⟨a,ZnE hcs,hr⟩
theorem ZnF {n:Nat}{cs:List Value}{y:DataW H × List MemPlace}(h:DataW.trod enc Tryz.prog W 0 (fun _=>true) true n 24 cs=some y) :
 ∃ (v:Vr) (A:Option Addr) (c:Nat),cs=[.int .i64 v.num,.int .i64 v.time,.slice A v.rs.length c]∧RtsV W W.heap.size (.slice A v.rs.length c) v.rs∧(∀ x∈[v.num,v.time],-9223372036854775808≤x∧x≤9223372036854775807):=by
 obtain ⟨xs,n',hn',_,hl,hxl,hf⟩:=DataW.trod_struct Tryz.underlying24 h
 rw [Tryz.cellsVer] at hl
 obtain ⟨c0,c1,c2,rfl⟩:∃ c0 c1 c2,cs=[c0,c1,c2]:=by
  match cs,hl with
  | [c0,c1,c2],_=>exact ⟨c0,c1,c2,rfl⟩
 obtain ⟨x0,x1,x2,rfl⟩:∃ x0 x1 x2,xs=[x0,x1,x2]:=by
  have hx3:xs.length=3:=hxl
  match xs,hx3 with
  | [x0,x1,x2],_=>exact ⟨x0,x1,x2,rfl⟩
 have g0:DataW.trod enc Tryz.prog W 0 (fun _=>true) true n' 3 [c0]=some x0:=hf 0 _ rfl
 have g1:DataW.trod enc Tryz.prog W 0 (fun _=>true) true n' 3 [c1]=some x1:=hf 1 _ rfl
 have g2:DataW.trod enc Tryz.prog W 0 (fun _=>true) true n' 22 [c2]=some x2:=hf 2 _ rfl
 obtain ⟨k0,e0,_,r0⟩:=DataW.trod_int Tryz.underlying3 g0
 obtain ⟨k1,e1,_,r1⟩:=DataW.trod_int Tryz.underlying3 g1
 obtain ⟨rs,hrs⟩:=Zhy g2
 obtain ⟨A,c,rfl,_⟩:=id hrs
 simp only [List.cons.injEq,and_true] at e0 e1
 subst e0 e1;refine ⟨⟨k0,k1,rs⟩,A,c,rfl,hrs,?_⟩
 intro x hx
 simp only [List.mem_cons,List.not_mem_nil,or_false] at hx
 rcases hx with rfl | rfl
 · exact Z40 r0
 · exact Z40 r1
end
end
section
open Go.ChangeShapes Go.WideShapes Go.ChangeAt Go.RowKit Go.Deep
section
variable {H:Type} {enc:TypeId × Value→H} {P:Program} {w:World} {base:Nat} {spare:Nat→Bool} {held:Bool}
theorem Zg0 {t0 t1 t2 t3 t4 t5:TypeId}{args:Array Value}{dl:List (DataW H)}{pl:List MemPlace}(h:DataW.TrodAll enc P w base spare held [t0,t1,t2,t3,t4,t5] args.toList dl pl) :
 ∃ v0 v1 v2 v3 v4 v5 d0 d1 d2 d3 d4 d5 p0 p1 p2 p3 p4 p5,args=#[v0,v1,v2,v3,v4,v5]∧dl=[d0,d1,d2,d3,d4,d5]∧pl=p0++(p1++(p2++(p3++(p4++p5))))∧DataW.Trod enc P w base spare held t0 v0 d0 p0∧DataW.Trod enc P w base spare held t1 v1 d1 p1∧DataW.Trod enc P w base spare held t2 v2 d2 p2∧DataW.Trod enc P w base spare held t3 v3 d3 p3∧DataW.Trod enc P w base spare held t4 v4 d4 p4∧DataW.Trod enc P w base spare held t5 v5 d5 p5:=by
 obtain ⟨v0,vs0,d0,ds0,p0,q0,hargs,rfl,rfl,h0,r0⟩:=trodAll_cons h
 obtain ⟨v1,vs1,d1,ds1,p1,q1,rfl,rfl,rfl,h1,r1⟩:=trodAll_cons r0
 obtain ⟨v2,vs2,d2,ds2,p2,q2,rfl,rfl,rfl,h2,r2⟩:=trodAll_cons r1
 obtain ⟨v3,vs3,d3,ds3,p3,q3,rfl,rfl,rfl,h3,r3⟩:=trodAll_cons r2
 obtain ⟨v4,vs4,d4,ds4,p4,q4,rfl,rfl,rfl,h4,r4⟩:=trodAll_cons r3
 obtain ⟨v5,vs5,d5,ds5,p5,q5,rfl,rfl,rfl,h5,r5⟩:=trodAll_cons r4
 obtain ⟨rfl,rfl,rfl⟩:=trodAll_nil r5
 exact ⟨v0,v1,v2,v3,v4,v5,d0,d1,d2,d3,d4,d5,p0,p1,p2,p3,p4,p5,by cases args;simp_all,rfl,by simp,h0,h1,h2,h3,h4,h5⟩
theorem Zg1 {t0 t1 t2 t3 t4 t5:TypeId}{v0 v1 v2 v3 v4 v5:Value}{d0 d1 d2 d3 d4 d5:DataW H}{p0 p1 p2 p3 p4 p5:List MemPlace}(h0:DataW.Trod enc P w base spare held t0 v0 d0 p0)(h1:DataW.Trod enc P w base spare held t1 v1 d1 p1)(h2:DataW.Trod enc P w base spare held t2 v2 d2 p2)(h3:DataW.Trod enc P w base spare held t3 v3 d3 p3)(h4:DataW.Trod enc P w base spare held t4 v4 d4 p4)(h5:DataW.Trod enc P w base spare held t5 v5 d5 p5) :
 DataW.TrodAll enc P w base spare held [t0,t1,t2,t3,t4,t5] [v0,v1,v2,v3,v4,v5] [d0,d1,d2,d3,d4,d5] (p0++(p1++(p2++(p3++(p4++p5))))):=⟨_,_,h0,⟨_,_,h1,trodAll_mk4 h2 h3 h4 h5,rfl⟩,rfl⟩
end
end
section
open Go.RowKit Lx Px Qx
namespace Qx
def lftF:Fo→Int→Int
 | .nil,n=>n
 | .node _ _ _ l r,n=>if (if n<1 then -1 else lftF l (n - 1))<0 then -1 else lftF r (if n<1 then -1 else lftF l (n - 1))
def lftE (l:Fo)(most:Int):Int:=if most<1 then -1 else lftF l (most - 1)
theorem Zhz:∀ (l:Fo) (n:Int),0≤n → -1≤lftF l n∧lftF l n≤n:=by
 intro l
 induction l with
 | nil=>intro n h;exact ⟨by show -1≤n;omega,Int.le_refl n⟩
 | node b o a l r ihl ihr =>
  intro n h
  rw [lftF]
  by_cases h1:n<1
  · rw [if_pos h1,if_pos (by omega)];omega
  · rw [if_neg h1]
    have hl:=ihl (n - 1) (by omega)
    by_cases h2:lftF l (n - 1)<0
    · rw [if_pos h2];omega
    · rw [if_neg h2]
      have hr:=ihr (lftF l (n - 1)) (by omega)
      omega
theorem ZhA (l:Fo)(n:Int)(h:0≤n) : -1≤lftE l n∧lftE l n≤n - 1:=by
 unfold lftE
 split
 · omega
 · have:=Zhz l (n - 1) (by omega);omega
theorem Zki {l:Fo}{k:Nat}(hk:k<flen l)(n:Int):lftF (Z1h l k) n=if lftE (getF l k).2 n<0 then -1 else lftF (Z1h l (k+1)) (lftE (getF l k).2 n):=by
 induction l generalizing k with
 | nil=>simp [flen] at hk
 | node b o a l r _ ihr =>
  cases k with
  | zero=>simp only [Z1h,getF,lftF,lftE]
  | succ k =>
   have hk2:k<flen r:=by simp [flen] at hk;omega
   exact ihr hk2
end Qx
def Zg2 (a:Int × Int)(l:Fo):Prop :=
 ∀ (most:Int) (w:World) (v:Value) (B:Nat),FoV w B v l→B≤w.heap.size→0≤most→most≤1000 →
  Calls Tryz.prog 122 #[.agg #[.int .i64 a.1,.int .i64 a.2,v],.int .i64 most] w fun e w' =>
   e=.returned (.int .i64 (lftE l most))∧Below w.heap.size w w'
def RLefL (l:Fo)(n0:Int)(w:World)(kv y i:Value)(wr:World):Prop :=
 ∃ (k:Nat) (x:Int),k≤flen l∧i=.int .i64 k∧y=.int .i64 x∧0≤x∧x+k≤1000∧Below w.heap.size w wr∧w.heap.size<wr.heap.size∧wr.cell? ⟨w.heap.size,2,none⟩=some kv∧lftF (Z1h l k) x=lftF l n0
theorem Zd3 (a:Int × Int)(l:Fo)(ih:∀ k,k<flen l→Zg2 (getF l k).1 (getF l k).2):Zg2 a l:=by
 intro most w v B hv hB h2 h3
 obtain ⟨A,c,rfl,hA⟩:=hv
 obtain ⟨op,n⟩:=a
 by_cases hm:most<1
 · have hE:lftE l most = -1:=if_pos hm
   have d2:decide (most<1)=true:=by simpa using hm
   have HE:=zh hE;clear hE;go_enter Tryz.func122,Tryz.ntmps122
   go_wp2_with fail;go_ret
   rw [HE.out]
   exact ⟨rfl,(Below.refl w.heap.size w).alloc (zn _) _⟩
 · have d2:decide (most<1)=false:=by simpa using hm
   have hE:lftE l most=lftF l (most - 1):=if_neg hm
   have HE:=zh hE;have HA:=zh hA;have HI:=zh ih;clear hE hA ih;go_enter Tryz.func122,Tryz.ntmps122
   go_wp2_with fail;go_loopw [5,6] (fun y i wr=>RLefL l (most - 1) w (.slice A (flen l) c) y i wr) (fun _ i _=>flen l - (intOf i).toNat)
   case atStart=>exact ⟨0,most - 1,by omega,rfl,rfl,by omega,by omega,(Below.refl w.heap.size w).alloc (zn _) _,by simp,by rw [zc (za w _)];rfl,by rw [Z1h]⟩
   case round =>
    obtain ⟨k,x,hk,rfl,rfl,hx0,hx1,hbl,hsz,hkv,hF⟩:=hrel
    have HFF:=zh hF;clear hF;by_cases hkl:k<flen l
    · have hkeep:∀ p:Addr,p.block<B→wr.cell? p=w.cell? p:=fun p hp=>hbl.cell (by omega)
      obtain ⟨ad,A',c',rfl,hlo,t0,t1,t2,t3⟩:=FoAt.get l A 0 k (FoAt.keep hkeep l A 0 HA.out) hkl
      rw [Nat.zero_add] at t0 t1 t2
      have hd:=Zki hkl x
      have hrec:=HI.out k hkl
      obtain ⟨⟨op',n'⟩,l',hel⟩:∃ a' l',getF l k=(a',l'):=⟨_,_,rfl⟩
      rw [hel] at t0 t1 t2 t3 hd hrec
      dsimp only at t0 t1 t2 t3 hd hrec
      rw [HFF.out] at hd
      have hcall:=hrec x wr (.slice A' (flen l') c') B ⟨A',c',rfl,t3⟩ (by omega) hx0 (by omega)
      have hrg:=ZhA l' x hx0
      generalize lftE l' x=z at *
      by_cases hz:z<0
      · have d9:decide (z<0)=true:=by simpa using hz
        rw [if_pos hz] at hd
        have HC:=zh hcall;have HD:=zh hd;clear hcall hd hrec hel HFF hkeep t3;go_wp2_with fail;refine (HC.out).mono ?_
        rintro e w9 ⟨rfl,hb9⟩;go_wp2_with fail;go_ret
        rw [HE.out,HD.out]
        exact ⟨rfl,Z00 hbl hb9⟩
      · have d9:decide (z<0)=false:=by simpa using hz
        rw [if_neg hz] at hd
        have HC:=zh hcall;have HD:=zh hd;clear hcall hd hrec hel HFF hkeep t3;go_wp2_with fail;refine (HC.out).mono ?_
        rintro e w9 ⟨rfl,hb9⟩;go_wp2_with fail;go_roundw
        case rel=>exact ⟨k+1,z,by omega,by go_num,rfl,by omega,by omega,Z00 hbl hb9,by have:=hb9.size;omega,(hb9.cell hsz).trans hkv,HD.out.symm⟩
        case measure=>simp [intOf];omega
    · have hke:Z1h l k=.nil:=Z38 l k (by omega)
      have hF2:=HFF.out
      rw [hke,lftF] at hF2
      have H2:=zh hF2;clear hF2 HFF;go_wp2_with fail;go_ret
      rw [HE.out,← H2.out]
      exact ⟨rfl,hbl⟩
theorem Zkj (f:Fo):∀ k,k<flen f→Zg2 (getF f k).1 (getF f k).2:=by
 induction f with
 | nil=>intro k h;simp [flen] at h
 | node b o a l r ihl ihr =>
  intro k h
  cases k with
  | zero=>exact Zd3 a l ihl
  | succ k=>exact ihr k (by simp [flen] at h;omega)
theorem Zkk (a:Int × Int)(l:Fo):Zg2 a l:=Zd3 a l (Zkj l)
theorem Zg3 (op n:Int)(l:Fo)(v:Value)(w:World)(hv:FoV w w.heap.size v l) :
 Calls Tryz.prog 84 #[.agg #[.int .i64 op,.int .i64 n,v]] w fun e w'=>e=.returned (.bool (decide (0≤lftE l 300)))∧Below w.heap.size w w':=by
 obtain ⟨z,hz⟩:∃ z,lftE l 300=z:=⟨_,rfl⟩
 rw [hz]
 obtain ⟨A,c,rfl,hA⟩:=hv
 have HZ:=zh hz;have HA:=zh hA;clear hz hA;go_enter Tryz.func84,Tryz.ntmps84
 go_wp2_with fail;refine (Zkk (op,n) l 300 _ (.slice A (flen l) c) w.heap.size ⟨A,c,rfl,FoAt.keep (fun p hp=>by first | rfl | exact Z0H _ _ _ hp) l A 0 HA.out⟩ (by simp) (by omega) (by omega)).mono ?_
 rintro e w1 ⟨rfl,hb⟩;rw [HZ.out]
 go_wp2_with fail;go_ret
 exact ⟨rfl,by first | exact hb | exact Z00 ((Below.refl w.heap.size w).alloc (zn _) _) hb⟩
end
section
open Go.RowKit Lx Px Qx
def T3 (w:World)(b:Nat)(ts:List Int):Prop:=w.heap[b]?=some (.cells #[.int .i64 (ts.getD 0 0),.int .i64 (ts.getD 1 0),.int .i64 (ts.getD 2 0)] 254 (0,0))
theorem T3.lt {w:World}{b:Nat}{ts:List Int}(h:T3 w b ts):b<w.heap.size:=(zs h)
theorem T3.on {w w':World}{b:Nat}{ts:List Int}(h:T3 w b ts)(hb:Below w.heap.size w w'):T3 w' b ts:=(hb.block b h.lt).trans h
theorem T3.cell {w:World}{b:Nat}{ts:List Int}(h:T3 w b ts){k:Nat}(hk:k<3):w.cell? ⟨b,k,none⟩=some (.int .i64 (ts.getD k 0)):=by
 rw [zc h]
 rcases (show k=0∨k=1∨k=2 by omega) with rfl | rfl | rfl <;> rfl
theorem T3.fr {w:World}{b:Nat}{ts:List Int}(h:T3 w b ts)(k:Nat):w.frozen? ⟨b,k,none⟩=false:=by have h':w.heap[b]?=_:=h;simp [World.frozen?,h']
theorem T3.set {w:World}{b:Nat}{ts:List Int}(h:T3 w b ts){k:Nat}(hl:ts.length=k)(hk:k<3)(t:Int):T3 (w.setCell ⟨b,k,none⟩ (.int .i64 t)) b (ts++[t]):=by
 have h':w.heap[b]?=_:=h
 subst hl;match ts,hk,h' with
 | [],_,h'=>simp [T3,World.setCell,Array.getElem?_modify,h']
 | [x],_,h'=>simp [T3,World.setCell,Array.getElem?_modify,h']
 | [x,y],_,h'=>simp [T3,World.setCell,Array.getElem?_modify,h']
 | _::_::_::_,hk,_=>simp at hk;omega
theorem T3.new (w:World):T3 (w.alloc (.cells #[.int .i64 0,.int .i64 0,.int .i64 0] 254)) w.heap.size []:=za w _
def RtyC (a:Int × Int)(l:Fo):Prop :=
 ∀ (w:World) (v:Value) (B:Nat),FoV w B v l→B≤w.heap.size→Z04 a.1 a.2 (flen l)=true→wfF l →
  Calls Tryz.prog 165 #[.agg #[.int .i64 a.1,.int .i64 a.2,v]] w fun e w'=>e=.returned (.int .i64 (typE a l))∧Below w.heap.size w w'
def RtyL (l:Fo)(w:World)(op n:Int)(av i:Value)(wr:World):Prop :=
 ∃ (k:Nat) (ts:List Int),k≤flen l∧i=.int .i64 k∧ts.length=k∧(∀ j,j<k→ts.getD j 0=typE (getF l j).1 (getF l j).2∧ts.getD j 0≠0) ∧
  Below w.heap.size w wr∧T3 wr (w.heap.size+1) ts∧wr.heap[w.heap.size]?=some (.cells #[.int .i64 op,.int .i64 n,av] 63 (0,0))
theorem Zd4 (a:Int × Int)(l:Fo)(ih:∀ k,k<flen l→RtyC (getF l k).1 (getF l k).2):RtyC a l:=by
 intro w v B hv hB hf hw
 obtain ⟨A,c,rfl,hA⟩:=hv
 obtain ⟨op,n⟩:=a
 obtain ⟨har,ho1,ho2⟩:=Z9i hf
 dsimp only at hf ho1 ho2 har
 have hfl:=Z54 hf;have hx:=Z0C (za w (.cells #[.int .i64 op,.int .i64 n,.slice A (flen l) c] 63)) (.cells #[.int .i64 0,.int .i64 0,.int .i64 0] 254)
 have hb0:=((Below.refl w.heap.size w).alloc (zn _) (.cells #[.int .i64 op,.int .i64 n,.slice A (flen l) c] 63)).alloc (by simp) (.cells #[.int .i64 0,.int .i64 0,.int .i64 0] 254)
 have ht0:T3 ((w.alloc (.cells #[.int .i64 op,.int .i64 n,.slice A (flen l) c] 63)).alloc (.cells #[.int .i64 0,.int .i64 0,.int .i64 0] 254)) (w.heap.size+1) []:=by
  have:=T3.new (w.alloc (.cells #[.int .i64 op,.int .i64 n,.slice A (flen l) c] 63))
  rwa [World.size_alloc] at this
 have IH:=zh ih;have HW:=zh hw;have HA:=zh hA;have HF:=zh hf;have HX:=zh hx;have HB0:=zh hb0;have HAR:=zh har;have HT0:=zh ht0;clear ih hw hA hf hx hb0 har ht0;go_enter Tryz.func165,Tryz.ntmps165
 go_wp2_with fail;generalize (w.alloc (.cells #[.int .i64 op,.int .i64 n,.slice A (flen l) c] 63)).alloc (.cells #[.int .i64 0,.int .i64 0,.int .i64 0] 254)=w1 at *
 go_loopw [4] (fun i wr=>RtyL l w op n (.slice A (flen l) c) i wr) (fun i _=>flen l - (intOf i).toNat)
 case atStart=>exact ⟨0,[],Nat.zero_le _,rfl,rfl,fun j hj=>absurd hj (by omega),HB0.out,HT0.out,HX.out⟩
 case round =>
  obtain ⟨k,ts,hk,rfl,htl,hts,hbl,ht3,hbx⟩:=hrel
  have hsz:=ht3.lt
  have c2:wr.cell? ⟨w.heap.size,2,none⟩=some (.slice A (flen l) c):=by rw [zc hbx];rfl
  have HTS:=zh hts;have HTL:=zh htl;have HBX:=zh hbx;have HT3:=zh ht3;clear hts htl hbx ht3;by_cases hkl:k<flen l
  · have hkeep:∀ p:Addr,p.block<B→wr.cell? p=w.cell? p:=fun p hp=>hbl.cell (by omega)
    obtain ⟨ad,A',c',rfl,hlo,t0,t1,t2,t3⟩:=FoAt.get l A 0 k (FoAt.keep hkeep l A 0 HA.out) hkl
    rw [Nat.zero_add] at t0 t1 t2
    have hrec:=IH.out k hkl
    obtain ⟨hwf1,hwf2⟩:=ZkD HW.out hkl
    have hno:=fun h=>ZkF (a:=(op,n)) hkl h
    have hnew:∀ t,t=typE (getF l k).1 (getF l k).2→t≠0→∀ j,j<k+1→(ts++[t]).getD j 0=typE (getF l j).1 (getF l j).2∧(ts++[t]).getD j 0≠0:=by
     intro t ht h0 j hj
     have htl':=HTL.out
     by_cases hjk:j=k
     · subst hjk
       rw [← htl',List.getD_eq_getElem?_getD]
       simp only [List.getElem?_concat_length,Option.getD_some]
       rw [htl']
       exact ⟨ht,h0⟩
     · have:=HTS.out j (by omega)
       rw [List.getD_eq_getElem?_getD,List.getElem?_append_left (by omega),← List.getD_eq_getElem?_getD]
       exact this
    have hset:=fun (W:World) (h:T3 W (w.heap.size+1) ts) (t:Int)=>h.set HTL.out (by omega:k<3) t
    have hcl:=fun (W:World) (h:T3 W (w.heap.size+1) ts)=>h.cell (by omega:k<3)
    obtain ⟨⟨op',n'⟩,l',hel⟩:∃ a' l',getF l k=(a',l'):=⟨_,_,rfl⟩
    rw [hel] at t0 t1 t2 t3 hrec hwf1 hwf2 hno hnew
    dsimp only at t0 t1 t2 t3 hrec hwf1 hwf2 hno hnew
    obtain ⟨t,hte⟩:∃ t,typE (op',n') l'=t:=⟨_,rfl⟩
    have hcall:=hrec wr (.slice A' (flen l') c') B ⟨A',c',rfl,t3⟩ (by omega) hwf1 hwf2
    rw [hte] at hcall hno hnew
    have hk3:(k:Int)<3:=by omega
    have HC:=zh hcall;have HNO:=zh hno;have HNEW:=zh hnew;have HSET:=zh hset;have HCL:=zh hcl;clear hcall hno hnew hset hcl hkeep hrec hte hel t3;go_wp2_with fail;refine (HC.out).mono ?_
    rintro e w9 ⟨rfl,hb9⟩;have ht9:=HT3.out.on hb9
    have hx9:=(hb9.block _ (by omega)).trans HBX.out
    have hB9:=Z00 hbl hb9
    have f9:=ht9.fr k
    have q9:=HCL.out w9 ht9
    have hs9:=HSET.out w9 ht9 t
    have hbS:=hB9.setCell (p:=⟨w.heap.size+1,k,none⟩) (by show w.heap.size≤w.heap.size+1;omega) (.int .i64 t)
    have hxS:=(Below.heap_setCell w9 ⟨w.heap.size+1,k,none⟩ (.int .i64 t) w.heap.size (by show w.heap.size≠w.heap.size+1;omega)).trans hx9
    have qS:(w9.setCell ⟨w.heap.size+1,k,none⟩ (.int .i64 t)).cell? ⟨w.heap.size+1,k,none⟩=some (.int .i64 t):=by
     have:=hs9.cell (by omega:k<3)
     rw [this,List.getD_eq_getElem?_getD,← HTL.out]
     simp
    by_cases h0:t=0
    · subst h0
      have hr:=HNO.out rfl
      have HR:=zh hr;have HBS:=zh hbS;clear hr hbS HC ht9 hx9 hB9 hs9 hxS;go_wp2_with fail;go_ret
      rw [HR.out]
      exact ⟨rfl,HBS.out⟩
    · have d0:(t==0)=false:=by simpa using h0
      have hnx:=HNEW.out t rfl h0
      have HNX:=zh hnx;have HBS:=zh hbS;have HXS:=zh hxS;have HS9:=zh hs9;clear hnx hbS hxS hs9 HC ht9 hx9 hB9;go_wp2_with fail;go_roundw
      case rel=>exact ⟨k+1,ts++[t],by omega,by go_num,by rw [List.length_append,HTL.out];rfl,HNX.out,HBS.out,HS9.out,HXS.out⟩
      case measure=>simp [intOf];omega
  · have hke:k=flen l:=by omega
    subst hke;have hE:typE (op,n) l=opT op (ts.getD 0 0) (ts.getD 1 0) (ts.getD 2 0):=ZkE HTL.out HTS.out
    have q0:=HT3.out.cell (by omega:0<3)
    have q1:=HT3.out.cell (by omega:1<3)
    have q2:=HT3.out.cell (by omega:2<3)
    have dl:decide ((flen l:Int)<(flen l:Int))=false:=by simp
    have x0:wr.cell? ⟨w.heap.size,0,none⟩=some (.int .i64 op):=by rw [zc HBX.out];rfl
    generalize ts.getD 0 0=x at *
    generalize ts.getD 1 0=y at *
    generalize ts.getD 2 0=z at *
    have HBL:=zh hbl;have HE:=zh hE;clear hbl hE HT3 HTS HTL HBX HAR HF HX HB0 HT0 HA HW IH;rcases (show op=1∨op=2∨op=3∨op=4∨op=5∨op=6∨op=7∨op=8∨op=9∨op=10∨op=11∨op=12∨op=13∨op=14∨op=15 by omega) with rfl | rfl | rfl | rfl | rfl | rfl | rfl | rfl | rfl | rfl | rfl | rfl | rfl | rfl | rfl
    all_goals go_wp2
    all_goals go_ret
    all_goals rw [HE.out]
    all_goals refine ⟨?_,HBL.out⟩
    all_goals clear HE HBL
    all_goals simp_all [opT]
theorem Zkm (f:Fo):∀ k,k<flen f→RtyC (getF f k).1 (getF f k).2:=by
 induction f with
 | nil=>intro k h;simp [flen] at h
 | node b o a l r ihl ihr =>
  intro k h
  cases k with
  | zero=>exact Zd4 a l ihl
  | succ k=>exact ihr k (by simp [flen] at h;omega)
theorem Zd5 (a:Int × Int)(l:Fo):RtyC a l:=Zd4 a l (Zkm l)
end
section
open Go.RowKit Lx Px Qx
theorem Zrt (n lo hi:Int)(w:World):Calls Tryz.prog 220 #[.int .i64 n,.int .i64 lo,.int .i64 hi] w fun e w'=>e=.returned (.bool (Z1q n lo hi))∧w=w':=by
 unfold Z1q
 obtain ⟨b1,h1⟩:∃ b,decide (lo≤n)=b:=⟨_,rfl⟩
 obtain ⟨b2,h2⟩:∃ b,decide (n≤hi)=b:=⟨_,rfl⟩
 rw [h1,h2]
 cases b1 <;> cases b2
 all_goals
  go_enter Tryz.func220,Tryz.ntmps220
  go_wp2_with fail;go_ret
  exact ⟨rfl,rfl⟩
theorem ZnG (r:Rt):Z3H r=(Z1q r.id 1 1000000&&Z1q r.lv 0 100&&Z1q r.kd 1 20&&!decide (r.fr<0)&&!decide (r.fr≥r.un)&&!decide (r.un > 366)&&!decide (r.ls<1)&&!decide (r.ls > r.mo)&&!decide (r.mo > 60)&&Z1q r.ar 1 127
 && ratB r.kn r.kq&&decide (r.kn≥0)&&decide (r.kn≤r.kq)&&Z0i r.wo r.wn r.wl&&Z0i r.po r.pn r.pl):=by
 rw [Bool.eq_iff_iff]
 simp only [Z3H,Z1q,Bool.and_eq_true,decide_eq_true_eq,Bool.not_eq_true',decide_eq_false_iff_not]
 cases ratB r.kn r.kq <;> cases Z0i r.wo r.wn r.wl <;> cases Z0i r.po r.pn r.pl <;> simp <;> omega
theorem Zkn (r:Rt)(wv pv:Value)(w:World)(hwv:FoV w w.heap.size wv r.wl)(hpv:FoV w w.heap.size pv r.pl):Calls Tryz.prog 164 #[rtV r wv pv] w fun e w'=>e=.returned (.bool (Z3H r))∧Below w.heap.size w w':=by
 obtain ⟨WA,wk,rfl,_⟩:=id hwv
 obtain ⟨PA,pc,rfl,_⟩:=id hpv
 have S0:=RB.new w #[.int .i64 r.id,.int .i64 r.lv,.int .i64 r.kd,.int .i64 r.fr,.int .i64 r.un,.int .i64 r.ls,.int .i64 r.mo,.int .i64 r.ar,.int .i64 r.kn,.int .i64 r.kq,.int .i64 r.wo,.int .i64 r.wn,.slice WA (flen r.wl) wk,.int .i64 r.po,.int .i64 r.pn,.slice PA (flen r.pl) pc]
 have hin:=Zrt
 have hra:=fun W=>Z6c r.kn r.kq W
 have hz1:=fun W h=>Z55 r.wo r.wn r.wl (.slice WA (flen r.wl) wk) W h
 have hz2:=fun W h=>Z55 r.po r.pn r.pl (.slice PA (flen r.pl) pc) W h
 rw [ZnG,rtV]
 obtain ⟨b0,q0⟩:∃ b,Z1q r.id 1 1000000=b:=⟨_,rfl⟩
 obtain ⟨b1,q1⟩:∃ b,Z1q r.lv 0 100=b:=⟨_,rfl⟩
 obtain ⟨b2,q2⟩:∃ b,Z1q r.kd 1 20=b:=⟨_,rfl⟩
 obtain ⟨b3,q3⟩:∃ b,decide (r.fr<0)=b:=⟨_,rfl⟩
 obtain ⟨b4,q4⟩:∃ b,decide (r.fr≥r.un)=b:=⟨_,rfl⟩
 obtain ⟨b5,q5⟩:∃ b,decide (r.un > 366)=b:=⟨_,rfl⟩
 obtain ⟨b6,q6⟩:∃ b,decide (r.ls<1)=b:=⟨_,rfl⟩
 obtain ⟨b7,q7⟩:∃ b,decide (r.ls > r.mo)=b:=⟨_,rfl⟩
 obtain ⟨b8,q8⟩:∃ b,decide (r.mo > 60)=b:=⟨_,rfl⟩
 obtain ⟨b9,q9⟩:∃ b,Z1q r.ar 1 127=b:=⟨_,rfl⟩
 obtain ⟨b11,q11⟩:∃ b,decide (r.kn≥0)=b:=⟨_,rfl⟩
 obtain ⟨b12,q12⟩:∃ b,decide (r.kn≤r.kq)=b:=⟨_,rfl⟩
 rw [q0,q1,q2,q3,q4,q5,q6,q7,q8,q9,q11,q12]
 generalize Z0i r.wo r.wn r.wl=b13 at *
 generalize Z0i r.po r.pn r.pl=b14 at *
 generalize ratB r.kn r.kq=b10 at *
 have S:=zh S0;have HW:=zh hwv;have HP:=zh hpv;have IN:=zh hin;have RA:=zh hra;have Z1:=zh hz1;have Z2:=zh hz2;clear S0 hwv hpv hin hra hz1 hz2;go_enter Tryz.func164,Tryz.ntmps164
 go_upto_region 1 with fail
 generalize w.alloc (.cells #[.int .i64 r.id,.int .i64 r.lv,.int .i64 r.kd,.int .i64 r.fr,.int .i64 r.un,.int .i64 r.ls,.int .i64 r.mo,.int .i64 r.ar,.int .i64 r.kn,.int .i64 r.kq,.int .i64 r.wo,.int .i64 r.wn,.slice WA (flen r.wl) wk,.int .i64 r.po,.int .i64 r.pn,.slice PA (flen r.pl) pc] 65)=w0 at *
 have e0:=S.out.cell 0 _ rfl
 have e1:=S.out.cell 1 _ rfl
 have e2:=S.out.cell 2 _ rfl
 have e3:=S.out.cell 3 _ rfl
 have e4:=S.out.cell 4 _ rfl
 have e5:=S.out.cell 5 _ rfl
 have e6:=S.out.cell 6 _ rfl
 have e7:=S.out.cell 7 _ rfl
 have e8:=S.out.cell 8 _ rfl
 have e9:=S.out.cell 9 _ rfl
 have e10:=S.out.cell 10 _ rfl
 have e11:=S.out.cell 11 _ rfl
 have e12:=S.out.cell 12 _ rfl
 have e13:=S.out.cell 13 _ rfl
 have e14:=S.out.cell 14 _ rfl
 have e15:=S.out.cell 15 _ rfl
 go_wp2_with fail;refine ((IN.out r.id 1 1000000 _)).mono ?_
 rintro e w' ⟨rfl,rfl⟩;rw [q0]
 cases b0 with
 | false =>
  go_wp2_with fail;go_ret
  exact ⟨rfl,S.out.2⟩
 | true =>
  go_wp2_with fail;refine ((IN.out r.lv 0 100 _)).mono ?_
  rintro e w' ⟨rfl,rfl⟩;rw [q1]
  cases b1 with
  | false =>
   go_wp2_with fail;go_ret
   exact ⟨rfl,S.out.2⟩
  | true =>
   go_wp2_with fail;refine ((IN.out r.kd 1 20 _)).mono ?_
   rintro e w' ⟨rfl,rfl⟩;rw [q2]
   cases b2 with
   | false =>
    go_wp2_with fail;go_ret
    exact ⟨rfl,S.out.2⟩
   | true =>
    cases b3 with
    | true =>
     go_wp2_with fail;go_ret
     exact ⟨rfl,S.out.2⟩
    | false =>
     cases b4 with
     | true =>
      go_wp2_with fail;go_ret
      exact ⟨rfl,S.out.2⟩
     | false =>
      cases b5 with
      | true =>
       go_wp2_with fail;go_ret
       exact ⟨rfl,S.out.2⟩
      | false =>
       cases b6 with
       | true =>
        go_wp2_with fail;go_ret
        exact ⟨rfl,S.out.2⟩
       | false =>
        cases b7 with
        | true =>
         go_wp2_with fail;go_ret
         exact ⟨rfl,S.out.2⟩
        | false =>
         cases b8 with
         | true =>
          go_wp2_with fail;go_ret
          exact ⟨rfl,S.out.2⟩
         | false =>
          go_wp2_with fail;refine ((IN.out r.ar 1 127 _)).mono ?_
          rintro e w' ⟨rfl,rfl⟩;rw [q9]
          cases b9 with
          | false =>
           go_wp2_with fail;go_ret
           exact ⟨rfl,S.out.2⟩
          | true =>
           go_wp2_with fail;refine ((RA.out _)).mono ?_
           rintro e w1 ⟨rfl,hb⟩;have S1:=S.out.on hb
           clear e0 e1 e2 e3 e4 e5 e6 e7 e8 e9 e10 e11 e12 e13 e14 e15 S hb;have S:=zh S1;clear S1;have e8:=S.out.cell 8 _ rfl
           have e9:=S.out.cell 9 _ rfl
           have e10:=S.out.cell 10 _ rfl
           have e11:=S.out.cell 11 _ rfl
           have e12:=S.out.cell 12 _ rfl
           go_wp2_with fail;refine ((Z1.out _ ((HW.out.on S.out.2).up S.out.2.size))).mono ?_
           rintro e w2 ⟨rfl,hb⟩;have S1:=S.out.on hb
           clear e8 e9 e10 e11 e12 S hb;have S:=zh S1;clear S1;have e8:=S.out.cell 8 _ rfl
           have e9:=S.out.cell 9 _ rfl
           have e13:=S.out.cell 13 _ rfl
           have e14:=S.out.cell 14 _ rfl
           have e15:=S.out.cell 15 _ rfl
           go_wp2_with fail;refine ((Z2.out _ ((HP.out.on S.out.2).up S.out.2.size))).mono ?_
           rintro e w3 ⟨rfl,hb⟩;have S1:=S.out.on hb
           clear e8 e9 e13 e14 e15 S hb;have S:=zh S1;clear S1;have e8:=S.out.cell 8 _ rfl
           have e9:=S.out.cell 9 _ rfl
           cases b10 <;> cases b11 <;> cases b12 <;> cases b13 <;> cases b14
           all_goals
            go_wp2_with fail;go_ret
            exact ⟨rfl,S.out.2⟩
theorem Zei (r:Rt)(wv pv:Value)(w:World)(hwv:FoV w w.heap.size wv r.wl)(hpv:FoV w w.heap.size pv r.pl):Calls Tryz.prog 124 #[rtV r wv pv] w fun e w'=>e=.returned (.tuple #[.bool (Z14 r==0),.int .i64 (Z14 r)])∧Below w.heap.size w w':=by
 have hfo:=fun W h1 h2=>Zkn r wv pv W h1 h2
 obtain ⟨WA,wk,rfl,_⟩:=id hwv
 obtain ⟨PA,pc,rfl,_⟩:=id hpv
 have S0:=RB.new w #[.int .i64 r.id,.int .i64 r.lv,.int .i64 r.kd,.int .i64 r.fr,.int .i64 r.un,.int .i64 r.ls,.int .i64 r.mo,.int .i64 r.ar,.int .i64 r.kn,.int .i64 r.kq,.int .i64 r.wo,.int .i64 r.wn,.slice WA (flen r.wl) wk,.int .i64 r.po,.int .i64 r.pn,.slice PA (flen r.pl) pc]
 have hE:Z14 r=if Z3H r then (if typE (r.wo,r.wn) r.wl=3∧typE (r.po,r.pn) r.pl=2 then 0 else 20) else 1:=rfl
 have hv:=@Z45 r
 rw [rtV] at hfo ⊢
 have S:=zh S0;have HW:=zh hwv;have HP:=zh hpv;have HF:=zh hfo;have HE:=zh hE;have HV:=zh hv;clear S0 hwv hpv hfo hE hv;go_enter Tryz.func124,Tryz.ntmps124
 go_upto_region 1 with fail
 generalize w.alloc (.cells #[.int .i64 r.id,.int .i64 r.lv,.int .i64 r.kd,.int .i64 r.fr,.int .i64 r.un,.int .i64 r.ls,.int .i64 r.mo,.int .i64 r.ar,.int .i64 r.kn,.int .i64 r.kq,.int .i64 r.wo,.int .i64 r.wn,.slice WA (flen r.wl) wk,.int .i64 r.po,.int .i64 r.pn,.slice PA (flen r.pl) pc] 65)=w0 at *
 have e0:=S.out.cell 0 _ rfl
 have e1:=S.out.cell 1 _ rfl
 have e2:=S.out.cell 2 _ rfl
 have e3:=S.out.cell 3 _ rfl
 have e4:=S.out.cell 4 _ rfl
 have e5:=S.out.cell 5 _ rfl
 have e6:=S.out.cell 6 _ rfl
 have e7:=S.out.cell 7 _ rfl
 have e8:=S.out.cell 8 _ rfl
 have e9:=S.out.cell 9 _ rfl
 have e10:=S.out.cell 10 _ rfl
 have e11:=S.out.cell 11 _ rfl
 have e12:=S.out.cell 12 _ rfl
 have e13:=S.out.cell 13 _ rfl
 have e14:=S.out.cell 14 _ rfl
 have e15:=S.out.cell 15 _ rfl
 go_wp2_with fail;refine (HF.out _ ((HW.out.on S.out.2).up S.out.2.size) ((HP.out.on S.out.2).up S.out.2.size)).mono ?_
 rintro e w1 ⟨rfl,hb⟩;have S1:=S.out.on hb
 clear e0 e1 e2 e3 e4 e5 e6 e7 e8 e9 e10 e11 e12 e13 e14 e15 S hb HF;have S:=zh S1;clear S1;cases hf:Z3H r with
 | false =>
  have h1:Z14 r=1:=by rw [HE.out,hf];rfl
  have H1:=zh h1;have HFF:=zh hf;clear h1 hf;go_wp2_with fail;go_ret2
  rw [H1.out]
  exact ⟨rfl,S.out.2⟩
 | true =>
  obtain ⟨v1,v2⟩:=HV.out hf
  obtain ⟨f1,g1⟩:=Z6C v1
  obtain ⟨f2,g2⟩:=Z6C v2
  have hE2:Z14 r=if typE (r.wo,r.wn) r.wl=3∧typE (r.po,r.pn) r.pl=2 then 0 else 20:=by rw [HE.out,hf];rfl
  have hz1:=fun W B h h2=>Zd5 (r.wo,r.wn) r.wl W (.slice WA (flen r.wl) wk) B h h2 f1 g1
  have hz2:=fun W B h h2=>Zd5 (r.po,r.pn) r.pl W (.slice PA (flen r.pl) pc) B h h2 f2 g2
  have e10:=S.out.cell 10 _ rfl
  have e11:=S.out.cell 11 _ rfl
  have e12:=S.out.cell 12 _ rfl
  generalize typE (r.wo,r.wn) r.wl=x at *
  generalize typE (r.po,r.pn) r.pl=y at *
  have HE2:=zh hE2;have Z1:=zh hz1;have Z2:=zh hz2;have HFF:=zh hf;clear hE2 hz1 hz2 hf HE HV v1 v2 f1 f2 g1 g2;go_wp2_with fail;refine (Z1.out _ w.heap.size (HW.out.on S.out.2) S.out.2.size).mono ?_
  rintro e w2 ⟨rfl,hb⟩;have S2:=S.out.on hb
  clear e10 e11 e12 S hb;have S:=zh S2;clear S2;by_cases hx:x=3
  · have d1:(x != 3)=false:=by simpa using hx
    have e13:=S.out.cell 13 _ rfl
    have e14:=S.out.cell 14 _ rfl
    have e15:=S.out.cell 15 _ rfl
    go_wp2_with fail;refine (Z2.out _ w.heap.size (HP.out.on S.out.2) S.out.2.size).mono ?_
    rintro e w3 ⟨rfl,hb⟩;have S3:=S.out.on hb
    clear e13 e14 e15 S hb;have S:=zh S3;clear S3;by_cases hy:y=2
    · have d2:(y != 2)=false:=by simpa using hy
      have h0:Z14 r=0:=by rw [HE2.out,if_pos ⟨hx,hy⟩]
      have H0:=zh h0;clear h0;go_wp2_with fail;go_ret2
      rw [H0.out]
      exact ⟨rfl,S.out.2⟩
    · have d2:(y != 2)=true:=by simpa using hy
      have h0:Z14 r=20:=by rw [HE2.out,if_neg (fun h=>hy h.2)]
      have H0:=zh h0;clear h0;go_wp2_with fail;go_ret2
      rw [H0.out]
      exact ⟨rfl,S.out.2⟩
  · have d1:(x != 3)=true:=by simpa using hx
    have h0:Z14 r=20:=by rw [HE2.out,if_neg (fun h=>hx h.1)]
    have H0:=zh h0;clear h0;go_wp2_with fail;go_ret2
    rw [H0.out]
    exact ⟨rfl,S.out.2⟩
end
end Go.Proofs.YtnepkoepbapgeaaGreatDoor
