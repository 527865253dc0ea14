/-
  Several texts in one: QuoRt1, QuoQt, QuoOpn, QuoTr, QuoR10a.
-/
import Derived.Test.YtnepkoepbapgeaaGreatDoorQuoRat
import Derived.Test.YtnepkoepbapgeaaGreatDoorQuoVal
import Derived.Test.YtnepkoepbapgeaaGreatDoorQuoTyp1
import Derived.Test.YtnepkoepbapgeaaGreatDoorQuoPlain
import Derived.Carry
import Derived.Test.YtnepkoepbapgeaaGreatDoorQuoTyp4
import Derived.Test.YtnepkoepbapgeaaGreatDoorPrtW4
namespace Go.Proofs.YtnepkoepbapgeaaGreatDoor
set_option maxRecDepth 100000
section
open Go.RowKit Lx Px Qx
def Z1e (n lo hi:Int):Bool:=decide (lo≤n)&&decide (n≤hi)
theorem Z3w (n lo hi:Int)(w:World):Calls Tryz.prog 73 #[.int .i64 n,.int .i64 lo,.int .i64 hi] w fun e w'=>e=.returned (.bool (Z1e n lo hi))∧w=w':=by
 unfold Z1e
 obtain ⟨b1,h1⟩:∃ b,decide (lo≤n)=b:=⟨_,rfl⟩
 obtain ⟨b2,h2⟩:∃ b,decide (n≤hi)=b:=⟨_,rfl⟩
 rw [h1,h2]
 cases b1 <;> cases b2
 all_goals
  go_enter Tryz.func73,Tryz.ntmps73
  go_wp2_with fail;go_ret
  exact ⟨rfl,rfl⟩
def askV (a:Qx.Ask):Value:=.agg #[.int .i64 a.kind,.int .i64 a.fr,.int .i64 a.un,.int .i64 a.pers]
theorem ZhH (a:Qx.Ask)(w:World):Calls Tryz.prog 65 #[askV a] w fun e w'=>e=.returned (.bool a.okB)∧Below w.heap.size w w':=by
 obtain ⟨kd,fr,un,ps⟩:=a
 have hb:=(Below.refl w.heap.size w).alloc (zn _) (.cells #[.int .i64 kd,.int .i64 fr,.int .i64 un,.int .i64 ps] 26)
 have hk:=fun W=>Z3w kd 1 20 W
 have hp:=fun W=>Z3w ps 1 8 W
 have hk':Z1e kd 1 20=(decide (1≤kd)&&decide (kd≤20)):=rfl
 have hp':Z1e ps 1 8=(decide (1≤ps)&&decide (ps≤8)):=rfl
 have hE:(⟨kd,fr,un,ps⟩:Qx.Ask).okB=((decide (0≤fr)&&decide (fr<un)&&decide (un≤366)&&decide (un - fr≤60))&&Z1e kd 1 20&&Z1e ps 1 8):=by
  rw [hk',hp'];simp only [Ask.okB,Bool.and_assoc]
 rw [hE]
 generalize Z1e kd 1 20=b1 at *
 generalize Z1e ps 1 8=b2 at *
 clear hk' hp' hE;dsimp only [askV]
 by_cases h1:0≤fr
 · have d1:decide (0≤fr)=true:=by simpa using h1
   by_cases h2:fr<un
   · have d2:decide (fr<un)=true:=by simpa using h2
     by_cases h3:un≤366
     · have d3:decide (un≤366)=true:=by simpa using h3
       obtain ⟨b4,d4⟩:∃ b,decide (un - fr≤60)=b:=⟨_,rfl⟩
       rw [d1,d2,d3,d4]
       have HK:=zh hk;have HP:=zh hp;have HB:=zh hb;clear hk hp hb;cases b4
       · go_enter Tryz.func65,Tryz.ntmps65
         go_wp2_with fail;go_ret
         exact ⟨rfl,HB.out⟩
       · cases b1
         · go_enter Tryz.func65,Tryz.ntmps65
           go_wp2_with fail;refine (HK.out _).mono ?_
           rintro e w' ⟨rfl,rfl⟩;go_wp2_with fail;go_ret
           exact ⟨rfl,HB.out⟩
         · go_enter Tryz.func65,Tryz.ntmps65
           go_wp2_with fail;refine (HK.out _).mono ?_
           rintro e w' ⟨rfl,rfl⟩;go_wp2_with fail;refine (HP.out _).mono ?_
           rintro e w' ⟨rfl,rfl⟩;go_wp2_with fail;go_ret
           exact ⟨by simp,HB.out⟩
     · have d3:decide (un≤366)=false:=by simpa using h3
       rw [d1,d2,d3]
       have HB:=zh hb;clear hb hk hp;go_enter Tryz.func65,Tryz.ntmps65
       go_wp2_with fail;go_ret
       exact ⟨rfl,HB.out⟩
   · have d2:decide (fr<un)=false:=by simpa using h2
     rw [d1,d2]
     have HB:=zh hb;clear hb hk hp;go_enter Tryz.func65,Tryz.ntmps65
     go_wp2_with fail;go_ret
     exact ⟨rfl,HB.out⟩
 · have d1:decide (0≤fr)=false:=by simpa using h1
   rw [d1]
   have HB:=zh hb;clear hb hk hp;go_enter Tryz.func65,Tryz.ntmps65
   go_wp2_with fail;go_ret
   exact ⟨rfl,HB.out⟩
theorem Z7G (n:Int)(w:World)(h0:0≤n)(h1:n≤366):Calls Tryz.prog 150 #[.int .i64 n] w fun e w'=>e=.returned (.tuple #[.int .i64 (wday n),.int .i64 0])∧w=w':=by
 have d1:decide (n<0)=false:=by simpa using h0
 have d2:decide (n > 366)=false:=by simpa using h1
 have d3:decide (366<n)=false:=by simpa using h1
 go_enter Tryz.func150,Tryz.ntmps150
 go_wp2_with fail;go_ret2
 exact ⟨rfl,rfl⟩
theorem Z91 (n:Int):0≤wday n∧wday n≤6:=by unfold wday;omega
def vsV (v:Vs):Value:=.agg #[.int .i64 v.a,.int .i64 v.b,.int .i64 v.c,.int .i64 v.d]
theorem Zdy (a:Qx.Ask)(n:Int)(w:World)(ha:a.okB=true)(h0:a.fr≤n)(h1:n<a.un):Calls Tryz.prog 108 #[askV a,.int .i64 n] w fun e w'=>e=.returned (vsV (Z1d a n))∧Below w.heap.size w w':=by
 obtain ⟨kd,fr,un,ps⟩:=a
 simp only [Ask.okB,Bool.and_eq_true,decide_eq_true_eq] at ha
 dsimp only at h0 h1
 obtain ⟨⟨⟨⟨⟨⟨⟨a1,a2⟩,a3⟩,a4⟩,a5⟩,a6⟩,a7⟩,a8⟩:=ha
 have hw:=fun W=>Z7G n W (by omega) (by omega)
 have hb:Below w.heap.size w ((w.alloc (.cells #[.int .i64 kd,.int .i64 fr,.int .i64 un,.int .i64 ps] 26)).alloc (.cells #[.int .i64 (un - fr),.int .i64 ps,.int .i64 (n - fr),.int .i64 (wday n)] 148)) :=
  ((Below.refl w.heap.size w).alloc (zn _) _).alloc (by simp) _
 dsimp only [askV,vsV,Z1d]
 generalize wday n=d at *
 have HW:=zh hw;have HB:=zh hb;clear hw hb;go_enter Tryz.func108,Tryz.ntmps108
 go_wp2_with fail;refine (HW.out _).mono ?_
 rintro e w' ⟨rfl,rfl⟩;go_wp2_with fail;exact bodyPost_ret (v:=.agg #[.int .i64 (un - fr),.int .i64 ps,.int .i64 (n - fr),.int .i64 d]) (by simp [results,Tryz.results108,go_sem]) rfl ⟨rfl,HB.out⟩
end
section
open Go.RowKit Lx Px Qx
def qtV (q:Qt)(nv:Value):Value:=.agg #[.int .i64 q.ver,.int .i64 q.time,.int .i64 q.total,.int .i64 q.keep,.int .i64 q.ask.kind,.int .i64 q.ask.fr,.int .i64 q.ask.un,.int .i64 q.ask.pers,nv,.int .u64 (q.dig:Nat),.int .i64 q.sE,.int .i64 q.sS]
def QtV (w:World)(B:Nat)(V:Value)(q:Qt):Prop:=∃ A c,V=qtV q (.slice A q.nights.length c)∧Z02 w B (.slice A q.nights.length c) q.nights
theorem QtV.on {w w':World}{B:Nat}{V:Value}{q:Qt}(h:QtV w B V q)(hb:Below B w w'):QtV w' B V q:=by
 obtain ⟨A,c,e,h⟩:=h;exact ⟨A,c,e,h.on hb⟩
theorem QtV.up {w:World}{B B':Nat}{V:Value}{q:Qt}(h:QtV w B V q)(hb:B≤B'):QtV w B' V q:=by
 obtain ⟨A,c,e,h⟩:=h;exact ⟨A,c,e,h.up hb⟩
def Qx.Qt.i64 (q:Qt):Prop:=(∀ x∈q.says,-9223372036854775808≤x∧x≤9223372036854775807)∧q.dig<18446744073709551616
def vrV (v:Vr)(rv:Value):Value:=.agg #[.int .i64 v.num,.int .i64 v.time,rv]
def VrV (w:World)(B:Nat)(V:Value)(v:Vr):Prop:=∃ A c,V=vrV v (.slice A v.rs.length c)∧RtsV w B (.slice A v.rs.length c) v.rs
theorem VrV.on {w w':World}{B:Nat}{V:Value}{v:Vr}(h:VrV w B V v)(hb:Below B w w'):VrV w' B V v:=by
 obtain ⟨A,c,e,h⟩:=h;exact ⟨A,c,e,h.on hb⟩
theorem VrV.up {w:World}{B B':Nat}{V:Value}{v:Vr}(h:VrV w B V v)(hb:B≤B'):VrV w B' V v:=by
 obtain ⟨A,c,e,h⟩:=h;exact ⟨A,c,e,h.up hb⟩
def VssV (w:World)(B:Nat)(v:Value)(l:List Vr):Prop :=
 ∃ A c,v=.slice A l.length c∧l.length≤c∧(l≠[]→∃ g o,A=some ⟨g,o,none⟩∧g<B∧∀ k (h:k<l.length),∃ RA rc,RtsV w B (.slice RA l[k].rs.length rc) l[k].rs ∧
  w.cell? ⟨g,o+k*3,none⟩=some (.int .i64 l[k].num)∧w.cell? ⟨g,o+k*3+1,none⟩=some (.int .i64 l[k].time)∧w.cell? ⟨g,o+k*3+2,none⟩=some (.slice RA l[k].rs.length rc))
theorem VssV.nil (w:World)(B c:Nat):VssV w B (.slice none 0 c) []:=⟨none,c,rfl,Nat.zero_le _,fun h=>absurd rfl h⟩
theorem VssV.on {w w':World}{B:Nat}{v:Value}{l:List Vr}(h:VssV w B v l)(hb:Below B w w'):VssV w' B v l:=by
 obtain ⟨A,c,e,hcap,hA⟩:=h
 refine ⟨A,c,e,hcap,fun hl=>?_⟩
 obtain ⟨g,o,e1,hg,hr⟩:=hA hl
 refine ⟨g,o,e1,hg,fun k hk=>?_⟩
 obtain ⟨RA,rc,h1,h2,h3,h4⟩:=hr k hk
 exact ⟨RA,rc,h1.on hb,(hb.cell (p:=⟨g,o+k*3,none⟩) hg).trans h2,(hb.cell (p:=⟨g,o+k*3+1,none⟩) hg).trans h3,(hb.cell (p:=⟨g,o+k*3+2,none⟩) hg).trans h4⟩
theorem VssV.up {w:World}{B B':Nat}{v:Value}{l:List Vr}(h:VssV w B v l)(hb:B≤B'):VssV w B' v l:=by
 obtain ⟨A,c,e,hcap,hA⟩:=h
 refine ⟨A,c,e,hcap,fun hl=>?_⟩
 obtain ⟨g,o,e1,hg,hr⟩:=hA hl
 refine ⟨g,o,e1,by omega,fun k hk=>?_⟩
 obtain ⟨RA,rc,h1,h2⟩:=hr k hk
 exact ⟨RA,rc,h1.up hb,h2⟩
theorem VssV.cap {w:World}{B:Nat}{A:Option Addr}{n c:Nat}{l:List Vr}(h:VssV w B (.slice A n c) l):l.length≤c:=by
 obtain ⟨A',c',e,h1,_⟩:=h
 injection e with _ _ e3
 omega
end
section
open Go.ChangeShapes Go.WideShapes Go.ChangeAt Go.RowKit Go.Deep Lx Px Qx
theorem Z3i {k:Int}(h:(Lit.int .i64 k).wf=true) : -9223372036854775808≤k∧k≤9223372036854775807:=by
 simp only [Lit.wf,Bool.and_eq_true,decide_eq_true_eq] at h
 exact h
section
variable {H:Type} {enc:TypeId × Value→H} {W:World}
theorem Zfd {n:Nat}{c:Value}{y:DataW H × List MemPlace}(h:DataW.trod enc Tryz.prog W 0 (fun _=>true) true n 22 [c]=some y):∃ l:List Rt,RtsV W W.heap.size c l:=by
 rcases DataW.trod_slice Tryz.underlying22 h with ⟨h0,_⟩ | ⟨a,len0,cap0,elems,rest,n,hfu,hx,hcs,hb,hl,hm,hlen,hel,hsp,hns⟩
 · simp at h0;subst h0
   exact ⟨[],RtsV.nil _ _⟩
 · simp at hx;subst hx
   obtain ⟨rs,hrl,hrs⟩:=ZmB (fun i (r:Rt)=>RtAt W W.heap.size (a.add (i*16)) r∧a.block<W.heap.size) len0 (fun k hk=>by
    have he:=hel k hk
    rw [List.getElem?_eq_getElem (by omega),Option.bind_eq_some_iff] at he
    obtain ⟨cs',hc,ht'⟩:=he
    obtain ⟨r,WA,PA,wc,pc,rfl,h1,h2⟩:=Zcp ht'
    rw [Tryz.cellsRate] at hc
    obtain ⟨_,_,hat⟩:=World.cells?_some hc
    have hs0:=hat 0 (by omega)
    have hbl:a.block<W.heap.size:=by
     have:=Zgj hs0
     rw [Z19,Z19] at this
     exact this
    have hsp0:(a.add (k*16)).spot=none:=by
     rw [Go.Deep.add_add] at hs0
     exact Zhz hs0
    refine ⟨r,⟨hsp0,_,_,fun j u hj=>?_,h1,h2⟩,hbl⟩
    have hj16:j<16:=by
     have:=(List.getElem?_eq_some_iff.1 hj).1
     simpa [Z48] using this
    have hc2:=hat j hj16
    rw [Go.Deep.add_add,Zbc hsp0] at hc2
    exact hc2.trans hj)
   exact ⟨rs,some a,cap0,by rw [hrl],fun i hi=>⟨a,rfl,(hrs i hi).2,(hrs i hi).1⟩⟩
theorem Tryz.cellsVer:Tryz.prog.cellsOf 24=3:=by kernel_rfl
theorem Tryz.cellsAsk:Tryz.prog.cellsOf 26=4:=by kernel_rfl
theorem Zkh {n:Nat}{cs:List Value}{y:DataW H × List MemPlace}(h:DataW.trod enc Tryz.prog W 0 (fun _=>true) true n 26 cs=some y) :
 ∃ a:Qx.Ask,cs=[.int .i64 a.kind,.int .i64 a.fr,.int .i64 a.un,.int .i64 a.pers]∧(∀ x∈[a.kind,a.fr,a.un,a.pers],-9223372036854775808≤x∧x≤9223372036854775807):=by
 obtain ⟨xs,n',hn',_,hl,hxl,hf⟩:=DataW.trod_struct Tryz.underlying26 h
 rw [Tryz.cellsAsk] at hl
 obtain ⟨c0,c1,c2,c3,rfl⟩:∃ c0 c1 c2 c3,cs=[c0,c1,c2,c3]:=by
  match cs,hl with
  | [c0,c1,c2,c3],_=>exact ⟨c0,c1,c2,c3,rfl⟩
 obtain ⟨x0,x1,x2,x3,rfl⟩:∃ x0 x1 x2 x3,xs=[x0,x1,x2,x3]:=by
  have hx3:xs.length=4:=hxl
  match xs,hx3 with
  | [x0,x1,x2,x3],_=>exact ⟨x0,x1,x2,x3,rfl⟩
 have g0:DataW.trod enc Tryz.prog W 0 (fun _=>true) true n' 3 [c0]=some x0:=hf 0 _ rfl
 have g1:DataW.trod enc Tryz.prog W 0 (fun _=>true) true n' 3 [c1]=some x1:=hf 1 _ rfl
 have g2:DataW.trod enc Tryz.prog W 0 (fun _=>true) true n' 3 [c2]=some x2:=hf 2 _ rfl
 have g3:DataW.trod enc Tryz.prog W 0 (fun _=>true) true n' 3 [c3]=some x3:=hf 3 _ rfl
 obtain ⟨k0,e0,_,r0⟩:=DataW.trod_int Tryz.underlying3 g0
 obtain ⟨k1,e1,_,r1⟩:=DataW.trod_int Tryz.underlying3 g1
 obtain ⟨k2,e2,_,r2⟩:=DataW.trod_int Tryz.underlying3 g2
 obtain ⟨k3,e3,_,r3⟩:=DataW.trod_int Tryz.underlying3 g3
 simp only [List.cons.injEq,and_true] at e0 e1 e2 e3
 subst e0 e1 e2 e3;refine ⟨⟨k0,k1,k2,k3⟩,rfl,?_⟩
 intro x hx
 simp only [List.mem_cons,List.not_mem_nil,or_false] at hx
 rcases hx with rfl | rfl | rfl | rfl
 · exact Z3i r0
 · exact Z3i r1
 · exact Z3i r2
 · exact Z3i r3
theorem Zdz {cs:Array Value}{l:List Value}(h:cs.toList=l):Value.agg cs=.agg l.toArray:=by rw [← h]
theorem Zki {base:Nat}{v:Value}{d:DataW H}{p:List MemPlace}(hval:Value.okWide Tryz.prog W .any base 26 v)
 (h:DataW.Trod enc Tryz.prog W 0 (fun _=>true) true 26 v d p):∃ a:Qx.Ask,v=askV a∧(∀ x∈[a.kind,a.fr,a.un,a.pers],-9223372036854775808≤x∧x≤9223372036854775807):=by
 obtain ⟨cs,rfl,hsz⟩:=okWide_struct Tryz.underlying26 hval
 obtain ⟨fuel,hf⟩:=h
 obtain ⟨a,hcs,hr⟩:=Zkh (cs:=cs.toList) hf
 exact ⟨a,Zdz hcs,hr⟩
theorem Zkj {n:Nat}{cs:List Value}{y:DataW H × List MemPlace}(h:DataW.trod enc Tryz.prog W 0 (fun _=>true) true n 24 cs=some y) :
 ∃ (v:Vr) (A:Option Addr) (c:Nat),cs=[.int .i64 v.num,.int .i64 v.time,.slice A v.rs.length c]∧RtsV W W.heap.size (.slice A v.rs.length c) v.rs∧(∀ x∈[v.num,v.time],-9223372036854775808≤x∧x≤9223372036854775807):=by
 obtain ⟨xs,n',hn',_,hl,hxl,hf⟩:=DataW.trod_struct Tryz.underlying24 h
 rw [Tryz.cellsVer] at hl
 obtain ⟨c0,c1,c2,rfl⟩:∃ c0 c1 c2,cs=[c0,c1,c2]:=by
  match cs,hl with
  | [c0,c1,c2],_=>exact ⟨c0,c1,c2,rfl⟩
 obtain ⟨x0,x1,x2,rfl⟩:∃ x0 x1 x2,xs=[x0,x1,x2]:=by
  have hx3:xs.length=3:=hxl
  match xs,hx3 with
  | [x0,x1,x2],_=>exact ⟨x0,x1,x2,rfl⟩
 have g0:DataW.trod enc Tryz.prog W 0 (fun _=>true) true n' 3 [c0]=some x0:=hf 0 _ rfl
 have g1:DataW.trod enc Tryz.prog W 0 (fun _=>true) true n' 3 [c1]=some x1:=hf 1 _ rfl
 have g2:DataW.trod enc Tryz.prog W 0 (fun _=>true) true n' 22 [c2]=some x2:=hf 2 _ rfl
 obtain ⟨k0,e0,_,r0⟩:=DataW.trod_int Tryz.underlying3 g0
 obtain ⟨k1,e1,_,r1⟩:=DataW.trod_int Tryz.underlying3 g1
 obtain ⟨rs,hrs⟩:=Zfd g2
 obtain ⟨A,c,rfl,_⟩:=id hrs
 simp only [List.cons.injEq,and_true] at e0 e1
 subst e0 e1;refine ⟨⟨k0,k1,rs⟩,A,c,rfl,hrs,?_⟩
 intro x hx
 simp only [List.mem_cons,List.not_mem_nil,or_false] at hx
 rcases hx with rfl | rfl
 · exact Z3i r0
 · exact Z3i r1
theorem Zkk {base:Nat}{v:Value}{d:DataW H}{p:List MemPlace}(hval:Value.okWide Tryz.prog W .any base 24 v)
 (h:DataW.Trod enc Tryz.prog W 0 (fun _=>true) true 24 v d p):∃ x:Vr,VrV W W.heap.size v x∧(∀ n∈[x.num,x.time],-9223372036854775808≤n∧n≤9223372036854775807):=by
 obtain ⟨cs,rfl,hsz⟩:=okWide_struct Tryz.underlying24 hval
 obtain ⟨fuel,hf⟩:=h
 obtain ⟨x,A,c,hcs,hR,hr⟩:=Zkj (cs:=cs.toList) hf
 exact ⟨x,⟨A,c,Zdz hcs,hR⟩,hr⟩
end
end
section
open Go.ChangeShapes Go.WideShapes Go.ChangeAt Go.RowKit Go.Deep
section
variable {H:Type} {enc:TypeId × Value→H} {P:Program} {w:World} {base:Nat} {spare:Nat→Bool} {held:Bool}
theorem Zkm {t0 t1 t2 t3 t4 t5:TypeId}{args:Array Value}{dl:List (DataW H)}{pl:List MemPlace}(h:DataW.TrodAll enc P w base spare held [t0,t1,t2,t3,t4,t5] args.toList dl pl) :
 ∃ v0 v1 v2 v3 v4 v5 d0 d1 d2 d3 d4 d5 p0 p1 p2 p3 p4 p5,args=#[v0,v1,v2,v3,v4,v5]∧dl=[d0,d1,d2,d3,d4,d5]∧pl=p0++(p1++(p2++(p3++(p4++p5))))∧DataW.Trod enc P w base spare held t0 v0 d0 p0∧DataW.Trod enc P w base spare held t1 v1 d1 p1∧DataW.Trod enc P w base spare held t2 v2 d2 p2∧DataW.Trod enc P w base spare held t3 v3 d3 p3∧DataW.Trod enc P w base spare held t4 v4 d4 p4∧DataW.Trod enc P w base spare held t5 v5 d5 p5:=by
 obtain ⟨v0,vs0,d0,ds0,p0,q0,hargs,rfl,rfl,h0,r0⟩:=trodAll_cons h
 obtain ⟨v1,vs1,d1,ds1,p1,q1,rfl,rfl,rfl,h1,r1⟩:=trodAll_cons r0
 obtain ⟨v2,vs2,d2,ds2,p2,q2,rfl,rfl,rfl,h2,r2⟩:=trodAll_cons r1
 obtain ⟨v3,vs3,d3,ds3,p3,q3,rfl,rfl,rfl,h3,r3⟩:=trodAll_cons r2
 obtain ⟨v4,vs4,d4,ds4,p4,q4,rfl,rfl,rfl,h4,r4⟩:=trodAll_cons r3
 obtain ⟨v5,vs5,d5,ds5,p5,q5,rfl,rfl,rfl,h5,r5⟩:=trodAll_cons r4
 obtain ⟨rfl,rfl,rfl⟩:=trodAll_nil r5
 exact ⟨v0,v1,v2,v3,v4,v5,d0,d1,d2,d3,d4,d5,p0,p1,p2,p3,p4,p5,by cases args;simp_all,rfl,by simp,h0,h1,h2,h3,h4,h5⟩
theorem Zkn {t0 t1 t2 t3 t4 t5:TypeId}{v0 v1 v2 v3 v4 v5:Value}{d0 d1 d2 d3 d4 d5:DataW H}{p0 p1 p2 p3 p4 p5:List MemPlace}(h0:DataW.Trod enc P w base spare held t0 v0 d0 p0)(h1:DataW.Trod enc P w base spare held t1 v1 d1 p1)(h2:DataW.Trod enc P w base spare held t2 v2 d2 p2)(h3:DataW.Trod enc P w base spare held t3 v3 d3 p3)(h4:DataW.Trod enc P w base spare held t4 v4 d4 p4)(h5:DataW.Trod enc P w base spare held t5 v5 d5 p5) :
 DataW.TrodAll enc P w base spare held [t0,t1,t2,t3,t4,t5] [v0,v1,v2,v3,v4,v5] [d0,d1,d2,d3,d4,d5] (p0++(p1++(p2++(p3++(p4++p5))))):=⟨_,_,h0,⟨_,_,h1,trodAll_mk4 h2 h3 h4 h5,rfl⟩,rfl⟩
end
end
section
open Go.RowKit Lx Px Qx
namespace Qx
def lftF:Fo→Int→Int
 | .nil,n=>n
 | .node _ _ _ l r,n=>if (if n<1 then -1 else lftF l (n - 1))<0 then -1 else lftF r (if n<1 then -1 else lftF l (n - 1))
def lftE (l:Fo)(most:Int):Int:=if most<1 then -1 else lftF l (most - 1)
theorem Zfe:∀ (l:Fo) (n:Int),0≤n → -1≤lftF l n∧lftF l n≤n:=by
 intro l
 induction l with
 | nil=>intro n h;exact ⟨by show -1≤n;omega,Int.le_refl n⟩
 | node b o a l r ihl ihr =>
  intro n h
  rw [lftF]
  by_cases h1:n<1
  · rw [if_pos h1,if_pos (by omega)];omega
  · rw [if_neg h1]
    have hl:=ihl (n - 1) (by omega)
    by_cases h2:lftF l (n - 1)<0
    · rw [if_pos h2];omega
    · rw [if_neg h2]
      have hr:=ihr (lftF l (n - 1)) (by omega)
      omega
theorem Zff (l:Fo)(n:Int)(h:0≤n) : -1≤lftE l n∧lftE l n≤n - 1:=by
 unfold lftE
 split
 · omega
 · have:=Zfe l (n - 1) (by omega);omega
theorem Zi0 {l:Fo}{k:Nat}(hk:k<flen l)(n:Int):lftF (Z29 l k) n=if lftE (getF l k).2 n<0 then -1 else lftF (Z29 l (k+1)) (lftE (getF l k).2 n):=by
 induction l generalizing k with
 | nil=>simp [flen] at hk
 | node b o a l r _ ihr =>
  cases k with
  | zero=>simp only [Z29,getF,lftF,lftE]
  | succ k =>
   have hk2:k<flen r:=by simp [flen] at hk;omega
   exact ihr hk2
end Qx
def ZdA (a:Int × Int)(l:Fo):Prop :=
 ∀ (most:Int) (w:World) (v:Value) (B:Nat),FoV w B v l→B≤w.heap.size→0≤most→most≤1000 →
  Calls Tryz.prog 122 #[.agg #[.int .i64 a.1,.int .i64 a.2,v],.int .i64 most] w fun e w' =>
   e=.returned (.int .i64 (lftE l most))∧Below w.heap.size w w'
def RLefL (l:Fo)(n0:Int)(w:World)(kv y i:Value)(wr:World):Prop :=
 ∃ (k:Nat) (x:Int),k≤flen l∧i=.int .i64 k∧y=.int .i64 x∧0≤x∧x+k≤1000∧Below w.heap.size w wr∧w.heap.size<wr.heap.size∧wr.cell? ⟨w.heap.size,2,none⟩=some kv∧lftF (Z29 l k) x=lftF l n0
theorem Zbd (a:Int × Int)(l:Fo)(ih:∀ k,k<flen l→ZdA (getF l k).1 (getF l k).2):ZdA a l:=by
 intro most w v B hv hB h2 h3
 obtain ⟨A,c,rfl,hA⟩:=hv
 obtain ⟨op,n⟩:=a
 by_cases hm:most<1
 · have hE:lftE l most = -1:=if_pos hm
   have d2:decide (most<1)=true:=by simpa using hm
   have HE:=zh hE;clear hE;go_enter Tryz.func122,Tryz.ntmps122
   go_wp2_with fail;go_ret
   rw [HE.out]
   exact ⟨rfl,(Below.refl w.heap.size w).alloc (zn _) _⟩
 · have d2:decide (most<1)=false:=by simpa using hm
   have hE:lftE l most=lftF l (most - 1):=if_neg hm
   have HE:=zh hE;have HA:=zh hA;have HI:=zh ih;clear hE hA ih;go_enter Tryz.func122,Tryz.ntmps122
   go_wp2_with fail;go_loopw [5,6] (fun y i wr=>RLefL l (most - 1) w (.slice A (flen l) c) y i wr) (fun _ i _=>flen l - (intOf i).toNat)
   case atStart=>exact ⟨0,most - 1,by omega,rfl,rfl,by omega,by omega,(Below.refl w.heap.size w).alloc (zn _) _,by simp,by rw [zc (za w _)];rfl,by rw [Z29]⟩
   case round =>
    obtain ⟨k,x,hk,rfl,rfl,hx0,hx1,hbl,hsz,hkv,hF⟩:=hrel
    have HFF:=zh hF;clear hF;by_cases hkl:k<flen l
    · have hkeep:∀ p:Addr,p.block<B→wr.cell? p=w.cell? p:=fun p hp=>hbl.cell (by omega)
      obtain ⟨ad,A',c',rfl,hlo,t0,t1,t2,t3⟩:=FoAt.get l A 0 k (FoAt.keep hkeep l A 0 HA.out) hkl
      rw [Nat.zero_add] at t0 t1 t2
      have hd:=Zi0 hkl x
      have hrec:=HI.out k hkl
      obtain ⟨⟨op',n'⟩,l',hel⟩:∃ a' l',getF l k=(a',l'):=⟨_,_,rfl⟩
      rw [hel] at t0 t1 t2 t3 hd hrec
      dsimp only at t0 t1 t2 t3 hd hrec
      rw [HFF.out] at hd
      have hcall:=hrec x wr (.slice A' (flen l') c') B ⟨A',c',rfl,t3⟩ (by omega) hx0 (by omega)
      have hrg:=Zff l' x hx0
      generalize lftE l' x=z at *
      by_cases hz:z<0
      · have d9:decide (z<0)=true:=by simpa using hz
        rw [if_pos hz] at hd
        have HC:=zh hcall;have HD:=zh hd;clear hcall hd hrec hel HFF hkeep t3;go_wp2_with fail;refine (HC.out).mono ?_
        rintro e w9 ⟨rfl,hb9⟩;go_wp2_with fail;go_ret
        rw [HE.out,HD.out]
        exact ⟨rfl,Z00 hbl hb9⟩
      · have d9:decide (z<0)=false:=by simpa using hz
        rw [if_neg hz] at hd
        have HC:=zh hcall;have HD:=zh hd;clear hcall hd hrec hel HFF hkeep t3;go_wp2_with fail;refine (HC.out).mono ?_
        rintro e w9 ⟨rfl,hb9⟩;go_wp2_with fail;go_roundw
        case rel=>exact ⟨k+1,z,by omega,by go_num,rfl,by omega,by omega,Z00 hbl hb9,by have:=hb9.size;omega,(hb9.cell hsz).trans hkv,HD.out.symm⟩
        case measure=>simp [intOf];omega
    · have hke:Z29 l k=.nil:=Z3H l k (by omega)
      have hF2:=HFF.out
      rw [hke,lftF] at hF2
      have H2:=zh hF2;clear hF2 HFF;go_wp2_with fail;go_ret
      rw [HE.out,← H2.out]
      exact ⟨rfl,hbl⟩
theorem Zi1 (f:Fo):∀ k,k<flen f→ZdA (getF f k).1 (getF f k).2:=by
 induction f with
 | nil=>intro k h;simp [flen] at h
 | node b o a l r ihl ihr =>
  intro k h
  cases k with
  | zero=>exact Zbd a l ihl
  | succ k=>exact ihr k (by simp [flen] at h;omega)
theorem Zi2 (a:Int × Int)(l:Fo):ZdA a l:=Zbd a l (Zi1 l)
theorem ZdB (op n:Int)(l:Fo)(v:Value)(w:World)(hv:FoV w w.heap.size v l) :
 Calls Tryz.prog 84 #[.agg #[.int .i64 op,.int .i64 n,v]] w fun e w'=>e=.returned (.bool (decide (0≤lftE l 300)))∧Below w.heap.size w w':=by
 obtain ⟨z,hz⟩:∃ z,lftE l 300=z:=⟨_,rfl⟩
 rw [hz]
 obtain ⟨A,c,rfl,hA⟩:=hv
 have HZ:=zh hz;have HA:=zh hA;clear hz hA;go_enter Tryz.func84,Tryz.ntmps84
 go_wp2_with fail;refine (Zi2 (op,n) l 300 _ (.slice A (flen l) c) w.heap.size ⟨A,c,rfl,FoAt.keep (fun p hp=>by first | rfl | exact Z0C _ _ _ hp) l A 0 HA.out⟩ (by simp) (by omega) (by omega)).mono ?_
 rintro e w1 ⟨rfl,hb⟩;rw [HZ.out]
 go_wp2_with fail;go_ret
 exact ⟨rfl,by first | exact hb | exact Z00 ((Below.refl w.heap.size w).alloc (zn _) _) hb⟩
end
end Go.Proofs.YtnepkoepbapgeaaGreatDoor
