/-
  Walks: priced of package rate: the price of a night.
-/
import Derived.Test.YtnepkoepbapgeaaGreatDoorQuoTxt
import Derived.Deep.RegionHeld3
import Derived.Sort.CutIn
namespace Go.Proofs.YtnepkoepbapgeaaGreatDoor
set_option maxRecDepth 100000
open Go.RowKit Lx Px Qx Go.Shelf
attribute [local go_sem] Oper.semAt_some
theorem ZhB (A:Option Addr)(k c:Nat)(a:Qx.Ask)(night:Int)(w:World):Calls Tryz.prog 106 #[.slice A k c,.agg #[.int .i64 a.kind,.int .i64 a.fr,.int .i64 a.un,.int .i64 a.pers],.int .i64 night] w fun e w' =>
 e=.returned (.func (.func 145) #[] #[.pointer (some ⟨w.heap.size,0,none⟩),.pointer (some ⟨w.heap.size+1,0,none⟩),.pointer (some ⟨w.heap.size+1+1,0,none⟩)]) ∧
 w'=((w.alloc (.cells #[.slice A k c] 22)).alloc (.cells #[.int .i64 a.kind,.int .i64 a.fr,.int .i64 a.un,.int .i64 a.pers] 26)).alloc (.cells #[.int .i64 night] 3):=by
 have hmf:∀ (fn:Fn) (first cap:Array Value) (w:World),(Instr.makeFunc fn first cap).run Tryz.prog w=.ok (.func fn first cap) w:=fun _ _ _ _=>rfl
 go_enter Tryz.func106,Tryz.ntmps106
 go_wp2_with fail;go_ret
 exact ⟨rfl,rfl⟩
def pick:Option Rm→List (Rm × Int)→Except Int (Option Rm)
 | o,[]=>.ok o
 | o,(m,e)::l=>if e≠0 then .error e else pick (if Qx.Z49 m.r (o.map (·.r))=true then some m else o) l
theorem Z7E (o:Option Rm)(l r:List (Rm × Int)):pick o (l++r)=match pick o l with | .error e=>.error e | .ok o'=>pick o' r:=by
 induction l generalizing o with
 | nil=>rfl
 | cons x l ih =>
  obtain ⟨m,e⟩:=x
  simp only [List.cons_append,pick]
  split
  · rfl
  · exact ih _
theorem ZhC (a:Qx.Ask)(night:Int):∀ (ms:List Rm) (o:Option Rm),Z3u a night (o.map (·.r)) (ms.map (·.r))=match pick o (yl a night ms) with | .error e=>.error e | .ok o'=>.ok (o'.map (·.r)):=by
 intro ms
 induction ms with
 | nil=>intro o;rfl
 | cons m ms ih =>
  intro o
  have hy:yl a night (m::ms)=(yOf a night m).toList++yl a night ms:=by
   unfold yl;cases h:yOf a night m <;> simp [h]
  rw [List.map_cons,Z3u,hy]
  rcases ZdH m.r a night with h | h | h
  · have:yOf a night m=none:=by unfold yOf;rw [if_pos h]
    rw [this,h,if_neg (by omega),if_neg (by simp)]
    exact ih o
  · have:yOf a night m=some (m,0):=by unfold yOf;rw [if_neg (by omega),if_neg (by omega)]
    rw [this,h,if_neg (by omega)]
    have hc:(if (1:Int)=1∧Qx.Z49 m.r (o.map (·.r))=true then some m.r else o.map (·.r))=(if Qx.Z49 m.r (o.map (·.r))=true then some m else o).map (·.r):=by
     by_cases hb:Qx.Z49 m.r (o.map (·.r))=true
     · rw [if_pos ⟨rfl,hb⟩,if_pos hb];rfl
     · rw [if_neg (fun x=>hb x.2),if_neg hb]
    rw [hc,ih]
    simp only [Option.toList,List.cons_append,List.nil_append,pick,ne_eq,not_true_eq_false,if_false]
  · have:yOf a night m=some (m,-(apR m.r a night)):=by unfold yOf;rw [if_neg (by omega),if_pos h]
    rw [this,if_pos h]
    simp only [Option.toList,List.cons_append,List.nil_append,pick]
    rw [if_pos (by omega)]
theorem Zke:∀ (l:List (Rm × Int)) (o o':Option Rm) (m:Rm),pick o l=.ok o'→o'=some m→o=some m∨∃ e,(m,e)∈l:=by
 intro l
 induction l with
 | nil=>intro o o' m h e;simp only [pick,Except.ok.injEq] at h;exact .inl (by rw [h,e])
 | cons x l ih =>
  intro o o' m h e
  obtain ⟨n,er⟩:=x
  simp only [pick] at h
  split at h
  · cases h
  · rcases ih _ _ m h e with h1 | ⟨e1,h1⟩
    · split at h1
      · injection h1 with h1;subst h1;exact .inr ⟨er,by simp⟩
      · exact .inl h1
    · exact .inr ⟨e1,by simp [h1]⟩
theorem ZhD {a:Qx.Ask}{night:Int}{ms:List Rm}{m:Rm}{e:Int}(h:(m,e)∈yl a night ms):m∈ms:=by
 unfold yl at h
 rw [List.mem_filterMap] at h
 obtain ⟨m',h1,h2⟩:=h
 unfold yOf at h2
 split at h2
 · cases h2
 · injection h2 with h2;injection h2 with h3 h4;subst h3;exact h1
def Z1z:Array Value:=#[.int .i64 0,.int .i64 0,.int .i64 0,.int .i64 0,.int .i64 0,.int .i64 0,.int .i64 0,.int .i64 0,.int .i64 0,.int .i64 0,.int .i64 0,.int .i64 0,.slice none 0 0,.int .i64 0,.int .i64 0,.slice none 0 0]
def Zkf:Array Value:=#[.int .i64 0,.int .i64 (-1),.int .i64 0,.int .i64 0,.int .i64 0,.int .i64 0,.int .i64 0,.int .i64 0,.int .i64 0,.int .i64 0,.int .i64 0,.int .i64 0,.slice none 0 0,.int .i64 0,.int .i64 0,.slice none 0 0]
def rtC (m:Rm):Array Value:=#[.int .i64 m.r.id,.int .i64 m.r.lv,.int .i64 m.r.kd,.int .i64 m.r.fr,.int .i64 m.r.un,.int .i64 m.r.ls,.int .i64 m.r.mo,.int .i64 m.r.ar,.int .i64 m.r.kn,.int .i64 m.r.kq,.int .i64 m.r.wo,.int .i64 m.r.wn,m.wv,.int .i64 m.r.po,.int .i64 m.r.pn,m.pv]
def ZhE:Option Rm→Array Value
 | none=>Zkf
 | some m=>rtC m
theorem Zf9 (o:Option Rm):(ZhE o).size=16:=by cases o <;> rfl
structure PrR (w:World) (c:Int) (R:Array Value) (e:Int) (W:World):Prop where
 c:W.heap[w.heap.size+1]?=some (.cells #[.int .i64 c] 3 (0,0))
 r:W.heap[w.heap.size+2]?=some (.cells R 65 (0,0))
 e:W.heap[w.heap.size+3]?=some (.cells #[.int .i64 e] 35 (0,0))
 b:Below w.heap.size w W
theorem PrR.on {w W W':World}{c:Int}{R:Array Value}{e:Int}(h:PrR w c R e W)(hb:Below W.heap.size W W'):PrR w c R e W' :=
 ⟨(hb.block _ (zs h.c)).trans h.c,(hb.block _ (zs h.r)).trans h.r,(hb.block _ (zs h.e)).trans h.e,Z00 h.b hb⟩
theorem PrR.put {w W:World}{c:Int}{R:Array Value}{e:Int}(h:PrR w c R e W){l:Nat}(hl:w.heap.size+4≤l)(o':Obj):PrR w c R e (W.putObj l o') :=
 ⟨(World.putObj_heap_other (by omega)).trans h.c,(World.putObj_heap_other (by omega)).trans h.r,(World.putObj_heap_other (by omega)).trans h.e,h.b.trans ((Below.refl _ _).grown (grownBy_putObj' W l o') (by have:=h.b.size;omega) (fun k e=>by cases e;omega))⟩
def PrI (w:World)(a:Qx.Ask)(pre:List (Rm × Int))(W:World):Prop :=
 ∃ o,pick none pre=.ok o∧W.heap[w.heap.size+4]?=some (.cells (ZhE o) 65 (0,0))∧PrR w 0 Z1z 0 W ∧
  W.heap[w.heap.size]?=some (.cells #[.int .i64 a.kind,.int .i64 a.fr,.int .i64 a.un,.int .i64 a.pers] 26 (0,0))
def PrX (w:World)(c:Code)(pre:List (Rm × Int))(W:World):Prop :=
 c=.ret∧∃ e:Int,(∀ rest,pick none (pre++rest)=.error e)∧PrR w 0 Z1z e W
theorem PrI.below {w:World}{a:Qx.Ask}{s:List (Rm × Int)}{W W':World}(h:PrI w a s W)(hb:Below W.heap.size W W'):PrI w a s W':=by
 obtain ⟨o,h1,h2,h3,h4⟩:=h
 exact ⟨o,h1,(hb.block _ (zs h2)).trans h2,h3.on hb,(hb.block _ (zs h4)).trans h4⟩
theorem PrI.res {w:World}{a:Qx.Ask}{W:World}(h:PrI w a [] W):PrR w 0 Z1z 0 W:=by obtain ⟨_,_,_,h3,_⟩:=h;exact h3
theorem PrI.put {w:World}{a:Qx.Ask}{s:List (Rm × Int)}{W:World}(h:PrI w a s W){l:Nat}(hl:w.heap.size+5≤l)(o':Obj):PrI w a s (W.putObj l o'):=by
 obtain ⟨x,h1,h2,h3,h4⟩:=h
 exact ⟨x,h1,(World.putObj_heap_other (by omega)).trans h2,h3.put (by omega) o',(World.putObj_heap_other (by omega)).trans h4⟩
theorem PrX.put {w:World}{c:Code}{s:List (Rm × Int)}{W:World}(h:PrX w c s W){l:Nat}(hl:w.heap.size+5≤l)(o':Obj):PrX w c s (W.putObj l o'):=by
 obtain ⟨h0,e,h1,h2⟩:=h
 exact ⟨h0,e,h1,h2.put (by omega) o'⟩
def Zcq (x:Qx.N)(w:World)(e:Ending)(w':World):Prop :=
 Below w.heap.size w w'∧match x with
  | .ok c r=>∃ wv pv,(rtC ⟨r,wv,pv⟩).all (·.oneCell')=true∧e=.returned (.tuple #[.int .i64 c,.agg (rtC ⟨r,wv,pv⟩),.int .i64 0])
  | .no er=>e=.returned (.tuple #[.int .i64 0,.agg Z1z,.int .i64 er])
theorem Z76 {W:World}{o:Obj}{k:Nat}(h:k=W.heap.size):(W.alloc o).heap[k]?=some o:=by subst h;exact za W o
theorem Z4r {W:World}{o:Obj}{k:Nat}{v:Option Obj}(h:k<W.heap.size)(h2:W.heap[k]?=v):(W.alloc o).heap[k]?=v:=(Below.heap_alloc _ _ _ h).trans h2
theorem bx0 (w:World)(A:Option Addr)(k c:Nat)(a:Qx.Ask)(night:Int)(W0:World)(hW:W0=((((((((w.alloc (.cells #[.int .i64 a.kind,.int .i64 a.fr,.int .i64 a.un,.int .i64 a.pers] 26)).alloc (.cells #[.int .i64 0] 3)).alloc (.cells Z1z 65)).alloc (.cells #[.int .i64 0] 35)).alloc (.cells Zkf 65)).alloc (.cells #[.slice A k c] 22)).alloc (.cells #[.int .i64 a.kind,.int .i64 a.fr,.int .i64 a.un,.int .i64 a.pers] 26)).alloc (.cells #[.int .i64 night] 3))) :
 PrI w a [] W0∧W0.heap[w.heap.size+5]?=some (.cells #[.slice A k c] 22 (0,0))∧W0.heap[w.heap.size+6]?=some (.cells #[.int .i64 a.kind,.int .i64 a.fr,.int .i64 a.un,.int .i64 a.pers] 26 (0,0))∧W0.heap[w.heap.size+7]?=some (.cells #[.int .i64 night] 3 (0,0))∧W0.heap.size=w.heap.size+8:=by
 subst hW;have hB:Below w.heap.size w ((((((((w.alloc (.cells #[.int .i64 a.kind,.int .i64 a.fr,.int .i64 a.un,.int .i64 a.pers] 26)).alloc (.cells #[.int .i64 0] 3)).alloc (.cells Z1z 65)).alloc (.cells #[.int .i64 0] 35)).alloc (.cells Zkf 65)).alloc (.cells #[.slice A k c] 22)).alloc (.cells #[.int .i64 a.kind,.int .i64 a.fr,.int .i64 a.un,.int .i64 a.pers] 26)).alloc (.cells #[.int .i64 night] 3)) :=
  ((((((((Below.refl _ _).alloc (zn _) _).alloc (by simp) _).alloc (by simp;omega) _).alloc (by simp;omega) _).alloc (by simp;omega) _).alloc (by simp;omega) _).alloc (by simp;omega) _).alloc (by simp;omega) _
 refine ⟨⟨none,rfl,?_,⟨?_,?_,?_,hB⟩,?_⟩,?_,?_,?_,by simp⟩
 all_goals
  try simp only [ZhE]
  repeat (first | (refine Z76 ?_;first | rfl | (simp only [World.size_alloc];done) | (simp only [World.size_alloc];omega)) | (refine Z4r ?_ ?_;· (simp only [World.size_alloc];omega)))
theorem Z7F {w:World}{B:Nat}{v:Value}{ms:List Rm}(h:RmsV w B v ms){m:Rm}(hm:m∈ms):∃ WA wk PA pc,m.wv=.slice WA (flen m.r.wl) wk∧m.pv=.slice PA (flen m.r.pl) pc∧FoV w B m.wv m.r.wl∧FoV w B m.pv m.r.pl:=by
 obtain ⟨A,c,rfl,_⟩:=id h
 obtain ⟨k,hk,rfl⟩:=List.getElem_of_mem hm
 obtain ⟨g,o,_,_,_,f1,f2⟩:=Zi5 h hk
 obtain ⟨WA,wk,e1,_⟩:=id f1
 obtain ⟨PA,pc,e2,_⟩:=id f2
 exact ⟨WA,wk,PA,pc,e1,e2,f1,f2⟩
theorem Zcr {m:Rm}{WA PA:Option Addr}{i j k l:Nat}(h1:m.wv=.slice WA i k)(h2:m.pv=.slice PA j l):(rtC m).all (·.oneCell')=true:=by
 unfold rtC;rw [h1,h2];simp [Value.oneCell']
def prA (w:World)(A:Option Addr)(k c:Nat)(a:Qx.Ask)(night:Int)(b:Nat)(x:Rm × Int):Act :=
 { tmps:=#[.slice A k c,.agg #[.int .i64 a.kind,.int .i64 a.fr,.int .i64 a.un,.int .i64 a.pers],.int .i64 night,undef,.pointer (some ⟨w.heap.size,0,none⟩),undef,.pointer (some ⟨w.heap.size+1,0,none⟩),.pointer (some ⟨w.heap.size+1+1,0,none⟩),.pointer (some ⟨w.heap.size+1+1+1,0,none⟩),.pointer (some ⟨w.heap.size+1+1+1+1,0,none⟩),.pointer (some ⟨b,0,none⟩),.int .i64 x.2,undef,undef,undef,undef,.agg #[.int .i64 0,.int .i64 (-1),.int .i64 0,.int .i64 0,.int .i64 0,.int .i64 0,.int .i64 0,.int .i64 0,.int .i64 0,.int .i64 0,.int .i64 0,.int .i64 0,.slice none 0 0,.int .i64 0,.int .i64 0,.slice none 0 0],.slice A k c,.agg #[.int .i64 a.kind,.int .i64 a.fr,.int .i64 a.un,.int .i64 a.pers],.int .i64 night,.func (.func 145) #[] #[.pointer (some ⟨w.heap.size+1+1+1+1+1,0,none⟩),.pointer (some ⟨w.heap.size+1+1+1+1+1+1,0,none⟩),.pointer (some ⟨w.heap.size+1+1+1+1+1+1+1,0,none⟩)],.agg (rtC x.1),.int .i64 x.2,undef,undef,undef,undef,undef,undef,undef,undef,undef,undef,undef,undef,undef,undef,undef,undef,undef,undef,undef,undef,undef,undef,undef,undef,undef,undef,undef,undef,undef,undef,undef,undef,undef,undef,undef,undef,undef,undef,undef,undef,undef,undef,undef,undef,undef,undef,undef,undef,undef,undef,undef],defers:=[] }
def Z4a:Option Rm→Int
 | none=>-1
 | some m=>m.r.lv
def Z90:Option Rm→Int
 | none=>0
 | some m=>m.r.id
theorem Zfa (o:Option Rm):(ZhE o)[0]?=some (.int .i64 (Z90 o))∧(ZhE o)[1]?=some (.int .i64 (Z4a o)):=by cases o <;> exact ⟨rfl,rfl⟩
theorem ZhF (m:Rm)(o:Option Rm)(h:0≤m.r.lv):Qx.Z49 m.r (o.map (·.r))=(decide (m.r.lv > Z4a o) || ((m.r.lv==Z4a o)&&decide (m.r.id<Z90 o))):=by
 cases o with
 | none =>
  have:decide (m.r.lv > -1)=true:=by simp;omega
  show true=_
  rw [show Z4a none = -1 from rfl,this];rfl
 | some b=>rfl
theorem ZhG {pre:List (Rm × Int)}{o:Option Rm}(h:pick none pre=.ok o)(m:Rm):pick none (pre++[(m,0)])=.ok (if Qx.Z49 m.r (o.map (·.r))=true then some m else o):=by
 rw [Z7E,h];simp [pick]
theorem Zkg {pre:List (Rm × Int)}{o:Option Rm}(h:pick none pre=.ok o)(m:Rm){e:Int}(he:e≠0)(rest:List (Rm × Int)):pick none ((pre++[(m,e)])++rest)=.error e:=by
 rw [List.append_assoc,Z7E,h];simp [pick,he]
theorem Z6r (B:Nat)(W:World)(g:Nat)(cs:Array Value):KeepsFrom B W (W.setRow g cs):=by
 refine ⟨by rw [Z3x];exact zn _,fun k o _ hk hc=>?_⟩
 unfold World.setRow
 simp only
 rw [Array.getElem?_modify]
 split
 · rw [hk]
   cases o <;> first | rfl | cases hc
 · exact hk
theorem Z1A (B:Nat)(W:World)(p:Addr)(v:Value):KeepsFrom B W (W.setCell p v):=(KeepsOthers.setCell W p v).from _
theorem Z5w:Z1z.all (·.oneCell')=true:=by simp [Z1z,Value.oneCell']
theorem PrR.cells {w W:World}{c:Int}{R:Array Value}{e:Int}(h:PrR w c R e W):W.cell? ⟨w.heap.size+1,0,none⟩=some (.int .i64 c)∧W.frozen? ⟨w.heap.size+1,0,none⟩=false∧W.cell? ⟨w.heap.size+1+1+1,0,none⟩=some (.int .i64 e)∧W.frozen? ⟨w.heap.size+1+1+1,0,none⟩=false:=by
 have hc:=h.c
 have he:W.heap[w.heap.size+1+1+1]?=_:=h.e
 exact ⟨by rw [zc hc];rfl,by simp [World.frozen?,hc],by rw [zc he];rfl,by simp [World.frozen?,he]⟩
theorem PrR.set {w W:World}{c c':Int}{R R':Array Value}{e e':Int}(h:PrR w c R e W):PrR w c' R' e' (((W.setCell ⟨w.heap.size+1,0,none⟩ (.int .i64 c')).setRow (w.heap.size+1+1) R').setCell ⟨w.heap.size+1+1+1,0,none⟩ (.int .i64 e')):=by
 refine ⟨?_,?_,?_,?_⟩
 · rw [Below.heap_setCell _ _ _ _ (by show w.heap.size+1≠w.heap.size+1+1+1;omega),Z04 _ _ _ _ (by omega)]
   exact Z5E h.c _
 · rw [Below.heap_setCell _ _ _ _ (by show w.heap.size+2≠w.heap.size+1+1+1;omega)]
   exact setRow_heap _ _ R R' _ _ ((Below.heap_setCell _ _ _ _ (by show w.heap.size+1+1≠w.heap.size+1;omega)).trans h.r)
 · refine Z5E (x:=.int .i64 e) ?_ _
   rw [Z04 _ _ _ _ (by omega),Below.heap_setCell _ _ _ _ (by show w.heap.size+1+1+1≠w.heap.size+1;omega)]
   exact h.e
 · exact (Z39 (h.b.setCell (p:=⟨w.heap.size+1,0,none⟩) (by show w.heap.size≤w.heap.size+1;omega) _) (by omega) _).setCell (p:=⟨w.heap.size+1+1+1,0,none⟩) (by show w.heap.size≤w.heap.size+1+1+1;omega) _
theorem Z3v {w W:World}{D:Nat}{tmps:Array Value}{x:Qx.N}{c:Int}{x0 x1 x2 x3 x4 x5 x6 x7 x8 x9 x10 x11 x12 x13 x14 x15:Value}{e:Int}(hD:w.heap.size+8≤D)(hK:W.heap[D]?=some (.deferred (some [])))
 (t6:tmps[6]?.getD undef=.pointer (some ⟨w.heap.size+1,0,none⟩)) (t7:tmps[7]?.getD undef=.pointer (some ⟨w.heap.size+1+1,0,none⟩)) (t8:tmps[8]?.getD undef=.pointer (some ⟨w.heap.size+1+1+1,0,none⟩))
 (hR:PrR w c #[x0,x1,x2,x3,x4,x5,x6,x7,x8,x9,x10,x11,x12,x13,x14,x15] e W) (hP:∀ w',Below w.heap.size w w'→Zcq x w (.returned (.tuple #[.int .i64 c,.agg #[x0,x1,x2,x3,x4,x5,x6,x7,x8,x9,x10,x11,x12,x13,x14,x15],.int .i64 e])) w') :
 bodyPostM Fence.wide 5 Tryz.prog Tryz.f66 (Zcq x w) Exit.ret { tmps,defers:=[{ target:=.collected D,args:=#[] }] } W:=by
 refine ⟨by simp,.inl ⟨_,_,rfl,run_takeDeferred hK,?_⟩⟩
 have h2:=hR.put (l:=D) (by omega) (.deferred none)
 obtain ⟨c0,_,c2,_⟩:=h2.cells
 have hr:(W.putObj D (.deferred none)).heap[w.heap.size+1+1]?=_:=h2.r
 have k0:(W.putObj D (.deferred none)).cell? ⟨w.heap.size+1+1,0,none⟩=some x0:=by rw [zc hr];rfl
 have k1:(W.putObj D (.deferred none)).cell? ⟨w.heap.size+1+1,1,none⟩=some x1:=by rw [zc hr];rfl
 have k2:(W.putObj D (.deferred none)).cell? ⟨w.heap.size+1+1,2,none⟩=some x2:=by rw [zc hr];rfl
 have k3:(W.putObj D (.deferred none)).cell? ⟨w.heap.size+1+1,3,none⟩=some x3:=by rw [zc hr];rfl
 have k4:(W.putObj D (.deferred none)).cell? ⟨w.heap.size+1+1,4,none⟩=some x4:=by rw [zc hr];rfl
 have k5:(W.putObj D (.deferred none)).cell? ⟨w.heap.size+1+1,5,none⟩=some x5:=by rw [zc hr];rfl
 have k6:(W.putObj D (.deferred none)).cell? ⟨w.heap.size+1+1,6,none⟩=some x6:=by rw [zc hr];rfl
 have k7:(W.putObj D (.deferred none)).cell? ⟨w.heap.size+1+1,7,none⟩=some x7:=by rw [zc hr];rfl
 have k8:(W.putObj D (.deferred none)).cell? ⟨w.heap.size+1+1,8,none⟩=some x8:=by rw [zc hr];rfl
 have k9:(W.putObj D (.deferred none)).cell? ⟨w.heap.size+1+1,9,none⟩=some x9:=by rw [zc hr];rfl
 have k10:(W.putObj D (.deferred none)).cell? ⟨w.heap.size+1+1,10,none⟩=some x10:=by rw [zc hr];rfl
 have k11:(W.putObj D (.deferred none)).cell? ⟨w.heap.size+1+1,11,none⟩=some x11:=by rw [zc hr];rfl
 have k12:(W.putObj D (.deferred none)).cell? ⟨w.heap.size+1+1,12,none⟩=some x12:=by rw [zc hr];rfl
 have k13:(W.putObj D (.deferred none)).cell? ⟨w.heap.size+1+1,13,none⟩=some x13:=by rw [zc hr];rfl
 have k14:(W.putObj D (.deferred none)).cell? ⟨w.heap.size+1+1,14,none⟩=some x14:=by rw [zc hr];rfl
 have k15:(W.putObj D (.deferred none)).cell? ⟨w.heap.size+1+1,15,none⟩=some x15:=by rw [zc hr];rfl
 refine ⟨.tuple #[.int .i64 c,.agg #[x0,x1,x2,x3,x4,x5,x6,x7,x8,x9,x10,x11,x12,x13,x14,x15],.int .i64 e],?_,hP _ h2.b⟩
 simp [results,Tryz.results66,go_sem,t6,t7,t8,c0,c2,k0,k1,k2,k3,k4,k5,k6,k7,k8,k9,k10,k11,k12,k13,k14,k15]
structure PrS (w:World) (a:Qx.Ask) (m:Rm) (D:Nat) (W:World):Prop where
 best:W.heap[w.heap.size+4]?=some (.cells (rtC m) 65 (0,0))
 ask:W.heap[w.heap.size]?=some (.cells #[.int .i64 a.kind,.int .i64 a.fr,.int .i64 a.un,.int .i64 a.pers] 26 (0,0))
 res:PrR w 0 Z1z 0 W
 d:W.heap[D]?=some (.deferred (some []))
 hD:w.heap.size+8≤D
theorem PrS.on {w W W':World}{a:Qx.Ask}{m:Rm}{D:Nat}(h:PrS w a m D W)(hb:Below W.heap.size W W'):PrS w a m D W' :=
 ⟨(hb.block _ (zs h.best)).trans h.best,(hb.block _ (zs h.ask)).trans h.ask,h.res.on hb,(hb.block _ (zs h.d)).trans h.d,h.hD⟩
theorem PrS.drew {w W:World}{a:Qx.Ask}{m:Rm}{D:Nat}(h:PrS w a m D W):PrS w a m D W.drew:=h.on (Below.refl _ _).drew
theorem PrS.alloc {w W:World}{a:Qx.Ask}{m:Rm}{D:Nat}(h:PrS w a m D W)(o:Obj):PrS w a m D (W.alloc o):=h.on ((Below.refl _ _).alloc (zn _) _)
theorem PrS.lt {w W:World}{a:Qx.Ask}{m:Rm}{D:Nat}(h:PrS w a m D W):D<W.heap.size:=(zs h.d)
theorem PrR.far {w W:World}{c:Int}{R:Array Value}{e:Int}(h:PrR w c R e W){b:Nat}(hb:w.heap.size+4≤b)(o:Nat)(v:Value):PrR w c R e (W.setCell ⟨b,o,none⟩ v) :=
 ⟨(Below.heap_setCell _ _ _ _ (by show _≠b;omega)).trans h.c,(Below.heap_setCell _ _ _ _ (by show _≠b;omega)).trans h.r,(Below.heap_setCell _ _ _ _ (by show _≠b;omega)).trans h.e,h.b.setCell (p:=⟨b,o,none⟩) (by show _≤b;omega) _⟩
theorem PrS.set {w W:World}{a:Qx.Ask}{m:Rm}{D:Nat}(h:PrS w a m D W){b:Nat}(hb:D<b)(o:Nat)(v:Value):PrS w a m D (W.setCell ⟨b,o,none⟩ v) :=
 ⟨(Below.heap_setCell _ _ _ _ (by have:=h.hD;show _≠b;omega)).trans h.best,(Below.heap_setCell _ _ _ _ (by have:=h.hD;show _≠b;omega)).trans h.ask,h.res.far (by have:=h.hD;omega) o v,(Below.heap_setCell _ _ _ _ (by show _≠b;omega)).trans h.d,h.hD⟩
theorem PrS.cell {w W:World}{a:Qx.Ask}{m:Rm}{D:Nat}(h:PrS w a m D W)(i:Nat)(v:Value)(hv:(rtC m)[i]?=some v):W.cell? ⟨w.heap.size+1+1+1+1,i,none⟩=some v:=by
 rw [zc (show W.heap[w.heap.size+1+1+1+1]?=_ from h.best),hv]
theorem PrS.asks {w W:World}{a:Qx.Ask}{m:Rm}{D:Nat}(h:PrS w a m D W):W.cell? ⟨w.heap.size,0,none⟩=some (.int .i64 a.kind)∧W.cell? ⟨w.heap.size,1,none⟩=some (.int .i64 a.fr)∧W.cell? ⟨w.heap.size,2,none⟩=some (.int .i64 a.un)∧W.cell? ⟨w.heap.size,3,none⟩=some (.int .i64 a.pers):=by
 refine ⟨?_,?_,?_,?_⟩ <;> (rw [zc h.ask];rfl)
theorem PrS.fin {w W:World}{a:Qx.Ask}{m:Rm}{D:Nat}(h:PrS w a m D W)(c:Int)(R:Array Value)(e:Int) :
 PrR w c R e (((W.setCell ⟨w.heap.size+1,0,none⟩ (.int .i64 c)).setRow (w.heap.size+1+1) R).setCell ⟨w.heap.size+1+1+1,0,none⟩ (.int .i64 e)) ∧
 (((W.setCell ⟨w.heap.size+1,0,none⟩ (.int .i64 c)).setRow (w.heap.size+1+1) R).setCell ⟨w.heap.size+1+1+1,0,none⟩ (.int .i64 e)).heap[D]?=some (.deferred (some [])) ∧
 (W.setCell ⟨w.heap.size+1,0,none⟩ (.int .i64 c)).heap[w.heap.size+1+1]?=some (.cells Z1z 65 (0,0)) ∧
 ((W.setCell ⟨w.heap.size+1,0,none⟩ (.int .i64 c)).setRow (w.heap.size+1+1) R).cell? ⟨w.heap.size+1+1+1,0,none⟩=some (.int .i64 0) ∧
 ((W.setCell ⟨w.heap.size+1,0,none⟩ (.int .i64 c)).setRow (w.heap.size+1+1) R).frozen? ⟨w.heap.size+1+1+1,0,none⟩=false ∧
 (W.setCell ⟨w.heap.size+1,0,none⟩ (.int .i64 c)).heap[w.heap.size+1+1+1+1]?=some (.cells (rtC m) 65 (0,0)):=by
 have hD:=h.hD
 obtain ⟨_,_,g2,g3⟩:=h.res.cells
 refine ⟨h.res.set,(Below.heap_setCell _ _ _ D (by show _≠w.heap.size+1+1+1;omega)).trans ((Z04 _ _ _ _ (by omega)).trans ((Below.heap_setCell _ _ _ D (by show _≠w.heap.size+1;omega)).trans h.d)),
  (Below.heap_setCell _ _ _ _ (by show w.heap.size+1+1≠w.heap.size+1;omega)).trans h.res.r,
  (World.cell?_of_block (a:=⟨w.heap.size+1+1+1,0,none⟩) ((Z04 _ _ _ _ (by show w.heap.size+1+1+1≠_;omega)).trans (Below.heap_setCell _ _ _ _ (by show w.heap.size+1+1+1≠w.heap.size+1;omega)))).trans g2,
  (World.frozen?_of_block (a:=⟨w.heap.size+1+1+1,0,none⟩) ((Z04 _ _ _ _ (by show w.heap.size+1+1+1≠_;omega)).trans (Below.heap_setCell _ _ _ _ (by show w.heap.size+1+1+1≠w.heap.size+1;omega)))).trans g3,
  (Below.heap_setCell _ _ _ _ (by show w.heap.size+1+1+1+1≠w.heap.size+1;omega)).trans h.best⟩
theorem Zfb (n B0 lb ab nb:Nat)(v:Value)(ms:List Rm)(a:Qx.Ask)(night:Int)(hl:ms.length≤1000000)(hf:∀ m∈ms,Z11 m.r=0)(ha:a.okB=true)(hn0:a.fr≤night)(hn1:night<a.un) :
 SeqS Fence.wide n Tryz.prog 145 #[.pointer (some ⟨lb,0,none⟩),.pointer (some ⟨ab,0,none⟩),.pointer (some ⟨nb,0,none⟩)] encT (fun W=>ThB B0 lb ab nb v ms a night W) (Ts B0 lb ab nb) (fun xs=>xs=yl a night ms) (fun pre=>pre <+: yl a night ms) :=
 fun l J Jx W hok hJ hY h0=>Zii n l B0 lb ab nb v ms a night hl hf ha hn0 hn1 J Jx W hok hJ hY h0
set_option maxHeartbeats 4000000 in
theorem Zfc (rs:List Rt)(v:Value)(a:Qx.Ask)(night:Int)(w:World)(hv:RtsV w w.heap.size v rs)(hu:useB rs=true)(ha:a.okB=true)(h0:a.fr≤night)(h1':night<a.un) :
 Calls Tryz.prog 66 #[v,askV a,.int .i64 night] w (Zcq (Z0v rs a night) w):=by
 obtain ⟨hlen,hall,_⟩:=(Z36 rs).1 hu
 obtain ⟨ms,rfl,hm⟩:=Zme hv
 obtain ⟨A,c,rfl,_⟩:=id hm
 have hfr:∀ m∈ms,Z11 m.r=0:=fun m hm=>hall m.r (List.mem_map.2 ⟨m,hm,rfl⟩)
 rw [List.length_map] at hlen
 have hbest:=ZhC a night ms none
 obtain ⟨hI0,hlb,hab,hnb,hsz⟩:=bx0 w A ms.length c a night _ rfl
 have hRR:=hI0.res
 dsimp only [askV]
 have HM:=zh hm;have HFR:=zh hfr;have HBEST:=zh hbest;have HI0:=zh hI0;have HLB:=zh hlb;have HAB:=zh hab;have HNB:=zh hnb;have HSZ:=zh hsz;have HRR:=zh hRR;have HV:=zh hv;have HU:=zh hu;clear hm hfr hbest hI0 hlb hab hnb hsz hRR hv hu hall;refine (callsIn_wide (n:=5)).1 ?_
 refine callsIn_of_wp_marks Tryz.func66 rfl trivial ?_ rfl
 simp only [Tryz.ntmps66,List.size_toArray,List.length_cons,List.length_nil,Nat.reduceAdd,Nat.reduceSub,Array.replicate_succ,Array.replicate_zero,List.push_toArray,List.append_toArray,List.nil_append,List.cons_append]
 gi_wp2_with fail
 refine ⟨trivial,(callsIn_wide.2 (ZhB A ms.length c a night _)).mono ?_⟩
 rintro e w1 ⟨rfl,rfl⟩;gi_wp2_with fail
 simp only [Z1z,Zkf] at HI0 HLB HAB HNB HSZ HRR
 generalize (((((((w.alloc (.cells #[.int .i64 a.kind,.int .i64 a.fr,.int .i64 a.un,.int .i64 a.pers] 26)).alloc (.cells #[.int .i64 0] 3)).alloc (.cells #[.int .i64 0,.int .i64 0,.int .i64 0,.int .i64 0,.int .i64 0,.int .i64 0,.int .i64 0,.int .i64 0,.int .i64 0,.int .i64 0,.int .i64 0,.int .i64 0,.slice none 0 0,.int .i64 0,.int .i64 0,.slice none 0 0] 65)).alloc (.cells #[.int .i64 0] 35)).alloc (.cells #[.int .i64 0,.int .i64 (-1),.int .i64 0,.int .i64 0,.int .i64 0,.int .i64 0,.int .i64 0,.int .i64 0,.int .i64 0,.int .i64 0,.int .i64 0,.int .i64 0,.slice none 0 0,.int .i64 0,.int .i64 0,.slice none 0 0] 65)).alloc (.cells #[.slice A ms.length c] 22)).alloc (.cells #[.int .i64 a.kind,.int .i64 a.fr,.int .i64 a.un,.int .i64 a.pers] 26)).alloc (.cells #[.int .i64 night] 3)=W0 at *
 have hT0:ThB w.heap.size (w.heap.size+5) (w.heap.size+6) (w.heap.size+7) (.slice A ms.length c) ms a night W0:=⟨HLB.out,HAB.out,HNB.out,HM.out.keepS (fun b hb=>HRR.out.b.block b hb),by omega⟩
 have HT0:=zh hT0;clear hT0;refine Z6B rfl (by omega) (gf:=145) (lb:=#[.pointer (some ⟨w.heap.size+5,0,none⟩),.pointer (some ⟨w.heap.size+6,0,none⟩),.pointer (some ⟨w.heap.size+7,0,none⟩)]) (by simp [go_sem]) trivial (enters_of Tryz.func145 (by kernel_rfl) rfl)
  (Zfb _ w.heap.size (w.heap.size+5) (w.heap.size+6) (w.heap.size+7) (.slice A ms.length c) ms a night (by omega) HFR.out ha h0 h1') HT0.out.ts (fun W' hb=>HT0.out.on hb) (fun _=>rfl) (PrI w a) (PrX w)
  ⟨fun s W W' h hb=>h.below hb⟩
  (fun s W l o o' h hl ho hc=>h.put (by have:=HSZ.out;omega) o') (fun c s W l o o' h hl ho _=>h.put (by have:=HSZ.out;omega) o') HI0.out
  (fun x a' W=>∃ b:Nat,w.heap.size+8≤b∧W.heap[b]?=some (.cells (rtC x.1) 65 (0,0))∧a'=prA w A ms.length c a night b x)
  ?hAp ?assign ?body ?done ?stop
 case hAp =>
  rintro x a' W l o o' ⟨b,hb,hbx,rfl⟩ hl hc
  refine ⟨b,hb,(World.putObj_heap_other (fun e=>?_)).trans hbx,rfl⟩
  subst e;rw [hl] at hbx
  injection hbx with hbx
  subst hbx;cases hc
 case assign =>
  intro l pre x W K hW hsp hK
  obtain ⟨m,er⟩:=x
  have hmem:m∈ms:=ZhD (hsp.subset (by simp:(m,er)∈pre++[(m,er)]))
  obtain ⟨WA,wk,PA,pc,e1,e2,_⟩:=Z7F HM.out hmem
  have hone:=Zcr e1 e2
  have hnew:=za W (.cells (rtC m) 65)
  have hbl:=(Below.refl W.heap.size W).alloc (zn _) (.cells (rtC m) 65)
  have hsz8:w.heap.size+8≤W.heap.size:=by have:=HSZ.out;omega
  have HNEW:=zh hnew;have HBL:=zh hbl;have HSP:=zh hsp;clear hnew hbl hsp;have hrt:rtV m.r m.wv m.pv=.agg (rtC m):=rfl
  simp only [encT,hrt]
  gi_wp2_with (with_reducible refine Z22 rfl _ _ rfl _ (rtC m) rfl rfl rfl rfl hone ?_)
  exact hK _ _ HBL.out ⟨W.heap.size,hsz8,HNEW.out,rfl⟩
 case body =>
  rintro l pre ⟨m,er⟩ a' W ⟨o,h1,h2,h3,h4⟩ ⟨b,hb,hbx,rfl⟩ hsp
  have hmem:m∈ms:=ZhD (hsp.subset (by simp:(m,er)∈pre++[(m,er)]))
  have hlv:=(Z4s (Z21 (HFR.out m hmem))).2.2.1
  obtain ⟨WA,wk,PA,pc,e1,e2,_⟩:=Z7F HM.out hmem
  have hone:=Zcr e1 e2
  obtain ⟨g0,g1,g2,g3⟩:=h3.cells
  unfold prA
  by_cases he:er=0
  · subst he
    obtain ⟨q0,q1⟩:=Zfa o
    have k0:W.cell? ⟨w.heap.size+1+1+1+1,0,none⟩=some (.int .i64 (Z90 o)):=by rw [zc (show W.heap[w.heap.size+1+1+1+1]?=_ from h2),q0]
    have k1:W.cell? ⟨w.heap.size+1+1+1+1,1,none⟩=some (.int .i64 (Z4a o)):=by rw [zc (show W.heap[w.heap.size+1+1+1+1]?=_ from h2),q1]
    have b0:W.cell? ⟨b,0,none⟩=some (.int .i64 m.r.id):=by rw [zc hbx];rfl
    have b1:W.cell? ⟨b,1,none⟩=some (.int .i64 m.r.lv):=by rw [zc hbx];rfl
    have hst:=ZhG h1 m
    rw [ZhF m o hlv] at hst
    have hbs:=Zf9 o;have hyes:PrI w a (pre++[(m,0)]) W→True:=fun _=>trivial
    have HYES:Hid (pick none (pre++[(m,0)])=.ok (some m)→KeepsFrom W0.heap.size W (W.setRow (w.heap.size+1+1+1+1) (rtC m))∧Z1j (Ts w.heap.size (w.heap.size+5) (w.heap.size+6) (w.heap.size+7)) W (W.setRow (w.heap.size+1+1+1+1) (rtC m))∧PrI w a (pre++[(m,0)]) (W.setRow (w.heap.size+1+1+1+1) (rtC m))):=fun hp =>
     ⟨Z6r _ _ _ _,fun k hk=>Z04 _ _ _ _ (by rcases hk with hk | hk | hk | hk <;> omega),
      some m,hp,setRow_heap _ _ _ _ _ _ h2,⟨(Z04 _ _ _ _ (by omega)).trans h3.c,(Z04 _ _ _ _ (by omega)).trans h3.r,(Z04 _ _ _ _ (by omega)).trans h3.e,Z39 h3.b (by omega) _⟩,(Z04 _ _ _ _ (by omega)).trans h4⟩
    have HNO:Hid (pick none (pre++[(m,0)])=.ok o→KeepsFrom W0.heap.size W W∧Z1j (Ts w.heap.size (w.heap.size+5) (w.heap.size+6) (w.heap.size+7)) W W∧PrI w a (pre++[(m,0)]) W):=fun hp=>⟨KeepsFrom.refl _ _,Z1j.refl _ _,o,hp,h2,h3,h4⟩
    have H2:=zh h2;have H3:=zh h3;have H4:=zh h4;have HBX:=zh hbx;have HST:=zh hst;have HSP:=zh hsp;have H1:=zh h1;clear h2 h3 h4 hbx hst hsp h1 hyes q0 q1 g0 g1 g2 g3;by_cases c1:m.r.lv > Z4a o
    · have d1:decide (m.r.lv > Z4a o)=true:=by simpa using c1
      have hp:pick none (pre++[(m,0)])=.ok (some m):=by rw [HST.out,d1];rfl
      have HP:=zh hp;clear hp c1 HNO;gi_wp2_with (first | (with_reducible refine Z1g rfl _ rfl b rfl _ rfl HBX.out ?_) | (with_reducible refine Z0w rfl _ _ rfl (w.heap.size+1+1+1+1) _ (rtC m) rfl rfl H2.out hbs rfl hone ?_))
      exact HYES.out HP.out
    · have d1:decide (m.r.lv > Z4a o)=false:=by simpa using c1
      by_cases c2:m.r.lv=Z4a o
      · have d2:(m.r.lv==Z4a o)=true:=by simpa using c2
        by_cases c3:m.r.id<Z90 o
        · have d3:decide (m.r.id<Z90 o)=true:=by simpa using c3
          have hp:pick none (pre++[(m,0)])=.ok (some m):=by rw [HST.out,d1,d2,d3];rfl
          have HP:=zh hp;clear hp c1 c2 c3 HNO;gi_wp2_with (first | (with_reducible refine Z1g rfl _ rfl b rfl _ rfl HBX.out ?_) | (with_reducible refine Z0w rfl _ _ rfl (w.heap.size+1+1+1+1) _ (rtC m) rfl rfl H2.out hbs rfl hone ?_))
          exact HYES.out HP.out
        · have d3:decide (m.r.id<Z90 o)=false:=by simpa using c3
          have hp:pick none (pre++[(m,0)])=.ok o:=by rw [HST.out,d1,d2,d3];rfl
          have HP:=zh hp;clear hp c1 c2 c3 HYES;gi_wp2_with fail
          exact HNO.out HP.out
      · have d2:(m.r.lv==Z4a o)=false:=by simpa using c2
        have hp:pick none (pre++[(m,0)])=.ok o:=by rw [HST.out,d1,d2];rfl
        have HP:=zh hp;clear hp c1 c2 HYES;gi_wp2_with fail
        exact HNO.out HP.out
  · have d0:(er != 0)=true:=by simpa using he
    have hx:PrX w .ret (pre++[(m,er)]) (((W.setCell ⟨w.heap.size+1,0,none⟩ (.int .i64 0)).setRow (w.heap.size+1+1) Z1z).setCell ⟨w.heap.size+1+1+1,0,none⟩ (.int .i64 er)):=⟨rfl,er,Zkg h1 m he,h3.set⟩
    have hkp:KeepsFrom W0.heap.size W (((W.setCell ⟨w.heap.size+1,0,none⟩ (.int .i64 0)).setRow (w.heap.size+1+1) Z1z).setCell ⟨w.heap.size+1+1+1,0,none⟩ (.int .i64 er)):=((Z1A _ _ _ _).trans (Z6r _ _ _ _)).trans (Z1A _ _ _ _)
    have hr2:(W.setCell ⟨w.heap.size+1,0,none⟩ (.int .i64 0)).heap[w.heap.size+1+1]?=some (.cells Z1z 65 (0,0)):=(Below.heap_setCell _ _ _ _ (by show w.heap.size+1+1≠w.heap.size+1;omega)).trans h3.r
    have g4:((W.setCell ⟨w.heap.size+1,0,none⟩ (.int .i64 0)).setRow (w.heap.size+1+1) Z1z).cell? ⟨w.heap.size+1+1+1,0,none⟩=some (.int .i64 0):=(World.cell?_of_block (a:=⟨w.heap.size+1+1+1,0,none⟩) ((Z04 _ _ _ _ (by show w.heap.size+1+1+1≠_;omega)).trans (Below.heap_setCell _ _ _ _ (by show w.heap.size+1+1+1≠w.heap.size+1;omega)))).trans g2
    have g5:((W.setCell ⟨w.heap.size+1,0,none⟩ (.int .i64 0)).setRow (w.heap.size+1+1) Z1z).frozen? ⟨w.heap.size+1+1+1,0,none⟩=false:=(World.frozen?_of_block (a:=⟨w.heap.size+1+1+1,0,none⟩) ((Z04 _ _ _ _ (by show w.heap.size+1+1+1≠_;omega)).trans (Below.heap_setCell _ _ _ _ (by show w.heap.size+1+1+1≠w.heap.size+1;omega)))).trans g3
    have hz1:=Z5w
    have HX:=zh hx;have HKP:=zh hkp;have HR2:=zh hr2;have H2:=zh h2;have H3:=zh h3;have H4:=zh h4;have HBX:=zh hbx;have HSP:=zh hsp;have H1:=zh h1;clear hx hkp hr2 h2 h3 h4 hbx hsp h1 he hone;gi_wp2_with (with_reducible refine Z0w rfl _ _ rfl (w.heap.size+1+1) _ Z1z rfl rfl HR2.out rfl rfl hz1 ?_)
    exact ⟨HKP.out,HX.out⟩
 case done =>
  rintro D xs W hD rfl ⟨o,h1,h2,h3,h4⟩ hK
  have hb:=HBEST.out
  rw [h1] at hb
  have hD8:w.heap.size+8≤D:=by have:=HSZ.out;omega
  obtain ⟨g0,g1,g2,g3⟩:=h3.cells
  cases o with
  | none =>
   have hN:Z0v (ms.map (·.r)) a night=.no 4:=by unfold Z0v;rw [show Z3u a night none (ms.map (·.r))=_ from hb];rfl
   have k1:W.cell? ⟨w.heap.size+1+1+1+1,1,none⟩=some (.int .i64 (-1)):=by rw [zc (show W.heap[w.heap.size+1+1+1+1]?=_ from h2)];rfl
   have hS:=h3.set (c':=0) (R':=Z1z) (e':=4)
   have hr2:(W.setCell ⟨w.heap.size+1,0,none⟩ (.int .i64 0)).heap[w.heap.size+1+1]?=some (.cells Z1z 65 (0,0)):=(Below.heap_setCell _ _ _ _ (by show w.heap.size+1+1≠w.heap.size+1;omega)).trans h3.r
   have g4:((W.setCell ⟨w.heap.size+1,0,none⟩ (.int .i64 0)).setRow (w.heap.size+1+1) Z1z).cell? ⟨w.heap.size+1+1+1,0,none⟩=some (.int .i64 0):=(World.cell?_of_block (a:=⟨w.heap.size+1+1+1,0,none⟩) ((Z04 _ _ _ _ (by show w.heap.size+1+1+1≠_;omega)).trans (Below.heap_setCell _ _ _ _ (by show w.heap.size+1+1+1≠w.heap.size+1;omega)))).trans g2
   have g5:((W.setCell ⟨w.heap.size+1,0,none⟩ (.int .i64 0)).setRow (w.heap.size+1+1) Z1z).frozen? ⟨w.heap.size+1+1+1,0,none⟩=false:=(World.frozen?_of_block (a:=⟨w.heap.size+1+1+1,0,none⟩) ((Z04 _ _ _ _ (by show w.heap.size+1+1+1≠_;omega)).trans (Below.heap_setCell _ _ _ _ (by show w.heap.size+1+1+1≠w.heap.size+1;omega)))).trans g3
   have hz1:=Z5w
   have hK2:(((W.setCell ⟨w.heap.size+1,0,none⟩ (.int .i64 0)).setRow (w.heap.size+1+1) Z1z).setCell ⟨w.heap.size+1+1+1,0,none⟩ (.int .i64 4)).heap[D]?=some (.deferred (some [])) :=
    (Below.heap_setCell _ _ _ D (by show _≠w.heap.size+1+1+1;omega)).trans ((Z04 _ _ _ _ (by omega)).trans ((Below.heap_setCell _ _ _ D (by show _≠w.heap.size+1;omega)).trans hK))
   have HS:=zh hS;have HR2:=zh hr2;have HK2:=zh hK2;have HN:=zh hN;have H1:=zh h1;have H2:=zh h2;have H3:=zh h3;have H4:=zh h4;have HK:=zh hK;have HB:=zh hb;clear hS hr2 hK2 hN h1 h2 h3 h4 hK hb;gi_wp2_with (with_reducible refine Z0w rfl _ _ rfl (w.heap.size+1+1) _ Z1z rfl rfl HR2.out rfl rfl hz1 ?_)
   rw [HN.out]
   exact Z3v hD8 HK2.out rfl rfl rfl HS.out (fun w' hb=>⟨hb,rfl⟩)
  | some m =>
   have hb2:Z3u a night none (ms.map (·.r))=.ok (some m.r):=hb
   have hmem:m∈ms:=by
    rcases Zke _ _ _ m h1 rfl with h | ⟨e,h⟩
    · cases h
    · exact ZhD h
   have hrate:=HFR.out m hmem
   obtain ⟨WA,wk,PA,pc,e1,e2,_,f2⟩:=Z7F HM.out hmem
   have hone:=Zcr e1 e2
   have hlv:=(Z4s (Z21 hrate)).2.2.1
   obtain ⟨_,vp⟩:=Z3r (Z21 hrate)
   obtain ⟨hvf,hvw⟩:=Z5A vp
   have k1:W.cell? ⟨w.heap.size+1+1+1+1,1,none⟩=some (.int .i64 m.r.lv):=by rw [zc (show W.heap[w.heap.size+1+1+1+1]?=_ from h2)];rfl
   have dlv:decide (m.r.lv<0)=false:=by simp;omega
   have hS0:PrS w a m D W:=⟨h2,h4,h3,hK,hD8⟩
   have hvr:=Z94 ha h0 h1'
   have hvars:=fun W=>Zdy a night W ha h0 h1'
   simp only [askV] at hvars
   rw [e2] at f2
   have hval:=fun W (hb:Below w.heap.size w W)=>Z98 m.r.po m.r.pn m.r.pl (.slice PA (flen m.r.pl) pc) (Z1d a night) W ((f2.on hb).up hb.size) hvf hvw hvr
   have hN:Z0v (ms.map (·.r)) a night=match valE (Z1d a night) (m.r.po,m.r.pn) m.r.pl with | .no e=>.no e | .ok n d=>if rndE n d<0 then .no 22 else .ok (rndE n d) m.r:=by
    unfold Z0v;rw [hb2];rfl
   have hvv:=fun p q (h:valE (Z1d a night) (m.r.po,m.r.pn) m.r.pl=.ok p q)=>Z8D h
   have hve:=fun e (h:valE (Z1d a night) (m.r.po,m.r.pn) m.r.pl=.no e)=>Z4p h
   generalize valE (Z1d a night) (m.r.po,m.r.pn) m.r.pl=V at *
   have R13:Hid ((rtC m)[13]?=some (.int .i64 m.r.po)):=rfl
   have R14:Hid ((rtC m)[14]?=some (.int .i64 m.r.pn)):=rfl
   have R15:Hid ((rtC m)[15]?=some (.slice PA (flen m.r.pl) pc)):=by show (rtC m)[15]?=_;rw [← e2];rfl
   have HS0:=zh hS0;have HVARS:=zh hvars;have HVAL:=zh hval;have HVV:=zh hvv;have HVE:=zh hve;have HONE:=zh hone;have E1:=zh e1;have E2:=zh e2;have F2:=zh f2;have HN:=zh hN;clear hS0 hvars hval hvv hve hone e1 e2 f2 hN h2 h3 h4 h1 hb hb2 hK hmem hrate vp hvf hvw hvr g0 g1 g2 g3;gi_upto_region 11 with fail
   refine wpIn_wide.2 ?_
   clear k1;have HMS:Hid (∀ wx,PrS w a m D wx→wx.cell? ⟨w.heap.size+1+1+1+1,13,none⟩=some (.int .i64 m.r.po)∧wx.cell? ⟨w.heap.size+1+1+1+1,14,none⟩=some (.int .i64 m.r.pn)∧wx.cell? ⟨w.heap.size+1+1+1+1,15,none⟩=some (.slice PA (flen m.r.pl) pc)∧wx.cell? ⟨w.heap.size,0,none⟩=some (.int .i64 a.kind)∧wx.cell? ⟨w.heap.size,1,none⟩=some (.int .i64 a.fr)∧wx.cell? ⟨w.heap.size,2,none⟩=some (.int .i64 a.un)∧wx.cell? ⟨w.heap.size,3,none⟩=some (.int .i64 a.pers)∧PrS w a m D wx):=fun wx h=>by
    obtain ⟨k0,k1,k2,k3⟩:=h.asks
    exact ⟨h.cell 13 _ R13.out,h.cell 14 _ R14.out,h.cell 15 _ R15.out,k0,k1,k2,k3,h⟩
   have hWl:D<W.heap.size:=HS0.out.lt
   go_region_held3 (fun w'=>w'.cell? ⟨w.heap.size+1+1+1+1,13,none⟩=some (.int .i64 m.r.po)∧w'.cell? ⟨w.heap.size+1+1+1+1,14,none⟩=some (.int .i64 m.r.pn)∧w'.cell? ⟨w.heap.size+1+1+1+1,15,none⟩=some (.slice PA (flen m.r.pl) pc)∧w'.cell? ⟨w.heap.size,0,none⟩=some (.int .i64 a.kind)∧w'.cell? ⟨w.heap.size,1,none⟩=some (.int .i64 a.fr)∧w'.cell? ⟨w.heap.size,2,none⟩=some (.int .i64 a.un)∧w'.cell? ⟨w.heap.size,3,none⟩=some (.int .i64 a.pers)∧PrS w a m D w')
    (first | (with_reducible exact HMS.out _ HS0.out.drew) | (with_reducible exact HMS.out _ (HS0.out.alloc _).drew) | (with_reducible exact HMS.out _ L6) | (with_reducible exact HMS.out _ L5) | (with_reducible exact HMS.out _ (L6.alloc _)) | (with_reducible exact HMS.out _ (L5.alloc _)) | (exact HMS.out _ ((‹_∧_∧_∧_∧_∧_∧_∧PrS w a m D _›).2.2.2.2.2.2.2.alloc _)) | (exact HMS.out _ ((L6.set (b:=W.heap.size) hWl 0 _).set (b:=W.heap.size) hWl 1 _)) | (exact HMS.out _ ((L6.set (b:=w5.heap.size) L5.lt 0 _).set (b:=w5.heap.size) L5.lt 1 _)) | fail)
    (first
     | (go_at_call 108;have hA:=(‹_∧_∧_∧_∧_∧_∧_∧PrS w a m D _›).2.2.2.2.2.2.2;refine (HVARS.out _).mono ?_;rintro e w5 ⟨rfl,hb5⟩;have L5:=hA.on hb5;try (have hz:=(hb5.block W.heap.size (by simp [go_sem])).trans (za W (.cells #[.int .i64 0,.int .i64 0] 60));have HZ5:Hid (RatB w5 W.heap.size 0 0):=hz;clear hz);clear hb5 hA)
     | (go_at_call 107;have hA:=(‹_∧_∧_∧_∧_∧_∧_∧PrS w a m D _›).2.2.2.2.2.2.2;refine (HVAL.out _ hA.res.b).mono ?_;rintro e w6 ⟨rfl,hb6⟩;have L6:=hA.on hb6;first | (have hz:=HZ5.out.on hb6;have HZ6:=zh hz;have z0:=hz.c0;have z1:=hz.c1;have y0:=hz.fr 0;have y1:=hz.fr 1;clear hz hb6 hA) | (have hz:RatB w6 w5.heap.size 0 0:=(hb6.block w5.heap.size (by simp [go_sem])).trans (za w5 (.cells #[.int .i64 0,.int .i64 0] 60));have HZ6:=zh hz;have z0:=hz.c0;have z1:=hz.c1;have y0:=hz.fr 0;have y1:=hz.fr 1;clear hz hb6 hA) | (clear hb6 hA)))
   all_goals
    first
     | (have R7:RatB _ W.heap.size _ _:=Z6j HZ6.out (vN V) (vD V)
        have S7:=(L6.set (b:=W.heap.size) hWl 0 (.int .i64 (vN V))).set (b:=W.heap.size) hWl 1 (.int .i64 (vD V))
        clear z0 z1 y0 y1 HZ6;generalize (w6.setCell ⟨W.heap.size,0,none⟩ (.int .i64 (vN V))).setCell ⟨W.heap.size,1,none⟩ (.int .i64 (vD V))=w7 at *
        have hb7:D<W.heap.size:=hWl
        generalize W.heap.size=b7 at *)
     | (have R7:RatB _ w5.heap.size _ _:=Z6j HZ6.out (vN V) (vD V)
        have hb7:D<w5.heap.size:=L5.lt
        have S7:=(L6.set (b:=w5.heap.size) hb7 0 (.int .i64 (vN V))).set (b:=w5.heap.size) hb7 1 (.int .i64 (vD V))
        clear z0 z1 y0 y1 HZ6;generalize (w6.setCell ⟨w5.heap.size,0,none⟩ (.int .i64 (vN V))).setCell ⟨w5.heap.size,1,none⟩ (.int .i64 (vD V))=w7 at *
        clear L5;generalize w5.heap.size=b7 at *)
     | (have hb7:D<w6.heap.size:=L6.lt
        have R7:=RatB.new w6 (vN V) (vD V)
        have S7:=L6.alloc (.cells #[.int .i64 (vN V),.int .i64 (vD V)] 60)
        clear L5;generalize w6.alloc (.cells #[.int .i64 (vN V),.int .i64 (vD V)] 60)=w7 at *
        clear L6;generalize w6.heap.size=b7 at *)
    have hsq:w.heap.size+8≤D:=HS0.out.hD
    have c7:=R7.c0
    have d7:=R7.c1
    cases V with
    | no e =>
     have he:=HVE.out e rfl
     have hN2:Z0v (ms.map (·.r)) a night=.no e:=HN.out
     have de:(e != 0)=true:=by simp;omega
     obtain ⟨p1,p2,p3,p4,p5,_⟩:=S7.fin 0 Z1z e
     obtain ⟨g0,g1,g2,g3⟩:=S7.res.cells
     have hz1:=Z5w
     have P1:=zh p1;have P2:=zh p2;have P3:=zh p3;have HN2:=zh hN2;clear p1 p2 p3 hN2 S7 R7 he;simp only [vN,vD,vE] at c7 d7 ⊢
     gi_wp2_with (with_reducible refine Z0w rfl _ _ rfl (w.heap.size+1+1) _ Z1z rfl rfl P3.out rfl rfl hz1 ?_)
     rw [HN2.out]
     exact Z3v hsq P2.out rfl rfl rfl P1.out (fun w' hb=>⟨hb,rfl⟩)
    | ok x d =>
     have hrat:=HVV.out x d rfl
     have hrnd:=fun W=>Zfj x d W hrat
     have hN2:Z0v (ms.map (·.r)) a night=if rndE x d<0 then .no 22 else .ok (rndE x d) m.r:=HN.out
     generalize rndE x d=z at *
     have HRND:=zh hrnd;have HN2:=zh hN2;have HS7:=zh S7;clear hrnd hN2 S7 R7 hrat;simp only [vN,vD,vE] at c7 d7 ⊢
     gi_wp2_with fail
     refine ⟨trivial,(callsIn_wide.2 (HRND.out _)).mono ?_⟩
     rintro e w8 ⟨rfl,hb8⟩;have S8:=HS7.out.on hb8
     clear hb8 c7 d7;obtain ⟨g0,g1,g2,g3⟩:=S8.res.cells
     by_cases hz:z<0
     · have dz:decide (z<0)=true:=by simpa using hz
       have hN3:Z0v (ms.map (·.r)) a night=.no 22:=by rw [HN2.out,if_pos hz]
       obtain ⟨p1,p2,p3,p4,p5,_⟩:=S8.fin 0 Z1z 22
       have hz1:=Z5w
       have P1:=zh p1;have P2:=zh p2;have P3:=zh p3;have HN3:=zh hN3;clear p1 p2 p3 hN3 S8 hz;gi_wp2_with (with_reducible refine Z0w rfl _ _ rfl (w.heap.size+1+1) _ Z1z rfl rfl P3.out rfl rfl hz1 ?_)
       rw [HN3.out]
       exact Z3v hsq P2.out rfl rfl rfl P1.out (fun w' hb=>⟨hb,rfl⟩)
     · have dz:decide (z<0)=false:=by simpa using hz
       have hN3:Z0v (ms.map (·.r)) a night=.ok z m.r:=by rw [HN2.out,if_neg hz]
       have S9:=S8.drew
       obtain ⟨p1,p2,p3,p4,p5,p6⟩:=S9.fin z (rtC m) 0
       have p7:=S9.best
       obtain ⟨j0,j1,_,_⟩:=S9.res.cells
       have P1:=zh p1;have P2:=zh p2;have P3:=zh p3;have HN3:=zh hN3;have P6:=zh p6;have P7:=zh p7;have P4:=zh p4;have P5:=zh p5;have J0:=zh j0;have J1:=zh j1;clear p1 p2 p3 hN3 p6 p7 p4 p5 j0 j1 S8 hz S9;gi_upto_region 17 with fail
       refine wpIn_wide.2 ?_
       clear g0 g1 g2 g3;have g0:=J0.out
       have g1:=J1.out
       refine wp_region_any (by kernel_rfl) ?_
       try (change wpAny _ _ _ _ _ _ _ (World.drew _))
       generalize w8.drew=w9 at *
       refine wpAny_ready (rs:=[0,1]) (by kernel_rfl) (by simp) ?_
       refine AllReady.cons rfl (fun K hK=>?_) ?_
       · go_simp
         refine hK _ _ ?_
         clear hK K;refine wpAny_ready (rs:=[1,2]) (by kernel_rfl) (by simp) ?_
         refine AllReady.cons rfl (fun K hK=>?_) ?_
         · rw [if_pos (by rfl)]
           refine wp_load_row 65 _ rfl (w.heap.size+1+1+1+1) rfl _ (rtC m) _ _ P7.out Tryz.underlying65 rfl (by rw [Tryz.infoRateSz];rfl) ?_
           refine hK _ _ ?_
           clear hK K;refine wpAny_ready (rs:=[2]) (by kernel_rfl) (by simp) ?_
           refine AllReady.cons rfl (fun K hK=>?_) AllReady.nil
           go_simp
           refine hK _ _ ?_
           clear hK K;refine wpAny_ready (rs:=[3]) (by kernel_rfl) (by simp) ?_
           refine AllReady.cons rfl (fun K hK=>?_) AllReady.nil
           rw [if_pos (by rfl)]
           refine wp_store_row 65 _ _ rfl (w.heap.size+1+1) (rtC m) rfl rfl _ _ P3.out (by rw [Tryz.infoRateSz];rfl) rfl HONE.out ?_
           refine hK _ _ ?_
           clear hK K;have p4:=P4.out
           have p5:=P5.out
           refine wpAny_ready (rs:=[4]) (by kernel_rfl) (by simp) ?_
           refine AllReady.cons rfl (fun K hK=>?_) AllReady.nil
           go_simp
           refine hK _ _ ?_
           clear hK K;refine wpAny_done (by kernel_rfl) ?_ _
           gi_wp2_with fail
           rw [HN3.out]
           exact Z3v hsq P2.out rfl rfl rfl P1.out (fun w' hb=>⟨hb,m.wv,m.pv,HONE.out,rfl⟩)
         · refine AllReady.cons rfl (fun K hK=>?_) AllReady.nil
           go_simp
           refine hK _ _ ?_
           clear hK K;refine wpAny_ready (rs:=[1]) (by kernel_rfl) (by simp) ?_
           refine AllReady.cons rfl (fun K hK=>?_) AllReady.nil
           rw [if_pos (by rfl)]
           refine wp_load_row 65 _ rfl (w.heap.size+1+1+1+1) rfl _ (rtC m) _ _ P6.out Tryz.underlying65 rfl (by rw [Tryz.infoRateSz];rfl) ?_
           refine hK _ _ ?_
           clear hK K;refine wpAny_ready (rs:=[3]) (by kernel_rfl) (by simp) ?_
           refine AllReady.cons rfl (fun K hK=>?_) AllReady.nil
           rw [if_pos (by rfl)]
           refine wp_store_row 65 _ _ rfl (w.heap.size+1+1) (rtC m) rfl rfl _ _ P3.out (by rw [Tryz.infoRateSz];rfl) rfl HONE.out ?_
           refine hK _ _ ?_
           clear hK K;have p4:=P4.out
           have p5:=P5.out
           refine wpAny_ready (rs:=[4]) (by kernel_rfl) (by simp) ?_
           refine AllReady.cons rfl (fun K hK=>?_) AllReady.nil
           go_simp
           refine hK _ _ ?_
           clear hK K;refine wpAny_done (by kernel_rfl) ?_ _
           gi_wp2_with fail
           rw [HN3.out]
           exact Z3v hsq P2.out rfl rfl rfl P1.out (fun w' hb=>⟨hb,m.wv,m.pv,HONE.out,rfl⟩)
       · refine AllReady.cons rfl (fun K hK=>?_) AllReady.nil
         rw [if_pos (by rfl)]
         refine wp_load_row 65 _ rfl (w.heap.size+1+1+1+1) rfl _ (rtC m) _ _ P7.out Tryz.underlying65 rfl (by rw [Tryz.infoRateSz];rfl) ?_
         refine hK _ _ ?_
         clear hK K;refine wpAny_ready (rs:=[0]) (by kernel_rfl) (by simp) ?_
         refine AllReady.cons rfl (fun K hK=>?_) AllReady.nil
         go_simp
         refine hK _ _ ?_
         clear hK K;refine wpAny_ready (rs:=[2]) (by kernel_rfl) (by simp) ?_
         refine AllReady.cons rfl (fun K hK=>?_) AllReady.nil
         go_simp
         refine hK _ _ ?_
         clear hK K;refine wpAny_ready (rs:=[3]) (by kernel_rfl) (by simp) ?_
         refine AllReady.cons rfl (fun K hK=>?_) AllReady.nil
         rw [if_pos (by rfl)]
         refine wp_store_row 65 _ _ rfl (w.heap.size+1+1) (rtC m) rfl rfl _ _ P3.out (by rw [Tryz.infoRateSz];rfl) rfl HONE.out ?_
         refine hK _ _ ?_
         clear hK K;have p4:=P4.out
         have p5:=P5.out
         refine wpAny_ready (rs:=[4]) (by kernel_rfl) (by simp) ?_
         refine AllReady.cons rfl (fun K hK=>?_) AllReady.nil
         go_simp
         refine hK _ _ ?_
         clear hK K;refine wpAny_done (by kernel_rfl) ?_ _
         gi_wp2_with fail
         rw [HN3.out]
         exact Z3v hsq P2.out rfl rfl rfl P1.out (fun w' hb=>⟨hb,m.wv,m.pv,HONE.out,rfl⟩)
 case stop =>
  rintro D c' pre W hD hpre ⟨rfl,e,h1,h3⟩ hK
  have hD8:w.heap.size+8≤D:=by have:=HSZ.out;omega
  obtain ⟨rest,hrest⟩:=hpre
  have hN:Z0v (ms.map (·.r)) a night=.no e:=by
   have hb:=HBEST.out
   rw [← hrest,h1 rest] at hb
   unfold Z0v;rw [show Z3u a night none (ms.map (·.r))=_ from hb]
  have H1:=zh h1;have H3:=zh h3;have HN:=zh hN;have HK:=zh hK;clear h1 h3 hN hK;gi_wp2_with fail
  rw [HN.out]
  exact Z3v hD8 HK.out rfl rfl rfl H3.out (fun w' hb=>⟨hb,rfl⟩)
end Go.Proofs.YtnepkoepbapgeaaGreatDoor
