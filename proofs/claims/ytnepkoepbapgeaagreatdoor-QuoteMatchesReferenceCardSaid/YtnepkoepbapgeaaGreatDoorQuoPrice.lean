import Derived.Test.YtnepkoepbapgeaaGreatDoorQuoDig
import Derived.Sort.CutIn
namespace Go.Proofs.YtnepkoepbapgeaaGreatDoor
open _root_.Go.Proofs.Tryz
open Value (int slice)
open IntKind (i64)
set_option maxRecDepth 100000
open Go.RowKit Lx Px Qx Go.Shelf
attribute [local go_sem] Oper.semAt_some
theorem Zkd (A:Option Addr)(k c:Nat)(a:Qx.Ask)(B:Int)(w:World):Calls prog 106 #[slice A k c,.agg #[int i64 a.kind,int i64 a.fr,int i64 a.un,int i64 a.pers],int i64 B] w λe w' =>
 e=.returned (.func (.func 145) #[] #[.pointer (some ⟨w.heap.size,0,none⟩),.pointer (some ⟨w.heap.size+1,0,none⟩),.pointer (some ⟨w.heap.size+1+1,0,none⟩)]) /\
 w'=((w.alloc (.cells #[slice A k c] 22)).alloc (.cells #[int i64 a.kind,int i64 a.fr,int i64 a.un,int i64 a.pers] 26)).alloc (.cells #[int i64 B] 3):=by
 have C:∀ (fn:Fn) (first cap:Array Value) (w:World),(Instr.makeFunc fn first cap).run prog w=.ok (.func fn first cap) w:=λ_ _ _ _=>rfl;go_enter func106,ntmps106;go_wp2_with fail;go_ret;exact ⟨rfl,rfl⟩
def pick:Option Rm->List (Rm × Int)->Except Int (Option Rm)
 | o,[]=>.ok o
 | o,(m,e)::l=>if e≠0 then .error e else pick (if Qx.Z46 m.r (o.map (·.r))=true then some m else o) l
theorem Z90 (o:Option Rm)(l r:List (Rm × Int)):pick o (l++r)=match pick o l with | .error e=>.error e | .ok o'=>pick o' r:=by
 induction l generalizing o with
 | nil=>rfl
 | cons x l ih =>
  obtain ⟨m,e⟩:=x;simp only [zc2,pick];split
  · rfl
  · exact ih _
theorem Zke (a:Qx.Ask)(B:Int):∀ (C:List Rm) (o:Option Rm),Z2g a B (o.map (·.r)) (C.map (·.r))=match pick o (yl a B C) with | .error e=>.error e | .ok o'=>.ok (o'.map (·.r)):=by
 intro C;induction C with
 | nil=>intro o;rfl
 | cons m C ih =>
  intro o;have F:yl a B (m::C)=(yOf a B m).toList++yl a B C:=by unfold yl;cases h:yOf a B m <;> simp [h]
  rw [List.map_cons,Z2g,F];rcases ZaC m.r a B with h | h | h
  · have:yOf a B m=none:=by unfold yOf;rw [zp h]
    rw [this,h,zf (by omega),zf (by simp)];exact ih o
  · have:yOf a B m=some (m,0):=by unfold yOf;rw [zf (by omega),zf (by omega)]
    rw [this,h,zf (by omega)];have D:(if (1:Int)=1/\Qx.Z46 m.r (o.map (·.r))=true then some m.r else o.map (·.r))=(if Qx.Z46 m.r (o.map (·.r))=true then some m else o).map (·.r):=by
     by_cases hb:Qx.Z46 m.r (o.map (·.r))=true
     · rw [zp ⟨rfl,hb⟩,zp hb];rfl
     · rw [zf (λx=>hb x.2),zf hb]
    rw [D,ih];simp only [Option.toList,zc2,zn2,pick,ne_eq,not_true_eq_false,if_false]
  · have:yOf a B m=some (m,-(apR m.r a B)):=by unfold yOf;rw [zf (by omega),zp h]
    rw [this,zp h];simp only [Option.toList,zc2,zn2,pick];rw [zp (by omega)]
theorem Zny:∀ (l:List (Rm × Int)) (o C:Option Rm) (m:Rm),pick o l=.ok C->C=some m->o=some m\/∃ e,(m,e)∈l:=by
 intro l;induction l with
 | nil=>intro o C m h e;simp only [pick,Except.ok.injEq] at h;exact .inl (by rw [h,e])
 | cons x l ih =>
  intro o C m h e;obtain ⟨n,er⟩:=x;simp only [pick] at h;split at h
  · cases h
  · rcases ih _ _ m h e with B | ⟨D,B⟩
    · split at B
      · injection B with B;subst B;exact .inr ⟨er,by simp⟩
      · exact .inl B
    · exact .inr ⟨D,by simp [B]⟩
theorem Zkf {a:Qx.Ask}{F:Int}{C:List Rm}{m:Rm}{e:Int}(h:(m,e)∈yl a F C):m∈C:=by
 unfold yl at h;rw [List.mem_filterMap] at h;obtain ⟨G,D,B⟩:=h;unfold yOf at B;split at B
 · cases B
 · injection B with B;injection B with h3 h4;subst h3;exact D
def Z29:Array Value:=#[int i64 0,int i64 0,int i64 0,int i64 0,int i64 0,int i64 0,int i64 0,int i64 0,int i64 0,int i64 0,int i64 0,int i64 0,slice none 0 0,int i64 0,int i64 0,slice none 0 0]
def Znz:Array Value:=#[int i64 0,int i64 (-1),int i64 0,int i64 0,int i64 0,int i64 0,int i64 0,int i64 0,int i64 0,int i64 0,int i64 0,int i64 0,slice none 0 0,int i64 0,int i64 0,slice none 0 0]
def rtC (m:Rm):Array Value:=#[int i64 m.r.id,int i64 m.r.lv,int i64 m.r.kd,int i64 m.r.fr,int i64 m.r.un,int i64 m.r.ls,int i64 m.r.mo,int i64 m.r.ar,int i64 m.r.kn,int i64 m.r.kq,int i64 m.r.wo,int i64 m.r.wn,m.wv,int i64 m.r.po,int i64 m.r.pn,m.pv]
def Zkg:Option Rm->Array Value
 | none=>Znz
 | some m=>rtC m
theorem Zhe (o:Option Rm):(Zkg o).size=16:=by cases o <;> rfl
structure PrR (w:World) (c:Int) (R:Array Value) (e:Int) (W:World):Prop where
 c:W.heap[w.heap.size+1]?=some (.cells #[int i64 c] 3 (0,0))
 r:W.heap[w.heap.size+2]?=some (.cells R 65 (0,0))
 e:W.heap[w.heap.size+3]?=some (.cells #[int i64 e] 35 (0,0))
 b:Below w.heap.size w W
theorem PrR.on {w W B:World}{c:Int}{R:Array Value}{e:Int}(h:PrR w c R e W)(hb:Below W.heap.size W B):PrR w c R e B := ⟨(hb.block _ (zs h.c)).trans h.c,(hb.block _ (zs h.r)).trans h.r,(hb.block _ (zs h.e)).trans h.e,Z00 h.b hb⟩
theorem PrR.put {w W:World}{c:Int}{R:Array Value}{e:Int}(h:PrR w c R e W){l:Nat}(C:w.heap.size+4<=l)(B:Obj):PrR w c R e (W.putObj l B) := ⟨(zQ (by omega)).trans h.c,(zQ (by omega)).trans h.r,(zQ (by omega)).trans h.e,h.b.trans ((zr _ _).grown (grownBy_putObj' W l B) (by have:=h.b.size;omega) (λk e=>by cases e;omega))⟩
def PrI (w:World)(a:Qx.Ask)(pre:List (Rm × Int))(W:World):Prop := ∃ o,pick none pre=.ok o/\W.heap[w.heap.size+4]?=some (.cells (Zkg o) 65 (0,0))/\PrR w 0 Z29 0 W /\ W.heap[w.heap.size]?=some (.cells #[int i64 a.kind,int i64 a.fr,int i64 a.un,int i64 a.pers] 26 (0,0))
def PrX (w:World)(c:Code)(pre:List (Rm × Int))(W:World):Prop := c=.ret/\∃ e:Int,(∀ rest,pick none (pre++rest)=.error e)/\PrR w 0 Z29 e W
theorem PrI.below {w:World}{a:Qx.Ask}{s:List (Rm × Int)}{W B:World}(h:PrI w a s W)(hb:Below W.heap.size W B):PrI w a s B:=by
 obtain ⟨o,F,C,G,D⟩:=h;exact ⟨o,F,(hb.block _ (zs C)).trans C,G.on hb,(hb.block _ (zs D)).trans D⟩
theorem PrI.res {w:World}{a:Qx.Ask}{W:World}(h:PrI w a [] W):PrR w 0 Z29 0 W:=by obtain ⟨_,_,_,B,_⟩:=h;exact B
theorem PrI.put {w:World}{a:Qx.Ask}{s:List (Rm × Int)}{W:World}(h:PrI w a s W){l:Nat}(H:w.heap.size+5<=l)(B:Obj):PrI w a s (W.putObj l B):=by
 obtain ⟨x,D,G,F,C⟩:=h;exact ⟨x,D,(zQ (by omega)).trans G,F.put (by omega) B,(zQ (by omega)).trans C⟩
theorem PrX.put {w:World}{c:Code}{s:List (Rm × Int)}{W:World}(h:PrX w c s W){l:Nat}(G:w.heap.size+5<=l)(B:Obj):PrX w c s (W.putObj l B):=by
 obtain ⟨F,e,C,D⟩:=h;exact ⟨F,e,C,D.put (by omega) B⟩
def Zea (x:Qx.N)(w:World)(e:Ending)(w':World):Prop := Below w.heap.size w w'/\match x with
  | .ok c r=>∃ wv pv,(rtC ⟨r,wv,pv⟩).all (·.oneCell')=true/\e=.returned (.tuple #[int i64 c,.agg (rtC ⟨r,wv,pv⟩),int i64 0])
  | .no er=>e=.returned (.tuple #[int i64 0,.agg Z29,int i64 er])
theorem Z88 {W:World}{o:Obj}{k:Nat}(h:k=W.heap.size):(W.alloc o).heap[k]?=some o:=by subst h;exact za W o
theorem Z5h {W:World}{o:Obj}{k:Nat}{v:Option Obj}(h:k<W.heap.size)(B:W.heap[k]?=v):(W.alloc o).heap[k]?=v:=(Below.heap_alloc _ _ _ h).trans B
theorem bx0 (w:World)(A:Option Addr)(k c:Nat)(a:Qx.Ask)(C:Int)(B:World)(D:B=((((((((w.alloc (.cells #[int i64 a.kind,int i64 a.fr,int i64 a.un,int i64 a.pers] 26)).alloc (.cells #[int i64 0] 3)).alloc (.cells Z29 65)).alloc (.cells #[int i64 0] 35)).alloc (.cells Znz 65)).alloc (.cells #[slice A k c] 22)).alloc (.cells #[int i64 a.kind,int i64 a.fr,int i64 a.un,int i64 a.pers] 26)).alloc (.cells #[int i64 C] 3))) : PrI w a [] B/\B.heap[w.heap.size+5]?=some (.cells #[slice A k c] 22 (0,0))/\B.heap[w.heap.size+6]?=some (.cells #[int i64 a.kind,int i64 a.fr,int i64 a.un,int i64 a.pers] 26 (0,0))/\B.heap[w.heap.size+7]?=some (.cells #[int i64 C] 3 (0,0))/\B.heap.size=w.heap.size+8:=by
 subst D;have F:Below w.heap.size w ((((((((w.alloc (.cells #[int i64 a.kind,int i64 a.fr,int i64 a.un,int i64 a.pers] 26)).alloc (.cells #[int i64 0] 3)).alloc (.cells Z29 65)).alloc (.cells #[int i64 0] 35)).alloc (.cells Znz 65)).alloc (.cells #[slice A k c] 22)).alloc (.cells #[int i64 a.kind,int i64 a.fr,int i64 a.un,int i64 a.pers] 26)).alloc (.cells #[int i64 C] 3)) := ((((((((zr _ _).alloc (zn _) _).alloc (by simp) _).alloc (by simp;omega) _).alloc (by simp;omega) _).alloc (by simp;omega) _).alloc (by simp;omega) _).alloc (by simp;omega) _).alloc (by simp;omega) _;refine ⟨⟨none,rfl,?_,⟨?_,?_,?_,F⟩,?_⟩,?_,?_,?_,by simp⟩
 all_goals
  try simp only [Zkg]
  repeat (first | (refine Z88 ?_;first | rfl | (simp only [zk];done) | (simp only [zk];omega)) | (refine Z5h ?_ ?_;· (simp only [zk];omega)))
theorem Z91 {w:World}{B:Nat}{v:Value}{I:List Rm}(h:RmsV w B v I){m:Rm}(M:m∈I):∃ C D G F,m.wv=slice C (flen m.r.wl) D/\m.pv=slice G (flen m.r.pl) F/\FoV w B m.wv m.r.wl/\FoV w B m.pv m.r.pl:=by
 obtain ⟨A,c,rfl,_⟩:=id h;obtain ⟨k,hk,rfl⟩:=List.getElem_of_mem M;obtain ⟨g,o,_,_,_,H,J⟩:=ZiB h hk;obtain ⟨C,D,L,_⟩:=id H;obtain ⟨G,F,N,_⟩:=id J;exact ⟨C,D,G,F,L,N,H,J⟩
theorem Zeb {m:Rm}{B C:Option Addr}{i j k l:Nat}(F:m.wv=slice B i k)(D:m.pv=slice C j l):(rtC m).all (·.oneCell')=true:=by
 unfold rtC;rw [F,D];simp [Value.oneCell']
def prA (w:World)(A:Option Addr)(k c:Nat)(a:Qx.Ask)(night:Int)(b:Nat)(x:Rm × Int):Act := { tmps:=#[slice A k c,.agg #[int i64 a.kind,int i64 a.fr,int i64 a.un,int i64 a.pers],int i64 night,undef,.pointer (some ⟨w.heap.size,0,none⟩),undef,.pointer (some ⟨w.heap.size+1,0,none⟩),.pointer (some ⟨w.heap.size+1+1,0,none⟩),.pointer (some ⟨w.heap.size+1+1+1,0,none⟩),.pointer (some ⟨w.heap.size+1+1+1+1,0,none⟩),.pointer (some ⟨b,0,none⟩),int i64 x.2,undef,undef,undef,undef,.agg #[int i64 0,int i64 (-1),int i64 0,int i64 0,int i64 0,int i64 0,int i64 0,int i64 0,int i64 0,int i64 0,int i64 0,int i64 0,slice none 0 0,int i64 0,int i64 0,slice none 0 0],slice A k c,.agg #[int i64 a.kind,int i64 a.fr,int i64 a.un,int i64 a.pers],int i64 night,.func (.func 145) #[] #[.pointer (some ⟨w.heap.size+1+1+1+1+1,0,none⟩),.pointer (some ⟨w.heap.size+1+1+1+1+1+1,0,none⟩),.pointer (some ⟨w.heap.size+1+1+1+1+1+1+1,0,none⟩)],.agg (rtC x.1),int i64 x.2,undef,undef,undef,undef,undef,undef,undef,undef,undef,undef,undef,undef,undef,undef,undef,undef,undef,undef,undef,undef,undef,undef,undef,undef,undef,undef,undef,undef,undef,undef,undef,undef,undef,undef,undef,undef,undef,undef,undef,undef,undef,undef,undef,undef,undef,undef,undef,undef,undef,undef,undef],defers:=[] }
def Z51:Option Rm->Int
 | none=>-1
 | some m=>m.r.lv
def Za4:Option Rm->Int
 | none=>0
 | some m=>m.r.id
theorem Zhf (o:Option Rm):(Zkg o)[0]?=some (int i64 (Za4 o))/\(Zkg o)[1]?=some (int i64 (Z51 o)):=by cases o <;> exact ⟨rfl,rfl⟩
theorem Zkh (m:Rm)(o:Option Rm)(h:0<=m.r.lv):Qx.Z46 m.r (o.map (·.r))=(decide (m.r.lv > Z51 o) || ((m.r.lv==Z51 o)&&decide (m.r.id<Za4 o))):=by
 cases o with
 | none =>
  have:decide (m.r.lv > -1)=true:=by simp;omega
  show true=_;rw [show Z51 none = -1 from rfl,this];rfl
 | some b=>rfl
theorem Zki {B:List (Rm × Int)}{o:Option Rm}(h:pick none B=.ok o)(m:Rm):pick none (B++[(m,0)])=.ok (if Qx.Z46 m.r (o.map (·.r))=true then some m else o):=by
 rw [Z90,h];simp [pick]
theorem ZnA {B:List (Rm × Int)}{o:Option Rm}(h:pick none B=.ok o)(m:Rm){e:Int}(he:e≠0)(rest:List (Rm × Int)):pick none ((B++[(m,e)])++rest)=.error e:=by
 rw [List.append_assoc,Z90,h];simp [pick,he]
theorem Z7x (B:Nat)(W:World)(g:Nat)(cs:Array Value):KeepsFrom B W (W.setRow g cs):=by
 refine ⟨by rw [Z3j];exact zn _,λk o _ hk hc=>?_⟩;unfold World.setRow;simp only;rw [zM];split
 · rw [hk];cases o <;> first | rfl | cases hc
 · exact hk
theorem Z2a (B:Nat)(W:World)(p:Addr)(v:Value):KeepsFrom B W (W.setCell p v):=(KeepsOthers.setCell W p v).from _
theorem Z6q:Z29.all (·.oneCell')=true:=by simp [Z29,Value.oneCell']
theorem PrR.cells {w W:World}{c:Int}{R:Array Value}{e:Int}(h:PrR w c R e W):W.cell? ⟨w.heap.size+1,0,none⟩=some (int i64 c)/\W.frozen? ⟨w.heap.size+1,0,none⟩=false/\W.cell? ⟨w.heap.size+1+1+1,0,none⟩=some (int i64 e)/\W.frozen? ⟨w.heap.size+1+1+1,0,none⟩=false:=by
 have B:=h.c;have he:W.heap[w.heap.size+1+1+1]?=_:=h.e;exact ⟨by rw [zc B];rfl,by simp [World.frozen?,B],by rw [zc he];rfl,by simp [World.frozen?,he]⟩
theorem PrR.set {w W:World}{c c':Int}{R R':Array Value}{e e':Int}(h:PrR w c R e W):PrR w c' R' e' (((W.setCell ⟨w.heap.size+1,0,none⟩ (int i64 c')).setRow (w.heap.size+1+1) R').setCell ⟨w.heap.size+1+1+1,0,none⟩ (int i64 e')):=by
 refine ⟨?_,?_,?_,?_⟩
 · rw [zg _ _ _ _ (by show w.heap.size+1≠w.heap.size+1+1+1;omega),Z06 _ _ _ _ (by omega)];exact Z6x h.c _
 · rw [zg _ _ _ _ (by show w.heap.size+2≠w.heap.size+1+1+1;omega)];exact setRow_heap _ _ R R' _ _ ((zg _ _ _ _ (by show w.heap.size+1+1≠w.heap.size+1;omega)).trans h.r)
 · refine Z6x (x:=int i64 e) ?_ _;rw [Z06 _ _ _ _ (by omega),zg _ _ _ _ (by show w.heap.size+1+1+1≠w.heap.size+1;omega)];exact h.e
 · exact (Z1B (h.b.setCell (p:=⟨w.heap.size+1,0,none⟩) (by show w.heap.size<=w.heap.size+1;omega) _) (by omega) _).setCell (p:=⟨w.heap.size+1+1+1,0,none⟩) (by show w.heap.size<=w.heap.size+1+1+1;omega) _
theorem Z4g {w W:World}{D:Nat}{tmps:Array Value}{x:Qx.N}{c:Int}{L Y C G H M J U R X S V I O T F:Value}{e:Int}(hD:w.heap.size+8<=D)(y:W.heap[D]?=some (.deferred (some []))) (t6:tmps[6]?.getD undef=.pointer (some ⟨w.heap.size+1,0,none⟩)) (t7:tmps[7]?.getD undef=.pointer (some ⟨w.heap.size+1+1,0,none⟩)) (t8:tmps[8]?.getD undef=.pointer (some ⟨w.heap.size+1+1+1,0,none⟩)) (hR:PrR w c #[L,Y,C,G,H,M,J,U,R,X,S,V,I,O,T,F] e W) (hP:∀ w',Below w.heap.size w w'->Zea x w (.returned (.tuple #[int i64 c,.agg #[L,Y,C,G,H,M,J,U,R,X,S,V,I,O,T,F],int i64 e])) w') : bodyPostM Fence.wide 5 prog f66 (Zea x w) Exit.ret { tmps,defers:=[{ target:=.collected D,args:=#[] }] } W:=by
 refine ⟨by simp,.inl ⟨_,_,rfl,run_takeDeferred y,?_⟩⟩;have Z:=hR.put (l:=D) (by omega) (.deferred none);obtain ⟨c0,_,c2,_⟩:=Z.cells;have B:(W.putObj D (.deferred none)).heap[w.heap.size+1+1]?=_:=Z.r;have d:(W.putObj D (.deferred none)).cell? ⟨w.heap.size+1+1,0,none⟩=some L:=by rw [zc B];rfl
 have k1:(W.putObj D (.deferred none)).cell? ⟨w.heap.size+1+1,1,none⟩=some Y:=by rw [zc B];rfl
 have j:(W.putObj D (.deferred none)).cell? ⟨w.heap.size+1+1,2,none⟩=some C:=by rw [zc B];rfl
 have k3:(W.putObj D (.deferred none)).cell? ⟨w.heap.size+1+1,3,none⟩=some G:=by rw [zc B];rfl
 have A:(W.putObj D (.deferred none)).cell? ⟨w.heap.size+1+1,4,none⟩=some H:=by rw [zc B];rfl
 have k5:(W.putObj D (.deferred none)).cell? ⟨w.heap.size+1+1,5,none⟩=some M:=by rw [zc B];rfl
 have f:(W.putObj D (.deferred none)).cell? ⟨w.heap.size+1+1,6,none⟩=some J:=by rw [zc B];rfl
 have k7:(W.putObj D (.deferred none)).cell? ⟨w.heap.size+1+1,7,none⟩=some U:=by rw [zc B];rfl
 have k8:(W.putObj D (.deferred none)).cell? ⟨w.heap.size+1+1,8,none⟩=some R:=by rw [zc B];rfl
 have k9:(W.putObj D (.deferred none)).cell? ⟨w.heap.size+1+1,9,none⟩=some X:=by rw [zc B];rfl
 have q:(W.putObj D (.deferred none)).cell? ⟨w.heap.size+1+1,10,none⟩=some S:=by rw [zc B];rfl
 have g:(W.putObj D (.deferred none)).cell? ⟨w.heap.size+1+1,11,none⟩=some V:=by rw [zc B];rfl
 have bb:(W.putObj D (.deferred none)).cell? ⟨w.heap.size+1+1,12,none⟩=some I:=by rw [zc B];rfl
 have m:(W.putObj D (.deferred none)).cell? ⟨w.heap.size+1+1,13,none⟩=some O:=by rw [zc B];rfl
 have bc:(W.putObj D (.deferred none)).cell? ⟨w.heap.size+1+1,14,none⟩=some T:=by rw [zc B];rfl
 have ba:(W.putObj D (.deferred none)).cell? ⟨w.heap.size+1+1,15,none⟩=some F:=by rw [zc B];rfl
 refine ⟨.tuple #[int i64 c,.agg #[L,Y,C,G,H,M,J,U,R,X,S,V,I,O,T,F],int i64 e],?_,hP _ Z.b⟩;simp [results,results66,go_sem,t6,t7,t8,c0,c2,d,k1,j,k3,A,k5,f,k7,k8,k9,q,g,bb,m,bc,ba]
structure PrS (w:World) (a:Qx.Ask) (m:Rm) (D:Nat) (W:World):Prop where
 best:W.heap[w.heap.size+4]?=some (.cells (rtC m) 65 (0,0))
 ask:W.heap[w.heap.size]?=some (.cells #[int i64 a.kind,int i64 a.fr,int i64 a.un,int i64 a.pers] 26 (0,0))
 res:PrR w 0 Z29 0 W
 d:W.heap[D]?=some (.deferred (some []))
 hD:w.heap.size+8<=D
theorem PrS.on {w W B:World}{a:Qx.Ask}{m:Rm}{D:Nat}(h:PrS w a m D W)(hb:Below W.heap.size W B):PrS w a m D B := ⟨(hb.block _ (zs h.best)).trans h.best,(hb.block _ (zs h.ask)).trans h.ask,h.res.on hb,(hb.block _ (zs h.d)).trans h.d,h.hD⟩
theorem PrS.drew {w W:World}{a:Qx.Ask}{m:Rm}{D:Nat}(h:PrS w a m D W):PrS w a m D W.drew:=h.on (zr _ _).drew
theorem PrS.alloc {w W:World}{a:Qx.Ask}{m:Rm}{D:Nat}(h:PrS w a m D W)(o:Obj):PrS w a m D (W.alloc o):=h.on ((zr _ _).alloc (zn _) _)
theorem PrS.lt {w W:World}{a:Qx.Ask}{m:Rm}{D:Nat}(h:PrS w a m D W):D<W.heap.size:=(zs h.d)
theorem PrR.far {w W:World}{c:Int}{R:Array Value}{e:Int}(h:PrR w c R e W){b:Nat}(hb:w.heap.size+4<=b)(o:Nat)(v:Value):PrR w c R e (W.setCell ⟨b,o,none⟩ v) := ⟨(zg _ _ _ _ (by show _≠b;omega)).trans h.c,(zg _ _ _ _ (by show _≠b;omega)).trans h.r,(zg _ _ _ _ (by show _≠b;omega)).trans h.e,h.b.setCell (p:=⟨b,o,none⟩) (by show _<=b;omega) _⟩
theorem PrS.set {w W:World}{a:Qx.Ask}{m:Rm}{D:Nat}(h:PrS w a m D W){b:Nat}(hb:D<b)(o:Nat)(v:Value):PrS w a m D (W.setCell ⟨b,o,none⟩ v) := ⟨(zg _ _ _ _ (by have:=h.hD;show _≠b;omega)).trans h.best,(zg _ _ _ _ (by have:=h.hD;show _≠b;omega)).trans h.ask,h.res.far (by have:=h.hD;omega) o v,(zg _ _ _ _ (by show _≠b;omega)).trans h.d,h.hD⟩
theorem PrS.cell {w W:World}{a:Qx.Ask}{m:Rm}{D:Nat}(h:PrS w a m D W)(i:Nat)(v:Value)(B:(rtC m)[i]?=some v):W.cell? ⟨w.heap.size+1+1+1+1,i,none⟩=some v:=by
 rw [zc (show W.heap[w.heap.size+1+1+1+1]?=_ from h.best),B]
theorem PrS.asks {w W:World}{a:Qx.Ask}{m:Rm}{D:Nat}(h:PrS w a m D W):W.cell? ⟨w.heap.size,0,none⟩=some (int i64 a.kind)/\W.cell? ⟨w.heap.size,1,none⟩=some (int i64 a.fr)/\W.cell? ⟨w.heap.size,2,none⟩=some (int i64 a.un)/\W.cell? ⟨w.heap.size,3,none⟩=some (int i64 a.pers):=by
 refine ⟨?_,?_,?_,?_⟩ <;> (rw [zc h.ask];rfl)
theorem PrS.fin {w W:World}{a:Qx.Ask}{m:Rm}{D:Nat}(h:PrS w a m D W)(c:Int)(R:Array Value)(e:Int) : PrR w c R e (((W.setCell ⟨w.heap.size+1,0,none⟩ (int i64 c)).setRow (w.heap.size+1+1) R).setCell ⟨w.heap.size+1+1+1,0,none⟩ (int i64 e)) /\ (((W.setCell ⟨w.heap.size+1,0,none⟩ (int i64 c)).setRow (w.heap.size+1+1) R).setCell ⟨w.heap.size+1+1+1,0,none⟩ (int i64 e)).heap[D]?=some (.deferred (some [])) /\ (W.setCell ⟨w.heap.size+1,0,none⟩ (int i64 c)).heap[w.heap.size+1+1]?=some (.cells Z29 65 (0,0)) /\ ((W.setCell ⟨w.heap.size+1,0,none⟩ (int i64 c)).setRow (w.heap.size+1+1) R).cell? ⟨w.heap.size+1+1+1,0,none⟩=some (int i64 0) /\ ((W.setCell ⟨w.heap.size+1,0,none⟩ (int i64 c)).setRow (w.heap.size+1+1) R).frozen? ⟨w.heap.size+1+1+1,0,none⟩=false /\ (W.setCell ⟨w.heap.size+1,0,none⟩ (int i64 c)).heap[w.heap.size+1+1+1+1]?=some (.cells (rtC m) 65 (0,0)):=by
 have F:=h.hD;obtain ⟨_,_,B,C⟩:=h.res.cells;refine ⟨h.res.set,(zg _ _ _ D (by show _≠w.heap.size+1+1+1;omega)).trans ((Z06 _ _ _ _ (by omega)).trans ((zg _ _ _ D (by show _≠w.heap.size+1;omega)).trans h.d)), (zg _ _ _ _ (by show w.heap.size+1+1≠w.heap.size+1;omega)).trans h.res.r, (World.cell?_of_block (a:=⟨w.heap.size+1+1+1,0,none⟩) ((Z06 _ _ _ _ (by show w.heap.size+1+1+1≠_;omega)).trans (zg _ _ _ _ (by show w.heap.size+1+1+1≠w.heap.size+1;omega)))).trans B, (World.frozen?_of_block (a:=⟨w.heap.size+1+1+1,0,none⟩) ((Z06 _ _ _ _ (by show w.heap.size+1+1+1≠_;omega)).trans (zg _ _ _ _ (by show w.heap.size+1+1+1≠w.heap.size+1;omega)))).trans C, (zg _ _ _ _ (by show w.heap.size+1+1+1+1≠w.heap.size+1;omega)).trans h.best⟩
theorem Zhg (n G lb D F:Nat)(v:Value)(B:List Rm)(a:Qx.Ask)(C:Int)(N:B.length<=1000000)(M:∀ m∈B,Z15 m.r=0)(H:a.okB=true)(I:a.fr<=C)(L:C<a.un) : SeqS Fence.wide n prog 145 #[.pointer (some ⟨lb,0,none⟩),.pointer (some ⟨D,0,none⟩),.pointer (some ⟨F,0,none⟩)] encT (λW=>ThB G lb D F v B a C W) (Ts G lb D F) (λxs=>xs=yl a C B) (λpre=>pre <+: yl a C B) := λl J Jx W hok hJ hY h0=>Zjn n l G lb D F v B a C N M H I L J Jx W hok hJ hY h0
set_option maxHeartbeats 4000000 in
theorem Zhh (rs:List Rt)(v:Value)(a:Qx.Ask)(C:Int)(w:World)(hv:RtsV w w.heap.size v rs)(hu:useB rs=true)(ha:a.okB=true)(h0:a.fr<=C)(bF:C<a.un) : Calls prog 66 #[v,askV a,int i64 C] w (Zea (Z0m rs a C) w):=by
 obtain ⟨cr,bR,_⟩:=(Z2d rs).1 hu;obtain ⟨H,rfl,hm⟩:=Zpk hv;obtain ⟨A,c,rfl,_⟩:=id hm;have bP:∀ m∈H,Z15 m.r=0:=λm hm=>bR m.r (List.mem_map.2 ⟨m,hm,rfl⟩);rw [List.length_map] at cr;have b5:=Zke a C H none;obtain ⟨bE,cc,bJ,b2,bI⟩:=bx0 w A H.length c a C _ rfl;have ca:=bE.res;dsimp only [askV];have HM:=zh hm;have bx:=zh bP;have cf:=zh b5;have bU:=zh bE;have bK:=zh cc;have b3:=zh bJ;have bM:=zh b2;have bb:=zh bI;have bW:=zh ca;have HV:=zh hv;have HU:=zh hu;clear hm bP b5 bE cc bJ b2 bI ca hv hu bR;refine (callsIn_wide (n:=5)).1 ?_;refine callsIn_of_wp_marks func66 rfl trivial ?_ rfl;simp only [ntmps66,List.size_toArray,zw,zx,Nat.reduceAdd,Nat.reduceSub,Array.replicate_succ,Array.replicate_zero,List.push_toArray,List.append_toArray,zn2,zc2];gi_wp2_with fail;refine ⟨trivial,(callsIn_wide.2 (Zkd A H.length c a C _)).mono ?_⟩;rintro e w1 ⟨rfl,rfl⟩;gi_wp2_with fail;simp only [Z29,Znz] at bU bK b3 bM bb bW;generalize (((((((w.alloc (.cells #[int i64 a.kind,int i64 a.fr,int i64 a.un,int i64 a.pers] 26)).alloc (.cells #[int i64 0] 3)).alloc (.cells #[int i64 0,int i64 0,int i64 0,int i64 0,int i64 0,int i64 0,int i64 0,int i64 0,int i64 0,int i64 0,int i64 0,int i64 0,slice none 0 0,int i64 0,int i64 0,slice none 0 0] 65)).alloc (.cells #[int i64 0] 35)).alloc (.cells #[int i64 0,int i64 (-1),int i64 0,int i64 0,int i64 0,int i64 0,int i64 0,int i64 0,int i64 0,int i64 0,int i64 0,int i64 0,slice none 0 0,int i64 0,int i64 0,slice none 0 0] 65)).alloc (.cells #[slice A H.length c] 22)).alloc (.cells #[int i64 a.kind,int i64 a.fr,int i64 a.un,int i64 a.pers] 26)).alloc (.cells #[int i64 C] 3)=W0 at *
 have bL:ThB w.heap.size (w.heap.size+5) (w.heap.size+6) (w.heap.size+7) (slice A H.length c) H a C W0:=⟨bK.out,b3.out,bM.out,HM.out.keepS (λb hb=>bW.out.b.block b hb),by omega⟩
 have cd:=zh bL;clear bL;refine Z7E rfl (by omega) (gf:=145) (lb:=#[.pointer (some ⟨w.heap.size+5,0,none⟩),.pointer (some ⟨w.heap.size+6,0,none⟩),.pointer (some ⟨w.heap.size+7,0,none⟩)]) (by simp [go_sem]) trivial (enters_of func145 (by kernel_rfl) rfl) (Zhg _ w.heap.size (w.heap.size+5) (w.heap.size+6) (w.heap.size+7) (slice A H.length c) H a C (by omega) bx.out ha h0 bF) cd.out.ts (λW' hb=>cd.out.on hb) (λ_=>rfl) (PrI w a) (PrX w) ⟨λs W W' h hb=>h.below hb⟩ (λs W l o o' h hl ho hc=>h.put (by have:=bb.out;omega) o') (λc s W l o o' h hl ho _=>h.put (by have:=bb.out;omega) o') bU.out (λx a' W=>∃ b:Nat,w.heap.size+8<=b/\W.heap[b]?=some (.cells (rtC x.1) 65 (0,0))/\a'=prA w A H.length c a C b x)
  ?hAp ?assign ?body ?done ?stop
 case hAp =>
  rintro x a' W l o o' ⟨b,hb,N,rfl⟩ hl hc;refine ⟨b,hb,(zQ (λe=>?_)).trans N,rfl⟩;subst e;rw [hl] at N;injection N with N
  subst N;cases hc
 case assign =>
  intro l M x W K hW R B;obtain ⟨m,er⟩:=x;have g:m∈H:=Zkf (R.subset (by simp:(m,er)∈M++[(m,er)]));obtain ⟨WA,wk,PA,pc,e1,S,_⟩:=Z91 HM.out g;have f:=Zeb e1 S;have cb:=za W (.cells (rtC m) 65);have bY:=(zr W.heap.size W).alloc (zn _) (.cells (rtC m) 65);have cG:w.heap.size+8<=W.heap.size:=by have:=bb.out;omega
  have ct:=zh cb;have cB:=zh bY;have bQ:=zh R;clear cb bY R;have ch:rtV m.r m.wv m.pv=.agg (rtC m):=rfl;simp only [encT,ch];gi_wp2_with (with_reducible refine Z2j rfl _ _ rfl _ (rtC m) rfl rfl rfl rfl f ?_);exact B _ _ cB.out ⟨W.heap.size,cG,ct.out,rfl⟩
 case body =>
  rintro l M ⟨m,er⟩ a' W ⟨o,I,L,F,O⟩ ⟨b,hb,N,rfl⟩ R;have g:m∈H:=Zkf (R.subset (by simp:(m,er)∈M++[(m,er)]));have bO:=(Z3e (Z0G (bx.out m g))).2.2.1;obtain ⟨WA,wk,PA,pc,e1,S,_⟩:=Z91 HM.out g;have f:=Zeb e1 S;obtain ⟨g0,g1,X,Y⟩:=F.cells;unfold prA;by_cases he:er=0
  · subst he;obtain ⟨q0,q1⟩:=Zhf o;have k0:W.cell? ⟨w.heap.size+1+1+1+1,0,none⟩=some (int i64 (Za4 o)):=by rw [zc (show W.heap[w.heap.size+1+1+1+1]?=_ from L),q0]
    have k1:W.cell? ⟨w.heap.size+1+1+1+1,1,none⟩=some (int i64 (Z51 o)):=by rw [zc (show W.heap[w.heap.size+1+1+1+1]?=_ from L),q1]
    have b0:W.cell? ⟨b,0,none⟩=some (int i64 m.r.id):=by rw [zc N];rfl
    have b1:W.cell? ⟨b,1,none⟩=some (int i64 m.r.lv):=by rw [zc N];rfl
    have bB:=Zki I m;rw [Zkh m o bO] at bB;have bX:=Zhe o;have cn:PrI w a (M++[(m,0)]) W->True:=λ_=>trivial;have br:Hid (pick none (M++[(m,0)])=.ok (some m)->KeepsFrom W0.heap.size W (W.setRow (w.heap.size+1+1+1+1) (rtC m))/\Z1z (Ts w.heap.size (w.heap.size+5) (w.heap.size+6) (w.heap.size+7)) W (W.setRow (w.heap.size+1+1+1+1) (rtC m))/\PrI w a (M++[(m,0)]) (W.setRow (w.heap.size+1+1+1+1) (rtC m))):=λJ =>⟨Z7x _ _ _ _,λk hk=>Z06 _ _ _ _ (by rcases hk with hk | hk | hk | hk <;> omega), some m,J,setRow_heap _ _ _ _ _ _ L,⟨(Z06 _ _ _ _ (by omega)).trans F.c,(Z06 _ _ _ _ (by omega)).trans F.r,(Z06 _ _ _ _ (by omega)).trans F.e,Z1B F.b (by omega) _⟩,(Z06 _ _ _ _ (by omega)).trans O⟩
    have bn:Hid (pick none (M++[(m,0)])=.ok o->KeepsFrom W0.heap.size W W/\Z1z (Ts w.heap.size (w.heap.size+5) (w.heap.size+6) (w.heap.size+7)) W W/\PrI w a (M++[(m,0)]) W):=λJ=>⟨KeepsFrom.refl _ _,Z1z.refl _ _,o,J,L,F,O⟩
    have H2:=zh L;have H3:=zh F;have H4:=zh O;have bC:=zh N;have bs:=zh bB;have bQ:=zh R;have H1:=zh I;clear L F O N bB R I cn q0 q1 g0 g1 X Y;by_cases c1:m.r.lv > Z51 o
    · have d1:decide (m.r.lv > Z51 o)=true:=by simpa using c1
      have J:pick none (M++[(m,0)])=.ok (some m):=by rw [bs.out,d1];rfl
      have HP:=zh J;clear J c1 bn;gi_wp2_with (first | (with_reducible refine Z1w rfl _ rfl b rfl _ rfl bC.out ?_) | (with_reducible refine Z0D rfl _ _ rfl (w.heap.size+1+1+1+1) _ (rtC m) rfl rfl H2.out bX rfl f ?_));exact br.out HP.out
    · have d1:decide (m.r.lv > Z51 o)=false:=by simpa using c1
      by_cases c2:m.r.lv=Z51 o
      · have d2:(m.r.lv==Z51 o)=true:=by simpa using c2
        by_cases c3:m.r.id<Za4 o
        · have d3:decide (m.r.id<Za4 o)=true:=by simpa using c3
          have J:pick none (M++[(m,0)])=.ok (some m):=by rw [bs.out,d1,d2,d3];rfl
          have HP:=zh J;clear J c1 c2 c3 bn;gi_wp2_with (first | (with_reducible refine Z1w rfl _ rfl b rfl _ rfl bC.out ?_) | (with_reducible refine Z0D rfl _ _ rfl (w.heap.size+1+1+1+1) _ (rtC m) rfl rfl H2.out bX rfl f ?_));exact br.out HP.out
        · have d3:decide (m.r.id<Za4 o)=false:=by simpa using c3
          have J:pick none (M++[(m,0)])=.ok o:=by rw [bs.out,d1,d2,d3];rfl
          have HP:=zh J;clear J c1 c2 c3 br;gi_wp2_with fail;exact bn.out HP.out
      · have d2:(m.r.lv==Z51 o)=false:=by simpa using c2
        have J:pick none (M++[(m,0)])=.ok o:=by rw [bs.out,d1,d2];rfl
        have HP:=zh J;clear J c1 c2 br;gi_wp2_with fail;exact bn.out HP.out
  · have d0:(er != 0)=true:=by simpa using he
    have hx:PrX w .ret (M++[(m,er)]) (((W.setCell ⟨w.heap.size+1,0,none⟩ (int i64 0)).setRow (w.heap.size+1+1) Z29).setCell ⟨w.heap.size+1+1+1,0,none⟩ (int i64 er)):=⟨rfl,er,ZnA I m he,F.set⟩
    have bZ:KeepsFrom W0.heap.size W (((W.setCell ⟨w.heap.size+1,0,none⟩ (int i64 0)).setRow (w.heap.size+1+1) Z29).setCell ⟨w.heap.size+1+1+1,0,none⟩ (int i64 er)):=((Z2a _ _ _ _).trans (Z7x _ _ _ _)).trans (Z2a _ _ _ _);have bh:(W.setCell ⟨w.heap.size+1,0,none⟩ (int i64 0)).heap[w.heap.size+1+1]?=some (.cells Z29 65 (0,0)):=(zg _ _ _ _ (by show w.heap.size+1+1≠w.heap.size+1;omega)).trans F.r;have g4:((W.setCell ⟨w.heap.size+1,0,none⟩ (int i64 0)).setRow (w.heap.size+1+1) Z29).cell? ⟨w.heap.size+1+1+1,0,none⟩=some (int i64 0):=(World.cell?_of_block (a:=⟨w.heap.size+1+1+1,0,none⟩) ((Z06 _ _ _ _ (by show w.heap.size+1+1+1≠_;omega)).trans (zg _ _ _ _ (by show w.heap.size+1+1+1≠w.heap.size+1;omega)))).trans X;have g5:((W.setCell ⟨w.heap.size+1,0,none⟩ (int i64 0)).setRow (w.heap.size+1+1) Z29).frozen? ⟨w.heap.size+1+1+1,0,none⟩=false:=(World.frozen?_of_block (a:=⟨w.heap.size+1+1+1,0,none⟩) ((Z06 _ _ _ _ (by show w.heap.size+1+1+1≠_;omega)).trans (zg _ _ _ _ (by show w.heap.size+1+1+1≠w.heap.size+1;omega)))).trans Y;have ba:=Z6q;have HX:=zh hx;have cC:=zh bZ;have bA:=zh bh;have H2:=zh L;have H3:=zh F;have H4:=zh O;have bC:=zh N;have bQ:=zh R;have H1:=zh I;clear hx bZ bh L F O N R I he f;gi_wp2_with (with_reducible refine Z0D rfl _ _ rfl (w.heap.size+1+1) _ Z29 rfl rfl bA.out rfl rfl ba ?_);exact ⟨cC.out,HX.out⟩
 case done =>
  rintro D xs W hD rfl ⟨o,I,L,F,O⟩ B;have hb:=cf.out;rw [I] at hb;have bu:w.heap.size+8<=D:=by have:=bb.out;omega
  obtain ⟨g0,g1,X,Y⟩:=F.cells;cases o with
  | none =>
   have Z:Z0m (H.map (·.r)) a C=.no 4:=by unfold Z0m;rw [show Z2g a C none (H.map (·.r))=_ from hb];rfl
   have k1:W.cell? ⟨w.heap.size+1+1+1+1,1,none⟩=some (int i64 (-1)):=by rw [zc (show W.heap[w.heap.size+1+1+1+1]?=_ from L)];rfl
   have hS:=F.set (c':=0) (R':=Z29) (e':=4);have bh:(W.setCell ⟨w.heap.size+1,0,none⟩ (int i64 0)).heap[w.heap.size+1+1]?=some (.cells Z29 65 (0,0)):=(zg _ _ _ _ (by show w.heap.size+1+1≠w.heap.size+1;omega)).trans F.r;have g4:((W.setCell ⟨w.heap.size+1,0,none⟩ (int i64 0)).setRow (w.heap.size+1+1) Z29).cell? ⟨w.heap.size+1+1+1,0,none⟩=some (int i64 0):=(World.cell?_of_block (a:=⟨w.heap.size+1+1+1,0,none⟩) ((Z06 _ _ _ _ (by show w.heap.size+1+1+1≠_;omega)).trans (zg _ _ _ _ (by show w.heap.size+1+1+1≠w.heap.size+1;omega)))).trans X;have g5:((W.setCell ⟨w.heap.size+1,0,none⟩ (int i64 0)).setRow (w.heap.size+1+1) Z29).frozen? ⟨w.heap.size+1+1+1,0,none⟩=false:=(World.frozen?_of_block (a:=⟨w.heap.size+1+1+1,0,none⟩) ((Z06 _ _ _ _ (by show w.heap.size+1+1+1≠_;omega)).trans (zg _ _ _ _ (by show w.heap.size+1+1+1≠w.heap.size+1;omega)))).trans Y;have ba:=Z6q;have b9:(((W.setCell ⟨w.heap.size+1,0,none⟩ (int i64 0)).setRow (w.heap.size+1+1) Z29).setCell ⟨w.heap.size+1+1+1,0,none⟩ (int i64 4)).heap[D]?=some (.deferred (some [])) := (zg _ _ _ D (by show _≠w.heap.size+1+1+1;omega)).trans ((Z06 _ _ _ _ (by omega)).trans ((zg _ _ _ D (by show _≠w.heap.size+1;omega)).trans B));have HS:=zh hS;have bA:=zh bh;have cv:=zh b9;have HN:=zh Z;have H1:=zh I;have H2:=zh L;have H3:=zh F;have H4:=zh O;have HK:=zh B;have HB:=zh hb;clear hS bh b9 Z I L F O B hb;gi_wp2_with (with_reducible refine Z0D rfl _ _ rfl (w.heap.size+1+1) _ Z29 rfl rfl bA.out rfl rfl ba ?_);rw [HN.out];exact Z4g bu cv.out rfl rfl rfl HS.out (λw' hb=>⟨hb,rfl⟩)
  | some m =>
   have bT:Z2g a C none (H.map (·.r))=.ok (some m.r):=hb;have g:m∈H:=by
    rcases Zny _ _ _ m I rfl with h | ⟨e,h⟩
    · cases h
    · exact Zkf h
   have bv:=bx.out m g;obtain ⟨WA,wk,PA,pc,e1,S,_,f2⟩:=Z91 HM.out g;have f:=Zeb e1 S;have bO:=(Z3e (Z0G bv)).2.2.1;obtain ⟨_,vp⟩:=Z2r (Z0G bv);obtain ⟨bH,ce⟩:=Z4k vp;have k1:W.cell? ⟨w.heap.size+1+1+1+1,1,none⟩=some (int i64 m.r.lv):=by rw [zc (show W.heap[w.heap.size+1+1+1+1]?=_ from L)];rfl
   have cH:decide (m.r.lv<0)=false:=by simp;omega
   have bS:PrS w a m D W:=⟨L,O,F,B,bu⟩
   have b4:=Z5j ha h0 bF;have bz:=λW=>Zft a C W ha h0 bF;simp only [askV] at bz;rw [S] at f2;have bV:=λW (hb:Below w.heap.size w W)=>Zac m.r.po m.r.pn m.r.pl (slice PA (flen m.r.pl) pc) (Z0w a C) W ((f2.on hb).up hb.size) bH ce b4;have Z:Z0m (H.map (·.r)) a C=match valE (Z0w a C) (m.r.po,m.r.pn) m.r.pl with | .no e=>.no e | .ok n d=>if rndE n d<0 then .no 22 else .ok (rndE n d) m.r:=by unfold Z0m;rw [bT];rfl
   have b6:=λp q (h:valE (Z0w a C) (m.r.po,m.r.pn) m.r.pl=.ok p q)=>Z7m h;have b8:=λe (h:valE (Z0w a C) (m.r.po,m.r.pn) m.r.pl=.no e)=>Z3B h;generalize valE (Z0w a C) (m.r.po,m.r.pn) m.r.pl=V at *
   have cA:Hid ((rtC m)[13]?=some (int i64 m.r.po)):=rfl;have cj:Hid ((rtC m)[14]?=some (int i64 m.r.pn)):=rfl;have cF:Hid ((rtC m)[15]?=some (slice PA (flen m.r.pl) pc)):=by show (rtC m)[15]?=_;rw [<- S];rfl
   have bp:=zh bS;have cx:=zh bz;have cz:=zh bV;have cm:=zh b6;have cy:=zh b8;have bc:=zh f;have E1:=zh e1;have E2:=zh S;have F2:=zh f2;have HN:=zh Z;clear bS bz bV b6 b8 f e1 S f2 Z L F O I hb bT B g bv vp bH ce b4 g0 g1 X Y;gi_upto_region 11 with fail
   refine wpIn_wide.2 ?_;clear k1;have T:Hid (∀ wx,PrS w a m D wx->wx.cell? ⟨w.heap.size+1+1+1+1,13,none⟩=some (int i64 m.r.po)/\wx.cell? ⟨w.heap.size+1+1+1+1,14,none⟩=some (int i64 m.r.pn)/\wx.cell? ⟨w.heap.size+1+1+1+1,15,none⟩=some (slice PA (flen m.r.pl) pc)/\wx.cell? ⟨w.heap.size,0,none⟩=some (int i64 a.kind)/\wx.cell? ⟨w.heap.size,1,none⟩=some (int i64 a.fr)/\wx.cell? ⟨w.heap.size,2,none⟩=some (int i64 a.un)/\wx.cell? ⟨w.heap.size,3,none⟩=some (int i64 a.pers)/\PrS w a m D wx):=λwx h=>by obtain ⟨k0,k1,k2,k3⟩:=h.asks;exact ⟨h.cell 13 _ cA.out,h.cell 14 _ cj.out,h.cell 15 _ cF.out,k0,k1,k2,k3,h⟩
   have bf:D<W.heap.size:=bp.out.lt;go_region_held3 (λw'=>w'.cell? ⟨w.heap.size+1+1+1+1,13,none⟩=some (int i64 m.r.po)/\w'.cell? ⟨w.heap.size+1+1+1+1,14,none⟩=some (int i64 m.r.pn)/\w'.cell? ⟨w.heap.size+1+1+1+1,15,none⟩=some (slice PA (flen m.r.pl) pc)/\w'.cell? ⟨w.heap.size,0,none⟩=some (int i64 a.kind)/\w'.cell? ⟨w.heap.size,1,none⟩=some (int i64 a.fr)/\w'.cell? ⟨w.heap.size,2,none⟩=some (int i64 a.un)/\w'.cell? ⟨w.heap.size,3,none⟩=some (int i64 a.pers)/\PrS w a m D w') (first | (with_reducible exact T.out _ bp.out.drew) | (with_reducible exact T.out _ (bp.out.alloc _).drew) | (with_reducible exact T.out _ U) | (with_reducible exact T.out _ L5) | (with_reducible exact T.out _ (U.alloc _)) | (with_reducible exact T.out _ (L5.alloc _)) | (exact T.out _ ((‹_/\_/\_/\_/\_/\_/\_/\PrS w a m D _›).2.2.2.2.2.2.2.alloc _)) | (exact T.out _ ((U.set (b:=W.heap.size) bf 0 _).set (b:=W.heap.size) bf 1 _)) | (exact T.out _ ((U.set (b:=w5.heap.size) L5.lt 0 _).set (b:=w5.heap.size) L5.lt 1 _)) | fail) (first
     | (go_at_call 108;have y:=(‹_/\_/\_/\_/\_/\_/\_/\PrS w a m D _›).2.2.2.2.2.2.2;refine (cx.out _).mono ?_;rintro e w5 ⟨rfl,bD⟩;have L5:=y.on bD;try (have G:=(bD.block W.heap.size (by simp [go_sem])).trans (za W (.cells #[int i64 0,int i64 0] 60));have cE:Hid (RatB w5 W.heap.size 0 0):=G;clear G);clear bD y)
     | (go_at_call 107;have y:=(‹_/\_/\_/\_/\_/\_/\_/\PrS w a m D _›).2.2.2.2.2.2.2;refine (cz.out _ y.res.b).mono ?_;rintro e w6 ⟨rfl,bd⟩;have U:=y.on bd;first | (have G:=cE.out.on bd;have bk:=zh G;have z0:=G.c0;have z1:=G.c1;have y0:=G.fr 0;have y1:=G.fr 1;clear G bd y) | (have G:RatB w6 w5.heap.size 0 0:=(bd.block w5.heap.size (by simp [go_sem])).trans (za w5 (.cells #[int i64 0,int i64 0] 60));have bk:=zh G;have z0:=G.c0;have z1:=G.c1;have y0:=G.fr 0;have y1:=G.fr 1;clear G bd y) | (clear bd y)))
   all_goals
    first
     | (have R7:RatB _ W.heap.size _ _:=Z2s bk.out (vN V) (vD V)
        have S7:=(U.set (b:=W.heap.size) bf 0 (int i64 (vN V))).set (b:=W.heap.size) bf 1 (int i64 (vD V))
        clear z0 z1 y0 y1 bk;generalize (w6.setCell ⟨W.heap.size,0,none⟩ (int i64 (vN V))).setCell ⟨W.heap.size,1,none⟩ (int i64 (vD V))=w7 at *
        have bt:D<W.heap.size:=bf
        generalize W.heap.size=b7 at *)
     | (have R7:RatB _ w5.heap.size _ _:=Z2s bk.out (vN V) (vD V)
        have bt:D<w5.heap.size:=L5.lt
        have S7:=(U.set (b:=w5.heap.size) bt 0 (int i64 (vN V))).set (b:=w5.heap.size) bt 1 (int i64 (vD V))
        clear z0 z1 y0 y1 bk;generalize (w6.setCell ⟨w5.heap.size,0,none⟩ (int i64 (vN V))).setCell ⟨w5.heap.size,1,none⟩ (int i64 (vD V))=w7 at *
        clear L5;generalize w5.heap.size=b7 at *)
     | (have bt:D<w6.heap.size:=U.lt
        have R7:=RatB.new w6 (vN V) (vD V)
        have S7:=U.alloc (.cells #[int i64 (vN V),int i64 (vD V)] 60)
        clear L5;generalize w6.alloc (.cells #[int i64 (vN V),int i64 (vD V)] 60)=w7 at *
        clear U;generalize w6.heap.size=b7 at *)
    have bj:w.heap.size+8<=D:=bp.out.hD;have c7:=R7.c0;have d7:=R7.c1;cases V with
    | no e =>
     have he:=cy.out e rfl;have bg:Z0m (H.map (·.r)) a C=.no e:=HN.out;have de:(e != 0)=true:=by simp;omega
     obtain ⟨p1,j,p3,p4,p5,_⟩:=S7.fin 0 Z29 e;obtain ⟨g0,g1,X,Y⟩:=S7.res.cells;have ba:=Z6q;have P1:=zh p1;have P2:=zh j;have P3:=zh p3;have bq:=zh bg;clear p1 j p3 bg S7 R7 he;simp only [vN,vD,vE] at c7 d7 |-
     gi_wp2_with (with_reducible refine Z0D rfl _ _ rfl (w.heap.size+1+1) _ Z29 rfl rfl P3.out rfl rfl ba ?_);rw [bq.out];exact Z4g bj P2.out rfl rfl rfl P1.out (λw' hb=>⟨hb,rfl⟩)
    | ok x d =>
     have cg:=cm.out x d rfl;have bN:=λW=>Zhq x d W cg;have bg:Z0m (H.map (·.r)) a C=if rndE x d<0 then .no 22 else .ok (rndE x d) m.r:=HN.out;generalize rndE x d=z at *
     have cs:=zh bN;have bq:=zh bg;have cu:=zh S7;clear bN bg S7 R7 cg;simp only [vN,vD,vE] at c7 d7 |-
     gi_wp2_with fail;refine ⟨trivial,(callsIn_wide.2 (cs.out _)).mono ?_⟩;rintro e w8 ⟨rfl,bG⟩;have S8:=cu.out.on bG;clear bG c7 d7;obtain ⟨g0,g1,X,Y⟩:=S8.res.cells;by_cases G:z<0
     · have dz:decide (z<0)=true:=by simpa using G
       have bm:Z0m (H.map (·.r)) a C=.no 22:=by rw [bq.out,zp G]
       obtain ⟨p1,j,p3,p4,p5,_⟩:=S8.fin 0 Z29 22;have ba:=Z6q;have P1:=zh p1;have P2:=zh j;have P3:=zh p3;have be:=zh bm;clear p1 j p3 bm S8 G;gi_wp2_with (with_reducible refine Z0D rfl _ _ rfl (w.heap.size+1+1) _ Z29 rfl rfl P3.out rfl rfl ba ?_);rw [be.out];exact Z4g bj P2.out rfl rfl rfl P1.out (λw' hb=>⟨hb,rfl⟩)
     · have dz:decide (z<0)=false:=by simpa using G
       have bm:Z0m (H.map (·.r)) a C=.ok z m.r:=by rw [bq.out,zf G]
       have S9:=S8.drew;obtain ⟨p1,j,p3,p4,p5,p6⟩:=S9.fin z (rtC m) 0;have p7:=S9.best;obtain ⟨j0,j1,_,_⟩:=S9.res.cells;have P1:=zh p1;have P2:=zh j;have P3:=zh p3;have be:=zh bm;have P6:=zh p6;have P7:=zh p7;have P4:=zh p4;have P5:=zh p5;have J0:=zh j0;have J1:=zh j1;clear p1 j p3 bm p6 p7 p4 p5 j0 j1 S8 G S9;gi_upto_region 17 with fail
       refine wpIn_wide.2 ?_;clear g0 g1 X Y;have g0:=J0.out;have g1:=J1.out;refine wp_region_any (by kernel_rfl) ?_
       try (change wpAny _ _ _ _ _ _ _ (World.drew _))
       generalize w8.drew=w9 at *
       refine wpAny_ready (rs:=[0,1]) (by kernel_rfl) (by simp) ?_;refine zF rfl (λK B=>?_) ?_
       · go_simp;refine B _ _ ?_;clear B K;refine wpAny_ready (rs:=[1,2]) (by kernel_rfl) (by simp) ?_;refine zF rfl (λK B=>?_) ?_
         · rw [zp (by rfl)];refine wp_load_row 65 _ rfl (w.heap.size+1+1+1+1) rfl _ (rtC m) _ _ P7.out underlying65 rfl (by rw [Tryz.infoRateSz];rfl) ?_;refine B _ _ ?_;clear B K;refine wpAny_ready (rs:=[2]) (by kernel_rfl) (by simp) ?_;refine zF rfl (λK B=>?_) AllReady.nil;go_simp;refine B _ _ ?_;clear B K;refine wpAny_ready (rs:=[3]) (by kernel_rfl) (by simp) ?_;refine zF rfl (λK B=>?_) AllReady.nil;rw [zp (by rfl)];refine wp_store_row 65 _ _ rfl (w.heap.size+1+1) (rtC m) rfl rfl _ _ P3.out (by rw [Tryz.infoRateSz];rfl) rfl bc.out ?_;refine B _ _ ?_;clear B K;have p4:=P4.out;have p5:=P5.out;refine wpAny_ready (rs:=[4]) (by kernel_rfl) (by simp) ?_;refine zF rfl (λK B=>?_) AllReady.nil;go_simp;refine B _ _ ?_;clear B K;refine wpAny_done (by kernel_rfl) ?_ _;gi_wp2_with fail;rw [be.out];exact Z4g bj P2.out rfl rfl rfl P1.out (λw' hb=>⟨hb,m.wv,m.pv,bc.out,rfl⟩)
         · refine zF rfl (λK B=>?_) AllReady.nil;go_simp;refine B _ _ ?_;clear B K;refine wpAny_ready (rs:=[1]) (by kernel_rfl) (by simp) ?_;refine zF rfl (λK B=>?_) AllReady.nil;rw [zp (by rfl)];refine wp_load_row 65 _ rfl (w.heap.size+1+1+1+1) rfl _ (rtC m) _ _ P6.out underlying65 rfl (by rw [Tryz.infoRateSz];rfl) ?_;refine B _ _ ?_;clear B K;refine wpAny_ready (rs:=[3]) (by kernel_rfl) (by simp) ?_;refine zF rfl (λK B=>?_) AllReady.nil;rw [zp (by rfl)];refine wp_store_row 65 _ _ rfl (w.heap.size+1+1) (rtC m) rfl rfl _ _ P3.out (by rw [Tryz.infoRateSz];rfl) rfl bc.out ?_;refine B _ _ ?_;clear B K;have p4:=P4.out;have p5:=P5.out;refine wpAny_ready (rs:=[4]) (by kernel_rfl) (by simp) ?_;refine zF rfl (λK B=>?_) AllReady.nil;go_simp;refine B _ _ ?_;clear B K;refine wpAny_done (by kernel_rfl) ?_ _;gi_wp2_with fail;rw [be.out];exact Z4g bj P2.out rfl rfl rfl P1.out (λw' hb=>⟨hb,m.wv,m.pv,bc.out,rfl⟩)
       · refine zF rfl (λK B=>?_) AllReady.nil;rw [zp (by rfl)];refine wp_load_row 65 _ rfl (w.heap.size+1+1+1+1) rfl _ (rtC m) _ _ P7.out underlying65 rfl (by rw [Tryz.infoRateSz];rfl) ?_;refine B _ _ ?_;clear B K;refine wpAny_ready (rs:=[0]) (by kernel_rfl) (by simp) ?_;refine zF rfl (λK B=>?_) AllReady.nil;go_simp;refine B _ _ ?_;clear B K;refine wpAny_ready (rs:=[2]) (by kernel_rfl) (by simp) ?_;refine zF rfl (λK B=>?_) AllReady.nil;go_simp;refine B _ _ ?_;clear B K;refine wpAny_ready (rs:=[3]) (by kernel_rfl) (by simp) ?_;refine zF rfl (λK B=>?_) AllReady.nil;rw [zp (by rfl)];refine wp_store_row 65 _ _ rfl (w.heap.size+1+1) (rtC m) rfl rfl _ _ P3.out (by rw [Tryz.infoRateSz];rfl) rfl bc.out ?_;refine B _ _ ?_;clear B K;have p4:=P4.out;have p5:=P5.out;refine wpAny_ready (rs:=[4]) (by kernel_rfl) (by simp) ?_;refine zF rfl (λK B=>?_) AllReady.nil;go_simp;refine B _ _ ?_;clear B K;refine wpAny_done (by kernel_rfl) ?_ _;gi_wp2_with fail;rw [be.out];exact Z4g bj P2.out rfl rfl rfl P1.out (λw' hb=>⟨hb,m.wv,m.pv,bc.out,rfl⟩)
 case stop =>
  rintro D c' M W hD ck ⟨rfl,e,I,F⟩ B;have bu:w.heap.size+8<=D:=by have:=bb.out;omega
  obtain ⟨rest,cD⟩:=ck;have Z:Z0m (H.map (·.r)) a C=.no e:=by have hb:=cf.out;rw [<- cD,I rest] at hb;unfold Z0m;rw [show Z2g a C none (H.map (·.r))=_ from hb]
  have H1:=zh I;have H3:=zh F;have HN:=zh Z;have HK:=zh B;clear I F Z B;gi_wp2_with fail;rw [HN.out];exact Z4g bu HK.out rfl rfl rfl H3.out (λw' hb=>⟨hb,rfl⟩)
end Go.Proofs.YtnepkoepbapgeaaGreatDoor
