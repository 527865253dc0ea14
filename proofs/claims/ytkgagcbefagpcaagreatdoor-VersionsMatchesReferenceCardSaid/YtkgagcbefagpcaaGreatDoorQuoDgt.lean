import Derived.Test.YtkgagcbefagpcaaGreatDoorQuoDig
import Derived.Sort.CutIn
import Derived.Test.YtkgagcbefagpcaaGreatDoorQuoR12c
import Derived.Lib.BufStepsIn
namespace Go.Proofs.YtkgagcbefagpcaaGreatDoor
open _root_.Go.Proofs.Tryz
open Value (int slice)
open IntKind (i64)
set_option maxHeartbeats 8000000
set_option maxRecDepth 100000
section
open Go.RowKit Lx Px Qx Go.Shelf
attribute [local go_sem] Oper.semAt_some
theorem Zk9 (A:Option Addr)(k c:Nat)(a:Qx.Ask)(B:Int)(w:World):Calls prog 130 #[slice A k c,.agg #[vI a.kind,vI a.fr,vI a.un,vI a.pers],vI B] w λe w' =>
 e=.returned (.func (.func 173) #[] #[.pointer (some ⟨w.heap.size,0,none⟩),.pointer (some ⟨w.heap.size+1,0,none⟩),.pointer (some ⟨w.heap.size+1+1,0,none⟩)]) /\
 w'=((w.alloc (.cells #[slice A k c] 23)).alloc (.cells #[vI a.kind,vI a.fr,vI a.un,vI a.pers] 25)).alloc (.cells #[vI B] 3):=by
 have C:∀ (fn:Fn) (first cap:Array Value) (w:World),(Instr.makeFunc fn first cap).run prog w=.ok (.func fn first cap) w:=λ_ _ _ _=>rfl;go_enter func130,ntmps130;go_wp2_with fail;go_ret;exact ⟨rfl,rfl⟩
def pick:Option Rm->List (Rm × Int)->Except Int (Option Rm)
 | o,[]=>.ok o
 | o,(m,e)::l=>if e≠0 then .error e else pick (if Qx.Z4a m.r (o.map (·.r))=true then some m else o) l
theorem Z95 (o:Option Rm)(l r:List (Rm × Int)):pick o (l++r)=match pick o l with | .error e=>.error e | .ok o'=>pick o' r:=by
 induction l generalizing o with
 | nil=>rfl
 | cons x l ih =>
  obtain ⟨m,e⟩:=x;simp only [zc2,pick];split
  . rfl
  . exact ih _
theorem Zka (a:Qx.Ask)(B:Int):∀ (C:List Rm) (o:Option Rm),Z2b a B (o.map (·.r)) (C.map (·.r))=match pick o (yl a B C) with | .error e=>.error e | .ok o'=>.ok (o'.map (·.r)):=by
 intro C;induction C with
 | nil=>intro o;rfl
 | cons m C ih =>
  intro o;have F:yl a B (m::C)=(yOf a B m).toList++yl a B C:=by unfold yl;cases h:yOf a B m <;> simp [h]
  rw [List.map_cons,Z2b,F];rcases Zb7 m.r a B with h | h | h
  . have:yOf a B m=none:=by unfold yOf;rw [zp h]
    rw [this,h,zf (by omega),zf (by simp)];exact ih o
  . have:yOf a B m=some (m,0):=by unfold yOf;rw [zf (by omega),zf (by omega)]
    rw [this,h,zf (by omega)];have D:(if (1:Int)=1/\Qx.Z4a m.r (o.map (·.r))=true then some m.r else o.map (·.r))=(if Qx.Z4a m.r (o.map (·.r))=true then some m else o).map (·.r):=by
     by_cases hb:Qx.Z4a m.r (o.map (·.r))=true
     . rw [zp ⟨rfl,hb⟩,zp hb];rfl
     . rw [zf (λx=>hb x.2),zf hb]
    rw [D,ih];simp only [Option.toList,zc2,zn2,pick,ne_eq,not_true_eq_false,if_false]
  . have:yOf a B m=some (m,-(apR m.r a B)):=by unfold yOf;rw [zf (by omega),zp h]
    rw [this,zp h];simp only [Option.toList,zc2,zn2,pick];rw [zp (by omega)]
theorem Zph:∀ (l:List (Rm × Int)) (o C:Option Rm) (m:Rm),pick o l=.ok C->C=some m->o=some m\/∃ e,(m,e)∈l:=by
 intro l;induction l with
 | nil=>intro o C m h e;simp only [pick,Except.ok.injEq] at h;exact .inl (by rw [h,e])
 | cons x l ih =>
  intro o C m h e;obtain ⟨n,er⟩:=x;simp only [pick] at h;split at h
  . cases h
  . rcases ih _ _ m h e with B | ⟨D,B⟩
    . split at B
      . injection B with B;subst B;exact .inr ⟨er,by simp⟩
      . exact .inl B
    . exact .inr ⟨D,by simp [B]⟩
theorem Zkb {a:Qx.Ask}{D:Int}{C:List Rm}{m:Rm}{e:Int}(h:(m,e)∈yl a D C):m∈C:=by
 unfold yl at h;rw [List.mem_filterMap] at h;obtain ⟨G,F,B⟩:=h;unfold yOf at B;split at B
 . cases B
 . injection B with B;injection B with h3 h4;subst h3;exact F
def Z24:Array Value:=#[vI 0,vI 0,vI 0,vI 0,vI 0,vI 0,vI 0,vI 0,vI 0,vI 0,vI 0,vI 0,slice none 0 0,vI 0,vI 0,slice none 0 0]
def Zpi:Array Value:=#[vI 0,vI (-1),vI 0,vI 0,vI 0,vI 0,vI 0,vI 0,vI 0,vI 0,vI 0,vI 0,slice none 0 0,vI 0,vI 0,slice none 0 0]
def rtC (m:Rm):Array Value:=#[vI m.r.id,vI m.r.lv,vI m.r.kd,vI m.r.fr,vI m.r.un,vI m.r.ls,vI m.r.mo,vI m.r.ar,vI m.r.kn,vI m.r.kq,vI m.r.wo,vI m.r.wn,m.wv,vI m.r.po,vI m.r.pn,m.pv]
def Zkc:Option Rm->Array Value
 | none=>Zpi
 | some m=>rtC m
theorem Zht (o:Option Rm):(Zkc o).size=16:=by cases o <;> rfl
structure PrR (w:World) (c:Int) (R:Array Value) (e:Int) (W:World):Prop where
 c:W.heap[w.heap.size+1]?=some (.cells #[vI c] 3 (0,0))
 r:W.heap[w.heap.size+2]?=some (.cells R 81 (0,0))
 e:W.heap[w.heap.size+3]?=some (.cells #[vI e] 37 (0,0))
 b:Below w.heap.size w W
theorem PrR.on {w W B:World}{c:Int}{R:Array Value}{e:Int}(h:PrR w c R e W)(hb:Below W.heap.size W B):PrR w c R e B := ⟨(hb.block _ (zF2.1 h.c).1).trans h.c,(hb.block _ (zF2.1 h.r).1).trans h.r,(hb.block _ (zF2.1 h.e).1).trans h.e,Z00 h.b hb⟩
theorem PrR.put {w W:World}{c:Int}{R:Array Value}{e:Int}(h:PrR w c R e W){l:Nat}(C:w.heap.size+4<=l)(B:Obj):PrR w c R e (W.putObj l B) := ⟨(zQ (by omega)).trans h.c,(zQ (by omega)).trans h.r,(zQ (by omega)).trans h.e,h.b.trans ((zr _ _).grown (grownBy_putObj' W l B) (by have:=h.b.size;omega) (λk e=>by cases e;omega))⟩
def PrI (w:World)(a:Qx.Ask)(pre:List (Rm × Int))(W:World):Prop := ∃ o,pick none pre=.ok o/\W.heap[w.heap.size+4]?=some (.cells (Zkc o) 81 (0,0))/\PrR w 0 Z24 0 W /\ W.heap[w.heap.size]?=some (.cells #[vI a.kind,vI a.fr,vI a.un,vI a.pers] 25 (0,0))
def PrX (w:World)(c:Code)(pre:List (Rm × Int))(W:World):Prop := c=.ret/\∃ e:Int,(∀ rest,pick none (pre++rest)=.error e)/\PrR w 0 Z24 e W
theorem PrI.below {w:World}{a:Qx.Ask}{s:List (Rm × Int)}{W B:World}(h:PrI w a s W)(hb:Below W.heap.size W B):PrI w a s B:=by
 obtain ⟨o,G,C,F,D⟩:=h;exact ⟨o,G,(hb.block _ (zF2.1 C).1).trans C,F.on hb,(hb.block _ (zF2.1 D).1).trans D⟩
theorem PrI.res {w:World}{a:Qx.Ask}{W:World}(h:PrI w a [] W):PrR w 0 Z24 0 W:=by obtain ⟨_,_,_,B,_⟩:=h;exact B
theorem PrI.put {w:World}{a:Qx.Ask}{s:List (Rm × Int)}{W:World}(h:PrI w a s W){l:Nat}(H:w.heap.size+5<=l)(B:Obj):PrI w a s (W.putObj l B):=by
 obtain ⟨x,G,C,F,D⟩:=h;exact ⟨x,G,(zQ (by omega)).trans C,F.put (by omega) B,(zQ (by omega)).trans D⟩
theorem PrX.put {w:World}{c:Code}{s:List (Rm × Int)}{W:World}(h:PrX w c s W){l:Nat}(G:w.heap.size+5<=l)(B:Obj):PrX w c s (W.putObj l B):=by
 obtain ⟨C,e,F,D⟩:=h;exact ⟨C,e,F,D.put (by omega) B⟩
def Zea (x:Qx.N)(w:World)(e:Ending)(w':World):Prop := Below w.heap.size w w'/\match x with
  | .ok c r=>∃ wv pv,(rtC ⟨r,wv,pv⟩).all (·.oneCell')=true/\e=.returned (.tuple #[vI c,.agg (rtC ⟨r,wv,pv⟩),vI 0])
  | .no er=>e=.returned (.tuple #[vI 0,.agg Z24,vI er])
theorem Z8g {W:World}{o:Obj}{k:Nat}(h:k=W.heap.size):(W.alloc o).heap[k]?=some o:=by subst h;exact za W o
theorem Z5i {W:World}{o:Obj}{k:Nat}{v:Option Obj}(h:k<W.heap.size)(B:W.heap[k]?=v):(W.alloc o).heap[k]?=v:=(Below.heap_alloc _ _ _ h).trans B
theorem bx0 (w:World)(A:Option Addr)(k c:Nat)(a:Qx.Ask)(C:Int)(B:World)(F:B=((((((((w.alloc (.cells #[vI a.kind,vI a.fr,vI a.un,vI a.pers] 25)).alloc (.cells #[vI 0] 3)).alloc (.cells Z24 81)).alloc (.cells #[vI 0] 37)).alloc (.cells Zpi 81)).alloc (.cells #[slice A k c] 23)).alloc (.cells #[vI a.kind,vI a.fr,vI a.un,vI a.pers] 25)).alloc (.cells #[vI C] 3))) : PrI w a [] B/\B.heap[w.heap.size+5]?=some (.cells #[slice A k c] 23 (0,0))/\B.heap[w.heap.size+6]?=some (.cells #[vI a.kind,vI a.fr,vI a.un,vI a.pers] 25 (0,0))/\B.heap[w.heap.size+7]?=some (.cells #[vI C] 3 (0,0))/\B.heap.size=w.heap.size+8:=by
 subst F;have D:Below w.heap.size w ((((((((w.alloc (.cells #[vI a.kind,vI a.fr,vI a.un,vI a.pers] 25)).alloc (.cells #[vI 0] 3)).alloc (.cells Z24 81)).alloc (.cells #[vI 0] 37)).alloc (.cells Zpi 81)).alloc (.cells #[slice A k c] 23)).alloc (.cells #[vI a.kind,vI a.fr,vI a.un,vI a.pers] 25)).alloc (.cells #[vI C] 3)) := ((((((((zr _ _).alloc (zn _) _).alloc (by simp) _).alloc (by simp;omega) _).alloc (by simp;omega) _).alloc (by simp;omega) _).alloc (by simp;omega) _).alloc (by simp;omega) _).alloc (by simp;omega) _;refine ⟨⟨none,rfl,?_,⟨?_,?_,?_,D⟩,?_⟩,?_,?_,?_,by simp⟩
 all_goals
  try simp only [Zkc]
  repeat (first | (refine Z8g ?_;first | rfl | (simp only [zk];done) | (simp only [zk];omega)) | (refine Z5i ?_ ?_;· (simp only [zk];omega)))
theorem Z96 {w:World}{B:Nat}{v:Value}{H:List Rm}(h:RmsV w B v H){m:Rm}(N:m∈H):∃ D C F G,m.wv=slice D (flen m.r.wl) C/\m.pv=slice F (flen m.r.pl) G/\FoV w B m.wv m.r.wl/\FoV w B m.pv m.r.pl:=by
 obtain ⟨A,c,rfl,_⟩:=id h;obtain ⟨k,hk,rfl⟩:=List.getElem_of_mem N;obtain ⟨g,o,_,_,_,I,J⟩:=Zmk h hk;obtain ⟨D,C,M,_⟩:=id I;obtain ⟨F,G,L,_⟩:=id J;exact ⟨D,C,F,G,M,L,I,J⟩
theorem Zeb {m:Rm}{C B:Option Addr}{i j k l:Nat}(D:m.wv=slice C i k)(F:m.pv=slice B j l):(rtC m).all (·.oneCell')=true:=by
 unfold rtC;rw [D,F];simp [Value.oneCell']
def prA (w:World)(A:Option Addr)(k c:Nat)(a:Qx.Ask)(night:Int)(b:Nat)(x:Rm × Int):Act := { tmps:=#[slice A k c,.agg #[vI a.kind,vI a.fr,vI a.un,vI a.pers],vI night,undef,.pointer (some ⟨w.heap.size,0,none⟩),undef,.pointer (some ⟨w.heap.size+1,0,none⟩),.pointer (some ⟨w.heap.size+1+1,0,none⟩),.pointer (some ⟨w.heap.size+1+1+1,0,none⟩),.pointer (some ⟨w.heap.size+1+1+1+1,0,none⟩),.pointer (some ⟨b,0,none⟩),vI x.2,undef,undef,undef,undef,.agg #[vI 0,vI (-1),vI 0,vI 0,vI 0,vI 0,vI 0,vI 0,vI 0,vI 0,vI 0,vI 0,slice none 0 0,vI 0,vI 0,slice none 0 0],slice A k c,.agg #[vI a.kind,vI a.fr,vI a.un,vI a.pers],vI night,.func (.func 173) #[] #[.pointer (some ⟨w.heap.size+1+1+1+1+1,0,none⟩),.pointer (some ⟨w.heap.size+1+1+1+1+1+1,0,none⟩),.pointer (some ⟨w.heap.size+1+1+1+1+1+1+1,0,none⟩)],.agg (rtC x.1),vI x.2,undef,undef,undef,undef,undef,undef,undef,undef,undef,undef,undef,undef,undef,undef,undef,undef,undef,undef,undef,undef,undef,undef,undef,undef,undef,undef,undef,undef,undef,undef,undef,undef,undef,undef,undef,undef,undef,undef,undef,undef,undef,undef,undef,undef,undef,undef,undef,undef,undef,undef,undef],defers:=[] }
def Z4E:Option Rm->Int
 | none=>-1
 | some m=>m.r.lv
def Za3:Option Rm->Int
 | none=>0
 | some m=>m.r.id
theorem Zhu (o:Option Rm):(Zkc o)[0]?=some (vI (Za3 o))/\(Zkc o)[1]?=some (vI (Z4E o)):=by cases o <;> exact ⟨rfl,rfl⟩
theorem Zkd (m:Rm)(o:Option Rm)(h:0<=m.r.lv):Qx.Z4a m.r (o.map (·.r))=(decide (m.r.lv > Z4E o) || ((m.r.lv==Z4E o)&&decide (m.r.id<Za3 o))):=by
 cases o with
 | none =>
  have:decide (m.r.lv > -1)=true:=by simp;omega
  show true=_;rw [show Z4E none = -1 from rfl,this];rfl
 | some b=>rfl
theorem Zke {B:List (Rm × Int)}{o:Option Rm}(h:pick none B=.ok o)(m:Rm):pick none (B++[(m,0)])=.ok (if Qx.Z4a m.r (o.map (·.r))=true then some m else o):=by
 rw [Z95,h];simp [pick]
theorem Zpj {B:List (Rm × Int)}{o:Option Rm}(h:pick none B=.ok o)(m:Rm){e:Int}(he:e≠0)(rest:List (Rm × Int)):pick none ((B++[(m,e)])++rest)=.error e:=by
 rw [List.append_assoc,Z95,h];simp [pick,he]
theorem Z7G (B:Nat)(W:World)(g:Nat)(cs:Array Value):KeepsFrom B W (W.setRow g cs):=by
 refine ⟨by rw [Z4j];exact zn _,λk o _ hk hc=>?_⟩;unfold World.setRow;simp only;rw [zM];split
 . rw [hk];cases o <;> first | rfl | cases hc
 . exact hk
theorem Z25 (B:Nat)(W:World)(p:Addr)(v:Value):KeepsFrom B W (W.setCell p v):=(KeepsOthers.setCell W p v).from _
theorem Z6n:Z24.all (·.oneCell')=true:=by simp [Z24,Value.oneCell']
theorem PrR.cells {w W:World}{c:Int}{R:Array Value}{e:Int}(h:PrR w c R e W):W.cell? ⟨w.heap.size+1,0,none⟩=some (vI c)/\W.frozen? ⟨w.heap.size+1,0,none⟩=false/\W.cell? ⟨w.heap.size+1+1+1,0,none⟩=some (vI e)/\W.frozen? ⟨w.heap.size+1+1+1,0,none⟩=false:=by
 have B:=h.c;have he:W.heap[w.heap.size+1+1+1]?=_:=h.e;exact ⟨by rw [zH B];rfl,by simp [World.frozen?,B],by rw [zH he];rfl,by simp [World.frozen?,he]⟩
theorem PrR.set {w W:World}{c c':Int}{R R':Array Value}{e e':Int}(h:PrR w c R e W):PrR w c' R' e' (((W.setCell ⟨w.heap.size+1,0,none⟩ (vI c')).setRow (w.heap.size+1+1) R').setCell ⟨w.heap.size+1+1+1,0,none⟩ (vI e')):=by
 refine ⟨?_,?_,?_,?_⟩
 . rw [zg _ _ _ _ (by show w.heap.size+1≠w.heap.size+1+1+1;omega),Z05 _ _ _ _ (by omega)];exact Z6H h.c _
 . rw [zg _ _ _ _ (by show w.heap.size+2≠w.heap.size+1+1+1;omega)];exact setRow_heap _ _ R R' _ _ ((zg _ _ _ _ (by show w.heap.size+1+1≠w.heap.size+1;omega)).trans h.r)
 . refine Z6H (x:=vI e) ?_ _;rw [Z05 _ _ _ _ (by omega),zg _ _ _ _ (by show w.heap.size+1+1+1≠w.heap.size+1;omega)];exact h.e
 . exact (Z3A (h.b.setCell (p:=⟨w.heap.size+1,0,none⟩) (by show w.heap.size<=w.heap.size+1;omega) _) (by omega) _).setCell (p:=⟨w.heap.size+1+1+1,0,none⟩) (by show w.heap.size<=w.heap.size+1+1+1;omega) _
theorem Z4g {w W:World}{D:Nat}{tmps:Array Value}{x:Qx.N}{c:Int}{M R O C U I T F H Y G L S V X J:Value}{e:Int}(hD:w.heap.size+8<=D)(q:W.heap[D]?=some (.deferred (some []))) (t6:tmps[6]?.getD undef=.pointer (some ⟨w.heap.size+1,0,none⟩)) (g:tmps[7]?.getD undef=.pointer (some ⟨w.heap.size+1+1,0,none⟩)) (j:tmps[8]?.getD undef=.pointer (some ⟨w.heap.size+1+1+1,0,none⟩)) (hR:PrR w c #[M,R,O,C,U,I,T,F,H,Y,G,L,S,V,X,J] e W) (A:∀ w',Below w.heap.size w w'->Zea x w (.returned (.tuple #[vI c,.agg #[M,R,O,C,U,I,T,F,H,Y,G,L,S,V,X,J],vI e])) w') : bodyPostM Fence.wide 5 prog f94 (Zea x w) Exit.ret { tmps,defers:=[{ target:=.collected D,args:=#[] }] } W:=by
 refine ⟨by simp,.inl ⟨_,_,rfl,run_takeDeferred q,?_⟩⟩;have Z:=hR.put (l:=D) (by omega) (.deferred none);obtain ⟨c0,_,c2,_⟩:=Z.cells;have B:(W.putObj D (.deferred none)).heap[w.heap.size+1+1]?=_:=Z.r;have f:(W.putObj D (.deferred none)).cell? ⟨w.heap.size+1+1,0,none⟩=some M:=by rw [zH B];rfl
 have k1:(W.putObj D (.deferred none)).cell? ⟨w.heap.size+1+1,1,none⟩=some R:=by rw [zH B];rfl
 have k2:(W.putObj D (.deferred none)).cell? ⟨w.heap.size+1+1,2,none⟩=some O:=by rw [zH B];rfl
 have k3:(W.putObj D (.deferred none)).cell? ⟨w.heap.size+1+1,3,none⟩=some C:=by rw [zH B];rfl
 have k4:(W.putObj D (.deferred none)).cell? ⟨w.heap.size+1+1,4,none⟩=some U:=by rw [zH B];rfl
 have k5:(W.putObj D (.deferred none)).cell? ⟨w.heap.size+1+1,5,none⟩=some I:=by rw [zH B];rfl
 have k6:(W.putObj D (.deferred none)).cell? ⟨w.heap.size+1+1,6,none⟩=some T:=by rw [zH B];rfl
 have k7:(W.putObj D (.deferred none)).cell? ⟨w.heap.size+1+1,7,none⟩=some F:=by rw [zH B];rfl
 have d:(W.putObj D (.deferred none)).cell? ⟨w.heap.size+1+1,8,none⟩=some H:=by rw [zH B];rfl
 have k9:(W.putObj D (.deferred none)).cell? ⟨w.heap.size+1+1,9,none⟩=some Y:=by rw [zH B];rfl
 have ba:(W.putObj D (.deferred none)).cell? ⟨w.heap.size+1+1,10,none⟩=some G:=by rw [zH B];rfl
 have m:(W.putObj D (.deferred none)).cell? ⟨w.heap.size+1+1,11,none⟩=some L:=by rw [zH B];rfl
 have bb:(W.putObj D (.deferred none)).cell? ⟨w.heap.size+1+1,12,none⟩=some S:=by rw [zH B];rfl
 have bd:(W.putObj D (.deferred none)).cell? ⟨w.heap.size+1+1,13,none⟩=some V:=by rw [zH B];rfl
 have y:(W.putObj D (.deferred none)).cell? ⟨w.heap.size+1+1,14,none⟩=some X:=by rw [zH B];rfl
 have bc:(W.putObj D (.deferred none)).cell? ⟨w.heap.size+1+1,15,none⟩=some J:=by rw [zH B];rfl
 refine ⟨.tuple #[vI c,.agg #[M,R,O,C,U,I,T,F,H,Y,G,L,S,V,X,J],vI e],?_,A _ Z.b⟩;simp [results,results94,go_sem,t6,g,j,c0,c2,f,k1,k2,k3,k4,k5,k6,k7,d,k9,ba,m,bb,bd,y,bc]
structure PrS (w:World) (a:Qx.Ask) (m:Rm) (D:Nat) (W:World):Prop where
 best:W.heap[w.heap.size+4]?=some (.cells (rtC m) 81 (0,0))
 ask:W.heap[w.heap.size]?=some (.cells #[vI a.kind,vI a.fr,vI a.un,vI a.pers] 25 (0,0))
 res:PrR w 0 Z24 0 W
 d:W.heap[D]?=some (.deferred (some []))
 hD:w.heap.size+8<=D
theorem PrS.on {w W B:World}{a:Qx.Ask}{m:Rm}{D:Nat}(h:PrS w a m D W)(hb:Below W.heap.size W B):PrS w a m D B := ⟨(hb.block _ (zF2.1 h.best).1).trans h.best,(hb.block _ (zF2.1 h.ask).1).trans h.ask,h.res.on hb,(hb.block _ (zF2.1 h.d).1).trans h.d,h.hD⟩
theorem PrS.drew {w W:World}{a:Qx.Ask}{m:Rm}{D:Nat}(h:PrS w a m D W):PrS w a m D W.drew:=h.on (zr _ _).drew
theorem PrS.alloc {w W:World}{a:Qx.Ask}{m:Rm}{D:Nat}(h:PrS w a m D W)(o:Obj):PrS w a m D (W.alloc o):=h.on ((zr _ _).alloc (zn _) _)
theorem PrS.lt {w W:World}{a:Qx.Ask}{m:Rm}{D:Nat}(h:PrS w a m D W):D<W.heap.size:=(zF2.1 h.d).1
theorem PrR.far {w W:World}{c:Int}{R:Array Value}{e:Int}(h:PrR w c R e W){b:Nat}(hb:w.heap.size+4<=b)(o:Nat)(v:Value):PrR w c R e (W.setCell ⟨b,o,none⟩ v) := ⟨(zg _ _ _ _ (by show _≠b;omega)).trans h.c,(zg _ _ _ _ (by show _≠b;omega)).trans h.r,(zg _ _ _ _ (by show _≠b;omega)).trans h.e,h.b.setCell (p:=⟨b,o,none⟩) (by show _<=b;omega) _⟩
theorem PrS.set {w W:World}{a:Qx.Ask}{m:Rm}{D:Nat}(h:PrS w a m D W){b:Nat}(hb:D<b)(o:Nat)(v:Value):PrS w a m D (W.setCell ⟨b,o,none⟩ v) := ⟨(zg _ _ _ _ (by have:=h.hD;show _≠b;omega)).trans h.best,(zg _ _ _ _ (by have:=h.hD;show _≠b;omega)).trans h.ask,h.res.far (by have:=h.hD;omega) o v,(zg _ _ _ _ (by show _≠b;omega)).trans h.d,h.hD⟩
theorem PrS.cell {w W:World}{a:Qx.Ask}{m:Rm}{D:Nat}(h:PrS w a m D W)(i:Nat)(v:Value)(B:(rtC m)[i]?=some v):W.cell? ⟨w.heap.size+1+1+1+1,i,none⟩=some v:=by
 rw [zH (show W.heap[w.heap.size+1+1+1+1]?=_ from h.best),B]
theorem PrS.asks {w W:World}{a:Qx.Ask}{m:Rm}{D:Nat}(h:PrS w a m D W):W.cell? ⟨w.heap.size,0,none⟩=some (vI a.kind)/\W.cell? ⟨w.heap.size,1,none⟩=some (vI a.fr)/\W.cell? ⟨w.heap.size,2,none⟩=some (vI a.un)/\W.cell? ⟨w.heap.size,3,none⟩=some (vI a.pers):=by
 refine ⟨?_,?_,?_,?_⟩ <;> (rw [zH h.ask];rfl)
theorem PrS.fin {w W:World}{a:Qx.Ask}{m:Rm}{D:Nat}(h:PrS w a m D W)(c:Int)(R:Array Value)(e:Int) : PrR w c R e (((W.setCell ⟨w.heap.size+1,0,none⟩ (vI c)).setRow (w.heap.size+1+1) R).setCell ⟨w.heap.size+1+1+1,0,none⟩ (vI e)) /\ (((W.setCell ⟨w.heap.size+1,0,none⟩ (vI c)).setRow (w.heap.size+1+1) R).setCell ⟨w.heap.size+1+1+1,0,none⟩ (vI e)).heap[D]?=some (.deferred (some [])) /\ (W.setCell ⟨w.heap.size+1,0,none⟩ (vI c)).heap[w.heap.size+1+1]?=some (.cells Z24 81 (0,0)) /\ ((W.setCell ⟨w.heap.size+1,0,none⟩ (vI c)).setRow (w.heap.size+1+1) R).cell? ⟨w.heap.size+1+1+1,0,none⟩=some (vI 0) /\ ((W.setCell ⟨w.heap.size+1,0,none⟩ (vI c)).setRow (w.heap.size+1+1) R).frozen? ⟨w.heap.size+1+1+1,0,none⟩=false /\ (W.setCell ⟨w.heap.size+1,0,none⟩ (vI c)).heap[w.heap.size+1+1+1+1]?=some (.cells (rtC m) 81 (0,0)):=by
 have F:=h.hD;obtain ⟨_,_,C,B⟩:=h.res.cells;refine ⟨h.res.set,(zg _ _ _ D (by show _≠w.heap.size+1+1+1;omega)).trans ((Z05 _ _ _ _ (by omega)).trans ((zg _ _ _ D (by show _≠w.heap.size+1;omega)).trans h.d)), (zg _ _ _ _ (by show w.heap.size+1+1≠w.heap.size+1;omega)).trans h.res.r, (World.cell?_of_block (a:=⟨w.heap.size+1+1+1,0,none⟩) ((Z05 _ _ _ _ (by show w.heap.size+1+1+1≠_;omega)).trans (zg _ _ _ _ (by show w.heap.size+1+1+1≠w.heap.size+1;omega)))).trans C, (World.frozen?_of_block (a:=⟨w.heap.size+1+1+1,0,none⟩) ((Z05 _ _ _ _ (by show w.heap.size+1+1+1≠_;omega)).trans (zg _ _ _ _ (by show w.heap.size+1+1+1≠w.heap.size+1;omega)))).trans B, (zg _ _ _ _ (by show w.heap.size+1+1+1+1≠w.heap.size+1;omega)).trans h.best⟩
theorem Zhv (n G lb F D:Nat)(v:Value)(B:List Rm)(a:Qx.Ask)(C:Int)(M:B.length<=1000000)(I:∀ m∈B,Z17 m.r=0)(L:a.okB=true)(H:a.fr<=C)(N:C<a.un) : SeqS Fence.wide n prog 173 #[.pointer (some ⟨lb,0,none⟩),.pointer (some ⟨F,0,none⟩),.pointer (some ⟨D,0,none⟩)] encT (λW=>ThB G lb F D v B a C W) (Ts G lb F D) (λxs=>xs=yl a C B) (λpre=>pre <+: yl a C B) := λl J Jx W hok hJ hY h0=>Zkm n l G lb F D v B a C M I L H N J Jx W hok hJ hY h0
theorem Zhw (rs:List Rt)(v:Value)(a:Qx.Ask)(C:Int)(w:World)(hv:RtsV w w.heap.size v rs)(hu:useB rs=true)(ha:a.okB=true)(h0:a.fr<=C)(bB:C<a.un) : Calls prog 94 #[v,askV a,vI C] w (Zea (Z0i rs a C) w):=by
 obtain ⟨cr,b8,_⟩:=(Z1A rs).1 hu;obtain ⟨G,rfl,hm⟩:=ZqH hv;obtain ⟨A,c,rfl,_⟩:=id hm;have bG:∀ m∈G,Z17 m.r=0:=λm hm=>b8 m.r (List.mem_map.2 ⟨m,hm,rfl⟩);rw [List.length_map] at cr;have cb:=Zka a C G none;obtain ⟨bz,bY,cc,bN,b2⟩:=bx0 w A G.length c a C _ rfl;have bJ:=bz.res;dsimp only [askV];obtain ⟨HM,bA,b4,bI,b9,bP,bT,bb,bL,HV,HU⟩:=zh11 hm bG cb bz bY cc bN b2 bJ hv hu;clear hm bG cb bz bY cc bN b2 bJ hv hu b8;refine (callsIn_wide (n:=5)).1 ?_;refine callsIn_of_wp_marks func94 rfl trivial ?_ rfl;simp only [ntmps94,List.size_toArray,zw,zx,Nat.reduceAdd,Nat.reduceSub,Array.replicate_succ,Array.replicate_zero,List.push_toArray,List.append_toArray,zn2,zc2];gi_wp2_with fail;refine ⟨trivial,(callsIn_wide.2 (Zk9 A G.length c a C _)).mono ?_⟩;rintro e w1 ⟨rfl,rfl⟩;gi_wp2_with fail;simp only [Z24,Zpi] at bI b9 bP bT bb bL;generalize (((((((w.alloc (.cells #[vI a.kind,vI a.fr,vI a.un,vI a.pers] 25)).alloc (.cells #[vI 0] 3)).alloc (.cells #[vI 0,vI 0,vI 0,vI 0,vI 0,vI 0,vI 0,vI 0,vI 0,vI 0,vI 0,vI 0,slice none 0 0,vI 0,vI 0,slice none 0 0] 81)).alloc (.cells #[vI 0] 37)).alloc (.cells #[vI 0,vI (-1),vI 0,vI 0,vI 0,vI 0,vI 0,vI 0,vI 0,vI 0,vI 0,vI 0,slice none 0 0,vI 0,vI 0,slice none 0 0] 81)).alloc (.cells #[slice A G.length c] 23)).alloc (.cells #[vI a.kind,vI a.fr,vI a.un,vI a.pers] 25)).alloc (.cells #[vI C] 3)=W0 at *
 have bW:ThB w.heap.size (w.heap.size+5) (w.heap.size+6) (w.heap.size+7) (slice A G.length c) G a C W0:=⟨b9.o,bP.o,bT.o,HM.o.keepS (λb hb=>bL.o.b.block b hb),by omega⟩
 have b5:=zh bW;clear bW;refine Z87 rfl (by omega) (gf:=173) (lb:=#[.pointer (some ⟨w.heap.size+5,0,none⟩),.pointer (some ⟨w.heap.size+6,0,none⟩),.pointer (some ⟨w.heap.size+7,0,none⟩)]) (by simp [go_sem]) trivial (enters_of func173 (by kernel_rfl) rfl) (Zhv _ w.heap.size (w.heap.size+5) (w.heap.size+6) (w.heap.size+7) (slice A G.length c) G a C (by omega) bA.o ha h0 bB) b5.o.ts (λW' hb=>b5.o.on hb) (λ_=>rfl) (PrI w a) (PrX w) ⟨λs W W' h hb=>h.below hb⟩ (λs W l o o' h hl ho hc=>h.put (by have:=bb.o;omega) o') (λc s W l o o' h hl ho _=>h.put (by have:=bb.o;omega) o') bI.o (λx a' W=>∃ b:Nat,w.heap.size+8<=b/\W.heap[b]?=some (.cells (rtC x.1) 81 (0,0))/\a'=prA w A G.length c a C b x)
  ?hAp ?assign ?body ?done ?stop
 case hAp =>
  rintro x a' W l o o' ⟨b,hb,N,rfl⟩ hl hc;refine ⟨b,hb,(zQ (λe=>?_)).trans N,rfl⟩;subst e;rw [hl] at N;injection N with N
  subst N;cases hc
 case assign =>
  intro l M x W K hW S B;obtain ⟨m,er⟩:=x;have y:m∈G:=Zkb (S.subset (by simp:(m,er)∈M++[(m,er)]));obtain ⟨WA,wk,PA,pc,e1,R,_⟩:=Z96 HM.o y;have Y:=Zeb e1 R;have cd:=za W (.cells (rtC m) 81);have ca:=(zr W.heap.size W).alloc (zn _) (.cells (rtC m) 81);have cD:w.heap.size+8<=W.heap.size:=by have:=bb.o;omega
  obtain ⟨cx,ct,cf⟩:=zh3 cd ca S;clear cd ca S;have cj:rtV m.r m.wv m.pv=.agg (rtC m):=rfl;simp only [encT,cj];gi_wp2_with (with_reducible refine Z2i rfl _ _ rfl _ (rtC m) rfl rfl rfl rfl Y ?_);exact B _ _ ct.o ⟨W.heap.size,cD,cx.o,rfl⟩
 case body =>
  rintro l M ⟨m,er⟩ a' W ⟨o,I,J,F,O⟩ ⟨b,hb,N,rfl⟩ S;have y:m∈G:=Zkb (S.subset (by simp:(m,er)∈M++[(m,er)]));have b6:=(Z3e (Z12 (bA.o m y))).2.2.1;obtain ⟨WA,wk,PA,pc,e1,R,_⟩:=Z96 HM.o y;have Y:=Zeb e1 R;obtain ⟨g0,g1,f,Z⟩:=F.cells;unfold prA;by_cases he:er=0
  . subst he;obtain ⟨q0,q1⟩:=Zhu o;have k0:W.cell? ⟨w.heap.size+1+1+1+1,0,none⟩=some (vI (Za3 o)):=by rw [zH (show W.heap[w.heap.size+1+1+1+1]?=_ from J),q0]
    have k1:W.cell? ⟨w.heap.size+1+1+1+1,1,none⟩=some (vI (Z4E o)):=by rw [zH (show W.heap[w.heap.size+1+1+1+1]?=_ from J),q1]
    have b0:W.cell? ⟨b,0,none⟩=some (vI m.r.id):=by rw [zH N];rfl
    have b1:W.cell? ⟨b,1,none⟩=some (vI m.r.lv):=by rw [zH N];rfl
    have bx:=Zke I m;rw [Zkd m o b6] at bx;have bU:=Zht o;have cs:PrI w a (M++[(m,0)]) W->True:=λ_=>trivial;have br:Hid (pick none (M++[(m,0)])=.ok (some m)->KeepsFrom W0.heap.size W (W.setRow (w.heap.size+1+1+1+1) (rtC m))/\Z26 (Ts w.heap.size (w.heap.size+5) (w.heap.size+6) (w.heap.size+7)) W (W.setRow (w.heap.size+1+1+1+1) (rtC m))/\PrI w a (M++[(m,0)]) (W.setRow (w.heap.size+1+1+1+1) (rtC m))):=λL =>⟨Z7G _ _ _ _,λk hk=>Z05 _ _ _ _ (by rcases hk with hk | hk | hk | hk <;> omega), some m,L,setRow_heap _ _ _ _ _ _ J,⟨(Z05 _ _ _ _ (by omega)).trans F.c,(Z05 _ _ _ _ (by omega)).trans F.r,(Z05 _ _ _ _ (by omega)).trans F.e,Z3A F.b (by omega) _⟩,(Z05 _ _ _ _ (by omega)).trans O⟩
    have bn:Hid (pick none (M++[(m,0)])=.ok o->KeepsFrom W0.heap.size W W/\Z26 (Ts w.heap.size (w.heap.size+5) (w.heap.size+6) (w.heap.size+7)) W W/\PrI w a (M++[(m,0)]) W):=λL=>⟨KeepsFrom.refl _ _,Z26.refl _ _,o,L,J,F,O⟩
    obtain ⟨H2,H3,H4,bv,bp,cf,H1⟩:=zh7 J F O N bx S I;clear J F O N bx S I cs q0 q1 g0 g1 f Z;by_cases c1:m.r.lv > Z4E o
    . have d1:decide (m.r.lv > Z4E o)=true:=by simpa using c1
      have L:pick none (M++[(m,0)])=.ok (some m):=by rw [bp.o,d1];rfl
      have HP:=zh L;clear L c1 bn;gi_wp2_with (first | (with_reducible refine Z1z rfl _ rfl b rfl _ rfl bv.o ?_) | (with_reducible refine Z0D rfl _ _ rfl (w.heap.size+1+1+1+1) _ (rtC m) rfl rfl H2.o bU rfl Y ?_));exact br.o HP.o
    . have d1:decide (m.r.lv > Z4E o)=false:=by simpa using c1
      by_cases c2:m.r.lv=Z4E o
      . have d2:(m.r.lv==Z4E o)=true:=by simpa using c2
        by_cases c3:m.r.id<Za3 o
        . have d3:decide (m.r.id<Za3 o)=true:=by simpa using c3
          have L:pick none (M++[(m,0)])=.ok (some m):=by rw [bp.o,d1,d2,d3];rfl
          have HP:=zh L;clear L c1 c2 c3 bn;gi_wp2_with (first | (with_reducible refine Z1z rfl _ rfl b rfl _ rfl bv.o ?_) | (with_reducible refine Z0D rfl _ _ rfl (w.heap.size+1+1+1+1) _ (rtC m) rfl rfl H2.o bU rfl Y ?_));exact br.o HP.o
        . have d3:decide (m.r.id<Za3 o)=false:=by simpa using c3
          have L:pick none (M++[(m,0)])=.ok o:=by rw [bp.o,d1,d2,d3];rfl
          have HP:=zh L;clear L c1 c2 c3 br;gi_wp2_with fail;exact bn.o HP.o
      . have d2:(m.r.lv==Z4E o)=false:=by simpa using c2
        have L:pick none (M++[(m,0)])=.ok o:=by rw [bp.o,d1,d2];rfl
        have HP:=zh L;clear L c1 c2 br;gi_wp2_with fail;exact bn.o HP.o
  . have d0:(er != 0)=true:=by simpa using he
    have hx:PrX w .ret (M++[(m,er)]) (((W.setCell ⟨w.heap.size+1,0,none⟩ (vI 0)).setRow (w.heap.size+1+1) Z24).setCell ⟨w.heap.size+1+1+1,0,none⟩ (vI er)):=⟨rfl,er,Zpj I m he,F.set⟩
    have bZ:KeepsFrom W0.heap.size W (((W.setCell ⟨w.heap.size+1,0,none⟩ (vI 0)).setRow (w.heap.size+1+1) Z24).setCell ⟨w.heap.size+1+1+1,0,none⟩ (vI er)):=((Z25 _ _ _ _).trans (Z7G _ _ _ _)).trans (Z25 _ _ _ _);have bf:(W.setCell ⟨w.heap.size+1,0,none⟩ (vI 0)).heap[w.heap.size+1+1]?=some (.cells Z24 81 (0,0)):=(zg _ _ _ _ (by show w.heap.size+1+1≠w.heap.size+1;omega)).trans F.r;have g4:((W.setCell ⟨w.heap.size+1,0,none⟩ (vI 0)).setRow (w.heap.size+1+1) Z24).cell? ⟨w.heap.size+1+1+1,0,none⟩=some (vI 0):=(World.cell?_of_block (a:=⟨w.heap.size+1+1+1,0,none⟩) ((Z05 _ _ _ _ (by show w.heap.size+1+1+1≠_;omega)).trans (zg _ _ _ _ (by show w.heap.size+1+1+1≠w.heap.size+1;omega)))).trans f;have g5:((W.setCell ⟨w.heap.size+1,0,none⟩ (vI 0)).setRow (w.heap.size+1+1) Z24).frozen? ⟨w.heap.size+1+1+1,0,none⟩=false:=(World.frozen?_of_block (a:=⟨w.heap.size+1+1+1,0,none⟩) ((Z05 _ _ _ _ (by show w.heap.size+1+1+1≠_;omega)).trans (zg _ _ _ _ (by show w.heap.size+1+1+1≠w.heap.size+1;omega)))).trans Z;have ba:=Z6n;obtain ⟨HX,cy,bD,H2,H3,H4,bv,cf,H1⟩:=zh9 hx bZ bf J F O N S I;clear hx bZ bf J F O N S I he Y;gi_wp2_with (with_reducible refine Z0D rfl _ _ rfl (w.heap.size+1+1) _ Z24 rfl rfl bD.o rfl rfl ba ?_);exact ⟨cy.o,HX.o⟩
 case done =>
  rintro D xs W hD rfl ⟨o,I,J,F,O⟩ B;have hb:=b4.o;rw [I] at hb;have bt:w.heap.size+8<=D:=by have:=bb.o;omega
  obtain ⟨g0,g1,f,Z⟩:=F.cells;cases o with
  | none =>
   have hN:Z0i (G.map (·.r)) a C=.no 4:=by unfold Z0i;rw [show Z2b a C none (G.map (·.r))=_ from hb];rfl
   have k1:W.cell? ⟨w.heap.size+1+1+1+1,1,none⟩=some (vI (-1)):=by rw [zH (show W.heap[w.heap.size+1+1+1+1]?=_ from J)];rfl
   have bf:(W.setCell ⟨w.heap.size+1,0,none⟩ (vI 0)).heap[w.heap.size+1+1]?=some (.cells Z24 81 (0,0)):=(zg _ _ _ _ (by show w.heap.size+1+1≠w.heap.size+1;omega)).trans F.r;have g4:((W.setCell ⟨w.heap.size+1,0,none⟩ (vI 0)).setRow (w.heap.size+1+1) Z24).cell? ⟨w.heap.size+1+1+1,0,none⟩=some (vI 0):=(World.cell?_of_block (a:=⟨w.heap.size+1+1+1,0,none⟩) ((Z05 _ _ _ _ (by show w.heap.size+1+1+1≠_;omega)).trans (zg _ _ _ _ (by show w.heap.size+1+1+1≠w.heap.size+1;omega)))).trans f;have g5:((W.setCell ⟨w.heap.size+1,0,none⟩ (vI 0)).setRow (w.heap.size+1+1) Z24).frozen? ⟨w.heap.size+1+1+1,0,none⟩=false:=(World.frozen?_of_block (a:=⟨w.heap.size+1+1+1,0,none⟩) ((Z05 _ _ _ _ (by show w.heap.size+1+1+1≠_;omega)).trans (zg _ _ _ _ (by show w.heap.size+1+1+1≠w.heap.size+1;omega)))).trans Z;have ba:=Z6n;have ce:(((W.setCell ⟨w.heap.size+1,0,none⟩ (vI 0)).setRow (w.heap.size+1+1) Z24).setCell ⟨w.heap.size+1+1+1,0,none⟩ (vI 4)).heap[D]?=some (.deferred (some [])) := (zg _ _ _ D (by show _≠w.heap.size+1+1+1;omega)).trans ((Z05 _ _ _ _ (by omega)).trans ((zg _ _ _ D (by show _≠w.heap.size+1;omega)).trans B));have HS:=zh (F.set (c':=0) (R':=Z24) (e':=4));obtain ⟨bD,cC,HN,H1,H2,H3,H4,HK,HB⟩:=zh9 bf ce hN I J F O B hb;clear bf ce hN I J F O B hb;gi_wp2_with (with_reducible refine Z0D rfl _ _ rfl (w.heap.size+1+1) _ Z24 rfl rfl bD.o rfl rfl ba ?_);rw [HN.o];exact Z4g bt cC.o rfl rfl rfl HS.o (λw' hb=>⟨hb,rfl⟩)
  | some m =>
   have bV:Z2b a C none (G.map (·.r))=.ok (some m.r):=hb;have y:m∈G:=by
    rcases Zph _ _ _ m I rfl with h | ⟨e,h⟩
    . cases h
    . exact Zkb h
   have bC:=bA.o m y;obtain ⟨WA,wk,PA,pc,e1,R,_,f2⟩:=Z96 HM.o y;have Y:=Zeb e1 R;have b6:=(Z3e (Z12 bC)).2.2.1;obtain ⟨_,vp⟩:=Z2k (Z12 bC);obtain ⟨bM,cg⟩:=Z4q vp;have k1:W.cell? ⟨w.heap.size+1+1+1+1,1,none⟩=some (vI m.r.lv):=by rw [zH (show W.heap[w.heap.size+1+1+1+1]?=_ from J)];rfl
   have cH:decide (m.r.lv<0)=false:=by simp;omega
   have bQ:PrS w a m D W:=⟨J,O,F,B,bt⟩
   have bS:=Z5j ha h0 bB;have bF:=λW=>Zga a C W ha h0 bB;simp only [askV] at bF;rw [R] at f2;have bH:=λW (hb:Below w.heap.size w W)=>Za5 m.r.po m.r.pn m.r.pl (slice PA (flen m.r.pl) pc) (Z0t a C) W ((f2.on hb).up hb.size) bM cg bS;have hN:Z0i (G.map (·.r)) a C=match valE (Z0t a C) (m.r.po,m.r.pn) m.r.pl with | .no e=>.no e | .ok n d=>if rndE n d<0 then .no 22 else .ok (rndE n d) m.r:=by unfold Z0i;rw [bV];rfl
   have bK:=λp q (h:valE (Z0t a C) (m.r.po,m.r.pn) m.r.pl=.ok p q)=>Z7t h;have b3:=λe (h:valE (Z0t a C) (m.r.po,m.r.pn) m.r.pl=.no e)=>Z3B h;generalize valE (Z0t a C) (m.r.po,m.r.pn) m.r.pl=V at *
   have cG:Hid ((rtC m)[13]?=some (vI m.r.po)):=rfl;have cA:Hid ((rtC m)[14]?=some (vI m.r.pn)):=rfl;have ch:Hid ((rtC m)[15]?=some (slice PA (flen m.r.pl) pc)):=by show (rtC m)[15]?=_;rw [<- R];rfl
   obtain ⟨bs,cz,cF,cu,cv,bc,E1,E2,F2,HN⟩:=zh10 bQ bF bH bK b3 Y e1 R f2 hN;clear bQ bF bH bK b3 Y e1 R f2 hN J F O I hb bV B y bC vp bM cg bS g0 g1 f Z;gi_upto_region 11 with fail
   refine wpIn_wide.2 ?_;clear k1;have T:Hid (∀ wx,PrS w a m D wx->wx.cell? ⟨w.heap.size+1+1+1+1,13,none⟩=some (vI m.r.po)/\wx.cell? ⟨w.heap.size+1+1+1+1,14,none⟩=some (vI m.r.pn)/\wx.cell? ⟨w.heap.size+1+1+1+1,15,none⟩=some (slice PA (flen m.r.pl) pc)/\wx.cell? ⟨w.heap.size,0,none⟩=some (vI a.kind)/\wx.cell? ⟨w.heap.size,1,none⟩=some (vI a.fr)/\wx.cell? ⟨w.heap.size,2,none⟩=some (vI a.un)/\wx.cell? ⟨w.heap.size,3,none⟩=some (vI a.pers)/\PrS w a m D wx):=λwx h=>by obtain ⟨k0,k1,k2,k3⟩:=h.asks;exact ⟨h.cell 13 _ cG.o,h.cell 14 _ cA.o,h.cell 15 _ ch.o,k0,k1,k2,k3,h⟩
   have bh:D<W.heap.size:=bs.o.lt;go_region_held3 (λw'=>w'.cell? ⟨w.heap.size+1+1+1+1,13,none⟩=some (vI m.r.po)/\w'.cell? ⟨w.heap.size+1+1+1+1,14,none⟩=some (vI m.r.pn)/\w'.cell? ⟨w.heap.size+1+1+1+1,15,none⟩=some (slice PA (flen m.r.pl) pc)/\w'.cell? ⟨w.heap.size,0,none⟩=some (vI a.kind)/\w'.cell? ⟨w.heap.size,1,none⟩=some (vI a.fr)/\w'.cell? ⟨w.heap.size,2,none⟩=some (vI a.un)/\w'.cell? ⟨w.heap.size,3,none⟩=some (vI a.pers)/\PrS w a m D w') (first | (with_reducible exact T.o _ bs.o.drew) | (with_reducible exact T.o _ (bs.o.alloc _).drew) | (with_reducible exact T.o _ U) | (with_reducible exact T.o _ L5) | (with_reducible exact T.o _ (U.alloc _)) | (with_reducible exact T.o _ (L5.alloc _)) | (exact T.o _ ((‹_/\_/\_/\_/\_/\_/\_/\PrS w a m D _›).2.2.2.2.2.2.2.alloc _)) | (exact T.o _ ((U.set (b:=W.heap.size) bh 0 _).set (b:=W.heap.size) bh 1 _)) | (exact T.o _ ((U.set (b:=w5.heap.size) L5.lt 0 _).set (b:=w5.heap.size) L5.lt 1 _)) | fail) (first
     | (go_at_call 132;have hA:=(‹_/\_/\_/\_/\_/\_/\_/\PrS w a m D _›).2.2.2.2.2.2.2;refine (cz.o _).mono ?_;rintro e w5 ⟨rfl,bE⟩;have L5:=hA.on bE;try (have H:=(bE.block W.heap.size (by simp [go_sem])).trans (za W (.cells #[vI 0,vI 0] 76));have cE:Hid (RatB w5 W.heap.size 0 0):=H;clear H);clear bE hA)
     | (go_at_call 131;have hA:=(‹_/\_/\_/\_/\_/\_/\_/\PrS w a m D _›).2.2.2.2.2.2.2;refine (cF.o _ hA.res.b).mono ?_;rintro e w6 ⟨rfl,bd⟩;have U:=hA.on bd;first | (have H:=cE.o.on bd;have bk:=zh H;have z0:=H.c0;have z1:=H.c1;have y0:=H.fr 0;have y1:=H.fr 1;clear H bd hA) | (have H:RatB w6 w5.heap.size 0 0:=(bd.block w5.heap.size (by simp [go_sem])).trans (za w5 (.cells #[vI 0,vI 0] 76));have bk:=zh H;have z0:=H.c0;have z1:=H.c1;have y0:=H.fr 0;have y1:=H.fr 1;clear H bd hA) | (clear bd hA)))
   all_goals
    first
     | (have R7:RatB _ W.heap.size _ _:=Z2m bk.o (vN V) (vD V)
        have S7:=(U.set (b:=W.heap.size) bh 0 (vI (vN V))).set (b:=W.heap.size) bh 1 (vI (vD V))
        clear z0 z1 y0 y1 bk;generalize (w6.setCell ⟨W.heap.size,0,none⟩ (vI (vN V))).setCell ⟨W.heap.size,1,none⟩ (vI (vD V))=w7 at *
        have bu:D<W.heap.size:=bh
        generalize W.heap.size=b7 at *)
     | (have R7:RatB _ w5.heap.size _ _:=Z2m bk.o (vN V) (vD V)
        have bu:D<w5.heap.size:=L5.lt
        have S7:=(U.set (b:=w5.heap.size) bu 0 (vI (vN V))).set (b:=w5.heap.size) bu 1 (vI (vD V))
        clear z0 z1 y0 y1 bk;generalize (w6.setCell ⟨w5.heap.size,0,none⟩ (vI (vN V))).setCell ⟨w5.heap.size,1,none⟩ (vI (vD V))=w7 at *
        clear L5;generalize w5.heap.size=b7 at *)
     | (have bu:D<w6.heap.size:=U.lt
        have R7:=RatB.new w6 (vN V) (vD V)
        have S7:=U.alloc (.cells #[vI (vN V),vI (vD V)] 76)
        clear L5;generalize w6.alloc (.cells #[vI (vN V),vI (vD V)] 76)=w7 at *
        clear U;generalize w6.heap.size=b7 at *)
    have bg:w.heap.size+8<=D:=bs.o.hD;have c7:=R7.c0;have d7:=R7.c1;cases V with
    | no e =>
     have he:=cv.o e rfl;have be:Z0i (G.map (·.r)) a C=.no e:=HN.o;have de:(e != 0)=true:=by simp;omega
     obtain ⟨j,X,g,p4,p5,_⟩:=S7.fin 0 Z24 e;obtain ⟨g0,g1,f,Z⟩:=S7.res.cells;have ba:=Z6n;obtain ⟨P1,P2,P3,bq⟩:=zh4 j X g be;clear j X g be S7 R7 he;simp only [vN,vD,vE] at c7 d7 |-
     gi_wp2_with (with_reducible refine Z0D rfl _ _ rfl (w.heap.size+1+1) _ Z24 rfl rfl P3.o rfl rfl ba ?_);rw [bq.o];exact Z4g bg P2.o rfl rfl rfl P1.o (λw' hb=>⟨hb,rfl⟩)
    | ok x d =>
     have bX:=cu.o x d rfl;have bO:=λW=>Zhz x d W bX;have be:Z0i (G.map (·.r)) a C=if rndE x d<0 then .no 22 else .ok (rndE x d) m.r:=HN.o;generalize rndE x d=z at *
     obtain ⟨cn,bq,ck⟩:=zh3 bO be S7;clear bO be S7 R7 bX;simp only [vN,vD,vE] at c7 d7 |-
     gi_wp2_with fail;refine ⟨trivial,(callsIn_wide.2 (cn.o _)).mono ?_⟩;rintro e w8 ⟨rfl,bR⟩;have S8:=ck.o.on bR;clear bR c7 d7;obtain ⟨g0,g1,f,Z⟩:=S8.res.cells;by_cases H:z<0
     . have dz:decide (z<0)=true:=by simpa using H
       have bj:Z0i (G.map (·.r)) a C=.no 22:=by rw [bq.o,zp H]
       obtain ⟨j,X,g,p4,p5,_⟩:=S8.fin 0 Z24 22;have ba:=Z6n;obtain ⟨P1,P2,P3,bm⟩:=zh4 j X g bj;clear j X g bj S8 H;gi_wp2_with (with_reducible refine Z0D rfl _ _ rfl (w.heap.size+1+1) _ Z24 rfl rfl P3.o rfl rfl ba ?_);rw [bm.o];exact Z4g bg P2.o rfl rfl rfl P1.o (λw' hb=>⟨hb,rfl⟩)
     . have dz:decide (z<0)=false:=by simpa using H
       have bj:Z0i (G.map (·.r)) a C=.ok z m.r:=by rw [bq.o,zf H]
       have S9:=S8.drew;obtain ⟨j,X,g,p4,p5,p6⟩:=S9.fin z (rtC m) 0;obtain ⟨j0,j1,_,_⟩:=S9.res.cells;obtain ⟨P1,P2,P3,bm,P6,P7,P4,P5,J0,J1⟩:=zh10 j X g bj p6 S9.best p4 p5 j0 j1;clear j X g bj p6 p4 p5 j0 j1 S8 H S9;gi_upto_region 17 with fail
       refine wpIn_wide.2 ?_;clear g0 g1 f Z;have g0:=J0.o;have g1:=J1.o;refine wp_region_any (by kernel_rfl) ?_
       try (change wpAny _ _ _ _ _ _ _ (World.drew _))
       generalize w8.drew=w9 at *
       refine wpAny_ready (rs:=[0,1]) (by kernel_rfl) (by simp) ?_;refine zF rfl (λK B=>?_) ?_
       . go_simp;refine B _ _ ?_;clear B K;refine wpAny_ready (rs:=[1,2]) (by kernel_rfl) (by simp) ?_;refine zF rfl (λK B=>?_) ?_
         . rw [zp (by rfl)];refine wp_load_row 81 _ rfl (w.heap.size+1+1+1+1) rfl _ (rtC m) _ _ P7.o underlying81 rfl (by rw [Tryz.infoRateSz];rfl) ?_;refine B _ _ ?_;clear B K;refine wpAny_ready (rs:=[2]) (by kernel_rfl) (by simp) ?_;refine zF rfl (λK B=>?_) AllReady.nil;go_simp;refine B _ _ ?_;clear B K;refine wpAny_ready (rs:=[3]) (by kernel_rfl) (by simp) ?_;refine zF rfl (λK B=>?_) AllReady.nil;rw [zp (by rfl)];refine wp_store_row 81 _ _ rfl (w.heap.size+1+1) (rtC m) rfl rfl _ _ P3.o (by rw [Tryz.infoRateSz];rfl) rfl bc.o ?_;refine B _ _ ?_;clear B K;have p4:=P4.o;have p5:=P5.o;refine wpAny_ready (rs:=[4]) (by kernel_rfl) (by simp) ?_;refine zF rfl (λK B=>?_) AllReady.nil;go_simp;refine B _ _ ?_;clear B K;refine wpAny_done (by kernel_rfl) ?_ _;gi_wp2_with fail;rw [bm.o];exact Z4g bg P2.o rfl rfl rfl P1.o (λw' hb=>⟨hb,m.wv,m.pv,bc.o,rfl⟩)
         . refine zF rfl (λK B=>?_) AllReady.nil;go_simp;refine B _ _ ?_;clear B K;refine wpAny_ready (rs:=[1]) (by kernel_rfl) (by simp) ?_;refine zF rfl (λK B=>?_) AllReady.nil;rw [zp (by rfl)];refine wp_load_row 81 _ rfl (w.heap.size+1+1+1+1) rfl _ (rtC m) _ _ P6.o underlying81 rfl (by rw [Tryz.infoRateSz];rfl) ?_;refine B _ _ ?_;clear B K;refine wpAny_ready (rs:=[3]) (by kernel_rfl) (by simp) ?_;refine zF rfl (λK B=>?_) AllReady.nil;rw [zp (by rfl)];refine wp_store_row 81 _ _ rfl (w.heap.size+1+1) (rtC m) rfl rfl _ _ P3.o (by rw [Tryz.infoRateSz];rfl) rfl bc.o ?_;refine B _ _ ?_;clear B K;have p4:=P4.o;have p5:=P5.o;refine wpAny_ready (rs:=[4]) (by kernel_rfl) (by simp) ?_;refine zF rfl (λK B=>?_) AllReady.nil;go_simp;refine B _ _ ?_;clear B K;refine wpAny_done (by kernel_rfl) ?_ _;gi_wp2_with fail;rw [bm.o];exact Z4g bg P2.o rfl rfl rfl P1.o (λw' hb=>⟨hb,m.wv,m.pv,bc.o,rfl⟩)
       . refine zF rfl (λK B=>?_) AllReady.nil;rw [zp (by rfl)];refine wp_load_row 81 _ rfl (w.heap.size+1+1+1+1) rfl _ (rtC m) _ _ P7.o underlying81 rfl (by rw [Tryz.infoRateSz];rfl) ?_;refine B _ _ ?_;clear B K;refine wpAny_ready (rs:=[0]) (by kernel_rfl) (by simp) ?_;refine zF rfl (λK B=>?_) AllReady.nil;go_simp;refine B _ _ ?_;clear B K;refine wpAny_ready (rs:=[2]) (by kernel_rfl) (by simp) ?_;refine zF rfl (λK B=>?_) AllReady.nil;go_simp;refine B _ _ ?_;clear B K;refine wpAny_ready (rs:=[3]) (by kernel_rfl) (by simp) ?_;refine zF rfl (λK B=>?_) AllReady.nil;rw [zp (by rfl)];refine wp_store_row 81 _ _ rfl (w.heap.size+1+1) (rtC m) rfl rfl _ _ P3.o (by rw [Tryz.infoRateSz];rfl) rfl bc.o ?_;refine B _ _ ?_;clear B K;have p4:=P4.o;have p5:=P5.o;refine wpAny_ready (rs:=[4]) (by kernel_rfl) (by simp) ?_;refine zF rfl (λK B=>?_) AllReady.nil;go_simp;refine B _ _ ?_;clear B K;refine wpAny_done (by kernel_rfl) ?_ _;gi_wp2_with fail;rw [bm.o];exact Z4g bg P2.o rfl rfl rfl P1.o (λw' hb=>⟨hb,m.wv,m.pv,bc.o,rfl⟩)
 case stop =>
  rintro D c' M W hD cm ⟨rfl,e,I,F⟩ B;have bt:w.heap.size+8<=D:=by have:=bb.o;omega
  obtain ⟨rest,cB⟩:=cm;have hN:Z0i (G.map (·.r)) a C=.no e:=by have hb:=b4.o;rw [<- cB,I rest] at hb;unfold Z0i;rw [show Z2b a C none (G.map (·.r))=_ from hb]
  obtain ⟨H1,H3,HN,HK⟩:=zh4 I F hN B;clear I F hN B;gi_wp2_with fail;rw [HN.o];exact Z4g bt HK.o rfl rfl rfl H3.o (λw' hb=>⟨hb,rfl⟩)
end
section
open Go.RowKit Lx Px Qx Go.Shelf
attribute [local go_sem] Oper.semAt_some
namespace Qx
def Z4F (l:List (Bytes × Int)):Bytes:=l.flatMap λx=>x.1++[10]
theorem Z7h (l:List (Bytes × Int))(x:Bytes × Int):Z4F (l++[x])=Z4F l++(x.1++[10]):=by simp [Z4F]
theorem Zhx:∀ (rs:List Rt),(∀ r∈rs,r.can=true)->Z4F (rs.map Rt.res)=Z1C rs:=by
 intro rs;induction rs with
 | nil=>intro _;rfl
 | cons r rs ih =>
  intro h;have C:r.res=(r.text,0):=by unfold Rt.res;rw [zp (h r (by simp))]
  have B:=ih λx hx=>h x (by simp [hx]);simp only [Z4F,Z1C,List.map_cons,List.flatMap_cons,C] at B |-
  rw [B]
end Qx
theorem ZfA:∀ (l:List (Bytes × Int)),(∀ x∈l,x.1.length<=10100)->(Z4F l).length<=10101*l.length:=by
 intro l;induction l with
 | nil=>intro _;simp [Z4F]
 | cons x l ih =>
  intro h;have C:=h x (by simp);have B:=ih λy hy=>h y (by simp [hy]);simp only [Z4F,List.flatMap_cons,zj,zw,zx] at B |-
  omega
theorem Zb5 (r:Rt):r.res.1.length<=10100:=by
 unfold Rt.res;split
 . rename_i h;exact Zsx h
 . simp
theorem Zkf (r:Rt):(r.res.2=0 ↔ r.can=true):=by
 unfold Rt.res;split
 . rename_i h;simp [h]
 . rename_i h;simpa using h
structure DgR (w:World) (num time:Int) (rv:Value) (d:Nat) (e:Int) (W:World):Prop where
 v:W.heap[w.heap.size]?=some (.cells #[vI num,vI time,rv] 36 (0,0))
 d:W.heap[w.heap.size+1]?=some (.cells #[.int .u64 (d:Nat)] 27 (0,0))
 e:W.heap[w.heap.size+2]?=some (.cells #[vI e] 37 (0,0))
 b:Below w.heap.size w W
theorem DgR.on {w W D:World}{B C:Int}{rv:Value}{d:Nat}{e:Int}(h:DgR w B C rv d e W)(hb:Below W.heap.size W D):DgR w B C rv d e D := ⟨(hb.block _ (zF2.1 h.v).1).trans h.v,(hb.block _ (zF2.1 h.d).1).trans h.d,(hb.block _ (zF2.1 h.e).1).trans h.e,Z00 h.b hb⟩
theorem DgR.far {w W D:World}{B C:Int}{rv:Value}{d:Nat}{e:Int}(h:DgR w B C rv d e W)(hb:Below (w.heap.size+3) W D):DgR w B C rv d e D := ⟨(hb.block _ (by omega)).trans h.v,(hb.block _ (by omega)).trans h.d,(hb.block _ (by omega)).trans h.e,h.b.trans (hb.mono (by omega))⟩
theorem DgR.cells {w W:World}{B C:Int}{rv:Value}{d:Nat}{e:Int}(h:DgR w B C rv d e W) : W.cell? ⟨w.heap.size,0,none⟩=some (vI B)/\W.cell? ⟨w.heap.size,1,none⟩=some (vI C)/\W.cell? ⟨w.heap.size,2,none⟩=some rv/\W.cell? ⟨w.heap.size+1,0,none⟩=some (.int .u64 (d:Nat))/\W.frozen? ⟨w.heap.size+1,0,none⟩=false/\W.cell? ⟨w.heap.size+1+1,0,none⟩=some (vI e)/\W.frozen? ⟨w.heap.size+1+1,0,none⟩=false:=by
 have D:=h.d;have he:W.heap[w.heap.size+1+1]?=_:=h.e;refine ⟨?_,?_,?_,?_,?_,?_,?_⟩
 . rw [zH h.v];rfl
 . rw [zH h.v];rfl
 . rw [zH h.v];rfl
 . rw [zH h.d];rfl
 . simp [World.frozen?,D]
 . rw [zH he];rfl
 . simp [World.frozen?,he]
theorem DgR.set {w W:World}{D F:Int}{rv:Value}{d:Nat}{e:Int}(h:DgR w D F rv d e W)(B:Nat)(e':Int) : DgR w D F rv B e' ((W.setCell ⟨w.heap.size+1,0,none⟩ (.int .u64 (B:Nat))).setCell ⟨w.heap.size+1+1,0,none⟩ (vI e')):=by
 refine ⟨?_,?_,?_,?_⟩
 . exact (zg _ _ _ _ (by show w.heap.size≠w.heap.size+1+1;omega)).trans ((zg _ _ _ _ (by show w.heap.size≠w.heap.size+1;omega)).trans h.v)
 . refine (zg _ _ _ _ (by show w.heap.size+1≠w.heap.size+1+1;omega)).trans ?_;have C:=h.d;simp [World.setCell,zM,C]
 . have C:W.heap[w.heap.size+1+1]?=_:=h.e;have H:(W.setCell ⟨w.heap.size+1,0,none⟩ (.int .u64 (B:Nat))).heap[w.heap.size+1+1]?=_:=(zg _ _ _ _ (by show w.heap.size+1+1≠w.heap.size+1;omega)).trans C;generalize W.setCell ⟨w.heap.size+1,0,none⟩ (.int .u64 (B:Nat))=G at *
   show (G.setCell ⟨w.heap.size+1+1,0,none⟩ (vI e')).heap[w.heap.size+1+1]?=_;simp [World.setCell,zM,H]
 . exact (h.b.setCell (p:=⟨w.heap.size+1,0,none⟩) (by show w.heap.size<=w.heap.size+1;omega) _).setCell (p:=⟨w.heap.size+1+1,0,none⟩) (by show w.heap.size<=w.heap.size+1+1;omega) _
def DigP (x:Option Nat)(w:World)(e:Ending)(w':World):Prop := Below w.heap.size w w'/\e=.returned (.tuple #[.int .u64 ((x.getD 0:Nat):Int),vI (if x=none then 1 else 0)])
theorem Zqz {w W:World}{B G:Int}{rv:Value}{tmps:Array Value}{d:Nat}{e:Int} (F:tmps[2]?.getD undef=.pointer (some ⟨w.heap.size+1,0,none⟩)) (C:tmps[3]?.getD undef=.pointer (some ⟨w.heap.size+1+1,0,none⟩)) (D:DgR w B G rv d e W) : (results f35 tmps).run prog W=.ok (.tuple #[.int .u64 (d:Nat),vI e]) W:=by
 obtain ⟨_,_,_,c3,_,c5,_⟩:=D.cells;simp [results,results35,go_sem,F,C,c3,c5]
theorem Z6p {w W:World}{C H:Int}{rv:Value}{tmps:Array Value}{x:Option Nat} (G:tmps[2]?.getD undef=.pointer (some ⟨w.heap.size+1,0,none⟩)) (F:tmps[3]?.getD undef=.pointer (some ⟨w.heap.size+1+1,0,none⟩)) {d:Nat} {e:Int} (D:d=x.getD 0) (he:e=if x=none then 1 else 0) (B:DgR w C H rv d e W) : bodyPostM Fence.wide 5 prog f35 (DigP x w) Exit.ret { tmps,defers:=[] } W:=by
 subst D he;refine ⟨_,Zqz G F B,B.b,rfl⟩
theorem Zcs {w W:World}{B G:Int}{rv:Value}{tmps:Array Value}{x:Option Nat}{D:Nat}(M:w.heap.size+3<=D)(L:W.heap[D]?=some (.deferred (some []))) (J:tmps[2]?.getD undef=.pointer (some ⟨w.heap.size+1,0,none⟩)) (I:tmps[3]?.getD undef=.pointer (some ⟨w.heap.size+1+1,0,none⟩)) {d:Nat} {e:Int} (H:d=x.getD 0) (he:e=if x=none then 1 else 0) (F:DgR w B G rv d e W) : bodyPostM Fence.wide 5 prog f35 (DigP x w) Exit.ret { tmps,defers:=[{ target:=.collected D,args:=#[] }] } W:=by
 subst H he;refine ⟨by simp,.inl ⟨_,_,rfl,run_takeDeferred L,?_⟩⟩;have C:DgR w B G rv (x.getD 0) (if x=none then 1 else 0) (W.putObj D (.deferred none)):=F.far ((zr _ _).grown (grownBy_putObj' W D _) (by have:=(zF2.1 F.e).1;omega) (λk e=>by cases e;omega));exact ⟨_,Zqz J I C,C.b,rfl⟩
theorem Zpk {v:Vr}(B:1<=v.num)(F:v.num<=1000000)(C:Z18 v.time=true)(D:useB v.rs=true):v.okB=v.rs.all Rt.can:=by
 unfold Vr.okB;rw [C,D];simp [B,F]
theorem Zb6 {v:Vr}(h:¬ (1<=v.num/\v.num<=1000000/\Z18 v.time=true/\useB v.rs=true)):v.okB=false:=by
 unfold Vr.okB;rw [<- Bool.not_eq_true];intro B;simp only [zd,decide_eq_true_eq] at B;exact h ⟨B.1.1.1.1,B.1.1.1.2,B.1.1.2,B.1.2⟩
theorem Tryz.infoU8q:(Tryz.prog.info? 5).map (λi=>(i.zero,i.size,i.bytes))=some (some (.int .u8 0),1,1):=by kernel_rfl
def Z2g (l:Bytes):List Value:=l.map λx=>.int .u8 x.toNat
theorem byteRow_append (a b:Bytes):Z2g (a++b)=Z2g a++Z2g b:=by simp [Z2g]
theorem Z61 (l:Bytes):Lib.strCells (mk l)=Z2g l:=by simp [Lib.strCells,Z2g,mk]
theorem Z62 (l:Bytes):(mk l).size=l.length:=by simp [mk,ByteArray.size]
theorem Zhy {w:World}{base n:Nat}{e:TypeId}{v:Value}{l:Bytes}(h:w.ownsRowF base e 1 v n (Z2g l))(G:n=l.length):BytV w w.heap.size v l:=by
 subst G;rcases h.2 with ⟨B,D⟩ | ⟨g,cap,H,I,B,_,F,_,_,_,_,_⟩
 . have:l=[]:=List.length_eq_zero_iff.1 D;subst this;exact ⟨none,0,B,λh=>absurd rfl h⟩
 . refine ⟨some ⟨g,0,none⟩,cap,B,λ_=>⟨g,0,rfl,(zF2.1 F).1,λk hk=>?_⟩⟩;have C:=h.cells (g:=g) (by rw [B];rfl) k (.int .u8 l[k].toNat) (by simp [Z2g,zv hk]);rw [Nat.zero_add];unfold Addr.add at C;split at C
   . rename_i D;subst D;exact C
   . simpa using C
def DgI (w:World)(num time:Int)(rv:Value)(bb:Nat)(pre:List (Bytes × Int))(W:World):Prop := (∀ x∈pre,x.2=0)/\∃ bv,W.heap[bb]?=some (.cells #[bv] 96 (0,0))/\W.ownsRowF (bb+2) 5 1 bv (Z4F pre).length (Z2g (Z4F pre))/\DgR w num time rv 0 0 W/\bb+2<=W.heap.size
def DgX (w:World)(num time:Int)(rv:Value)(c:Code)(pre:List (Bytes × Int))(W:World):Prop := c=.ret/\(∃ x∈pre,x.2≠0)/\DgR w num time rv 0 1 W
theorem DgI.below {w:World}{G I:Int}{rv:Value}{F:Nat}{s:List (Bytes × Int)}{W B:World}(h:DgI w G I rv F s W)(hb:Below W.heap.size W B):DgI w G I rv F s B:=by
 obtain ⟨S,L,C,H,R,T⟩:=h;refine ⟨S,L,(hb.block _ (zF2.1 C).1).trans C,?_,R.on hb,by have:=hb.size;omega⟩;refine ⟨H.1,?_⟩;rcases H.2 with h | ⟨g,cap,M,N,O,J,D,rest⟩
 . exact .inl h
 . exact .inr ⟨g,cap,M,N,O,J,(hb.block g (zF2.1 D).1).trans D,rest⟩
theorem DgI.put {w:World}{F H:Int}{rv:Value}{C:Nat}{s:List (Bytes × Int)}{W:World}(h:DgI w F H rv C s W)(hw:w.heap.size+3<=C){l:Nat}(X:C+2<=l){o:Obj}(L:W.heap[l]?=some o)(S:o.isCells=false)(D:Obj):DgI w F H rv C s (W.putObj l D):=by
 obtain ⟨V,M,J,G,U,O⟩:=h;refine ⟨V,M,(zQ (by omega)).trans J,?_,U.far ((zr _ _).grown (grownBy_putObj' W l D) (by omega) (λk e=>by cases e;omega)),by simpa [World.putObj] using O⟩;refine ⟨G.1,?_⟩;rcases G.2 with h | ⟨g,cap,N,R,T,I,B,rest⟩
 . exact .inl h
 . refine .inr ⟨g,cap,N,R,T,I,(zQ (λe=>?_)).trans B,rest⟩;subst e;rw [L] at B;injection B with B
   subst B;cases S
theorem DgX.put {w:World}{C D:Int}{rv:Value}{c:Code}{s:List (Bytes × Int)}{W:World}(h:DgX w C D rv c s W){l:Nat}(H:w.heap.size+3<=l)(F:w.heap.size+3<=W.heap.size)(B:Obj):DgX w C D rv c s (W.putObj l B):=by
 obtain ⟨J,G,I⟩:=h;exact ⟨J,G,I.far ((zr _ _).grown (grownBy_putObj' W l B) F (λk e=>by cases e;exact H))⟩
theorem ZqA (w:World)(B C:Int)(rv:Value)(e:Int):DgR w B C rv 0 e (((w.alloc (.cells #[vI B,vI C,rv] 36)).alloc (.cells #[.int .u64 0] 27)).alloc (.cells #[vI e] 37)):=by
 refine ⟨?_,?_,?_,(((zr _ _).alloc (zn _) _).alloc (by simp) _).alloc (by simp;omega) _⟩
 all_goals repeat (first | (refine Z8g ?_;first | rfl | (simp only [zk];done) | (simp only [zk];omega)) | (refine Z5i ?_ ?_;· (simp only [zk];omega)))
theorem Zpm (W:World):∀ (j:Nat) (u:Value),[Value.int .u8 10][j]?=some u->(W.alloc (.cells #[.int .u8 10] 5)).cell? ((⟨W.heap.size,0,none⟩:Addr).add j)=some u:=by
 intro j u B
 match j,B with
 | 0,B =>simp at B;subst B;rw [show (⟨W.heap.size,0,none⟩:Addr).add 0=⟨W.heap.size,0,none⟩ from rfl,zH (za W _)];rfl
 | (j+1),B=>simp at B
theorem dg_box {W C F:World}{B n M:Nat}{e:TypeId}{H D:Value}{N O:List Value}{o:Obj}(h:W.ownsRowF (B+2) e 1 H n N)(R:C.ownsRowF (B+2) e 1 D M O)(G:W.grownBy C H.ownBlock)(J:(C.alloc (.cells #[.int .u8 10] 5)).grownBy F D.ownBlock) (hb:W.heap[B]?=some o) (S:B+2<=W.heap.size):F.heap[B]?=some o:=by
 have T:=G.size;have L:C.heap[B]?=some o:=(G.block B (by omega) (λe=>by have:=(h.lt _ e.symm).1;omega)).trans hb;have I:(C.alloc (.cells #[.int .u8 10] 5)).heap[B]?=some o:=Z0w L _;exact (J.block B (by simp;omega) (λe=>by have:=(R.lt _ e.symm).1;omega)).trans I
theorem Za4 {w:World}{base n:Nat}{e:TypeId}{v:Value}{D:List Value}(h:w.ownsRowF base e 1 v n D):∃ A c,v=slice A n c:=by
 rcases h.2 with ⟨B,C⟩ | ⟨g,cap,F,G,B,_⟩
 . exact ⟨none,0,by rw [B,C]⟩
 . exact ⟨_,cap,B⟩
def dgA (w:World)(num time:Int)(rv:Value)(bb:Nat)(x:Bytes × Int):Act := { tmps:=#[.agg #[vI num,vI time,rv],.pointer (some ⟨w.heap.size,0,none⟩),.pointer (some ⟨w.heap.size+1,0,none⟩),.pointer (some ⟨w.heap.size+1+1,0,none⟩),.pointer (some ⟨bb,0,none⟩),.string (mk x.1),vI x.2, .pointer (some ⟨w.heap.size,0,none⟩),vI num,.bool false,.bool false,.pointer (some ⟨w.heap.size,0,none⟩),vI num,.bool false,.bool false,.bool false,.pointer (some ⟨w.heap.size,1,none⟩), vI time,.bool true,.bool false,.bool false,.bool false,.pointer (some ⟨w.heap.size,2,none⟩),rv,.bool true,.bool false,.bool false,.pointer (some ⟨w.heap.size,2,none⟩),rv, .func (.func 89) #[] #[.pointer (some ⟨bb+1,0,none⟩)],.string (mk x.1),vI x.2, undef,undef,undef,undef,undef,undef,undef,undef,undef,undef,undef,undef,undef,undef,undef],defers:=[] }
theorem Zct {B:Nat}{W D:World}{e:TypeId}{n:Nat}{v:Value}{H:List Value}(h:W.ownsRowF B e 1 v n H)(F:W.grownBy D v.ownBlock)(C:Nat):KeepsFrom C W D:=by
 refine (KeepsOthers.of_grownBy F (λj o hj ho=>?_)).from C;rcases h.2 with ⟨rfl,_⟩ | ⟨g,cap,I,J,rfl,_,G,_⟩
 . simp [Value.ownBlock] at hj
 . simp [Value.ownBlock] at hj;subst hj;rw [G] at ho;injection ho with ho
   subst ho;rfl
theorem Z6q (W:World)(p:Addr)(u:Value):W.grownBy (W.setCell p u) (some p.block):=⟨rfl,rfl,rfl,by simp [World.setCell],λk _ hn=>zg W p u k (by intro e;subst e;exact hn rfl)⟩
theorem Zpn {w W G C w5:World}{V O:Int}{rv:Value}{B n f:Nat}{M T D:Value}{d Z:List Value}{H:List (Bytes × Int)}{I:Bytes}(h:W.ownsRowF (B+2) 5 1 M n d)(S:G.ownsRowF (B+2) 5 1 T f Z)(L:W.grownBy G M.ownBlock)(U:(G.alloc (.cells #[.int .u8 10] 5)).grownBy C T.ownBlock) (N:C.ownsRowF (B+2) 5 1 D (Z4F (H++[(I,0)])).length (Z2g (Z4F (H++[(I,0)])))) (X:DgR w V O rv 0 0 W) (m:C.heap[B]?=some (.cells #[M] 96 (0,0))) (l:B+2<=W.heap.size) (hw:w.heap.size+3<=B) (Y:∀ x∈H,x.2=0) : KeepsFrom w5.heap.size W (C.setCell ⟨B,0,none⟩ D)/\Z26 (Tx w.heap.size (B+1)) W (C.setCell ⟨B,0,none⟩ D)/\DgI w V O rv B (H++[(I,0)]) (C.setCell ⟨B,0,none⟩ D):=by
 have r:=L.size;have j:Below (B+2) W G:=(zr _ _).grown L l (λg e=>(h.lt g e).1);have J:Below (B+2) W C:=(j.alloc (by omega) _).grown U (by simp;omega) (λg e=>(S.lt g e).1);have q:=J.size;refine ⟨((Zct h L _).trans (((KeepsOthers.alloc G _).from _).trans (Zct (S.alloc _) U _))).trans (Z25 _ _ _ _),λb hb=>?_,λx F=>?_,D,?_,?_,?_,?_⟩
 . have R:b<B+2/\b≠B:=by rcases hb with hb | hb <;> omega
   exact (zg _ _ _ _ R.2).trans (J.block b R.1)
 . rcases zC.1 F with F | F
   . exact Y x F
   . rw [List.mem_singleton.1 F]
 . simp [World.setCell,zM,m]
 . exact N.kept (Z6q C ⟨B,0,none⟩ D) (by
    cases hv:D.ownBlock with
    | none=>exact .inl rfl
    | some g=>exact .inr (λe=>by have:=(N.lt g hv).1;injection e with e;dsimp only at e;omega))
 . exact (X.far (J.mono (by omega))).far ((zr _ _).setCell (p:=⟨B,0,none⟩) hw D)
 . show B+2<=(C.setCell ⟨B,0,none⟩ D).heap.size;have:(C.setCell ⟨B,0,none⟩ D).heap.size=C.heap.size:=by simp [World.setCell]
   omega
theorem Zrz {w w':World}{base n:Nat}{e:TypeId}{v:Value}{C:List Value}(h:w.ownsRowF base e 1 v n C)(hb:Below w.heap.size w w'):w'.ownsRowF base e 1 v n C:=by
 refine ⟨h.1,?_⟩;rcases h.2 with h | ⟨g,cap,F,G,H,D,B,rest⟩
 . exact .inl h
 . exact .inr ⟨g,cap,F,G,H,D,(hb.block g (zF2.1 B).1).trans B,rest⟩
theorem ZfB {w:World}{base n:Nat}{e:TypeId}{v:Value}{B:List Value}(h:w.ownsRowF base e 1 v n B){p:Addr}(C:p.block<base)(u:Value):(w.setCell p u).ownsRowF base e 1 v n B := h.kept (Z6q w p u) (by
  cases hv:v.ownBlock with
  | none=>exact .inl rfl
  | some g=>exact .inr (λe=>by have:=(h.lt g hv).1;injection e with e;omega))
structure DgK (w:World) (num time:Int) (rv:Value) (bb D:Nat) (bv:Value) (t:Bytes) (W:World):Prop where
 r:∃ d e,DgR w num time rv d e W
 b:W.heap[bb]?=some (.cells #[bv] 96 (0,0))
 y:W.ownsRowF (bb+2) 5 1 bv t.length (Z2g t)
 d:W.heap[D]?=some (.deferred (some []))
 h:w.heap.size+3<=bb
 hD:w.heap.size+3<=D
theorem DgK.on {w W B:World}{F G:Int}{rv C:Value}{H D:Nat}{t:Bytes}(h:DgK w F G rv H D C t W)(hb:Below W.heap.size W B):DgK w F G rv H D C t B:=by
 obtain ⟨d,e,I⟩:=h.r;exact ⟨⟨d,e,I.on hb⟩,(hb.block _ (zF2.1 h.b).1).trans h.b,Zrz h.y hb,(hb.block _ (zF2.1 h.d).1).trans h.d,h.h,h.hD⟩
theorem DgK.drew {w W:World}{B C:Int}{rv F:Value}{G D:Nat}{t:Bytes}(h:DgK w B C rv G D F t W):DgK w B C rv G D F t W.drew:=h.on (zr _ _).drew
theorem DgK.alloc {w W:World}{B C:Int}{rv F:Value}{G D:Nat}{t:Bytes}(h:DgK w B C rv G D F t W)(o:Obj):DgK w B C rv G D F t (W.alloc o):=h.on ((zr _ _).alloc (zn _) _)
theorem DgK.set1 {w W:World}{G H:Int}{rv F:Value}{C D:Nat}{t:Bytes}(h:DgK w G H rv C D F t W)(x:Nat):DgK w G H rv C D F t (W.setCell ⟨w.heap.size+1,0,none⟩ (.int .u64 (x:Nat))):=by
 obtain ⟨d,e,B⟩:=h.r;have J:=h.h;have I:=h.hD;refine ⟨⟨x,e,?_,?_,?_,?_⟩,(zg _ _ _ _ (by show C≠w.heap.size+1;omega)).trans h.b,ZfB h.y (by show w.heap.size+1<C+2;omega) _,(zg _ _ _ _ (by show D≠w.heap.size+1;omega)).trans h.d,J,I⟩
 . exact (zg _ _ _ _ (by show w.heap.size≠w.heap.size+1;omega)).trans B.v
 . have L:=B.d;simp [World.setCell,zM,L]
 . exact (zg _ _ _ _ (by show w.heap.size+2≠w.heap.size+1;omega)).trans B.e
 . exact B.b.setCell (p:=⟨w.heap.size+1,0,none⟩) (by show w.heap.size<=w.heap.size+1;omega) _
theorem DgK.set2 {w W:World}{G H:Int}{rv F:Value}{C D:Nat}{t:Bytes}(h:DgK w G H rv C D F t W)(x:Int):DgK w G H rv C D F t (W.setCell ⟨w.heap.size+1+1,0,none⟩ (vI x)):=by
 obtain ⟨d,e,B⟩:=h.r;have J:=h.h;have I:=h.hD;refine ⟨⟨d,x,?_,?_,?_,?_⟩,(zg _ _ _ _ (by show C≠w.heap.size+1+1;omega)).trans h.b,ZfB h.y (by show w.heap.size+1+1<C+2;omega) _,(zg _ _ _ _ (by show D≠w.heap.size+1+1;omega)).trans h.d,J,I⟩
 . exact (zg _ _ _ _ (by show w.heap.size≠w.heap.size+1+1;omega)).trans B.v
 . exact (zg _ _ _ _ (by show w.heap.size+1≠w.heap.size+1+1;omega)).trans B.d
 . have L:W.heap[w.heap.size+1+1]?=_:=B.e;show (W.setCell ⟨w.heap.size+1+1,0,none⟩ (vI x)).heap[w.heap.size+1+1]?=_;simp [World.setCell,zM,L]
 . exact B.b.setCell (p:=⟨w.heap.size+1+1,0,none⟩) (by show w.heap.size<=w.heap.size+1+1;omega) _
theorem Z7i (v:Vr)(V:Value)(w:World)(hV:VrV w w.heap.size V v)(ht:Tabs w.heap.size w) : Calls prog 35 #[V] w (DigP (if v.okB then some v.dig else none) w):=by
 obtain ⟨A,c,rfl,hR⟩:=hV;have bt:=ZqA w v.num v.time (slice A v.rs.length c) 0;have bF:=ZqA w v.num v.time (slice A v.rs.length c) 1;unfold vrV;obtain ⟨_,_,_,g3,g4,g5,g6⟩:=bt.cells;have bQ:=λW=>Z7r v.time W;obtain ⟨R,bg⟩:∃ R,(if v.okB then some v.dig else none)=R:=⟨_,rfl⟩
 rw [bg];have bM:v.okB=false->R=none:=λh=>by rw [<- bg,h];rfl
 have bN:v.okB=true->R=some v.dig:=λh=>by rw [<- bg,h];rfl
 obtain ⟨j,bb,HR,HT,bJ,q,cj⟩:=zh7 bt bF hR ht bQ bM bN;clear bt bF hR ht bQ bM bN bg;refine (callsIn_wide (n:=5)).1 ?_;refine callsIn_of_wp_marks func35 rfl trivial ?_ rfl;simp only [ntmps35,List.size_toArray,zw,zx,Nat.reduceAdd,Nat.reduceSub,Array.replicate_succ,Array.replicate_zero,List.push_toArray,List.append_toArray,zn2,zc2];by_cases h1:1<=v.num
 . have d1:decide (v.num<1)=false:=by simp;omega
   by_cases h2:v.num<=1000000
   . have d2:decide (v.num > 1000000)=false:=by simp;omega
     have b7:decide (1000000<v.num)=false:=d2;gi_wp2_with fail;clear bb;generalize ((w.alloc (.cells #[vI v.num,vI v.time,slice A v.rs.length c] 36)).alloc (.cells #[.int .u64 0] 27)).alloc (.cells #[vI 0] 37)=w1 at *
     refine ⟨trivial,(callsIn_wide.2 (bJ.o w1)).mono ?_⟩;rintro e w' ⟨rfl,rfl⟩;cases h3:Z18 v.time with
     | false =>
      have F:v.okB=false:=Zb6 (λh=>by rw [h3] at h;simp at h);obtain rfl:=q.o F;have bb:=zh (j.o.set 0 1);gi_wp2_with fail
      repeat (refine ⟨trivial,?_⟩;gi_wp2_with fail)
      exact Z6p (x:=none) (d:=0) (e:=1) rfl rfl rfl (by simp) bb.o
     | true =>
      obtain ⟨_,_,g2,_⟩:=j.o.cells;have bY:=zh (Zam v.rs (slice A v.rs.length c) w1 ((HR.o.on j.o.b).up j.o.b.size));gi_wp2_with fail;refine ⟨trivial,(callsIn_wide.2 bY.o).mono ?_⟩;rintro e B ⟨rfl,U⟩;have bj:=j.o.on U;obtain ⟨_,_,g2,g3,g4,g5,g6⟩:=bj.cells;have bA:=zh bj;have bV:=zh (bj.set 0 1);clear bj;have bD:=bA.o.on ((zr B.heap.size B).alloc (zn _) (.cells #[slice none 0 0] 96));obtain ⟨_,_,k2,_⟩:=bD.cells;have bG:=zh bD;clear bD;have bq:w.heap.size+2<B.heap.size:=(zF2.1 bA.o.e).1;clear bY j U;cases h4:useB v.rs with
      | false =>
       have F:v.okB=false:=Zb6 (λh=>by rw [h4] at h;simp at h);obtain rfl:=q.o F;gi_wp2_with fail
       repeat (refine ⟨trivial,?_⟩;gi_wp2_with fail)
       exact Z6p (x:=none) (d:=0) (e:=1) rfl rfl rfl (by simp) bV.o
      | true =>
       gi_wp2_with fail;refine ⟨trivial,(callsIn_wide.2 (Zkp A v.rs.length c _)).mono ?_⟩;rintro e w' ⟨rfl,rfl⟩;have cu:v.rs.length<=100:=((Z1A _).1 h4).1;have bL:v.okB=v.rs.all Rt.can:=Zpk h1 h2 h3 h4;obtain ⟨O,bu,X⟩:=ZqH HR.o;have ba:=bG.o.on ((zr (B.alloc (.cells #[slice none 0 0] 96)).heap.size (B.alloc (.cells #[slice none 0 0] 96))).alloc (zn _) (.cells #[slice A v.rs.length c] 23));have b3:=Z0w (za B (.cells #[slice none 0 0] 96)) (.cells #[slice A v.rs.length c] 23);have bH:((B.alloc (.cells #[slice none 0 0] 96)).alloc (.cells #[slice A v.rs.length c] 23)).heap[B.heap.size+1]?=some (.cells #[slice A v.rs.length c] 23 (0,0)):=by have:=za (B.alloc (.cells #[slice none 0 0] 96)) (.cells #[slice A v.rs.length c] 23);rwa [zk] at this
       have cx:((B.alloc (.cells #[slice none 0 0] 96)).alloc (.cells #[slice A v.rs.length c] 23)).heap.size=B.heap.size+2:=by simp
       generalize (B.alloc (.cells #[slice none 0 0] 96)).alloc (.cells #[slice A v.rs.length c] 23)=w5 at *
       have cA:O.length=v.rs.length:=by rw [<- bu];simp
       have bU:TxB w.heap.size (B.heap.size+1) (slice A v.rs.length c) O w5:=⟨bH,X.keepS (λb hb=>ba.b.block b hb),HT.o.on ba.b,by omega⟩
       have bO:DgI w v.num v.time (slice A v.rs.length c) B.heap.size [] w5:=⟨λx G=>(by simp at G),_,b3,World.ownsRowF_nil _ _ _ _,ba,by omega⟩
       obtain ⟨b2,b6,HM,bs,bS,ct⟩:=zh6 bU bO X bu bL ba;clear bU bO X bu bL ba bG bA bV b3 bH bJ g2 g3 g4 g5 g6 k2;gi_wp2_with fail;generalize cz:(Value.slice A v.rs.length c)=rv at *
       refine Z86 rfl (by omega) (gf:=89) (lb:=#[.pointer (some ⟨B.heap.size+1,0,none⟩)]) (by simp [go_sem]) trivial (enters_of func89 (by kernel_rfl) rfl) (ZhA _ w.heap.size (B.heap.size+1) rv O (by omega)) b2.o.ts (λW' hb=>b2.o.on hb) (λ_=>rfl) (DgI w v.num v.time rv B.heap.size) (DgX w v.num v.time rv) ⟨λs W W' h hb=>h.below hb⟩ (λs W l o o' h hl ho hc=>h.put (by omega) (by omega) ho hc o') (λc' s W l o o' h hl ho _=>h.put (by omega) (by have:=(zF2.1 h.2.2.e).1;omega) o') b6.o (dgA w v.num v.time rv B.heap.size)
        ?assign ?body ?done ?stop
       case assign =>intro l x W K Z;simp only [encX];gi_wp2_with fail;exact Z
       case body =>
        rintro l Y ⟨L,er⟩ W ⟨be,bv,N,M,I,bd⟩ bf;obtain ⟨_,_,_,g3,g4,g5,g6⟩:=I.cells;unfold dgA;by_cases he:er=0
        . subst he;obtain ⟨i0,hi,b4,bR,bq⟩:=info_parts Tryz.infoU8q;have ca:=bf.length_le;have bx:=ZfA (Y++[(L,0)]) (λx G=>by obtain ⟨m,_,rfl⟩:=List.mem_map.1 (bf.subset G);exact Zb5 m.r);have bK:(xl O).length=O.length:=by simp [xl]
          rw [Z7h,zj,zj] at bx;have bE:(mk L).size=L.length:=Z62 L;have cE:W.cell? ⟨B.heap.size,0,none⟩=some bv:=by rw [zH N];rfl
          have cy:W.frozen? ⟨B.heap.size,0,none⟩=false:=by have h':=N;simp [World.frozen?,h']
          have cg:(Z4F Y).length+L.length+1<=10000000:=by simp only [zw,zx] at bx;omega
          obtain ⟨bn,bk,bW,cC,cc⟩:=zh5 M I N bf be;clear M I N bf be bx ca bK g3 g4 g5 g6;gi_wp2_with (first
           | (gi_at_builtin;refine Lib.wpListIn_append_own_stringF _ rfl _ _ 96 9 rfl (B.heap.size+2) 5 i0 underlying96 underlying9 hi b4 bR bq bv _ _ rfl bn.o (mk L) rfl (by rw [bE];unfold maxLen;omega) (by rw [bE];omega) bd ?_;intro v1 W1 g bh _;rw [Z61,<- byteRow_append,bE,<- zj] at g;obtain ⟨ft,bm⟩:∃ ft,Z4F Y++L=ft:=⟨_,rfl⟩;rw [bm] at g;have cB:B.heap.size+2<=W1.heap.size:=zt bd bh.size;have cD:ft.length+1<=10000000:=by rw [<- bm,zj];exact cg)
           | (gi_at_builtin;refine wpListIn_append_ownF _ rfl _ _ 96 rfl (B.heap.size+2) 5 i0 (.int .u8 0) 1 1 underlying96 hi b4 bR bq rfl (by decide) v1 _ _ rfl (g.alloc _) ⟨W1.heap.size,0,none⟩ 1 1 [.int .u8 10] rfl rfl (Zpm W1) (by intro u hu;simp at hu;subst hu;rfl) (by unfold maxLen;omega) (by omega) (by simp;omega) ?_;intro v2 W2 bc bB _;have ch:Z2g ft++[.int .u8 10]=Z2g (Z4F (Y++[(L,0)])):=(by rw [Z7h,<- bm,byteRow_append,byteRow_append,byteRow_append,List.append_assoc];rfl);rw [ch] at bc;have b8:ft.length+1=(Z4F (Y++[(L,0)])).length:=(by rw [Z7h,<- bm];simp [Nat.add_assoc]);rw [b8] at bc;obtain ⟨J,H,rfl⟩:=Za4 bc;have U:W2.heap[B.heap.size]?=some (.cells #[bv] 96 (0,0)):=dg_box bn.o g bh bB bW.o bd;have c2:W2.cell? ⟨B.heap.size,0,none⟩=some bv:=(by rw [zH U];rfl);have f2:W2.frozen? ⟨B.heap.size,0,none⟩=false:=(by have h':=U;simp [World.frozen?,h']);have bT:=Zpn (w5:=w5) bn.o g bh bB bc bk.o U bd (by omega) cc.o;have cn:=zh bT;clear bT g bc bh bB U))
          exact cn.o
        . have d0:(er != 0)=true:=by simpa using he
          have G:DgX w v.num v.time rv .ret (Y++[(L,er)]) ((W.setCell ⟨w.heap.size+1,0,none⟩ (.int .u64 (0:Nat))).setCell ⟨w.heap.size+1+1,0,none⟩ (vI 1)):=⟨rfl,⟨(L,er),by simp,he⟩,I.set 0 1⟩
          have bX:KeepsFrom w5.heap.size W ((W.setCell ⟨w.heap.size+1,0,none⟩ (.int .u64 (0:Nat))).setCell ⟨w.heap.size+1+1,0,none⟩ (vI 1)):=(Z25 _ _ _ _).trans (Z25 _ _ _ _);obtain ⟨HX,cf,bn,bk,bW⟩:=zh5 G bX M I N;clear G bX M I N he;gi_wp2_with fail;exact ⟨cf.o,HX.o⟩
       case done =>
        rintro D xs W hD rfl ⟨be,bv,N,M,I,bd⟩ Z;have bC:∀ r∈v.rs,r.can=true:=by intro r F;rw [<- bs.o] at F;obtain ⟨m,X,rfl⟩:=List.mem_map.1 F;exact (Zkf m.r).1 (be _ (List.mem_map.2 ⟨m,X,rfl⟩))
        have br:R=some v.dig:=cj.o (by rw [bS.o,List.all_eq_true];exact bC);have bz:Z4F (xl O)=Z1C v.rs:=by rw [<- Zhx v.rs bC,<- bs.o];simp [xl,List.map_map,Function.comp_def]
        rw [bz] at M;have bI:v.dig=Z56 (sumD (Z1C v.rs)) [v.num,v.time]:=rfl;have cv:(Z1C v.rs).length<=10000000:=by
         rw [<- bz];have:=ZfA (xl O) (λx G=>by obtain ⟨m,_,rfl⟩:=List.mem_map.1 G;exact Zb5 m.r);have bK:(xl O).length=O.length:=by simp [xl]
         omega
        subst br;generalize v.dig=f at *
        generalize Z1C v.rs=C at *
        obtain ⟨J,H,rfl⟩:=Za4 M;have b5:DgK w v.num v.time rv B.heap.size D (slice J C.length H) C W:=⟨⟨0,0,I⟩,N,M,Z,by omega,by omega⟩
        have cs:0<=v.time/\v.time<=1000000000:=by simpa [Z18] using h3
        have T:Hid (∀ wx,DgK w v.num v.time rv B.heap.size D (slice J C.length H) C wx->wx.cell? ⟨B.heap.size,0,none⟩=some (slice J C.length H)/\wx.cell? ⟨w.heap.size,0,none⟩=some (vI v.num)/\wx.cell? ⟨w.heap.size,1,none⟩=some (vI v.time)/\DgK w v.num v.time rv B.heap.size D (slice J C.length H) C wx):=λwx h=>by obtain ⟨d,e,F⟩:=h.r;exact ⟨by rw [zH h.b];rfl,F.cells.1,F.cells.2.1,h⟩
        have cb:Hid (∀ wx,DgK w v.num v.time rv B.heap.size D (slice J C.length H) C wx->Calls prog 60 #[slice J C.length H] wx λe w'=>e=.returned (.int .u64 (sumD C:Nat))/\Below wx.heap.size wx w'):=λwx h=>Za9 _ C wx (Zhy h.y rfl) (by omega);have ck:sumD C<18446744073709551616:=Z6C Z29 C Z4n;have b0:Hid (∀ wx V,DgK w v.num v.time rv B.heap.size D (slice J C.length H) C wx->Z03 wx wx.heap.size V [v.num,v.time]->Calls prog 59 #[.int .u64 (sumD C:Nat),V] wx λe w'=>e=.returned (.int .u64 (f:Nat))/\Below wx.heap.size wx w'):=λwx V h hv=>by obtain ⟨d,e,F⟩:=h.r;rw [bI];exact Z99 (sumD C) V [v.num,v.time] w.heap.size wx ck hv (by simp) (by intro x G;simp at G;rcases G with rfl | rfl <;> omega) (HT.o.on F.b)
        generalize sumD C=sm at *
        have bZ:=zh b5;clear b5 I N M Z bI be bz bC;gi_upto_region 10 with fail
        refine wpIn_wide.2 ?_;go_region_held3 (λw'=>w'.cell? ⟨B.heap.size,0,none⟩=some (slice J C.length H)/\w'.cell? ⟨w.heap.size,0,none⟩=some (vI v.num)/\w'.cell? ⟨w.heap.size,1,none⟩=some (vI v.time)/\DgK w v.num v.time rv B.heap.size D (slice J C.length H) C w') (first | (with_reducible exact T.o _ bZ.o.drew) | (with_reducible exact T.o _ L5) | (with_reducible exact T.o _ L6) | (with_reducible exact T.o _ (bZ.o.alloc _).drew) | (with_reducible exact T.o _ (L5.alloc _)) | (with_reducible exact T.o _ (L6.set1 f)) | (with_reducible exact T.o _ ((L6.set1 f).set2 0)) | fail) (first
          | (go_at_call 60;have S:=(‹_/\_/\_/\DgK w v.num v.time rv B.heap.size D (slice J C.length H) C _›).2.2.2;refine (cb.o _ S).mono ?_;rintro ex cm ⟨rfl,bp⟩;have L5:=S.on bp;try (have b1:=((((Z46 (W:=W) v.num v.time).up (by simp)).on ((zr _ _).drew)).on bp).up bp.size;have ce:=zh b1;clear b1);clear bp S)
          | (go_at_call 59;have S:=(‹_/\_/\_/\DgK w v.num v.time rv B.heap.size D (slice J C.length H) C _›).2.2.2;(first | (refine (b0.o _ _ S ce.o).mono ?_) | (refine (b0.o _ _ S (((Z46 (W:=cm) v.num v.time).up (by simp)))).mono ?_));rintro ex w6 ⟨rfl,bP⟩;have L6:=S.on bP;obtain ⟨d6,e6,R6⟩:=L6.r;obtain ⟨_,_,_,g3,g4,g5,g6⟩:=R6.cells;have cd:=zh R6;clear R6;clear bP S))
        all_goals have h9:=cd.o.set f 0;have H9:=zh h9;have K9:=zh (((L6.set1 f).set2 0).d);clear h9;gi_wp2_with fail;exact Zcs (x:=some f) (d:=f) (e:=0) (by omega) K9.o rfl rfl rfl (by simp) H9.o
       case stop =>
        rintro D c' Y W hD b9 ⟨rfl,⟨x,G,he⟩,I⟩ Z;have br:R=none:=by refine q.o ?_;rw [bS.o];obtain ⟨m,X,rfl⟩:=List.mem_map.1 (b9.subset G);have cr:m.r.can≠true:=λh=>he ((Zkf m.r).2 h);rw [<- Bool.not_eq_true,List.all_eq_true];intro hc;exact cr (hc m.r (by rw [<- bs.o];exact List.mem_map.2 ⟨m,X,rfl⟩))
        subst br;have bk:=zh I;have HK:=zh Z;clear I Z;gi_wp2_with fail;exact Zcs (x:=none) (d:=0) (e:=1) (by omega) HK.o rfl rfl rfl (by simp) bk.o
   . have d2:decide (v.num > 1000000)=true:=by simp;omega
     have b7:decide (1000000<v.num)=true:=d2;have F:v.okB=false:=Zb6 (λh=>by omega);obtain rfl:=q.o F;gi_wp2_with fail
     repeat (refine ⟨trivial,?_⟩;gi_wp2_with fail)
     exact Z6p (x:=none) (d:=0) (e:=1) rfl rfl rfl (by simp) bb.o
 . have d1:decide (v.num<1)=true:=by simp;omega
   have F:v.okB=false:=Zb6 (λh=>by omega);obtain rfl:=q.o F;gi_wp2_with fail
   repeat (refine ⟨trivial,?_⟩;gi_wp2_with fail)
   exact Z6p (x:=none) (d:=0) (e:=1) rfl rfl rfl (by simp) bb.o
end
