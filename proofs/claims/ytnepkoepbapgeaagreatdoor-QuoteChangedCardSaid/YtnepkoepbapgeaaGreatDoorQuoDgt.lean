/-
  Walks: Digest of package quote.
-/
import Derived.Test.YtnepkoepbapgeaaGreatDoorQuoTxt
import Derived.Test.YtnepkoepbapgeaaGreatDoorQuoDig
import Derived.Test.YtnepkoepbapgeaaGreatDoorPrtCan
import Derived.Test.YtnepkoepbapgeaaGreatDoorQuoPrice
import Derived.Test.YtnepkoepbapgeaaGreatDoorQuoSay
import Derived.Lib.BufStepsIn
namespace Go.Proofs.YtnepkoepbapgeaaGreatDoor
set_option maxRecDepth 100000
open Go.RowKit Lx Px Qx Go.Shelf
attribute [local go_sem] Oper.semAt_some
namespace Qx
def Z44 (l:List (Bytes × Int)):Bytes:=l.flatMap fun x=>x.1++[10]
theorem Z6c (l:List (Bytes × Int))(x:Bytes × Int):Z44 (l++[x])=Z44 l++(x.1++[10]):=by simp [Z44]
theorem Zey:∀ (rs:List Rt),(∀ r∈rs,r.can=true)→Z44 (rs.map Rt.res)=Z82 rs:=by
 intro rs
 induction rs with
 | nil=>intro _;rfl
 | cons r rs ih =>
  intro h
  have h1:r.res=(r.text,0):=by unfold Rt.res;rw [if_pos (h r (by simp))]
  have h2:=ih fun x hx=>h x (by simp [hx])
  simp only [Z44,Z82,List.map_cons,List.flatMap_cons,h1] at h2 ⊢
  rw [h2]
end Qx
theorem Zdr:∀ (l:List (Bytes × Int)),(∀ x∈l,x.1.length≤10100)→(Z44 l).length≤10101*l.length:=by
 intro l
 induction l with
 | nil=>intro _;simp [Z44]
 | cons x l ih =>
  intro h
  have h1:=h x (by simp)
  have h2:=ih fun y hy=>h y (by simp [hy])
  simp only [Z44,List.flatMap_cons,List.length_append,List.length_cons,List.length_nil] at h2 ⊢
  omega
theorem Zhc (r:Rt):r.res.1.length≤10100:=by
 unfold Rt.res
 split
 · rename_i h;exact ZnD h
 · simp
theorem Zhd (r:Rt):(r.res.2=0 ↔ r.can=true):=by
 unfold Rt.res
 split
 · rename_i h;simp [h]
 · rename_i h;simpa using h
structure DgR (w:World) (num time:Int) (rv:Value) (d:Nat) (e:Int) (W:World):Prop where
 v:W.heap[w.heap.size]?=some (.cells #[.int .i64 num,.int .i64 time,rv] 24 (0,0))
 d:W.heap[w.heap.size+1]?=some (.cells #[.int .u64 (d:Nat)] 28 (0,0))
 e:W.heap[w.heap.size+2]?=some (.cells #[.int .i64 e] 35 (0,0))
 b:Below w.heap.size w W
theorem DgR.on {w W W':World}{num time:Int}{rv:Value}{d:Nat}{e:Int}(h:DgR w num time rv d e W)(hb:Below W.heap.size W W'):DgR w num time rv d e W' :=
 ⟨(hb.block _ (zs h.v)).trans h.v,(hb.block _ (zs h.d)).trans h.d,(hb.block _ (zs h.e)).trans h.e,Z00 h.b hb⟩
theorem DgR.far {w W W':World}{num time:Int}{rv:Value}{d:Nat}{e:Int}(h:DgR w num time rv d e W)(hb:Below (w.heap.size+3) W W'):DgR w num time rv d e W' :=
 ⟨(hb.block _ (by omega)).trans h.v,(hb.block _ (by omega)).trans h.d,(hb.block _ (by omega)).trans h.e,h.b.trans (hb.mono (by omega))⟩
theorem DgR.cells {w W:World}{num time:Int}{rv:Value}{d:Nat}{e:Int}(h:DgR w num time rv d e W) :
 W.cell? ⟨w.heap.size,0,none⟩=some (.int .i64 num)∧W.cell? ⟨w.heap.size,1,none⟩=some (.int .i64 time)∧W.cell? ⟨w.heap.size,2,none⟩=some rv∧W.cell? ⟨w.heap.size+1,0,none⟩=some (.int .u64 (d:Nat))∧W.frozen? ⟨w.heap.size+1,0,none⟩=false∧W.cell? ⟨w.heap.size+1+1,0,none⟩=some (.int .i64 e)∧W.frozen? ⟨w.heap.size+1+1,0,none⟩=false:=by
 have hd:=h.d
 have he:W.heap[w.heap.size+1+1]?=_:=h.e
 refine ⟨?_,?_,?_,?_,?_,?_,?_⟩
 · rw [zc h.v];rfl
 · rw [zc h.v];rfl
 · rw [zc h.v];rfl
 · rw [zc h.d];rfl
 · simp [World.frozen?,hd]
 · rw [zc he];rfl
 · simp [World.frozen?,he]
theorem DgR.set {w W:World}{num time:Int}{rv:Value}{d:Nat}{e:Int}(h:DgR w num time rv d e W)(d':Nat)(e':Int) :
 DgR w num time rv d' e' ((W.setCell ⟨w.heap.size+1,0,none⟩ (.int .u64 (d':Nat))).setCell ⟨w.heap.size+1+1,0,none⟩ (.int .i64 e')):=by
 refine ⟨?_,?_,?_,?_⟩
 · exact (Below.heap_setCell _ _ _ _ (by show w.heap.size≠w.heap.size+1+1;omega)).trans ((Below.heap_setCell _ _ _ _ (by show w.heap.size≠w.heap.size+1;omega)).trans h.v)
 · refine (Below.heap_setCell _ _ _ _ (by show w.heap.size+1≠w.heap.size+1+1;omega)).trans ?_
   have h':=h.d
   simp [World.setCell,Array.getElem?_modify,h']
 · have h':W.heap[w.heap.size+1+1]?=_:=h.e
   have h2:(W.setCell ⟨w.heap.size+1,0,none⟩ (.int .u64 (d':Nat))).heap[w.heap.size+1+1]?=_:=(Below.heap_setCell _ _ _ _ (by show w.heap.size+1+1≠w.heap.size+1;omega)).trans h'
   generalize W.setCell ⟨w.heap.size+1,0,none⟩ (.int .u64 (d':Nat))=W2 at *
   show (W2.setCell ⟨w.heap.size+1+1,0,none⟩ (.int .i64 e')).heap[w.heap.size+1+1]?=_
   simp [World.setCell,Array.getElem?_modify,h2]
 · exact (h.b.setCell (p:=⟨w.heap.size+1,0,none⟩) (by show w.heap.size≤w.heap.size+1;omega) _).setCell (p:=⟨w.heap.size+1+1,0,none⟩) (by show w.heap.size≤w.heap.size+1+1;omega) _
def DigP (x:Option Nat)(w:World)(e:Ending)(w':World):Prop :=
 Below w.heap.size w w'∧e=.returned (.tuple #[.int .u64 ((x.getD 0:Nat):Int),.int .i64 (if x=none then 1 else 0)])
theorem Zma {w W:World}{num time:Int}{rv:Value}{tmps:Array Value}{d:Nat}{e:Int}
 (t2:tmps[2]?.getD undef=.pointer (some ⟨w.heap.size+1,0,none⟩)) (t3:tmps[3]?.getD undef=.pointer (some ⟨w.heap.size+1+1,0,none⟩)) (hR:DgR w num time rv d e W) :
 (results Tryz.f21 tmps).run Tryz.prog W=.ok (.tuple #[.int .u64 (d:Nat),.int .i64 e]) W:=by
 obtain ⟨_,_,_,c3,_,c5,_⟩:=hR.cells
 simp [results,Tryz.results21,go_sem,t2,t3,c3,c5]
theorem Z5r {w W:World}{num time:Int}{rv:Value}{tmps:Array Value}{x:Option Nat}
 (t2:tmps[2]?.getD undef=.pointer (some ⟨w.heap.size+1,0,none⟩)) (t3:tmps[3]?.getD undef=.pointer (some ⟨w.heap.size+1+1,0,none⟩))
 {d:Nat} {e:Int} (hd:d=x.getD 0) (he:e=if x=none then 1 else 0) (hR:DgR w num time rv d e W) :
 bodyPostM Fence.wide 5 Tryz.prog Tryz.f21 (DigP x w) Exit.ret { tmps,defers:=[] } W:=by
 subst hd he;refine ⟨_,Zma t2 t3 hR,hR.b,rfl⟩
theorem Zb4 {w W:World}{num time:Int}{rv:Value}{tmps:Array Value}{x:Option Nat}{D:Nat}(hD:w.heap.size+3≤D)(hK:W.heap[D]?=some (.deferred (some [])))
 (t2:tmps[2]?.getD undef=.pointer (some ⟨w.heap.size+1,0,none⟩)) (t3:tmps[3]?.getD undef=.pointer (some ⟨w.heap.size+1+1,0,none⟩))
 {d:Nat} {e:Int} (hd:d=x.getD 0) (he:e=if x=none then 1 else 0) (hR:DgR w num time rv d e W) :
 bodyPostM Fence.wide 5 Tryz.prog Tryz.f21 (DigP x w) Exit.ret { tmps,defers:=[{ target:=.collected D,args:=#[] }] } W:=by
 subst hd he;refine ⟨by simp,.inl ⟨_,_,rfl,run_takeDeferred hK,?_⟩⟩
 have h2:DgR w num time rv (x.getD 0) (if x=none then 1 else 0) (W.putObj D (.deferred none)):=hR.far ((Below.refl _ _).grown (grownBy_putObj' W D _) (by have:=(zs hR.e);omega) (fun k e=>by cases e;omega))
 exact ⟨_,Zma t2 t3 h2,h2.b,rfl⟩
theorem ZjF {v:Vr}(h1:1≤v.num)(h2:v.num≤1000000)(h3:Z2g v.time=true)(h4:useB v.rs=true):v.okB=v.rs.all Rt.can:=by
 unfold Vr.okB;rw [h3,h4];simp [h1,h2]
theorem Z9z {v:Vr}(h:¬ (1≤v.num∧v.num≤1000000∧Z2g v.time=true∧useB v.rs=true)):v.okB=false:=by
 unfold Vr.okB
 rw [← Bool.not_eq_true]
 intro hc
 simp only [Bool.and_eq_true,decide_eq_true_eq] at hc
 exact h ⟨hc.1.1.1.1,hc.1.1.1.2,hc.1.1.2,hc.1.2⟩
theorem Tryz.infoU8q:(Tryz.prog.info? 5).map (fun i=>(i.zero,i.size,i.bytes))=some (some (.int .u8 0),1,1):=by kernel_rfl
def Z20 (l:Bytes):List Value:=l.map fun x=>.int .u8 x.toNat
theorem byteRow_append (a b:Bytes):Z20 (a++b)=Z20 a++Z20 b:=by simp [Z20]
theorem Zcg (l:Bytes):Lib.strCells (mk l)=Z20 l:=by simp [Lib.strCells,Z20,mk]
theorem Zn5 (l:Bytes):(mk l).size=l.length:=by simp [mk,ByteArray.size]
theorem Zez {w:World}{base n:Nat}{e:TypeId}{v:Value}{l:Bytes}(h:w.ownsRowF base e 1 v n (Z20 l))(hn:n=l.length):BytV w w.heap.size v l:=by
 subst hn;rcases h.2 with ⟨hv,h0⟩ | ⟨g,cap,cur,fz,hv,_,hg,_,_,_,_,_⟩
 · have:l=[]:=List.length_eq_zero_iff.1 h0
   subst this;exact ⟨none,0,hv,fun h=>absurd rfl h⟩
 · refine ⟨some ⟨g,0,none⟩,cap,hv,fun _=>⟨g,0,rfl,(zs hg),fun k hk=>?_⟩⟩
   have hc:=h.cells (g:=g) (by rw [hv];rfl) k (.int .u8 l[k].toNat) (by simp [Z20,List.getElem?_eq_getElem hk])
   rw [Nat.zero_add]
   unfold Addr.add at hc
   split at hc
   · rename_i h0;subst h0;exact hc
   · simpa using hc
def DgI (w:World)(num time:Int)(rv:Value)(bb:Nat)(pre:List (Bytes × Int))(W:World):Prop :=
 (∀ x∈pre,x.2=0)∧∃ bv,W.heap[bb]?=some (.cells #[bv] 98 (0,0))∧W.ownsRowF (bb+2) 5 1 bv (Z44 pre).length (Z20 (Z44 pre))∧DgR w num time rv 0 0 W∧bb+2≤W.heap.size
def DgX (w:World)(num time:Int)(rv:Value)(c:Code)(pre:List (Bytes × Int))(W:World):Prop :=
 c=.ret∧(∃ x∈pre,x.2≠0)∧DgR w num time rv 0 1 W
theorem DgI.below {w:World}{num time:Int}{rv:Value}{bb:Nat}{s:List (Bytes × Int)}{W W':World}(h:DgI w num time rv bb s W)(hb:Below W.heap.size W W'):DgI w num time rv bb s W':=by
 obtain ⟨h1,bv,h2,h3,h4,h5⟩:=h
 refine ⟨h1,bv,(hb.block _ (zs h2)).trans h2,?_,h4.on hb,by have:=hb.size;omega⟩
 refine ⟨h3.1,?_⟩
 rcases h3.2 with h | ⟨g,cap,cur,fz,hv,hg,hgk,rest⟩
 · exact .inl h
 · exact .inr ⟨g,cap,cur,fz,hv,hg,(hb.block g (zs hgk)).trans hgk,rest⟩
theorem DgI.put {w:World}{num time:Int}{rv:Value}{bb:Nat}{s:List (Bytes × Int)}{W:World}(h:DgI w num time rv bb s W)(hw:w.heap.size+3≤bb){l:Nat}(hl:bb+2≤l){o:Obj}(ho:W.heap[l]?=some o)(hc:o.isCells=false)(o':Obj):DgI w num time rv bb s (W.putObj l o'):=by
 obtain ⟨h1,bv,h2,h3,h4,h5⟩:=h
 refine ⟨h1,bv,(World.putObj_heap_other (by omega)).trans h2,?_,h4.far ((Below.refl _ _).grown (grownBy_putObj' W l o') (by omega) (fun k e=>by cases e;omega)),by simpa [World.putObj] using h5⟩
 refine ⟨h3.1,?_⟩
 rcases h3.2 with h | ⟨g,cap,cur,fz,hv,hg,hgk,rest⟩
 · exact .inl h
 · refine .inr ⟨g,cap,cur,fz,hv,hg,(World.putObj_heap_other (fun e=>?_)).trans hgk,rest⟩
   subst e;rw [ho] at hgk
   injection hgk with hgk
   subst hgk;cases hc
theorem DgX.put {w:World}{num time:Int}{rv:Value}{c:Code}{s:List (Bytes × Int)}{W:World}(h:DgX w num time rv c s W){l:Nat}(hl:w.heap.size+3≤l)(hW:w.heap.size+3≤W.heap.size)(o':Obj):DgX w num time rv c s (W.putObj l o'):=by
 obtain ⟨h1,h2,h4⟩:=h
 exact ⟨h1,h2,h4.far ((Below.refl _ _).grown (grownBy_putObj' W l o') hW (fun k e=>by cases e;exact hl))⟩
theorem Zmb (w:World)(num time:Int)(rv:Value)(e:Int):DgR w num time rv 0 e (((w.alloc (.cells #[.int .i64 num,.int .i64 time,rv] 24)).alloc (.cells #[.int .u64 0] 28)).alloc (.cells #[.int .i64 e] 35)):=by
 refine ⟨?_,?_,?_,(((Below.refl _ _).alloc (zn _) _).alloc (by simp) _).alloc (by simp;omega) _⟩
 all_goals repeat (first | (refine Z76 ?_;first | rfl | (simp only [World.size_alloc];done) | (simp only [World.size_alloc];omega)) | (refine Z4r ?_ ?_;· (simp only [World.size_alloc];omega)))
theorem ZjG (W:World):∀ (j:Nat) (u:Value),[Value.int .u8 10][j]?=some u→(W.alloc (.cells #[.int .u8 10] 5)).cell? ((⟨W.heap.size,0,none⟩:Addr).add j)=some u:=by
 intro j u hj
 match j,hj with
 | 0,hj =>
  simp at hj
  subst hj;rw [show (⟨W.heap.size,0,none⟩:Addr).add 0=⟨W.heap.size,0,none⟩ from rfl,zc (za W _)]
  rfl
 | (j+1),hj=>simp at hj
theorem dg_box {W W1 W2:World}{bb n n1:Nat}{e:TypeId}{bv v1:Value}{xs xs1:List Value}{o:Obj}(h:W.ownsRowF (bb+2) e 1 bv n xs)(h1:W1.ownsRowF (bb+2) e 1 v1 n1 xs1)(hg1:W.grownBy W1 bv.ownBlock)(hg2:(W1.alloc (.cells #[.int .u8 10] 5)).grownBy W2 v1.ownBlock)
 (hb:W.heap[bb]?=some o) (hsz:bb+2≤W.heap.size):W2.heap[bb]?=some o:=by
 have hz1:=hg1.size
 have e1:W1.heap[bb]?=some o:=(hg1.block bb (by omega) (fun e=>by have:=(h.lt _ e.symm).1;omega)).trans hb
 have e2:(W1.alloc (.cells #[.int .u8 10] 5)).heap[bb]?=some o:=Z0z e1 _
 exact (hg2.block bb (by simp;omega) (fun e=>by have:=(h1.lt _ e.symm).1;omega)).trans e2
theorem Z8x {w:World}{base n:Nat}{e:TypeId}{v:Value}{xs:List Value}(h:w.ownsRowF base e 1 v n xs):∃ A c,v=.slice A n c:=by
 rcases h.2 with ⟨hv,h0⟩ | ⟨g,cap,cur,fz,hv,_⟩
 · exact ⟨none,0,by rw [hv,h0]⟩
 · exact ⟨_,cap,hv⟩
def dgA (w:World)(num time:Int)(rv:Value)(bb:Nat)(x:Bytes × Int):Act :=
 { tmps:=#[.agg #[.int .i64 num,.int .i64 time,rv],.pointer (some ⟨w.heap.size,0,none⟩),.pointer (some ⟨w.heap.size+1,0,none⟩),.pointer (some ⟨w.heap.size+1+1,0,none⟩),.pointer (some ⟨bb,0,none⟩),.string (mk x.1),.int .i64 x.2,
  .pointer (some ⟨w.heap.size,0,none⟩),.int .i64 num,.bool false,.bool false,.pointer (some ⟨w.heap.size,0,none⟩),.int .i64 num,.bool false,.bool false,.bool false,.pointer (some ⟨w.heap.size,1,none⟩),
  .int .i64 time,.bool true,.bool false,.bool false,.bool false,.pointer (some ⟨w.heap.size,2,none⟩),rv,.bool true,.bool false,.bool false,.pointer (some ⟨w.heap.size,2,none⟩),rv,
  .func (.func 99) #[] #[.pointer (some ⟨bb+1,0,none⟩)],.string (mk x.1),.int .i64 x.2,
  undef,undef,undef,undef,undef,undef,undef,undef,undef,undef,undef,undef,undef,undef,undef],defers:=[] }
theorem Zb5 {B:Nat}{W W':World}{e:TypeId}{n:Nat}{v:Value}{xs:List Value}(h:W.ownsRowF B e 1 v n xs)(hg:W.grownBy W' v.ownBlock)(C:Nat):KeepsFrom C W W':=by
 refine (KeepsOthers.of_grownBy hg (fun j o hj ho=>?_)).from C
 rcases h.2 with ⟨rfl,_⟩ | ⟨g,cap,cur,fz,rfl,_,hgk,_⟩
 · simp [Value.ownBlock] at hj
 · simp [Value.ownBlock] at hj
   subst hj;rw [hgk] at ho
   injection ho with ho
   subst ho;rfl
theorem Z5s (W:World)(p:Addr)(u:Value):W.grownBy (W.setCell p u) (some p.block):=⟨rfl,rfl,rfl,by simp [World.setCell],fun k _ hn=>Below.heap_setCell W p u k (by intro e;subst e;exact hn rfl)⟩
theorem ZjH {w W W1 W2 w5:World}{num time:Int}{rv:Value}{bb n n1:Nat}{bv v1 v2:Value}{xs xs1:List Value}{pre:List (Bytes × Int)}{tx:Bytes}(h:W.ownsRowF (bb+2) 5 1 bv n xs)(h1:W1.ownsRowF (bb+2) 5 1 v1 n1 xs1)(hg1:W.grownBy W1 bv.ownBlock)(hg2:(W1.alloc (.cells #[.int .u8 10] 5)).grownBy W2 v1.ownBlock)
 (h2:W2.ownsRowF (bb+2) 5 1 v2 (Z44 (pre++[(tx,0)])).length (Z20 (Z44 (pre++[(tx,0)])))) (hD:DgR w num time rv 0 0 W) (hb2:W2.heap[bb]?=some (.cells #[bv] 98 (0,0))) (hsz:bb+2≤W.heap.size) (hw:w.heap.size+3≤bb) (hall:∀ x∈pre,x.2=0) :
 KeepsFrom w5.heap.size W (W2.setCell ⟨bb,0,none⟩ v2)∧Z1j (Tx w.heap.size (bb+1)) W (W2.setCell ⟨bb,0,none⟩ v2)∧DgI w num time rv bb (pre++[(tx,0)]) (W2.setCell ⟨bb,0,none⟩ v2):=by
 have hz1:=hg1.size
 have hB1:Below (bb+2) W W1:=(Below.refl _ _).grown hg1 hsz (fun g e=>(h.lt g e).1)
 have hB2:Below (bb+2) W W2:=(hB1.alloc (by omega) _).grown hg2 (by simp;omega) (fun g e=>(h1.lt g e).1)
 have hz2:=hB2.size
 refine ⟨((Zb5 h hg1 _).trans (((KeepsOthers.alloc W1 _).from _).trans (Zb5 (h1.alloc _) hg2 _))).trans (Z1A _ _ _ _),fun b hb=>?_,fun x hx=>?_,v2,?_,?_,?_,?_⟩
 · have hbl:b<bb+2∧b≠bb:=by rcases hb with hb | hb <;> omega
   exact (Below.heap_setCell _ _ _ _ hbl.2).trans (hB2.block b hbl.1)
 · rcases List.mem_append.1 hx with hx | hx
   · exact hall x hx
   · rw [List.mem_singleton.1 hx]
 · simp [World.setCell,Array.getElem?_modify,hb2]
 · exact h2.kept (Z5s W2 ⟨bb,0,none⟩ v2) (by
    cases hv:v2.ownBlock with
    | none=>exact .inl rfl
    | some g=>exact .inr (fun e=>by have:=(h2.lt g hv).1;injection e with e;dsimp only at e;omega))
 · exact (hD.far (hB2.mono (by omega))).far ((Below.refl _ _).setCell (p:=⟨bb,0,none⟩) hw v2)
 · show bb+2≤(W2.setCell ⟨bb,0,none⟩ v2).heap.size
   have:(W2.setCell ⟨bb,0,none⟩ v2).heap.size=W2.heap.size:=by simp [World.setCell]
   omega
theorem Zn6 {w w':World}{base n:Nat}{e:TypeId}{v:Value}{xs:List Value}(h:w.ownsRowF base e 1 v n xs)(hb:Below w.heap.size w w'):w'.ownsRowF base e 1 v n xs:=by
 refine ⟨h.1,?_⟩
 rcases h.2 with h | ⟨g,cap,cur,fz,hv,hg,hgk,rest⟩
 · exact .inl h
 · exact .inr ⟨g,cap,cur,fz,hv,hg,(hb.block g (zs hgk)).trans hgk,rest⟩
theorem Zds {w:World}{base n:Nat}{e:TypeId}{v:Value}{xs:List Value}(h:w.ownsRowF base e 1 v n xs){p:Addr}(hp:p.block<base)(u:Value):(w.setCell p u).ownsRowF base e 1 v n xs :=
 h.kept (Z5s w p u) (by
  cases hv:v.ownBlock with
  | none=>exact .inl rfl
  | some g=>exact .inr (fun e=>by have:=(h.lt g hv).1;injection e with e;omega))
structure DgK (w:World) (num time:Int) (rv:Value) (bb D:Nat) (bv:Value) (t:Bytes) (W:World):Prop where
 r:∃ d e,DgR w num time rv d e W
 b:W.heap[bb]?=some (.cells #[bv] 98 (0,0))
 y:W.ownsRowF (bb+2) 5 1 bv t.length (Z20 t)
 d:W.heap[D]?=some (.deferred (some []))
 h:w.heap.size+3≤bb
 hD:w.heap.size+3≤D
theorem DgK.on {w W W':World}{num time:Int}{rv bv:Value}{bb D:Nat}{t:Bytes}(h:DgK w num time rv bb D bv t W)(hb:Below W.heap.size W W'):DgK w num time rv bb D bv t W':=by
 obtain ⟨d,e,hr⟩:=h.r
 exact ⟨⟨d,e,hr.on hb⟩,(hb.block _ (zs h.b)).trans h.b,Zn6 h.y hb,(hb.block _ (zs h.d)).trans h.d,h.h,h.hD⟩
theorem DgK.drew {w W:World}{num time:Int}{rv bv:Value}{bb D:Nat}{t:Bytes}(h:DgK w num time rv bb D bv t W):DgK w num time rv bb D bv t W.drew:=h.on (Below.refl _ _).drew
theorem DgK.alloc {w W:World}{num time:Int}{rv bv:Value}{bb D:Nat}{t:Bytes}(h:DgK w num time rv bb D bv t W)(o:Obj):DgK w num time rv bb D bv t (W.alloc o):=h.on ((Below.refl _ _).alloc (zn _) _)
theorem DgK.set1 {w W:World}{num time:Int}{rv bv:Value}{bb D:Nat}{t:Bytes}(h:DgK w num time rv bb D bv t W)(x:Nat):DgK w num time rv bb D bv t (W.setCell ⟨w.heap.size+1,0,none⟩ (.int .u64 (x:Nat))):=by
 obtain ⟨d,e,hr⟩:=h.r
 have hh:=h.h
 have hd:=h.hD
 refine ⟨⟨x,e,?_,?_,?_,?_⟩,(Below.heap_setCell _ _ _ _ (by show bb≠w.heap.size+1;omega)).trans h.b,Zds h.y (by show w.heap.size+1<bb+2;omega) _,(Below.heap_setCell _ _ _ _ (by show D≠w.heap.size+1;omega)).trans h.d,hh,hd⟩
 · exact (Below.heap_setCell _ _ _ _ (by show w.heap.size≠w.heap.size+1;omega)).trans hr.v
 · have h':=hr.d
   simp [World.setCell,Array.getElem?_modify,h']
 · exact (Below.heap_setCell _ _ _ _ (by show w.heap.size+2≠w.heap.size+1;omega)).trans hr.e
 · exact hr.b.setCell (p:=⟨w.heap.size+1,0,none⟩) (by show w.heap.size≤w.heap.size+1;omega) _
theorem DgK.set2 {w W:World}{num time:Int}{rv bv:Value}{bb D:Nat}{t:Bytes}(h:DgK w num time rv bb D bv t W)(x:Int):DgK w num time rv bb D bv t (W.setCell ⟨w.heap.size+1+1,0,none⟩ (.int .i64 x)):=by
 obtain ⟨d,e,hr⟩:=h.r
 have hh:=h.h
 have hd:=h.hD
 refine ⟨⟨d,x,?_,?_,?_,?_⟩,(Below.heap_setCell _ _ _ _ (by show bb≠w.heap.size+1+1;omega)).trans h.b,Zds h.y (by show w.heap.size+1+1<bb+2;omega) _,(Below.heap_setCell _ _ _ _ (by show D≠w.heap.size+1+1;omega)).trans h.d,hh,hd⟩
 · exact (Below.heap_setCell _ _ _ _ (by show w.heap.size≠w.heap.size+1+1;omega)).trans hr.v
 · exact (Below.heap_setCell _ _ _ _ (by show w.heap.size+1≠w.heap.size+1+1;omega)).trans hr.d
 · have h':W.heap[w.heap.size+1+1]?=_:=hr.e
   show (W.setCell ⟨w.heap.size+1+1,0,none⟩ (.int .i64 x)).heap[w.heap.size+1+1]?=_
   simp [World.setCell,Array.getElem?_modify,h']
 · exact hr.b.setCell (p:=⟨w.heap.size+1+1,0,none⟩) (by show w.heap.size≤w.heap.size+1+1;omega) _
set_option maxHeartbeats 8000000 in
theorem Z4m (v:Vr)(V:Value)(w:World)(hV:VrV w w.heap.size V v)(ht:Tabs w.heap.size w) :
 Calls Tryz.prog 21 #[V] w (DigP (if v.okB then some v.dig else none) w):=by
 obtain ⟨A,c,rfl,hR⟩:=hV
 have hD0:=Zmb w v.num v.time (.slice A v.rs.length c) 0
 have hS1:=Zmb w v.num v.time (.slice A v.rs.length c) 1
 unfold vrV
 obtain ⟨_,_,_,g3,g4,g5,g6⟩:=hD0.cells
 have htm:=fun W=>Z65 v.time W
 obtain ⟨R,hRR⟩:∃ R,(if v.okB then some v.dig else none)=R:=⟨_,rfl⟩
 rw [hRR]
 have hno:v.okB=false→R=none:=fun h=>by rw [← hRR,h];rfl
 have hyes:v.okB=true→R=some v.dig:=fun h=>by rw [← hRR,h];rfl
 have HD0:=zh hD0;have HS1:=zh hS1;have HR:=zh hR;have HT:=zh ht;have HTM:=zh htm;have HNO:=zh hno;have HYES:=zh hyes;clear hD0 hS1 hR ht htm hno hyes hRR;refine (callsIn_wide (n:=5)).1 ?_
 refine callsIn_of_wp_marks Tryz.func21 rfl trivial ?_ rfl
 simp only [Tryz.ntmps21,List.size_toArray,List.length_cons,List.length_nil,Nat.reduceAdd,Nat.reduceSub,Array.replicate_succ,Array.replicate_zero,List.push_toArray,List.append_toArray,List.nil_append,List.cons_append]
 by_cases h1:1≤v.num
 · have d1:decide (v.num<1)=false:=by simp;omega
   by_cases h2:v.num≤1000000
   · have d2:decide (v.num > 1000000)=false:=by simp;omega
     have d2':decide (1000000<v.num)=false:=d2
     gi_wp2_with fail
     clear HS1;generalize ((w.alloc (.cells #[.int .i64 v.num,.int .i64 v.time,.slice A v.rs.length c] 24)).alloc (.cells #[.int .u64 0] 28)).alloc (.cells #[.int .i64 0] 35)=w1 at *
     refine ⟨trivial,(callsIn_wide.2 (HTM.out w1)).mono ?_⟩
     rintro e w' ⟨rfl,rfl⟩;cases h3:Z2g v.time with
     | false =>
      have hr:v.okB=false:=Z9z (fun h=>by rw [h3] at h;simp at h)
      obtain rfl:=HNO.out hr
      have hS1:=HD0.out.set 0 1
      have HS1:=zh hS1;clear hS1;gi_wp2_with fail
      repeat (refine ⟨trivial,?_⟩;gi_wp2_with fail)
      exact Z5r (x:=none) (d:=0) (e:=1) rfl rfl rfl (by simp) HS1.out
     | true =>
      obtain ⟨_,_,g2,_⟩:=HD0.out.cells
      have htv:=Z92 v.rs (.slice A v.rs.length c) w1 ((HR.out.on HD0.out.b).up HD0.out.b.size)
      have HTV:=zh htv;clear htv;gi_wp2_with fail
      refine ⟨trivial,(callsIn_wide.2 HTV.out).mono ?_⟩
      rintro e w2 ⟨rfl,hb2⟩;have hD2:=HD0.out.on hb2
      have hS2:=hD2.set 0 1
      obtain ⟨_,_,g2,g3,g4,g5,g6⟩:=hD2.cells
      have HD2:=zh hD2;have HS2:=zh hS2;clear hD2 hS2;have hD3:=HD2.out.on ((Below.refl w2.heap.size w2).alloc (zn _) (.cells #[.slice none 0 0] 98))
      obtain ⟨_,_,k2,_⟩:=hD3.cells
      have HD3:=zh hD3;clear hD3;have hz2:w.heap.size+2<w2.heap.size:=(zs HD2.out.e)
      clear HTV HD0 hb2;cases h4:useB v.rs with
      | false =>
       have hr:v.okB=false:=Z9z (fun h=>by rw [h4] at h;simp at h)
       obtain rfl:=HNO.out hr
       gi_wp2_with fail
       repeat (refine ⟨trivial,?_⟩;gi_wp2_with fail)
       exact Z5r (x:=none) (d:=0) (e:=1) rfl rfl rfl (by simp) HS2.out
      | true =>
       gi_wp2_with fail
       refine ⟨trivial,(callsIn_wide.2 (Zik A v.rs.length c _)).mono ?_⟩
       rintro e w' ⟨rfl,rfl⟩;have hlen:v.rs.length≤100:=((Z36 _).1 h4).1
       have hok:v.okB=v.rs.all Rt.can:=ZjF h1 h2 h3 h4
       obtain ⟨ms,hms,hm⟩:=Zme HR.out
       have hD5:=HD3.out.on ((Below.refl (w2.alloc (.cells #[.slice none 0 0] 98)).heap.size (w2.alloc (.cells #[.slice none 0 0] 98))).alloc (zn _) (.cells #[.slice A v.rs.length c] 22))
       have hbx:=Z0z (za w2 (.cells #[.slice none 0 0] 98)) (.cells #[.slice A v.rs.length c] 22)
       have hlx:((w2.alloc (.cells #[.slice none 0 0] 98)).alloc (.cells #[.slice A v.rs.length c] 22)).heap[w2.heap.size+1]?=some (.cells #[.slice A v.rs.length c] 22 (0,0)):=by
        have:=za (w2.alloc (.cells #[.slice none 0 0] 98)) (.cells #[.slice A v.rs.length c] 22)
        rwa [World.size_alloc] at this
       have hs5:((w2.alloc (.cells #[.slice none 0 0] 98)).alloc (.cells #[.slice A v.rs.length c] 22)).heap.size=w2.heap.size+2:=by simp
       generalize (w2.alloc (.cells #[.slice none 0 0] 98)).alloc (.cells #[.slice A v.rs.length c] 22)=w5 at *
       have hml:ms.length=v.rs.length:=by rw [← hms];simp
       have hT0:TxB w.heap.size (w2.heap.size+1) (.slice A v.rs.length c) ms w5:=⟨hlx,hm.keepS (fun b hb=>hD5.b.block b hb),HT.out.on hD5.b,by omega⟩
       have hI0:DgI w v.num v.time (.slice A v.rs.length c) w2.heap.size [] w5:=⟨fun x hx=>(by simp at hx),_,hbx,World.ownsRowF_nil _ _ _ _,hD5,by omega⟩
       have HT0:=zh hT0;have HI0:=zh hI0;have HM:=zh hm;have HMS:=zh hms;have HOK:=zh hok;have HD5:=zh hD5;clear hT0 hI0 hm hms hok hD5 HD3 HD2 HS2 hbx hlx HTM g2 g3 g4 g5 g6 k2;gi_wp2_with fail
       generalize hrv:(Value.slice A v.rs.length c)=rv at *
       refine Z6A rfl (by omega) (gf:=99) (lb:=#[.pointer (some ⟨w2.heap.size+1,0,none⟩)]) (by simp [go_sem]) trivial (enters_of Tryz.func99 (by kernel_rfl) rfl)
        (Zfq _ w.heap.size (w2.heap.size+1) rv ms (by omega)) HT0.out.ts (fun W' hb=>HT0.out.on hb) (fun _=>rfl) (DgI w v.num v.time rv w2.heap.size) (DgX w v.num v.time rv)
        ⟨fun s W W' h hb=>h.below hb⟩
        (fun s W l o o' h hl ho hc=>h.put (by omega) (by omega) ho hc o') (fun c' s W l o o' h hl ho _=>h.put (by omega) (by have:=(zs h.2.2.e);omega) o') HI0.out (dgA w v.num v.time rv w2.heap.size)
        ?assign ?body ?done ?stop
       case assign =>
        intro l x W K hK
        simp only [encX]
        gi_wp2_with fail
        exact hK
       case body =>
        rintro l pre ⟨tx,er⟩ W ⟨hall,bv,hbb,hown,hDW,hsz⟩ hsp
        obtain ⟨_,_,_,g3,g4,g5,g6⟩:=hDW.cells
        unfold dgA
        by_cases he:er=0
        · subst he
          obtain ⟨i0,hi,hz0,hz1,hz2⟩:=info_parts Tryz.infoU8q
          have hpl:=hsp.length_le
          have hfl:=Zdr (pre++[(tx,0)]) (fun x hx=>by
           obtain ⟨m,_,rfl⟩:=List.mem_map.1 (hsp.subset hx)
           exact Zhc m.r)
          have hxl:(xl ms).length=ms.length:=by simp [xl]
          rw [Z6c,List.length_append,List.length_append] at hfl
          have hsz1:(mk tx).size=tx.length:=Zn5 tx
          have hcb:W.cell? ⟨w2.heap.size,0,none⟩=some bv:=by rw [zc hbb];rfl
          have hfb:W.frozen? ⟨w2.heap.size,0,none⟩=false:=by have h':=hbb;simp [World.frozen?,h']
          have hbnd:(Z44 pre).length+tx.length+1≤10000000:=by
           simp only [List.length_cons,List.length_nil] at hfl
           omega
          have HOWN:=zh hown;have HDW:=zh hDW;have HBB:=zh hbb;have HSP:=zh hsp;have HALL:=zh hall;clear hown hDW hbb hsp hall hfl hpl hxl g3 g4 g5 g6;gi_wp2_with (first
           | (gi_at_builtin;refine Lib.wpListIn_append_own_stringF _ rfl _ _ 98 9 rfl (w2.heap.size+2) 5 i0 Tryz.underlying98 Tryz.underlying9 hi hz0 hz1 hz2 bv _ _ rfl HOWN.out (mk tx) rfl (by rw [hsz1];unfold maxLen;omega) (by rw [hsz1];omega) hsz ?_;intro v1 W1 hown1 hg1 _;rw [Zcg,← byteRow_append,hsz1,← List.length_append] at hown1;obtain ⟨ft,hft⟩:∃ ft,Z44 pre++tx=ft:=⟨_,rfl⟩;rw [hft] at hown1;have hz1':w2.heap.size+2≤W1.heap.size:=Nat.le_trans hsz hg1.size;have hfl2:ft.length+1≤10000000:=by rw [← hft,List.length_append];exact hbnd)
           | (gi_at_builtin;refine wpListIn_append_ownF _ rfl _ _ 98 rfl (w2.heap.size+2) 5 i0 (.int .u8 0) 1 1 Tryz.underlying98 hi hz0 hz1 hz2 rfl (by decide) v1 _ _ rfl (hown1.alloc _) ⟨W1.heap.size,0,none⟩ 1 1 [.int .u8 10] rfl rfl (ZjG W1) (by intro u hu;simp at hu;subst hu;rfl) (by unfold maxLen;omega) (by omega) (by simp;omega) ?_;intro v2 W2 hown2 hg2 _;have hfrow:Z20 ft++[.int .u8 10]=Z20 (Z44 (pre++[(tx,0)])):=(by rw [Z6c,← hft,byteRow_append,byteRow_append,byteRow_append,List.append_assoc];rfl);rw [hfrow] at hown2;have hlen2:ft.length+1=(Z44 (pre++[(tx,0)])).length:=(by rw [Z6c,← hft];simp [Nat.add_assoc]);rw [hlen2] at hown2;obtain ⟨A6,c6,rfl⟩:=Z8x hown2;have hb2:W2.heap[w2.heap.size]?=some (.cells #[bv] 98 (0,0)):=dg_box HOWN.out hown1 hg1 hg2 HBB.out hsz;have c2:W2.cell? ⟨w2.heap.size,0,none⟩=some bv:=(by rw [zc hb2];rfl);have f2:W2.frozen? ⟨w2.heap.size,0,none⟩=false:=(by have h':=hb2;simp [World.frozen?,h']);have hend:=ZjH (w5:=w5) HOWN.out hown1 hg1 hg2 hown2 HDW.out hb2 hsz (by omega) HALL.out;have HEND:=zh hend;clear hend hown1 hown2 hg1 hg2 hb2))
          exact HEND.out
        · have d0:(er != 0)=true:=by simpa using he
          have hx:DgX w v.num v.time rv .ret (pre++[(tx,er)]) ((W.setCell ⟨w.heap.size+1,0,none⟩ (.int .u64 (0:Nat))).setCell ⟨w.heap.size+1+1,0,none⟩ (.int .i64 1)):=⟨rfl,⟨(tx,er),by simp,he⟩,hDW.set 0 1⟩
          have hkp:KeepsFrom w5.heap.size W ((W.setCell ⟨w.heap.size+1,0,none⟩ (.int .u64 (0:Nat))).setCell ⟨w.heap.size+1+1,0,none⟩ (.int .i64 1)):=(Z1A _ _ _ _).trans (Z1A _ _ _ _)
          have HX:=zh hx;have HKP:=zh hkp;have HOWN:=zh hown;have HDW:=zh hDW;have HBB:=zh hbb;clear hx hkp hown hDW hbb he;gi_wp2_with fail
          exact ⟨HKP.out,HX.out⟩
       case done =>
        rintro D xs W hD rfl ⟨hall,bv,hbb,hown,hDW,hsz⟩ hK
        have hcan:∀ r∈v.rs,r.can=true:=by
         intro r hr
         rw [← HMS.out] at hr
         obtain ⟨m,hm,rfl⟩:=List.mem_map.1 hr
         exact (Zhd m.r).1 (hall _ (List.mem_map.2 ⟨m,hm,rfl⟩))
        have hR2:R=some v.dig:=HYES.out (by rw [HOK.out,List.all_eq_true];exact hcan)
        have hflat:Z44 (xl ms)=Z82 v.rs:=by
         rw [← Zey v.rs hcan,← HMS.out];simp [xl,List.map_map,Function.comp_def]
        rw [hflat] at hown
        have hdig:v.dig=Z8b (sumD (Z82 v.rs)) [v.num,v.time]:=rfl
        have hflen:(Z82 v.rs).length≤10000000:=by
         rw [← hflat]
         have:=Zdr (xl ms) (fun x hx=>by obtain ⟨m,_,rfl⟩:=List.mem_map.1 hx;exact Zhc m.r)
         have hxl:(xl ms).length=ms.length:=by simp [xl]
         omega
        subst hR2;generalize v.dig=dg at *
        generalize Z82 v.rs=tt at *
        obtain ⟨A6,c6,rfl⟩:=Z8x hown
        have hS0:DgK w v.num v.time rv w2.heap.size D (.slice A6 tt.length c6) tt W:=⟨⟨0,0,hDW⟩,hbb,hown,hK,by omega,by omega⟩
        have htime:0≤v.time∧v.time≤1000000000:=by simpa [Z2g] using h3
        have HMS2:Hid (∀ wx,DgK w v.num v.time rv w2.heap.size D (.slice A6 tt.length c6) tt wx→wx.cell? ⟨w2.heap.size,0,none⟩=some (.slice A6 tt.length c6)∧wx.cell? ⟨w.heap.size,0,none⟩=some (.int .i64 v.num)∧wx.cell? ⟨w.heap.size,1,none⟩=some (.int .i64 v.time)∧DgK w v.num v.time rv w2.heap.size D (.slice A6 tt.length c6) tt wx):=fun wx h=>by
         obtain ⟨d,e,hr⟩:=h.r
         exact ⟨by rw [zc h.b];rfl,hr.cells.1,hr.cells.2.1,h⟩
        have HSUM:Hid (∀ wx,DgK w v.num v.time rv w2.heap.size D (.slice A6 tt.length c6) tt wx→Calls Tryz.prog 63 #[.slice A6 tt.length c6] wx fun e w'=>e=.returned (.int .u64 (sumD tt:Nat))∧Below wx.heap.size wx w'):=fun wx h=>Z8A _ tt wx (Zez h.y rfl) (by omega)
        have hslt:sumD tt<18446744073709551616:=Z6t Z3a tt Z4t
        have HNX:Hid (∀ wx V,DgK w v.num v.time rv w2.heap.size D (.slice A6 tt.length c6) tt wx→Z02 wx wx.heap.size V [v.num,v.time]→Calls Tryz.prog 62 #[.int .u64 (sumD tt:Nat),V] wx fun e w'=>e=.returned (.int .u64 (dg:Nat))∧Below wx.heap.size wx w'):=fun wx V h hv=>by
         obtain ⟨d,e,hr⟩:=h.r
         rw [hdig]
         exact Z7x (sumD tt) V [v.num,v.time] w.heap.size wx hslt hv (by simp) (by intro x hx;simp at hx;rcases hx with rfl | rfl <;> omega) (HT.out.on hr.b)
        generalize sumD tt=sm at *
        have HS0:=zh hS0;clear hS0 hDW hbb hown hK hdig hall hflat hcan;gi_upto_region 10 with fail
        refine wpIn_wide.2 ?_
        go_region_held3 (fun w'=>w'.cell? ⟨w2.heap.size,0,none⟩=some (.slice A6 tt.length c6)∧w'.cell? ⟨w.heap.size,0,none⟩=some (.int .i64 v.num)∧w'.cell? ⟨w.heap.size,1,none⟩=some (.int .i64 v.time)∧DgK w v.num v.time rv w2.heap.size D (.slice A6 tt.length c6) tt w')
         (first | (with_reducible exact HMS2.out _ HS0.out.drew) | (with_reducible exact HMS2.out _ L5) | (with_reducible exact HMS2.out _ L6) | (with_reducible exact HMS2.out _ (HS0.out.alloc _).drew) | (with_reducible exact HMS2.out _ (L5.alloc _)) | (with_reducible exact HMS2.out _ (L6.set1 dg)) | (with_reducible exact HMS2.out _ ((L6.set1 dg).set2 0)) | fail)
         (first
          | (go_at_call 63;have hA:=(‹_∧_∧_∧DgK w v.num v.time rv w2.heap.size D (.slice A6 tt.length c6) tt _›).2.2.2;refine (HSUM.out _ hA).mono ?_;rintro ex w5x ⟨rfl,hb5⟩;have L5:=hA.on hb5;try (have hi5:=((((Z4b (W:=W) v.num v.time).up (by simp)).on ((Below.refl _ _).drew)).on hb5).up hb5.size;have HI5:=zh hi5;clear hi5);clear hb5 hA)
          | (go_at_call 62;have hA:=(‹_∧_∧_∧DgK w v.num v.time rv w2.heap.size D (.slice A6 tt.length c6) tt _›).2.2.2;(first | (refine (HNX.out _ _ hA HI5.out).mono ?_) | (refine (HNX.out _ _ hA (((Z4b (W:=w5x) v.num v.time).up (by simp)))).mono ?_));rintro ex w6 ⟨rfl,hb6⟩;have L6:=hA.on hb6;obtain ⟨d6,e6,R6⟩:=L6.r;obtain ⟨_,_,_,g3,g4,g5,g6⟩:=R6.cells;have HR6:=zh R6;clear R6;clear hb6 hA))
        all_goals
         have h9:=HR6.out.set dg 0
         have k9:=((L6.set1 dg).set2 0).d
         have H9:=zh h9;have K9:=zh k9;clear h9 k9;gi_wp2_with fail
         exact Zb4 (x:=some dg) (d:=dg) (e:=0) (by omega) K9.out rfl rfl rfl (by simp) H9.out
       case stop =>
        rintro D c' pre W hD hpre ⟨rfl,⟨x,hx,he⟩,hDW⟩ hK
        have hR2:R=none:=by
         refine HNO.out ?_
         rw [HOK.out]
         obtain ⟨m,hm,rfl⟩:=List.mem_map.1 (hpre.subset hx)
         have hnc:m.r.can≠true:=fun h=>he ((Zhd m.r).2 h)
         rw [← Bool.not_eq_true,List.all_eq_true]
         intro hc
         exact hnc (hc m.r (by rw [← HMS.out];exact List.mem_map.2 ⟨m,hm,rfl⟩))
        subst hR2;have HDW:=zh hDW;have HK:=zh hK;clear hDW hK;gi_wp2_with fail
        exact Zb4 (x:=none) (d:=0) (e:=1) (by omega) HK.out rfl rfl rfl (by simp) HDW.out
   · have d2:decide (v.num > 1000000)=true:=by simp;omega
     have d2':decide (1000000<v.num)=true:=d2
     have hr:v.okB=false:=Z9z (fun h=>by omega)
     obtain rfl:=HNO.out hr
     gi_wp2_with fail
     repeat (refine ⟨trivial,?_⟩;gi_wp2_with fail)
     exact Z5r (x:=none) (d:=0) (e:=1) rfl rfl rfl (by simp) HS1.out
 · have d1:decide (v.num<1)=true:=by simp;omega
   have hr:v.okB=false:=Z9z (fun h=>by omega)
   obtain rfl:=HNO.out hr
   gi_wp2_with fail
   repeat (refine ⟨trivial,?_⟩;gi_wp2_with fail)
   exact Z5r (x:=none) (d:=0) (e:=1) rfl rfl rfl (by simp) HS1.out
end Go.Proofs.YtnepkoepbapgeaaGreatDoor
