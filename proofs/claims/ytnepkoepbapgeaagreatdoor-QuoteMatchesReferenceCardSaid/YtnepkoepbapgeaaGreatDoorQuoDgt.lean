import Derived.Test.YtnepkoepbapgeaaGreatDoorQuoPrice
import Derived.Test.YtnepkoepbapgeaaGreatDoorQuoSay
import Derived.Lib.BufStepsIn
namespace Go.Proofs.YtnepkoepbapgeaaGreatDoor
open _root_.Go.Proofs.Tryz
open Value (int slice)
open IntKind (i64)
set_option maxRecDepth 100000
open Go.RowKit Lx Px Qx Go.Shelf
attribute [local go_sem] Oper.semAt_some
namespace Qx
def Z4E (l:List (Bytes × Int)):Bytes:=l.flatMap λx=>x.1++[10]
theorem Z7a (l:List (Bytes × Int))(x:Bytes × Int):Z4E (l++[x])=Z4E l++(x.1++[10]):=by simp [Z4E]
theorem ZgA:∀ (rs:List Rt),(∀ r∈rs,r.can=true)->Z4E (rs.map Rt.res)=Z1C rs:=by
 intro rs;induction rs with
 | nil=>intro _;rfl
 | cons r rs ih =>
  intro h;have C:r.res=(r.text,0):=by unfold Rt.res;rw [zp (h r (by simp))]
  have B:=ih λx hx=>h x (by simp [hx]);simp only [Z4E,Z1C,List.map_cons,List.flatMap_cons,C] at B |-
  rw [B]
end Qx
theorem Zfb:∀ (l:List (Bytes × Int)),(∀ x∈l,x.1.length<=10100)->(Z4E l).length<=10101*l.length:=by
 intro l;induction l with
 | nil=>intro _;simp [Z4E]
 | cons x l ih =>
  intro h;have C:=h x (by simp);have B:=ih λy hy=>h y (by simp [hy]);simp only [Z4E,List.flatMap_cons,zj,zw,zx] at B |-
  omega
theorem ZaA (r:Rt):r.res.1.length<=10100:=by
 unfold Rt.res;split
 · rename_i h;exact Zrf h
 · simp
theorem Zjm (r:Rt):(r.res.2=0 ↔ r.can=true):=by
 unfold Rt.res;split
 · rename_i h;simp [h]
 · rename_i h;simpa using h
structure DgR (w:World) (num time:Int) (rv:Value) (d:Nat) (e:Int) (W:World):Prop where
 v:W.heap[w.heap.size]?=some (.cells #[int i64 num,int i64 time,rv] 24 (0,0))
 d:W.heap[w.heap.size+1]?=some (.cells #[.int .u64 (d:Nat)] 28 (0,0))
 e:W.heap[w.heap.size+2]?=some (.cells #[int i64 e] 35 (0,0))
 b:Below w.heap.size w W
theorem DgR.on {w W B:World}{C time:Int}{rv:Value}{d:Nat}{e:Int}(h:DgR w C time rv d e W)(hb:Below W.heap.size W B):DgR w C time rv d e B := ⟨(hb.block _ (zs h.v)).trans h.v,(hb.block _ (zs h.d)).trans h.d,(hb.block _ (zs h.e)).trans h.e,Z00 h.b hb⟩
theorem DgR.far {w W B:World}{C time:Int}{rv:Value}{d:Nat}{e:Int}(h:DgR w C time rv d e W)(hb:Below (w.heap.size+3) W B):DgR w C time rv d e B := ⟨(hb.block _ (by omega)).trans h.v,(hb.block _ (by omega)).trans h.d,(hb.block _ (by omega)).trans h.e,h.b.trans (hb.mono (by omega))⟩
theorem DgR.cells {w W:World}{B time:Int}{rv:Value}{d:Nat}{e:Int}(h:DgR w B time rv d e W) : W.cell? ⟨w.heap.size,0,none⟩=some (int i64 B)/\W.cell? ⟨w.heap.size,1,none⟩=some (int i64 time)/\W.cell? ⟨w.heap.size,2,none⟩=some rv/\W.cell? ⟨w.heap.size+1,0,none⟩=some (.int .u64 (d:Nat))/\W.frozen? ⟨w.heap.size+1,0,none⟩=false/\W.cell? ⟨w.heap.size+1+1,0,none⟩=some (int i64 e)/\W.frozen? ⟨w.heap.size+1+1,0,none⟩=false:=by
 have C:=h.d;have he:W.heap[w.heap.size+1+1]?=_:=h.e;refine ⟨?_,?_,?_,?_,?_,?_,?_⟩
 · rw [zc h.v];rfl
 · rw [zc h.v];rfl
 · rw [zc h.v];rfl
 · rw [zc h.d];rfl
 · simp [World.frozen?,C]
 · rw [zc he];rfl
 · simp [World.frozen?,he]
theorem DgR.set {w W:World}{D time:Int}{rv:Value}{d:Nat}{e:Int}(h:DgR w D time rv d e W)(B:Nat)(e':Int) : DgR w D time rv B e' ((W.setCell ⟨w.heap.size+1,0,none⟩ (.int .u64 (B:Nat))).setCell ⟨w.heap.size+1+1,0,none⟩ (int i64 e')):=by
 refine ⟨?_,?_,?_,?_⟩
 · exact (zg _ _ _ _ (by show w.heap.size≠w.heap.size+1+1;omega)).trans ((zg _ _ _ _ (by show w.heap.size≠w.heap.size+1;omega)).trans h.v)
 · refine (zg _ _ _ _ (by show w.heap.size+1≠w.heap.size+1+1;omega)).trans ?_;have C:=h.d;simp [World.setCell,zM,C]
 · have C:W.heap[w.heap.size+1+1]?=_:=h.e;have F:(W.setCell ⟨w.heap.size+1,0,none⟩ (.int .u64 (B:Nat))).heap[w.heap.size+1+1]?=_:=(zg _ _ _ _ (by show w.heap.size+1+1≠w.heap.size+1;omega)).trans C;generalize W.setCell ⟨w.heap.size+1,0,none⟩ (.int .u64 (B:Nat))=G at *
   show (G.setCell ⟨w.heap.size+1+1,0,none⟩ (int i64 e')).heap[w.heap.size+1+1]?=_;simp [World.setCell,zM,F]
 · exact (h.b.setCell (p:=⟨w.heap.size+1,0,none⟩) (by show w.heap.size<=w.heap.size+1;omega) _).setCell (p:=⟨w.heap.size+1+1,0,none⟩) (by show w.heap.size<=w.heap.size+1+1;omega) _
def DigP (x:Option Nat)(w:World)(e:Ending)(w':World):Prop := Below w.heap.size w w'/\e=.returned (.tuple #[.int .u64 ((x.getD 0:Nat):Int),int i64 (if x=none then 1 else 0)])
theorem Zpw {w W:World}{F time:Int}{rv:Value}{tmps:Array Value}{d:Nat}{e:Int} (C:tmps[2]?.getD undef=.pointer (some ⟨w.heap.size+1,0,none⟩)) (B:tmps[3]?.getD undef=.pointer (some ⟨w.heap.size+1+1,0,none⟩)) (D:DgR w F time rv d e W) : (results f21 tmps).run prog W=.ok (.tuple #[.int .u64 (d:Nat),int i64 e]) W:=by
 obtain ⟨_,_,_,c3,_,c5,_⟩:=D.cells;simp [results,results21,go_sem,C,B,c3,c5]
theorem Z6g {w W:World}{F time:Int}{rv:Value}{tmps:Array Value}{x:Option Nat} (D:tmps[2]?.getD undef=.pointer (some ⟨w.heap.size+1,0,none⟩)) (G:tmps[3]?.getD undef=.pointer (some ⟨w.heap.size+1+1,0,none⟩)) {d:Nat} {e:Int} (C:d=x.getD 0) (he:e=if x=none then 1 else 0) (B:DgR w F time rv d e W) : bodyPostM Fence.wide 5 prog f21 (DigP x w) Exit.ret { tmps,defers:=[] } W:=by
 subst C he;refine ⟨_,Zpw D G B,B.b,rfl⟩
theorem Zcd {w W:World}{F time:Int}{rv:Value}{tmps:Array Value}{x:Option Nat}{D:Nat}(L:w.heap.size+3<=D)(J:W.heap[D]?=some (.deferred (some []))) (G:tmps[2]?.getD undef=.pointer (some ⟨w.heap.size+1,0,none⟩)) (I:tmps[3]?.getD undef=.pointer (some ⟨w.heap.size+1+1,0,none⟩)) {d:Nat} {e:Int} (H:d=x.getD 0) (he:e=if x=none then 1 else 0) (B:DgR w F time rv d e W) : bodyPostM Fence.wide 5 prog f21 (DigP x w) Exit.ret { tmps,defers:=[{ target:=.collected D,args:=#[] }] } W:=by
 subst H he;refine ⟨by simp,.inl ⟨_,_,rfl,run_takeDeferred J,?_⟩⟩;have C:DgR w F time rv (x.getD 0) (if x=none then 1 else 0) (W.putObj D (.deferred none)):=B.far ((zr _ _).grown (grownBy_putObj' W D _) (by have:=(zs B.e);omega) (λk e=>by cases e;omega));exact ⟨_,Zpw G I C,C.b,rfl⟩
theorem Zn7 {v:Vr}(F:1<=v.num)(D:v.num<=1000000)(B:Z1E v.time=true)(C:useB v.rs=true):v.okB=v.rs.all Rt.can:=by
 unfold Vr.okB;rw [B,C];simp [F,D]
theorem ZaB {v:Vr}(h:¬ (1<=v.num/\v.num<=1000000/\Z1E v.time=true/\useB v.rs=true)):v.okB=false:=by
 unfold Vr.okB;rw [<- Bool.not_eq_true];intro B;simp only [zd,decide_eq_true_eq] at B;exact h ⟨B.1.1.1.1,B.1.1.1.2,B.1.1.2,B.1.2⟩
theorem Tryz.infoU8q:(Tryz.prog.info? 5).map (λi=>(i.zero,i.size,i.bytes))=some (some (.int .u8 0),1,1):=by kernel_rfl
def Z2p (l:Bytes):List Value:=l.map λx=>.int .u8 x.toNat
theorem byteRow_append (a b:Bytes):Z2p (a++b)=Z2p a++Z2p b:=by simp [Z2p]
theorem Z5E (l:Bytes):Lib.strCells (mk l)=Z2p l:=by simp [Lib.strCells,Z2p,mk]
theorem Z5F (l:Bytes):(mk l).size=l.length:=by simp [mk,ByteArray.size]
theorem ZgB {w:World}{base n:Nat}{e:TypeId}{v:Value}{l:Bytes}(h:w.ownsRowF base e 1 v n (Z2p l))(F:n=l.length):BytV w w.heap.size v l:=by
 subst F;rcases h.2 with ⟨C,D⟩ | ⟨g,cap,I,H,C,_,G,_,_,_,_,_⟩
 · have:l=[]:=List.length_eq_zero_iff.1 D;subst this;exact ⟨none,0,C,λh=>absurd rfl h⟩
 · refine ⟨some ⟨g,0,none⟩,cap,C,λ_=>⟨g,0,rfl,(zs G),λk hk=>?_⟩⟩;have B:=h.cells (g:=g) (by rw [C];rfl) k (.int .u8 l[k].toNat) (by simp [Z2p,zv hk]);rw [Nat.zero_add];unfold Addr.add at B;split at B
   · rename_i D;subst D;exact B
   · simpa using B
def DgI (w:World)(num time:Int)(rv:Value)(bb:Nat)(pre:List (Bytes × Int))(W:World):Prop := (∀ x∈pre,x.2=0)/\∃ bv,W.heap[bb]?=some (.cells #[bv] 98 (0,0))/\W.ownsRowF (bb+2) 5 1 bv (Z4E pre).length (Z2p (Z4E pre))/\DgR w num time rv 0 0 W/\bb+2<=W.heap.size
def DgX (w:World)(num time:Int)(rv:Value)(c:Code)(pre:List (Bytes × Int))(W:World):Prop := c=.ret/\(∃ x∈pre,x.2≠0)/\DgR w num time rv 0 1 W
theorem DgI.below {w:World}{G time:Int}{rv:Value}{C:Nat}{s:List (Bytes × Int)}{W B:World}(h:DgI w G time rv C s W)(hb:Below W.heap.size W B):DgI w G time rv C s B:=by
 obtain ⟨L,M,F,D,R,S⟩:=h;refine ⟨L,M,(hb.block _ (zs F)).trans F,?_,R.on hb,by have:=hb.size;omega⟩;refine ⟨D.1,?_⟩;rcases D.2 with h | ⟨g,cap,N,I,O,J,H,rest⟩
 · exact .inl h
 · exact .inr ⟨g,cap,N,I,O,J,(hb.block g (zs H)).trans H,rest⟩
theorem DgI.put {w:World}{F time:Int}{rv:Value}{C:Nat}{s:List (Bytes × Int)}{W:World}(h:DgI w F time rv C s W)(hw:w.heap.size+3<=C){l:Nat}(V:C+2<=l){o:Obj}(M:W.heap[l]?=some o)(I:o.isCells=false)(G:Obj):DgI w F time rv C s (W.putObj l G):=by
 obtain ⟨L,N,S,D,U,R⟩:=h;refine ⟨L,N,(zQ (by omega)).trans S,?_,U.far ((zr _ _).grown (grownBy_putObj' W l G) (by omega) (λk e=>by cases e;omega)),by simpa [World.putObj] using R⟩;refine ⟨D.1,?_⟩;rcases D.2 with h | ⟨g,cap,O,H,T,J,B,rest⟩
 · exact .inl h
 · refine .inr ⟨g,cap,O,H,T,J,(zQ (λe=>?_)).trans B,rest⟩;subst e;rw [M] at B;injection B with B
   subst B;cases I
theorem DgX.put {w:World}{B time:Int}{rv:Value}{c:Code}{s:List (Bytes × Int)}{W:World}(h:DgX w B time rv c s W){l:Nat}(I:w.heap.size+3<=l)(H:w.heap.size+3<=W.heap.size)(C:Obj):DgX w B time rv c s (W.putObj l C):=by
 obtain ⟨F,G,D⟩:=h;exact ⟨F,G,D.far ((zr _ _).grown (grownBy_putObj' W l C) H (λk e=>by cases e;exact I))⟩
theorem Zpx (w:World)(B time:Int)(rv:Value)(e:Int):DgR w B time rv 0 e (((w.alloc (.cells #[int i64 B,int i64 time,rv] 24)).alloc (.cells #[.int .u64 0] 28)).alloc (.cells #[int i64 e] 35)):=by
 refine ⟨?_,?_,?_,(((zr _ _).alloc (zn _) _).alloc (by simp) _).alloc (by simp;omega) _⟩
 all_goals repeat (first | (refine Z88 ?_;first | rfl | (simp only [zk];done) | (simp only [zk];omega)) | (refine Z5h ?_ ?_;· (simp only [zk];omega)))
theorem Zn8 (W:World):∀ (j:Nat) (u:Value),[Value.int .u8 10][j]?=some u->(W.alloc (.cells #[.int .u8 10] 5)).cell? ((⟨W.heap.size,0,none⟩:Addr).add j)=some u:=by
 intro j u B
 match j,B with
 | 0,B =>simp at B;subst B;rw [show (⟨W.heap.size,0,none⟩:Addr).add 0=⟨W.heap.size,0,none⟩ from rfl,zc (za W _)];rfl
 | (j+1),B=>simp at B
theorem dg_box {W C G:World}{B n J:Nat}{e:TypeId}{D H:Value}{R M:List Value}{o:Obj}(h:W.ownsRowF (B+2) e 1 D n R)(I:C.ownsRowF (B+2) e 1 H J M)(F:W.grownBy C D.ownBlock)(L:(C.alloc (.cells #[.int .u8 10] 5)).grownBy G H.ownBlock) (hb:W.heap[B]?=some o) (T:B+2<=W.heap.size):G.heap[B]?=some o:=by
 have S:=F.size;have N:C.heap[B]?=some o:=(F.block B (by omega) (λe=>by have:=(h.lt _ e.symm).1;omega)).trans hb;have O:(C.alloc (.cells #[.int .u8 10] 5)).heap[B]?=some o:=Z0A N _;exact (L.block B (by simp;omega) (λe=>by have:=(I.lt _ e.symm).1;omega)).trans O
theorem Z9y {w:World}{base n:Nat}{e:TypeId}{v:Value}{D:List Value}(h:w.ownsRowF base e 1 v n D):∃ A c,v=slice A n c:=by
 rcases h.2 with ⟨B,C⟩ | ⟨g,cap,G,F,B,_⟩
 · exact ⟨none,0,by rw [B,C]⟩
 · exact ⟨_,cap,B⟩
def dgA (w:World)(num time:Int)(rv:Value)(bb:Nat)(x:Bytes × Int):Act := { tmps:=#[.agg #[int i64 num,int i64 time,rv],.pointer (some ⟨w.heap.size,0,none⟩),.pointer (some ⟨w.heap.size+1,0,none⟩),.pointer (some ⟨w.heap.size+1+1,0,none⟩),.pointer (some ⟨bb,0,none⟩),.string (mk x.1),int i64 x.2, .pointer (some ⟨w.heap.size,0,none⟩),int i64 num,.bool false,.bool false,.pointer (some ⟨w.heap.size,0,none⟩),int i64 num,.bool false,.bool false,.bool false,.pointer (some ⟨w.heap.size,1,none⟩), int i64 time,.bool true,.bool false,.bool false,.bool false,.pointer (some ⟨w.heap.size,2,none⟩),rv,.bool true,.bool false,.bool false,.pointer (some ⟨w.heap.size,2,none⟩),rv, .func (.func 99) #[] #[.pointer (some ⟨bb+1,0,none⟩)],.string (mk x.1),int i64 x.2, undef,undef,undef,undef,undef,undef,undef,undef,undef,undef,undef,undef,undef,undef,undef],defers:=[] }
theorem Zce {B:Nat}{W D:World}{e:TypeId}{n:Nat}{v:Value}{H:List Value}(h:W.ownsRowF B e 1 v n H)(F:W.grownBy D v.ownBlock)(C:Nat):KeepsFrom C W D:=by
 refine (KeepsOthers.of_grownBy F (λj o hj ho=>?_)).from C;rcases h.2 with ⟨rfl,_⟩ | ⟨g,cap,J,I,rfl,_,G,_⟩
 · simp [Value.ownBlock] at hj
 · simp [Value.ownBlock] at hj;subst hj;rw [G] at ho;injection ho with ho
   subst ho;rfl
theorem Z6h (W:World)(p:Addr)(u:Value):W.grownBy (W.setCell p u) (some p.block):=⟨rfl,rfl,rfl,by simp [World.setCell],λk _ hn=>zg W p u k (by intro e;subst e;exact hn rfl)⟩
theorem Zn9 {w W G C w5:World}{O time:Int}{rv:Value}{B n d:Nat}{L R D:Value}{l f:List Value}{H:List (Bytes × Int)}{J:Bytes}(h:W.ownsRowF (B+2) 5 1 L n l)(S:G.ownsRowF (B+2) 5 1 R d f)(M:W.grownBy G L.ownBlock)(N:(G.alloc (.cells #[.int .u8 10] 5)).grownBy C R.ownBlock) (T:C.ownsRowF (B+2) 5 1 D (Z4E (H++[(J,0)])).length (Z2p (Z4E (H++[(J,0)])))) (Y:DgR w O time rv 0 0 W) (j:C.heap[B]?=some (.cells #[L] 98 (0,0))) (Z:B+2<=W.heap.size) (hw:w.heap.size+3<=B) (V:∀ x∈H,x.2=0) : KeepsFrom w5.heap.size W (C.setCell ⟨B,0,none⟩ D)/\Z1z (Tx w.heap.size (B+1)) W (C.setCell ⟨B,0,none⟩ D)/\DgI w O time rv B (H++[(J,0)]) (C.setCell ⟨B,0,none⟩ D):=by
 have q:=M.size;have X:Below (B+2) W G:=(zr _ _).grown M Z (λg e=>(h.lt g e).1);have I:Below (B+2) W C:=(X.alloc (by omega) _).grown N (by simp;omega) (λg e=>(S.lt g e).1);have m:=I.size;refine ⟨((Zce h M _).trans (((KeepsOthers.alloc G _).from _).trans (Zce (S.alloc _) N _))).trans (Z2a _ _ _ _),λb hb=>?_,λx F=>?_,D,?_,?_,?_,?_⟩
 · have U:b<B+2/\b≠B:=by rcases hb with hb | hb <;> omega
   exact (zg _ _ _ _ U.2).trans (I.block b U.1)
 · rcases zC.1 F with F | F
   · exact V x F
   · rw [List.mem_singleton.1 F]
 · simp [World.setCell,zM,j]
 · exact T.kept (Z6h C ⟨B,0,none⟩ D) (by
    cases hv:D.ownBlock with
    | none=>exact .inl rfl
    | some g=>exact .inr (λe=>by have:=(T.lt g hv).1;injection e with e;dsimp only at e;omega))
 · exact (Y.far (I.mono (by omega))).far ((zr _ _).setCell (p:=⟨B,0,none⟩) hw D)
 · show B+2<=(C.setCell ⟨B,0,none⟩ D).heap.size;have:(C.setCell ⟨B,0,none⟩ D).heap.size=C.heap.size:=by simp [World.setCell]
   omega
theorem Zqr {w w':World}{base n:Nat}{e:TypeId}{v:Value}{C:List Value}(h:w.ownsRowF base e 1 v n C)(hb:Below w.heap.size w w'):w'.ownsRowF base e 1 v n C:=by
 refine ⟨h.1,?_⟩;rcases h.2 with h | ⟨g,cap,G,D,H,F,B,rest⟩
 · exact .inl h
 · exact .inr ⟨g,cap,G,D,H,F,(hb.block g (zs B)).trans B,rest⟩
theorem Zfc {w:World}{base n:Nat}{e:TypeId}{v:Value}{B:List Value}(h:w.ownsRowF base e 1 v n B){p:Addr}(C:p.block<base)(u:Value):(w.setCell p u).ownsRowF base e 1 v n B := h.kept (Z6h w p u) (by
  cases hv:v.ownBlock with
  | none=>exact .inl rfl
  | some g=>exact .inr (λe=>by have:=(h.lt g hv).1;injection e with e;omega))
structure DgK (w:World) (num time:Int) (rv:Value) (bb D:Nat) (bv:Value) (t:Bytes) (W:World):Prop where
 r:∃ d e,DgR w num time rv d e W
 b:W.heap[bb]?=some (.cells #[bv] 98 (0,0))
 y:W.ownsRowF (bb+2) 5 1 bv t.length (Z2p t)
 d:W.heap[D]?=some (.deferred (some []))
 h:w.heap.size+3<=bb
 hD:w.heap.size+3<=D
theorem DgK.on {w W B:World}{G time:Int}{rv F:Value}{C D:Nat}{t:Bytes}(h:DgK w G time rv C D F t W)(hb:Below W.heap.size W B):DgK w G time rv C D F t B:=by
 obtain ⟨d,e,H⟩:=h.r;exact ⟨⟨d,e,H.on hb⟩,(hb.block _ (zs h.b)).trans h.b,Zqr h.y hb,(hb.block _ (zs h.d)).trans h.d,h.h,h.hD⟩
theorem DgK.drew {w W:World}{C time:Int}{rv F:Value}{B D:Nat}{t:Bytes}(h:DgK w C time rv B D F t W):DgK w C time rv B D F t W.drew:=h.on (zr _ _).drew
theorem DgK.alloc {w W:World}{C time:Int}{rv F:Value}{B D:Nat}{t:Bytes}(h:DgK w C time rv B D F t W)(o:Obj):DgK w C time rv B D F t (W.alloc o):=h.on ((zr _ _).alloc (zn _) _)
theorem DgK.set1 {w W:World}{G time:Int}{rv F:Value}{B D:Nat}{t:Bytes}(h:DgK w G time rv B D F t W)(x:Nat):DgK w G time rv B D F t (W.setCell ⟨w.heap.size+1,0,none⟩ (.int .u64 (x:Nat))):=by
 obtain ⟨d,e,C⟩:=h.r;have I:=h.h;have H:=h.hD;refine ⟨⟨x,e,?_,?_,?_,?_⟩,(zg _ _ _ _ (by show B≠w.heap.size+1;omega)).trans h.b,Zfc h.y (by show w.heap.size+1<B+2;omega) _,(zg _ _ _ _ (by show D≠w.heap.size+1;omega)).trans h.d,I,H⟩
 · exact (zg _ _ _ _ (by show w.heap.size≠w.heap.size+1;omega)).trans C.v
 · have J:=C.d;simp [World.setCell,zM,J]
 · exact (zg _ _ _ _ (by show w.heap.size+2≠w.heap.size+1;omega)).trans C.e
 · exact C.b.setCell (p:=⟨w.heap.size+1,0,none⟩) (by show w.heap.size<=w.heap.size+1;omega) _
theorem DgK.set2 {w W:World}{G time:Int}{rv F:Value}{B D:Nat}{t:Bytes}(h:DgK w G time rv B D F t W)(x:Int):DgK w G time rv B D F t (W.setCell ⟨w.heap.size+1+1,0,none⟩ (int i64 x)):=by
 obtain ⟨d,e,C⟩:=h.r;have I:=h.h;have H:=h.hD;refine ⟨⟨d,x,?_,?_,?_,?_⟩,(zg _ _ _ _ (by show B≠w.heap.size+1+1;omega)).trans h.b,Zfc h.y (by show w.heap.size+1+1<B+2;omega) _,(zg _ _ _ _ (by show D≠w.heap.size+1+1;omega)).trans h.d,I,H⟩
 · exact (zg _ _ _ _ (by show w.heap.size≠w.heap.size+1+1;omega)).trans C.v
 · exact (zg _ _ _ _ (by show w.heap.size+1≠w.heap.size+1+1;omega)).trans C.d
 · have J:W.heap[w.heap.size+1+1]?=_:=C.e;show (W.setCell ⟨w.heap.size+1+1,0,none⟩ (int i64 x)).heap[w.heap.size+1+1]?=_;simp [World.setCell,zM,J]
 · exact C.b.setCell (p:=⟨w.heap.size+1+1,0,none⟩) (by show w.heap.size<=w.heap.size+1+1;omega) _
set_option maxHeartbeats 8000000 in
theorem Z40 (v:Vr)(V:Value)(w:World)(hV:VrV w w.heap.size V v)(ht:Tabs w.heap.size w) : Calls prog 21 #[V] w (DigP (if v.okB then some v.dig else none) w):=by
 obtain ⟨A,c,rfl,hR⟩:=hV;have bx:=Zpx w v.num v.time (slice A v.rs.length c) 0;have hS1:=Zpx w v.num v.time (slice A v.rs.length c) 1;unfold vrV;obtain ⟨_,_,_,g3,g4,g5,g6⟩:=bx.cells;have b6:=λW=>Z72 v.time W;obtain ⟨R,bk⟩:∃ R,(if v.okB then some v.dig else none)=R:=⟨_,rfl⟩
 rw [bk];have bQ:v.okB=false->R=none:=λh=>by rw [<- bk,h];rfl
 have bJ:v.okB=true->R=some v.dig:=λh=>by rw [<- bk,h];rfl
 have g:=zh bx;have ba:=zh hS1;have HR:=zh hR;have HT:=zh ht;have bZ:=zh b6;have bc:=zh bQ;have cf:=zh bJ;clear bx hS1 hR ht b6 bQ bJ bk;refine (callsIn_wide (n:=5)).1 ?_;refine callsIn_of_wp_marks func21 rfl trivial ?_ rfl;simp only [ntmps21,List.size_toArray,zw,zx,Nat.reduceAdd,Nat.reduceSub,Array.replicate_succ,Array.replicate_zero,List.push_toArray,List.append_toArray,zn2,zc2];by_cases h1:1<=v.num
 · have d1:decide (v.num<1)=false:=by simp;omega
   by_cases h2:v.num<=1000000
   · have d2:decide (v.num > 1000000)=false:=by simp;omega
     have cj:decide (1000000<v.num)=false:=d2;gi_wp2_with fail;clear ba;generalize ((w.alloc (.cells #[int i64 v.num,int i64 v.time,slice A v.rs.length c] 24)).alloc (.cells #[.int .u64 0] 28)).alloc (.cells #[int i64 0] 35)=w1 at *
     refine ⟨trivial,(callsIn_wide.2 (bZ.out w1)).mono ?_⟩;rintro e w' ⟨rfl,rfl⟩;cases h3:Z1E v.time with
     | false =>
      have F:v.okB=false:=ZaB (λh=>by rw [h3] at h;simp at h);obtain rfl:=bc.out F;have hS1:=g.out.set 0 1;have ba:=zh hS1;clear hS1;gi_wp2_with fail
      repeat (refine ⟨trivial,?_⟩;gi_wp2_with fail)
      exact Z6g (x:=none) (d:=0) (e:=1) rfl rfl rfl (by simp) ba.out
     | true =>
      obtain ⟨_,_,g2,_⟩:=g.out.cells;have bM:=Zab v.rs (slice A v.rs.length c) w1 ((HR.out.on g.out.b).up g.out.b.size);have bN:=zh bM;clear bM;gi_wp2_with fail;refine ⟨trivial,(callsIn_wide.2 bN.out).mono ?_⟩;rintro e B ⟨rfl,U⟩;have bf:=g.out.on U;have bF:=bf.set 0 1;obtain ⟨_,_,g2,g3,g4,g5,g6⟩:=bf.cells;have bD:=zh bf;have b2:=zh bF;clear bf bF;have bt:=bD.out.on ((zr B.heap.size B).alloc (zn _) (.cells #[slice none 0 0] 98));obtain ⟨_,_,k2,_⟩:=bt.cells;have bW:=zh bt;clear bt;have br:w.heap.size+2<B.heap.size:=(zs bD.out.e)
      clear bN g U;cases h4:useB v.rs with
      | false =>
       have F:v.okB=false:=ZaB (λh=>by rw [h4] at h;simp at h);obtain rfl:=bc.out F;gi_wp2_with fail
       repeat (refine ⟨trivial,?_⟩;gi_wp2_with fail)
       exact Z6g (x:=none) (d:=0) (e:=1) rfl rfl rfl (by simp) b2.out
      | true =>
       gi_wp2_with fail;refine ⟨trivial,(callsIn_wide.2 (Zjq A v.rs.length c _)).mono ?_⟩;rintro e w' ⟨rfl,rfl⟩;have cv:v.rs.length<=100:=((Z2d _).1 h4).1;have bP:v.okB=v.rs.all Rt.can:=Zn7 h1 h2 h3 h4;obtain ⟨N,bq,T⟩:=Zpk HR.out;have bd:=bW.out.on ((zr (B.alloc (.cells #[slice none 0 0] 98)).heap.size (B.alloc (.cells #[slice none 0 0] 98))).alloc (zn _) (.cells #[slice A v.rs.length c] 22));have b4:=Z0A (za B (.cells #[slice none 0 0] 98)) (.cells #[slice A v.rs.length c] 22);have b0:((B.alloc (.cells #[slice none 0 0] 98)).alloc (.cells #[slice A v.rs.length c] 22)).heap[B.heap.size+1]?=some (.cells #[slice A v.rs.length c] 22 (0,0)):=by have:=za (B.alloc (.cells #[slice none 0 0] 98)) (.cells #[slice A v.rs.length c] 22);rwa [zk] at this
       have cB:((B.alloc (.cells #[slice none 0 0] 98)).alloc (.cells #[slice A v.rs.length c] 22)).heap.size=B.heap.size+2:=by simp
       generalize (B.alloc (.cells #[slice none 0 0] 98)).alloc (.cells #[slice A v.rs.length c] 22)=w5 at *
       have cD:N.length=v.rs.length:=by rw [<- bq];simp
       have bH:TxB w.heap.size (B.heap.size+1) (slice A v.rs.length c) N w5:=⟨b0,T.keepS (λb hb=>bd.b.block b hb),HT.out.on bd.b,by omega⟩
       have b1:DgI w v.num v.time (slice A v.rs.length c) B.heap.size [] w5:=⟨λx G=>(by simp at G),_,b4,World.ownsRowF_nil _ _ _ _,bd,by omega⟩
       have b3:=zh bH;have cc:=zh b1;have HM:=zh T;have bC:=zh bq;have bK:=zh bP;have cz:=zh bd;clear bH b1 T bq bP bd bW bD b2 b4 b0 bZ g2 g3 g4 g5 g6 k2;gi_wp2_with fail;generalize cy:(Value.slice A v.rs.length c)=rv at *
       refine Z7D rfl (by omega) (gf:=99) (lb:=#[.pointer (some ⟨B.heap.size+1,0,none⟩)]) (by simp [go_sem]) trivial (enters_of func99 (by kernel_rfl) rfl) (ZgC _ w.heap.size (B.heap.size+1) rv N (by omega)) b3.out.ts (λW' hb=>b3.out.on hb) (λ_=>rfl) (DgI w v.num v.time rv B.heap.size) (DgX w v.num v.time rv) ⟨λs W W' h hb=>h.below hb⟩ (λs W l o o' h hl ho hc=>h.put (by omega) (by omega) ho hc o') (λc' s W l o o' h hl ho _=>h.put (by omega) (by have:=(zs h.2.2.e);omega) o') cc.out (dgA w v.num v.time rv B.heap.size)
        ?assign ?body ?done ?stop
       case assign =>intro l x W K Y;simp only [encX];gi_wp2_with fail;exact Y
       case body =>
        rintro l X ⟨L,er⟩ W ⟨bb,bv,O,M,I,q⟩ bg;obtain ⟨_,_,_,g3,g4,g5,g6⟩:=I.cells;unfold dgA;by_cases he:er=0
        · subst he;obtain ⟨i0,hi,b5,bX,br⟩:=info_parts Tryz.infoU8q;have b9:=bg.length_le;have bB:=Zfb (X++[(L,0)]) (λx G=>by obtain ⟨m,_,rfl⟩:=List.mem_map.1 (bg.subset G);exact ZaA m.r);have bI:(xl N).length=N.length:=by simp [xl]
          rw [Z7a,zj,zj] at bB;have bz:(mk L).size=L.length:=Z5F L;have cF:W.cell? ⟨B.heap.size,0,none⟩=some bv:=by rw [zc O];rfl
          have cA:W.frozen? ⟨B.heap.size,0,none⟩=false:=by have h':=O;simp [World.frozen?,h']
          have cm:(Z4E X).length+L.length+1<=10000000:=by simp only [zw,zx] at bB;omega
          have bm:=zh M;have bp:=zh I;have bU:=zh O;have cx:=zh bg;have cs:=zh bb;clear M I O bg bb bB b9 bI g3 g4 g5 g6;gi_wp2_with (first
           | (gi_at_builtin;refine Lib.wpListIn_append_own_stringF _ rfl _ _ 98 9 rfl (B.heap.size+2) 5 i0 underlying98 underlying9 hi b5 bX br bv _ _ rfl bm.out (mk L) rfl (by rw [bz];unfold maxLen;omega) (by rw [bz];omega) q ?_;intro v1 W1 j bn _;rw [Z5E,<- byteRow_append,bz,<- zj] at j;obtain ⟨ft,bj⟩:∃ ft,Z4E X++L=ft:=⟨_,rfl⟩;rw [bj] at j;have cu:B.heap.size+2<=W1.heap.size:=Nat.le_trans q bn.size;have cE:ft.length+1<=10000000:=by rw [<- bj,zj];exact cm)
           | (gi_at_builtin;refine wpListIn_append_ownF _ rfl _ _ 98 rfl (B.heap.size+2) 5 i0 (.int .u8 0) 1 1 underlying98 hi b5 bX br rfl (by decide) v1 _ _ rfl (j.alloc _) ⟨W1.heap.size,0,none⟩ 1 1 [.int .u8 10] rfl rfl (Zn8 W1) (by intro u hu;simp at hu;subst hu;rfl) (by unfold maxLen;omega) (by omega) (by simp;omega) ?_;intro v2 W2 be bA _;have cr:Z2p ft++[.int .u8 10]=Z2p (Z4E (X++[(L,0)])):=(by rw [Z7a,<- bj,byteRow_append,byteRow_append,byteRow_append,List.append_assoc];rfl);rw [cr] at be;have cd:ft.length+1=(Z4E (X++[(L,0)])).length:=(by rw [Z7a,<- bj];simp [Nat.add_assoc]);rw [cd] at be;obtain ⟨J,H,rfl⟩:=Z9y be;have U:W2.heap[B.heap.size]?=some (.cells #[bv] 98 (0,0)):=dg_box bm.out j bn bA bU.out q;have c2:W2.cell? ⟨B.heap.size,0,none⟩=some bv:=(by rw [zc U];rfl);have f2:W2.frozen? ⟨B.heap.size,0,none⟩=false:=(by have h':=U;simp [World.frozen?,h']);have bG:=Zn9 (w5:=w5) bm.out j bn bA be bp.out U q (by omega) cs.out;have b7:=zh bG;clear bG j be bn bA U))
          exact b7.out
        · have d0:(er != 0)=true:=by simpa using he
          have G:DgX w v.num v.time rv .ret (X++[(L,er)]) ((W.setCell ⟨w.heap.size+1,0,none⟩ (.int .u64 (0:Nat))).setCell ⟨w.heap.size+1+1,0,none⟩ (int i64 1)):=⟨rfl,⟨(L,er),by simp,he⟩,I.set 0 1⟩
          have bT:KeepsFrom w5.heap.size W ((W.setCell ⟨w.heap.size+1,0,none⟩ (.int .u64 (0:Nat))).setCell ⟨w.heap.size+1+1,0,none⟩ (int i64 1)):=(Z2a _ _ _ _).trans (Z2a _ _ _ _);have HX:=zh G;have cg:=zh bT;have bm:=zh M;have bp:=zh I;have bU:=zh O;clear G bT M I O he;gi_wp2_with fail;exact ⟨cg.out,HX.out⟩
       case done =>
        rintro D xs W hD rfl ⟨bb,bv,O,M,I,q⟩ Y;have bE:∀ r∈v.rs,r.can=true:=by intro r F;rw [<- bC.out] at F;obtain ⟨m,T,rfl⟩:=List.mem_map.1 F;exact (Zjm m.r).1 (bb _ (List.mem_map.2 ⟨m,T,rfl⟩))
        have bs:R=some v.dig:=cf.out (by rw [bK.out,List.all_eq_true];exact bE);have bu:Z4E (xl N)=Z1C v.rs:=by rw [<- ZgA v.rs bE,<- bC.out];simp [xl,List.map_map,Function.comp_def]
        rw [bu] at M;have bL:v.dig=Z54 (sumD (Z1C v.rs)) [v.num,v.time]:=rfl;have ct:(Z1C v.rs).length<=10000000:=by
         rw [<- bu];have:=Zfb (xl N) (λx G=>by obtain ⟨m,_,rfl⟩:=List.mem_map.1 G;exact ZaA m.r);have bI:(xl N).length=N.length:=by simp [xl]
         omega
        subst bs;generalize v.dig=Z at *
        generalize Z1C v.rs=C at *
        obtain ⟨J,H,rfl⟩:=Z9y M;have bO:DgK w v.num v.time rv B.heap.size D (slice J C.length H) C W:=⟨⟨0,0,I⟩,O,M,Y,by omega,by omega⟩
        have cC:0<=v.time/\v.time<=1000000000:=by simpa [Z1E] using h3
        have f:Hid (∀ wx,DgK w v.num v.time rv B.heap.size D (slice J C.length H) C wx->wx.cell? ⟨B.heap.size,0,none⟩=some (slice J C.length H)/\wx.cell? ⟨w.heap.size,0,none⟩=some (int i64 v.num)/\wx.cell? ⟨w.heap.size,1,none⟩=some (int i64 v.time)/\DgK w v.num v.time rv B.heap.size D (slice J C.length H) C wx):=λwx h=>by obtain ⟨d,e,F⟩:=h.r;exact ⟨by rw [zc h.b];rfl,F.cells.1,F.cells.2.1,h⟩
        have ca:Hid (∀ wx,DgK w v.num v.time rv B.heap.size D (slice J C.length H) C wx->Calls prog 63 #[slice J C.length H] wx λe w'=>e=.returned (.int .u64 (sumD C:Nat))/\Below wx.heap.size wx w'):=λwx h=>Z9B _ C wx (ZgB h.y rfl) (by omega);have ck:sumD C<18446744073709551616:=Z6t Z2c C Z4i;have bY:Hid (∀ wx V,DgK w v.num v.time rv B.heap.size D (slice J C.length H) C wx->Z03 wx wx.heap.size V [v.num,v.time]->Calls prog 62 #[.int .u64 (sumD C:Nat),V] wx λe w'=>e=.returned (.int .u64 (Z:Nat))/\Below wx.heap.size wx w'):=λwx V h hv=>by obtain ⟨d,e,F⟩:=h.r;rw [bL];exact Z8C (sumD C) V [v.num,v.time] w.heap.size wx ck hv (by simp) (by intro x G;simp at G;rcases G with rfl | rfl <;> omega) (HT.out.on F.b)
        generalize sumD C=sm at *
        have bS:=zh bO;clear bO I O M Y bL bb bu bE;gi_upto_region 10 with fail
        refine wpIn_wide.2 ?_;go_region_held3 (λw'=>w'.cell? ⟨B.heap.size,0,none⟩=some (slice J C.length H)/\w'.cell? ⟨w.heap.size,0,none⟩=some (int i64 v.num)/\w'.cell? ⟨w.heap.size,1,none⟩=some (int i64 v.time)/\DgK w v.num v.time rv B.heap.size D (slice J C.length H) C w') (first | (with_reducible exact f.out _ bS.out.drew) | (with_reducible exact f.out _ L5) | (with_reducible exact f.out _ L6) | (with_reducible exact f.out _ (bS.out.alloc _).drew) | (with_reducible exact f.out _ (L5.alloc _)) | (with_reducible exact f.out _ (L6.set1 Z)) | (with_reducible exact f.out _ ((L6.set1 Z).set2 0)) | fail) (first
          | (go_at_call 63;have S:=(‹_/\_/\_/\DgK w v.num v.time rv B.heap.size D (slice J C.length H) C _›).2.2.2;refine (ca.out _ S).mono ?_;rintro ex cb ⟨rfl,bh⟩;have L5:=S.on bh;try (have bV:=((((Z3t (W:=W) v.num v.time).up (by simp)).on ((zr _ _).drew)).on bh).up bh.size;have cn:=zh bV;clear bV);clear bh S)
          | (go_at_call 62;have S:=(‹_/\_/\_/\DgK w v.num v.time rv B.heap.size D (slice J C.length H) C _›).2.2.2;(first | (refine (bY.out _ _ S cn.out).mono ?_) | (refine (bY.out _ _ S (((Z3t (W:=cb) v.num v.time).up (by simp)))).mono ?_));rintro ex w6 ⟨rfl,bR⟩;have L6:=S.on bR;obtain ⟨d6,e6,R6⟩:=L6.r;obtain ⟨_,_,_,g3,g4,g5,g6⟩:=R6.cells;have ce:=zh R6;clear R6;clear bR S))
        all_goals have h9:=ce.out.set Z 0;have k9:=((L6.set1 Z).set2 0).d;have H9:=zh h9;have K9:=zh k9;clear h9 k9;gi_wp2_with fail;exact Zcd (x:=some Z) (d:=Z) (e:=0) (by omega) K9.out rfl rfl rfl (by simp) H9.out
       case stop =>
        rintro D c' X W hD b8 ⟨rfl,⟨x,G,he⟩,I⟩ Y;have bs:R=none:=by refine bc.out ?_;rw [bK.out];obtain ⟨m,T,rfl⟩:=List.mem_map.1 (b8.subset G);have ch:m.r.can≠true:=λh=>he ((Zjm m.r).2 h);rw [<- Bool.not_eq_true,List.all_eq_true];intro hc;exact ch (hc m.r (by rw [<- bC.out];exact List.mem_map.2 ⟨m,T,rfl⟩))
        subst bs;have bp:=zh I;have HK:=zh Y;clear I Y;gi_wp2_with fail;exact Zcd (x:=none) (d:=0) (e:=1) (by omega) HK.out rfl rfl rfl (by simp) bp.out
   · have d2:decide (v.num > 1000000)=true:=by simp;omega
     have cj:decide (1000000<v.num)=true:=d2;have F:v.okB=false:=ZaB (λh=>by omega);obtain rfl:=bc.out F;gi_wp2_with fail
     repeat (refine ⟨trivial,?_⟩;gi_wp2_with fail)
     exact Z6g (x:=none) (d:=0) (e:=1) rfl rfl rfl (by simp) ba.out
 · have d1:decide (v.num<1)=true:=by simp;omega
   have F:v.okB=false:=ZaB (λh=>by omega);obtain rfl:=bc.out F;gi_wp2_with fail
   repeat (refine ⟨trivial,?_⟩;gi_wp2_with fail)
   exact Z6g (x:=none) (d:=0) (e:=1) rfl rfl rfl (by simp) ba.out
end Go.Proofs.YtnepkoepbapgeaaGreatDoor
