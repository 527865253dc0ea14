/-
  Several texts in one: QuoRange, QuoFl, QuoR10d, QuoLaw2, QuoR12a.
-/
import Derived.RangeFuncNested
import Derived.RangeFuncBound
import Derived.RangeFuncCalls
import Derived.RangeFuncLeaves
import Derived.Test.YtnepkoepbapgeaaGreatDoorQuoRat3
import Derived.OwnWalkIn
import Derived.BigFrameIn
import Derived.Laws.Tables
import Derived.Test.YtnepkoepbapgeaaGreatDoorQuoR10c
import Derived.Test.YtnepkoepbapgeaaGreatDoorQuoLd
namespace Go.Proofs.YtnepkoepbapgeaaGreatDoor
set_option maxHeartbeats 4000000
set_option maxRecDepth 100000
section
open Go.RowKit
def Z1v (Bs:Nat→Prop)(W W':World):Prop:=∀ b,Bs b→W'.heap[b]?=W.heap[b]?
theorem Z1v.refl (Bs:Nat→Prop)(W:World):Z1v Bs W W:=fun _ _=>rfl
theorem Z1v.trans {Bs:Nat→Prop}{A B C:World}(h:Z1v Bs A B)(k:Z1v Bs B C):Z1v Bs A C:=fun b hb=>(k b hb).trans (h b hb)
theorem Z1v.putObj {Bs:Nat→Prop}{l:Nat}(W:World)(o:Obj)(h:¬ Bs l):Z1v Bs W (W.putObj l o):=fun b hb=>World.putObj_heap_other (by intro e;subst e;exact h hb)
theorem Z1v.below {Bs:Nat→Prop}{W W':World}(h:Below W.heap.size W W')(hb:∀ b,Bs b→b<W.heap.size):Z1v Bs W W':=fun b x=>h.block b (hb b x)
theorem Z1v.setCell {Bs:Nat→Prop}(W:World)(p:Addr)(u:Value)(h:¬ Bs p.block):Z1v Bs W (W.setCell p u):=fun b hb=>Below.heap_setCell W p u b (by intro e;subst e;exact h hb)
structure Z9a {α:Type} (J:List α→World→Prop):Prop where
 below:∀ s W W',J s W→Below W.heap.size W W'→J s W'
def SeqS {α:Type}(F:Fence)(n:Nat)(P:Program)(g:Nat)(lb:Array Value)(encs:α→Array Value)(ok:World→Prop)(Bs:Nat→Prop)(S Sp:List α→Prop):Prop :=
 ∀ (l:Nat) (J Jx:List α→World→Prop) (W:World),ok W→Z9a J →
  (∀ pre x W1,J pre W1→Sp (pre++[x])→YieldAt F (n - 1) P l (encs x) W1 fun e W' =>
   (e=.returned (.bool true)∧J (pre++[x]) W'∧Z1v Bs W1 W')∨(e=.returned (.bool false)∧Jx (pre++[x]) W')) →
  J [] W →
  CallsIn F n P g (#[.func (.yield l) #[] #[]]++lb) W fun e W'=>(∃ v,e=.returned v)∧((∃ xs,S xs∧J xs W')∨(∃ pre,Sp pre∧Jx pre W'))
def Zg4 {α:Type}(Bs:Nat→Prop)(B:Nat)(I:List α→World→Prop)(Ix:Code→List α→World→Prop)(xs:List α)(W:World):Exit→Act→World→Prop
 | .normal,_,W'=>KeepsFrom B W W'∧Z1v Bs W W'∧I xs W'
 | .ret,_,W'=>KeepsFrom B W W'∧Ix .ret xs W'
 | .exit id,_,W'=>KeepsFrom B W W'∧Ix (.exit id) xs W'
 | .goto t,_,W'=>KeepsFrom B W W'∧Ix (.goto t) xs W'
 | .panic _,_,_=>False
 | .outgrown,_,_=>False
variable {F:Fence} {n:Nat} {P:Program}
theorem Z82 {α:Type}{g:Operand}{ps:Array Tmp}{assign body:Code}{Q:Exit→Act→World→Prop}{a:Act}{w:World}
 (hro:F.round=none) (h1:1≤n) {gf:Nat} {lb:Array Value} (hg:a.eval g=.func (.func gf) #[] lb) (hFg:F.fn gf) (eg:∀ args w,(callFunc gf args).run P w=.ok (.enter gf args) w)
 {encs:α→Array Value} {ok:World→Prop} {Bs:Nat→Prop} {S Sp:List α→Prop} (hseq:SeqS F (n - 1) P gf lb encs ok Bs S Sp)
 (hBs:∀ b,Bs b→b<w.heap.size) (hok:∀ W',Below w.heap.size w W'→ok W') (hps:∀ x,(encs x).size=ps.size)
 (I:List α→World→Prop) (Ix:Code→List α→World→Prop) (hI:Z9a I)
 (hIp:∀ s W l o o',I s W→w.heap.size≤l→W.heap[l]?=some o→o.isCells=false→I s (W.putObj l o'))
 (hIx:∀ c s W l o o',Ix c s W→w.heap.size≤l→W.heap[l]?=some o→o.isCells=false→Ix c s (W.putObj l o')) (h0:I [] w) (a₁:α→Act)
 (hassign:∀ (l:Nat) (x:α) (W:World) (K:Act→World→Prop),K (a₁ x) W →
  assign.wpIn (F.inRound l) (n - 1 - 1) P (Exit.then K (fun _ _ _=>False)) { tmps:=(ps.zip (encs x)).foldl (fun t (p,v)=>t.setIfInBounds p v) a.tmps,defers:=[] } W)
 (hbody:∀ (l:Nat) (pre:List α) (x:α) (W:World),I pre W→Sp (pre++[x])→body.wpIn (F.inRound l) (n - 1 - 1) P (Zg4 Bs w.heap.size I Ix (pre++[x]) W) (a₁ x) W)
 (hdone:∀ (D:Nat) (xs:List α) (W:World),w.heap.size≤D→S xs→I xs W→W.heap[D]?=some (.deferred (some []))→Q .normal { a with defers:={ target:=.collected D,args:=#[] }::a.defers } W)
 (hstop:∀ (D:Nat) (c:Code) (pre:List α) (W:World),w.heap.size≤D→Sp pre→Ix c pre W→W.heap[D]?=some (.deferred (some []))→c.wpIn F n P Q { a with defers:={ target:=.collected D,args:=#[] }::a.defers } W) :
 (Code.rangeFunc g ps assign body).wpIn F n P Q a w:=by
 refine wpIn_rangeFunc ?_
 intro fn hfn
 rw [hro]
 obtain ⟨rec,hrec⟩:∃ rec:LoopState→Option Code→Loop,rec=fun st pe=>{ state:=st,pending:=pe,fn,tmps:=a.tmps,params:=ps,assign,body,defers:=w.heap.size }:=⟨_,rfl⟩
 obtain ⟨W1,hW1⟩:∃ W1,(w.alloc (.deferred (some []))).alloc (.loop (rec .ready none))=W1:=⟨_,rfl⟩
 have hL1:W1.heap[w.heap.size+1]?=some (.loop (rec .ready none)):=by
  rw [← hW1];have:=za (w.alloc (.deferred (some []))) (.loop (rec .ready none));rwa [World.size_alloc] at this
 have hK1:W1.heap[w.heap.size]?=some (.deferred (some [])):=by
  rw [← hW1];exact (Below.heap_alloc _ _ _ (by simp)).trans (za w _)
 have hb1:Below w.heap.size w W1:=by
  rw [← hW1];exact ((Below.refl _ w).alloc (zn _) _).alloc (by simp) _
 have hI1:I [] W1:=hI.below _ _ _ h0 hb1
 refine ⟨w.heap.size+1,[{ target:=.collected w.heap.size,args:=#[] }],W1,{ target:=.fn (.func gf) lb,args:=#[.func (.yield (w.heap.size+1)) #[] #[]] },W1,gf,
  #[.func (.yield (w.heap.size+1)) #[] #[]]++lb,W1,?_,?_,?_,?_,fun _=>h1,?_⟩
 · rw [← hW1,hrec];exact run_enterLoop_outer _ _ _ _ _
 · simp only [resolve,hg]
   simp [go_sem]
 · intro f' hf';simp [Target.leads] at hf';subst hf';exact hFg
 · simp [invoke,go_sem,eg]
 · refine (hseq (w.heap.size+1)
    (fun pre W=>I pre W∧W.heap[w.heap.size+1]?=some (.loop (rec .ready none))∧W.heap[w.heap.size]?=some (.deferred (some [])))
    (fun pre W=>∃ c,Ix c pre W∧W.heap[w.heap.size+1]?=some (.loop (rec .done (some c)))∧W.heap[w.heap.size]?=some (.deferred (some [])))
    W1 (hok W1 hb1)
    ⟨fun s W W' hs hb=>⟨hI.below _ _ _ hs.1 hb,(hb.block _ (zs hs.2.1)).trans hs.2.1,(hb.block _ (zs hs.2.2)).trans hs.2.2⟩⟩
    ?_ ⟨hI1,hL1,hK1⟩).mono ?_
   · rintro pre x W ⟨hi,hl,hk⟩ hlen
     have hlt:w.heap.size+1<W.heap.size:=(zs hl)
     have hy:=run_yield (P:=P) (args:=encs x) hl (by rw [hrec];exact hps x)
     rw [hrec] at hy
     refine ⟨fn,_,assign,body,hy,roundIn_of_wpIn hfn (hassign _ x W _ ⟨_,run_beginRound hl (by rw [hrec]),?_⟩)⟩
     have hl2:(W.putObj (w.heap.size+1) (.loop { rec .ready none with state:=.busy })).heap[w.heap.size+1]?=some (.loop { rec .ready none with state:=.busy }):=World.putObj_heap_same hlt
     have hk2:(W.putObj (w.heap.size+1) (.loop { rec .ready none with state:=.busy })).heap[w.heap.size]?=some (.deferred (some [])):=(World.putObj_heap_other (by omega)).trans hk
     have hw2:Z1v Bs W (W.putObj (w.heap.size+1) (.loop { rec .ready none with state:=.busy })):=Z1v.putObj _ _ (fun h=>by have:=hBs _ h;omega)
     refine wpIn_mono (hbody _ pre x _ (hIp _ _ _ _ _ hi (by omega) hl rfl) hlen) ?_
     have fin:∀ (jump:Option Code) (W3:World),KeepsFrom w.heap.size (W.putObj (w.heap.size+1) (.loop { rec .ready none with state:=.busy })) W3 →
      (Instr.endRound (w.heap.size+1) jump).run P W3=.ok (.bool jump.isNone) (W3.putObj (w.heap.size+1) (.loop (rec (if jump.isNone then .ready else .done) jump))) ∧
      W3.heap[w.heap.size+1]?=some (.loop { rec .ready none with state:=.busy }) ∧
      (W3.putObj (w.heap.size+1) (.loop (rec (if jump.isNone then .ready else .done) jump))).heap[w.heap.size+1]?=some (.loop (rec (if jump.isNone then .ready else .done) jump)) ∧
      (W3.putObj (w.heap.size+1) (.loop (rec (if jump.isNone then .ready else .done) jump))).heap[w.heap.size]?=some (.deferred (some [])):=fun jump W3 hk3=>by
      have hl3:=hk3.same _ _ (by omega) hl2 rfl
      have:=run_endRound (P:=P) jump hl3
      rw [hrec] at this ⊢
      exact ⟨this,by rw [hrec] at hl3;exact hl3,World.putObj_heap_same (zs hl3),(World.putObj_heap_other (by omega)).trans (hk3.same _ _ (zn _) hk2 rfl)⟩
     rintro e a3 W3 hp
     cases e with
     | normal =>
      obtain ⟨hk3,hkp3,hi3⟩:=hp
      obtain ⟨hr,hl3,hl4,hk4⟩:=fin none W3 hk3
      exact ⟨_,_,hr,.inl ⟨rfl,⟨hIp _ _ _ _ _ hi3 (by omega) hl3 rfl,hl4,hk4⟩,(hw2.trans hkp3).trans (Z1v.putObj _ _ (fun h=>by have:=hBs _ h;omega))⟩⟩
     | ret =>
      obtain ⟨hk3,hi3⟩:=hp
      obtain ⟨hr,hl3,hl4,hk4⟩:=fin (some .ret) W3 hk3
      exact ⟨_,_,hr,.inr ⟨rfl,.ret,hIx _ _ _ _ _ _ hi3 (by omega) hl3 rfl,hl4,hk4⟩⟩
     | exit id =>
      obtain ⟨hk3,hi3⟩:=hp
      obtain ⟨hr,hl3,hl4,hk4⟩:=fin (some (.exit id)) W3 hk3
      exact ⟨_,_,hr,.inr ⟨rfl,.exit id,hIx _ _ _ _ _ _ hi3 (by omega) hl3 rfl,hl4,hk4⟩⟩
     | goto t =>
      obtain ⟨hk3,hi3⟩:=hp
      obtain ⟨hr,hl3,hl4,hk4⟩:=fin (some (.goto t)) W3 hk3
      exact ⟨_,_,hr,.inr ⟨rfl,.goto t,hIx _ _ _ _ _ _ hi3 (by omega) hl3 rfl,hl4,hk4⟩⟩
     | panic ch=>exact hp.elim
     | outgrown=>exact hp.elim
   · rintro e W2 ⟨⟨v,rfl⟩,(⟨xs,hS,hi,hl,hk⟩ | ⟨pre,hSp,c,hi,hl,hk⟩)⟩
     · exact ⟨none,_,by have:=run_endLoop (P:=P) hl (by rw [hrec];simp);rw [hrec] at this;exact this,hdone _ xs _ (zn _) hS (hIp _ _ _ _ _ hi (by omega) hl rfl) ((World.putObj_heap_other (by omega)).trans hk)⟩
     · exact ⟨some c,_,by have:=run_endLoop (P:=P) hl (by rw [hrec];simp);rw [hrec] at this;exact this,hstop _ c pre _ (zn _) hSp (hIx _ _ _ _ _ _ hi (by omega) hl rfl) ((World.putObj_heap_other (by omega)).trans hk)⟩
theorem Z83 {α:Type}{g:Operand}{ps:Array Tmp}{assign body:Code}{Q:Exit→Act→World→Prop}{a:Act}{w:World}
 (hro:F.round=none) (h1:1≤n) {gf:Nat} {lb:Array Value} (hg:a.eval g=.func (.func gf) #[] lb) (hFg:F.fn gf) (eg:∀ args w,(callFunc gf args).run P w=.ok (.enter gf args) w)
 {encs:α→Array Value} {ok:World→Prop} {Bs:Nat→Prop} {S Sp:List α→Prop} (hseq:SeqS F (n - 1) P gf lb encs ok Bs S Sp)
 (hBs:∀ b,Bs b→b<w.heap.size) (hok:∀ W',Below w.heap.size w W'→ok W') (hps:∀ x,(encs x).size=ps.size)
 (I:List α→World→Prop) (Ix:Code→List α→World→Prop) (hI:Z9a I)
 (hIp:∀ s W l o o',I s W→w.heap.size≤l→W.heap[l]?=some o→o.isCells=false→I s (W.putObj l o'))
 (hIx:∀ c s W l o o',Ix c s W→w.heap.size≤l→W.heap[l]?=some o→o.isCells=false→Ix c s (W.putObj l o')) (h0:I [] w) (A:α→Act→World→Prop) (hAp:∀ x a' W l o o',A x a' W→W.heap[l]?=some o→o.isCells=false→A x a' (W.putObj l o'))
 (hassign:∀ (l:Nat) (pre:List α) (x:α) (W:World) (K:Act→World→Prop),w.heap.size≤W.heap.size→Sp (pre++[x])→(∀ a' W',Below W.heap.size W W'→A x a' W'→K a' W') →
  assign.wpIn (F.inRound l) (n - 1 - 1) P (Exit.then K (fun _ _ _=>False)) { tmps:=(ps.zip (encs x)).foldl (fun t (p,v)=>t.setIfInBounds p v) a.tmps,defers:=[] } W)
 (hbody:∀ (l:Nat) (pre:List α) (x:α) (a':Act) (W:World),I pre W→A x a' W→Sp (pre++[x])→body.wpIn (F.inRound l) (n - 1 - 1) P (Zg4 Bs w.heap.size I Ix (pre++[x]) W) a' W)
 (hdone:∀ (D:Nat) (xs:List α) (W:World),w.heap.size≤D→S xs→I xs W→W.heap[D]?=some (.deferred (some []))→Q .normal { a with defers:={ target:=.collected D,args:=#[] }::a.defers } W)
 (hstop:∀ (D:Nat) (c:Code) (pre:List α) (W:World),w.heap.size≤D→Sp pre→Ix c pre W→W.heap[D]?=some (.deferred (some []))→c.wpIn F n P Q { a with defers:={ target:=.collected D,args:=#[] }::a.defers } W) :
 (Code.rangeFunc g ps assign body).wpIn F n P Q a w:=by
 refine wpIn_rangeFunc ?_
 intro fn hfn
 rw [hro]
 obtain ⟨rec,hrec⟩:∃ rec:LoopState→Option Code→Loop,rec=fun st pe=>{ state:=st,pending:=pe,fn,tmps:=a.tmps,params:=ps,assign,body,defers:=w.heap.size }:=⟨_,rfl⟩
 obtain ⟨W1,hW1⟩:∃ W1,(w.alloc (.deferred (some []))).alloc (.loop (rec .ready none))=W1:=⟨_,rfl⟩
 have hL1:W1.heap[w.heap.size+1]?=some (.loop (rec .ready none)):=by
  rw [← hW1];have:=za (w.alloc (.deferred (some []))) (.loop (rec .ready none));rwa [World.size_alloc] at this
 have hK1:W1.heap[w.heap.size]?=some (.deferred (some [])):=by
  rw [← hW1];exact (Below.heap_alloc _ _ _ (by simp)).trans (za w _)
 have hb1:Below w.heap.size w W1:=by
  rw [← hW1];exact ((Below.refl _ w).alloc (zn _) _).alloc (by simp) _
 have hI1:I [] W1:=hI.below _ _ _ h0 hb1
 refine ⟨w.heap.size+1,[{ target:=.collected w.heap.size,args:=#[] }],W1,{ target:=.fn (.func gf) lb,args:=#[.func (.yield (w.heap.size+1)) #[] #[]] },W1,gf,
  #[.func (.yield (w.heap.size+1)) #[] #[]]++lb,W1,?_,?_,?_,?_,fun _=>h1,?_⟩
 · rw [← hW1,hrec];exact run_enterLoop_outer _ _ _ _ _
 · simp only [resolve,hg]
   simp [go_sem]
 · intro f' hf';simp [Target.leads] at hf';subst hf';exact hFg
 · simp [invoke,go_sem,eg]
 · refine (hseq (w.heap.size+1)
    (fun pre W=>I pre W∧W.heap[w.heap.size+1]?=some (.loop (rec .ready none))∧W.heap[w.heap.size]?=some (.deferred (some [])))
    (fun pre W=>∃ c,Ix c pre W∧W.heap[w.heap.size+1]?=some (.loop (rec .done (some c)))∧W.heap[w.heap.size]?=some (.deferred (some [])))
    W1 (hok W1 hb1)
    ⟨fun s W W' hs hb=>⟨hI.below _ _ _ hs.1 hb,(hb.block _ (zs hs.2.1)).trans hs.2.1,(hb.block _ (zs hs.2.2)).trans hs.2.2⟩⟩
    ?_ ⟨hI1,hL1,hK1⟩).mono ?_
   · rintro pre x W ⟨hi,hl,hk⟩ hlen
     have hlt:w.heap.size+1<W.heap.size:=(zs hl)
     have hy:=run_yield (P:=P) (args:=encs x) hl (by rw [hrec];exact hps x)
     rw [hrec] at hy
     refine ⟨fn,_,assign,body,hy,roundIn_of_wpIn hfn (hassign _ pre x W _ (by omega) hlen fun a' W' hb' hA'=>?_)⟩
     have hs':=hb'.size
     have hl':W'.heap[w.heap.size+1]?=some (.loop (rec .ready none)):=(hb'.block _ hlt).trans hl
     have hkk:W'.heap[w.heap.size]?=some (.deferred (some [])):=(hb'.block _ (by omega)).trans hk
     refine ⟨_,run_beginRound hl' (by rw [hrec]),?_⟩
     have hl2:(W'.putObj (w.heap.size+1) (.loop { rec .ready none with state:=.busy })).heap[w.heap.size+1]?=some (.loop { rec .ready none with state:=.busy }):=World.putObj_heap_same (by omega)
     have hk2:(W'.putObj (w.heap.size+1) (.loop { rec .ready none with state:=.busy })).heap[w.heap.size]?=some (.deferred (some [])):=(World.putObj_heap_other (by omega)).trans hkk
     have hw2:Z1v Bs W (W'.putObj (w.heap.size+1) (.loop { rec .ready none with state:=.busy })):=(Z1v.below hb' (fun b hb=>by have:=hBs b hb;omega)).trans (Z1v.putObj _ _ (fun h=>by have:=hBs _ h;omega))
     refine wpIn_mono (hbody _ pre x a' _ (hIp _ _ _ _ _ (hI.below _ _ _ hi hb') (by omega) hl' rfl) (hAp _ _ _ _ _ _ hA' hl' rfl) hlen) ?_
     have fin:∀ (jump:Option Code) (W3:World),KeepsFrom w.heap.size (W'.putObj (w.heap.size+1) (.loop { rec .ready none with state:=.busy })) W3 →
      (Instr.endRound (w.heap.size+1) jump).run P W3=.ok (.bool jump.isNone) (W3.putObj (w.heap.size+1) (.loop (rec (if jump.isNone then .ready else .done) jump))) ∧
      W3.heap[w.heap.size+1]?=some (.loop { rec .ready none with state:=.busy }) ∧
      (W3.putObj (w.heap.size+1) (.loop (rec (if jump.isNone then .ready else .done) jump))).heap[w.heap.size+1]?=some (.loop (rec (if jump.isNone then .ready else .done) jump)) ∧
      (W3.putObj (w.heap.size+1) (.loop (rec (if jump.isNone then .ready else .done) jump))).heap[w.heap.size]?=some (.deferred (some [])):=fun jump W3 hk3=>by
      have hl3:=hk3.same _ _ (by omega) hl2 rfl
      have:=run_endRound (P:=P) jump hl3
      rw [hrec] at this ⊢
      exact ⟨this,by rw [hrec] at hl3;exact hl3,World.putObj_heap_same (zs hl3),(World.putObj_heap_other (by omega)).trans (hk3.same _ _ (zn _) hk2 rfl)⟩
     rintro e a3 W3 hp
     cases e with
     | normal =>
      obtain ⟨hk3,hkp3,hi3⟩:=hp
      obtain ⟨hr,hl3,hl4,hk4⟩:=fin none W3 hk3
      exact ⟨_,_,hr,.inl ⟨rfl,⟨hIp _ _ _ _ _ hi3 (by omega) hl3 rfl,hl4,hk4⟩,(hw2.trans hkp3).trans (Z1v.putObj _ _ (fun h=>by have:=hBs _ h;omega))⟩⟩
     | ret =>
      obtain ⟨hk3,hi3⟩:=hp
      obtain ⟨hr,hl3,hl4,hk4⟩:=fin (some .ret) W3 hk3
      exact ⟨_,_,hr,.inr ⟨rfl,.ret,hIx _ _ _ _ _ _ hi3 (by omega) hl3 rfl,hl4,hk4⟩⟩
     | exit id =>
      obtain ⟨hk3,hi3⟩:=hp
      obtain ⟨hr,hl3,hl4,hk4⟩:=fin (some (.exit id)) W3 hk3
      exact ⟨_,_,hr,.inr ⟨rfl,.exit id,hIx _ _ _ _ _ _ hi3 (by omega) hl3 rfl,hl4,hk4⟩⟩
     | goto t =>
      obtain ⟨hk3,hi3⟩:=hp
      obtain ⟨hr,hl3,hl4,hk4⟩:=fin (some (.goto t)) W3 hk3
      exact ⟨_,_,hr,.inr ⟨rfl,.goto t,hIx _ _ _ _ _ _ hi3 (by omega) hl3 rfl,hl4,hk4⟩⟩
     | panic ch=>exact hp.elim
     | outgrown=>exact hp.elim
   · rintro e W2 ⟨⟨v,rfl⟩,(⟨xs,hS,hi,hl,hk⟩ | ⟨pre,hSp,c,hi,hl,hk⟩)⟩
     · exact ⟨none,_,by have:=run_endLoop (P:=P) hl (by rw [hrec];simp);rw [hrec] at this;exact this,hdone _ xs _ (zn _) hS (hIp _ _ _ _ _ hi (by omega) hl rfl) ((World.putObj_heap_other (by omega)).trans hk)⟩
     · exact ⟨some c,_,by have:=run_endLoop (P:=P) hl (by rw [hrec];simp);rw [hrec] at this;exact this,hstop _ c pre _ (zn _) hSp (hIx _ _ _ _ _ _ hi (by omega) hl rfl) ((World.putObj_heap_other (by omega)).trans hk)⟩
end
section
open Go.RowKit Lx Px Qx
theorem Z6z {F:Fence}{n:Nat}{P:Program}{ops:Array Oper}{rest:List Oper}{op:Oper}{a:Act}{w:World}{Q:Exit→Act→World→Prop}(hgd:op.guard=none)(ty:TypeId)(x:Operand)(ho:op.op=.load ty x)
 (g o:Nat) (hx:a.eval x=.pointer (some ⟨g,o,none⟩)) (cs:Array Value) (d:TypeDesc) (hc:∀ j v,cs[j]?=some v→w.cell? ⟨g,o+j,none⟩=some v)
 (hu:P.underlying ty=some d) (hd:(match d with | .struct _ | .array _ _=>true | _=>false)=true) (hi:(P.info? ty).map (·.size)=some cs.size)
 (h:wpListIn F n P ops Q rest (a.put op.dst (.agg cs)) w):wpListIn F n P ops Q (op::rest) a w:=by
 refine wpListIn_plain hgd fun K hK=>?_
 have hr:=Z17 w g o ty cs d hc hu hd hi
 unfold Oper.wpIn
 refine ⟨by simp [Oper.about,ho],?_⟩
 rw [Oper.semAt_plain F _ _ (by rw [ho];intro c hc';cases hc')]
 unfold execOp
 simp only [ho,hx,Instr.loadAt,Instr.sureAddr,Sem.run_bind,Sem.run_pure,Result.andThen_ok,hr]
 exact hK _ _ h
theorem Z3q {F:Fence}{n:Nat}{P:Program}{ops:Array Oper}{rest:List Oper}{op:Oper}{a:Act}{w:World}{Q:Exit→Act→World→Prop}(hgd:op.guard=none)(ty:TypeId)(x y:Operand)(ho:op.op=.store ty x y)
 (g:Nat) (cells:Array Value) (hx:a.eval x=.pointer (some ⟨g,0,none⟩)) (hy:a.eval y=.agg cells)
 (t:TypeId) (old:Array Value) (hg:w.heap[g]?=some (.cells old t (0,0))) (hi:(P.info? ty).map (·.size)=some cells.size)
 (hold:old.size=cells.size) (h1:cells.all (·.oneCell')=true)
 (h:wpListIn F n P ops Q rest (a.put op.dst undef) (w.setRow g cells)):wpListIn F n P ops Q (op::rest) a w:=by
 refine wpListIn_plain hgd fun K hK=>?_
 unfold Oper.wpIn
 refine ⟨by simp [Oper.about,ho],?_⟩
 rw [Oper.semAt_plain F _ _ (by rw [ho];intro c hc';cases hc')]
 unfold execOp
 simp only [ho,hx,hy,Instr.storeAt,Instr.sureAddr,Sem.run_bind,Sem.run_pure,Result.andThen_ok,run_storeVar_row w g t ty old cells hg hi hold h1]
 exact hK _ _ h
theorem Z2B {F:Fence}{n:Nat}{ops:Array Oper}{rest:List Oper}{op:Oper}{a:Act}{w:World}{Q:Exit→Act→World→Prop}(hgd:op.guard=none)(x:Operand)(ho:op.op=.load 65 x)
 (g o:Nat) (hx:a.eval x=.pointer (some ⟨g,o,none⟩)) (cs:Array Value) (hs:cs.size=16) (hc:∀ j v,cs[j]?=some v→w.cell? ⟨g,o+j,none⟩=some v)
 (h:wpListIn F n Tryz.prog ops Q rest (a.put op.dst (.agg cs)) w):wpListIn F n Tryz.prog ops Q (op::rest) a w :=
 Z6z hgd 65 x ho g o hx cs _ hc Tryz.underlying65 rfl (by rw [Tryz.infoRateSz,hs]) h
theorem Z1s {F:Fence}{n:Nat}{ops:Array Oper}{rest:List Oper}{op:Oper}{a:Act}{w:World}{Q:Exit→Act→World→Prop}(hgd:op.guard=none)(x:Operand)(ho:op.op=.load 65 x)
 (g:Nat) (hx:a.eval x=.pointer (some ⟨g,0,none⟩)) (cs:Array Value) (hs:cs.size=16) (hg:w.heap[g]?=some (.cells cs 65 (0,0)))
 (h:wpListIn F n Tryz.prog ops Q rest (a.put op.dst (.agg cs)) w):wpListIn F n Tryz.prog ops Q (op::rest) a w :=
 Z2B hgd x ho g 0 hx cs hs (fun j v hv=>by rw [Nat.zero_add,zc hg,hv]) h
theorem Z2i {F:Fence}{n:Nat}{ops:Array Oper}{rest:List Oper}{op:Oper}{a:Act}{w:World}{Q:Exit→Act→World→Prop}(hgd:op.guard=none)(x y:Operand)(ho:op.op=.store 65 x y)
 (zs cs:Array Value) (hx:a.eval x=.pointer (some ⟨w.heap.size,0,none⟩)) (hy:a.eval y=.agg cs) (hz:zs.size=16) (hs:cs.size=16) (h1:cs.all (·.oneCell')=true)
 (h:wpListIn F n Tryz.prog ops Q rest (a.put op.dst undef) (w.alloc (.cells cs 65))):wpListIn F n Tryz.prog ops Q (op::rest) a (w.alloc (.cells zs 65)):=by
 refine Z3q hgd 65 x y ho w.heap.size cs hx hy _ zs (za w _) (by rw [Tryz.infoRateSz,hs]) (by omega) h1 ?_
 rw [Z1x]
 exact h
theorem Z0A {F:Fence}{n:Nat}{ops:Array Oper}{rest:List Oper}{op:Oper}{a:Act}{w:World}{Q:Exit→Act→World→Prop}(hgd:op.guard=none)(x y:Operand)(ho:op.op=.store 65 x y)
 (g:Nat) (zs cs:Array Value) (hx:a.eval x=.pointer (some ⟨g,0,none⟩)) (hy:a.eval y=.agg cs) (hg:w.heap[g]?=some (.cells zs 65 (0,0))) (hz:zs.size=16) (hs:cs.size=16) (h1:cs.all (·.oneCell')=true)
 (h:wpListIn F n Tryz.prog ops Q rest (a.put op.dst undef) (w.setRow g cs)):wpListIn F n Tryz.prog ops Q (op::rest) a w :=
 Z3q hgd 65 x y ho g cs hx hy _ zs hg (by rw [Tryz.infoRateSz,hs]) (by omega) h1 h
theorem Z41 {F:Fence}{n:Nat}{ops:Array Oper}{rest:List Oper}{op:Oper}{a:Act}{w:World}{Q:Exit→Act→World→Prop}(hw:Region.wanted op (yielded ops a.tmps)=true)(x:Operand)(ho:op.op=.load 65 x)
 (g:Nat) (hx:a.eval x=.pointer (some ⟨g,0,none⟩)) (cs:Array Value) (hs:cs.size=16) (hg:w.heap[g]?=some (.cells cs 65 (0,0)))
 (h:wpListIn F n Tryz.prog ops Q rest (a.put op.dst (.agg cs)) w):wpListIn F n Tryz.prog ops Q (op::rest) a w:=by
 refine BigFrame.wpListIn_want hw fun K hK=>?_
 have hr:=Z17 (P:=Tryz.prog) w g 0 65 cs _ (fun j v hv=>by rw [Nat.zero_add,zc hg,hv]) Tryz.underlying65 rfl (by rw [Tryz.infoRateSz,hs])
 unfold Oper.wpIn
 refine ⟨by simp [Oper.about,ho],?_⟩
 rw [Oper.semAt_plain F _ _ (by rw [ho];intro c hc';cases hc')]
 unfold execOp
 simp only [ho,hx,Instr.loadAt,Instr.sureAddr,Sem.run_bind,Sem.run_pure,Result.andThen_ok,hr]
 exact hK _ _ h
theorem Z03 (w:World)(g:Nat)(cs:Array Value)(k:Nat)(h:k≠g):(w.setRow g cs).heap[k]?=w.heap[k]?:=by
 unfold World.setRow
 rw [Array.getElem?_modify,if_neg (fun e=>h e.symm)]
theorem Z4b (w:World)(g:Nat)(cs:Array Value):(w.setRow g cs).heap.size=w.heap.size:=by unfold World.setRow;simp
theorem Z3r {B:Nat}{w w':World}(h:Below B w w'){g:Nat}(hg:B≤g)(cs:Array Value):Below B w (w'.setRow g cs) :=
 h.trans ⟨rfl,rfl,rfl,by rw [Z4b];exact zn _,fun i hi=>Z03 w' g cs i (by omega)⟩
def RmsAt (w:World)(B:Nat)(g o:Nat)(ms:List Rm):Prop :=
 ∀ k (h:k<ms.length),(∀ j u,(ms[k].cells)[j]?=some u→w.cell? ⟨g,o+k*16+j,none⟩=some u)∧FoV w B ms[k].wv ms[k].r.wl∧FoV w B ms[k].pv ms[k].r.pl
def RmsV (w:World)(B:Nat)(v:Value)(ms:List Rm):Prop :=
 ∃ A c,v=.slice A ms.length c∧(ms≠[]→∃ g o,A=some ⟨g,o,none⟩∧g<B∧RmsAt w B g o ms)
theorem ZpB {w:World}{B:Nat}{v:Value}{rs:List Rt}(h:RtsV w B v rs):∃ ms:List Rm,ms.map (·.r)=rs∧RmsV w B v ms:=by
 obtain ⟨A,c,rfl,_⟩:=id h
 by_cases h0:rs=[]
 · subst h0
   exact ⟨[],rfl,A,c,rfl,fun x=>absurd rfl x⟩
 · have hl:0<rs.length:=List.length_pos_iff.2 h0
   obtain ⟨g,o,_,_,_,_,rfl,hg,_⟩:=Z9d h hl
   have hex:∀ k:Fin rs.length,∃ p:Value × Value,(∀ j u,(Z3w rs[k] p.1 p.2)[j]?=some u→w.cell? ⟨g,o+k*16+j,none⟩=some u)∧FoV w B p.1 rs[k].wl∧FoV w B p.2 rs[k].pl:=by
    intro k
    obtain ⟨g',o',WA,PA,wk,pc,e,_,f1,f2,hc⟩:=Z9d h k.2
    injection e with e
    injection e with e1 e2
    subst e1 e2;exact ⟨⟨_,_⟩,hc,f1,f2⟩
   obtain ⟨f,hf⟩:=Classical.skolem.1 hex
   refine ⟨List.ofFn fun k:Fin rs.length=>⟨rs[k],(f k).1,(f k).2⟩,?_,some ⟨g,o,none⟩,c,by rw [List.length_ofFn],fun _=>⟨g,o,rfl,hg,fun k hk=>?_⟩⟩
   · apply List.ext_getElem
     · simp
     · intro i h1 h2
       simp
   · have hk':k<rs.length:=by simpa using hk
     have:=hf ⟨k,hk'⟩
     rw [List.getElem_ofFn]
     exact this
theorem Zkp {w:World}{B n c k:Nat}{A:Option Addr}{ms:List Rm}(h:RmsV w B (.slice A n c) ms)(hk:k<ms.length):∃ (g o:Nat),A=some ⟨g,o,none⟩∧g<B ∧
 (∀ j u,(ms[k].cells)[j]?=some u→w.cell? ⟨g,o+k*16+j,none⟩=some u)∧FoV w B ms[k].wv ms[k].r.wl∧FoV w B ms[k].pv ms[k].r.pl:=by
 obtain ⟨A',c',e,hA⟩:=h
 injection e with e1 _ e3
 subst e1;obtain ⟨g,o,e2,hg,hr⟩:=hA (by intro e;rw [e] at hk;simp at hk)
 obtain ⟨h1,h2,h3⟩:=hr k hk
 exact ⟨g,o,e2,hg,h1,h2,h3⟩
theorem FoV.keepS {w w':World}{B:Nat}{v:Value}{f:Fo}(h:FoV w B v f)(hb:∀ b,b<B→w'.heap[b]?=w.heap[b]?):FoV w' B v f:=by
 obtain ⟨A,c,e,hA⟩:=h
 exact ⟨A,c,e,FoAt.keep (fun p hp=>World.cell?_of_block (hb p.block hp)) f A 0 hA⟩
theorem RmsV.keepS {w w':World}{B:Nat}{v:Value}{ms:List Rm}(h:RmsV w B v ms)(hb:∀ b,b<B→w'.heap[b]?=w.heap[b]?):RmsV w' B v ms:=by
 obtain ⟨A,c,e,hA⟩:=h
 refine ⟨A,c,e,fun h0=>?_⟩
 obtain ⟨g,o,e1,hg,hr⟩:=hA h0
 refine ⟨g,o,e1,hg,fun k hk=>?_⟩
 obtain ⟨h1,h2,h3⟩:=hr k hk
 exact ⟨fun j u hj=>(World.cell?_of_block (a:=⟨g,o+k*16+j,none⟩) (hb g hg)).trans (h1 j u hj),h2.keepS hb,h3.keepS hb⟩
structure ThB (B0 lb ab nb:Nat) (v:Value) (ms:List Rm) (a:Qx.Ask) (night:Int) (W:World):Prop where
 l:W.heap[lb]?=some (.cells #[v] 22 (0,0))
 a:W.heap[ab]?=some (.cells #[.int .i64 a.kind,.int .i64 a.fr,.int .i64 a.un,.int .i64 a.pers] 26 (0,0))
 n:W.heap[nb]?=some (.cells #[.int .i64 night] 3 (0,0))
 m:RmsV W B0 v ms
 z:B0≤lb
def Ts (B0 lb ab nb:Nat):Nat→Prop:=fun b=>b<B0∨b=lb∨b=ab∨b=nb
theorem ThB.keep {B0 lb ab nb:Nat}{v:Value}{ms:List Rm}{a:Qx.Ask}{night:Int}{W W':World}(h:ThB B0 lb ab nb v ms a night W)(hk:Z1v (Ts B0 lb ab nb) W W'):ThB B0 lb ab nb v ms a night W' :=
 ⟨(hk lb (.inr (.inl rfl))).trans h.l,(hk ab (.inr (.inr (.inl rfl)))).trans h.a,(hk nb (.inr (.inr (.inr rfl)))).trans h.n,h.m.keepS (fun b hb=>hk b (.inl hb)),h.z⟩
theorem ThB.ts {B0 lb ab nb:Nat}{v:Value}{ms:List Rm}{a:Qx.Ask}{night:Int}{W:World}(h:ThB B0 lb ab nb v ms a night W):∀ b,Ts B0 lb ab nb b→b<W.heap.size:=by
 rintro b (hb | rfl | rfl | rfl)
 · have:=h.z;have:=(zs h.l);omega
 · exact (zs h.l)
 · exact (zs h.a)
 · exact (zs h.n)
theorem ThB.on {B0 lb ab nb:Nat}{v:Value}{ms:List Rm}{a:Qx.Ask}{night:Int}{W W':World}(h:ThB B0 lb ab nb v ms a night W)(hb:Below W.heap.size W W'):ThB B0 lb ab nb v ms a night W' :=
 h.keep (Z1v.below hb h.ts)
end
section
open Go.RowKit Lx Px Qx
theorem ZpC {w:World}{B n c k:Nat}{A:Option Addr}{rs:List Rt}(h:RtsV w B (.slice A n c) rs)(hk:k<rs.length):∃ g o,A=some ⟨g,o,none⟩∧w.cell? ⟨g,o+k*16,none⟩=some (.int .i64 rs[k].id):=by
 obtain ⟨g,o,WA,PA,wk,pc,e,_,_,_,hc⟩:=Z9d h hk
 exact ⟨g,o,e,hc 0 _ rfl⟩
theorem ids_in {rs:List Rt}{k m:Nat}(hm:m<k)(hk:k<rs.length)(h:rs[m].id=rs[k].id):rs[k].id∈(rs.take k).map Rt.id:=by
 rw [← h]
 exact List.mem_map.2 ⟨rs[m],List.mem_take_iff_getElem.2 ⟨m,by omega,rfl⟩,rfl⟩
theorem Zru {rs:List Rt}{k:Nat}(hk:k<rs.length)(h:∀ m (hm:m<k),rs[m].id≠rs[k].id):¬ rs[k].id∈(rs.take k).map Rt.id:=by
 intro hc
 obtain ⟨r,hr,e⟩:=List.mem_map.1 hc
 obtain ⟨m,hm,rfl⟩:=List.mem_take_iff_getElem.1 hr
 exact h m (by omega) e
theorem Zd6 (rs:List Rt)(v:Value)(w:World)(hv:RtsV w w.heap.size v rs):Calls Tryz.prog 87 #[v] w fun e w'=>e=.returned (.bool (useB rs))∧Below w.heap.size w w':=by
 obtain ⟨A,c,rfl,_⟩:=id hv
 by_cases hl:100<rs.length
 · have hr:useB rs=false:=by simp [useB];omega
   have d:decide ((rs.length:Int) > (100:Int))=true:=by simp;omega
   have d':decide ((100:Int)<(rs.length:Int))=true:=by simp;omega
   have HR:=zh hr;clear hr hv;go_enter Tryz.func87,Tryz.ntmps87
   go_wp2_with fail;go_ret
   rw [HR.out]
   exact ⟨rfl,Below.refl _ _⟩
 · have d:decide ((rs.length:Int) > (100:Int))=false:=by simp;omega
   have d':decide ((100:Int)<(rs.length:Int))=false:=by simp;omega
   have HV:=zh hv;clear hv;go_enter Tryz.func87,Tryz.ntmps87
   go_wp2_with fail;go_loopw [3] (fun i wr=>∃ k:Nat,k≤rs.length∧i=.int .i64 k∧Below w.heap.size w wr∧Zkt rs k) (fun i _=>rs.length - (intOf i).toNat)
   case atStart=>exact ⟨0,by omega,rfl,Below.refl _ _,fun j h hj=>absurd hj (by omega),by simp⟩
   case round =>
    obtain ⟨k,hk,rfl,hb,hg⟩:=hrel
    have HB:=zh hb;have HG:=zh hg;clear hb hg;by_cases hlt:k<rs.length
    · obtain ⟨g,o,WA,PA,wk,pc,rfl,hgl,f1,f2,hc⟩:=Z9d (HV.out.on HB.out) hlt
      have hsz:=HB.out.size
      have hns:Z14 rs[k]≠0→useB rs=false:=Zg6 hlt
      have hni:rs[k].id∈(rs.take k).map Rt.id→useB rs=false:=ZpD hlt
      have hst:=Zd9 HG.out hlt
      have hin:=fun m (hm:m<k)=>ids_in hm hlt
      have hout:=Zru hlt;have hidk:=fun W (hb:Below w.heap.size w W)=>ZpC (HV.out.on hb) hlt
      obtain ⟨r,hrk⟩:∃ r,r=rs[k]:=⟨_,rfl⟩
      rw [← hrk] at hns hni hst hc f1 f2
      have HC:=zh (Zd7 hc)
      have dk:decide ((k:Int)<(rs.length:Int))=true:=by simpa using hlt
      have hcall:=Zei r (.slice WA (flen r.wl) wk) (.slice PA (flen r.pl) pc) wr ((f1.up hsz)) ((f2.up hsz))
      rw [rtV] at hcall
      have F1:=zh f1;have F2:=zh f2;have HNS:=zh hns;have HNI:=zh hni;have HST:=zh hst;have HCL:=zh hcall;have HIN:=zh hin;have HOUT:=zh hout;have HIDK:=zh hidk;have HRK:=zh hrk;clear f1 f2 hns hni hst hcall hin hout hidk hrk hc;go_wp2_with (with_reducible refine Z3v rfl _ rfl g (o+k*16) rfl _ rfl HC.out ?_)
      refine HCL.out.mono ?_
      rintro e w3 ⟨rfl,hb3⟩;have hB3:=Z00 HB.out hb3
      have HB3:=zh hB3;clear hB3 hb3 HB HC;by_cases he:Z14 r=0
      · have b0:(Z14 r==0)=true:=by simpa using he
        have HE:=zh he;clear he;go_wp2_with fail;go_loopw [6] (fun j wr=>∃ m:Nat,m≤k∧j=.int .i64 m∧Below w.heap.size w wr∧∀ x (hx:x<m) (hx2:x<rs.length),rs[x].id≠rs[k].id) (fun j _=>k - (intOf j).toNat)
        case atStart=>exact ⟨0,by omega,rfl,HB3.out,fun x hx=>absurd hx (by omega)⟩
        case round =>
         obtain ⟨m,hm,rfl,hbm,hne⟩:=hrel
         by_cases hmk:m<k
         · have dm:decide ((m:Int)<(k:Int))=true:=by simpa using hmk
           have hml:m<rs.length:=by omega
           obtain ⟨g1,o1,e1,c1⟩:=ZpC (HV.out.on hbm) hml
           obtain ⟨g2,o2,e2,c2⟩:=HIDK.out _ hbm
           injection e1 with e1
           injection e1 with e1 e1'
           injection e2 with e2
           injection e2 with e2 e2'
           subst e1 e1' e2 e2';have i1:(m:Int)<(rs.length:Int):=by omega
           have i2:(k:Int)<(rs.length:Int):=by omega
           obtain ⟨x,hx⟩:∃ x,x=rs[m].id:=⟨_,rfl⟩
           obtain ⟨y,hy⟩:∃ y,y=rs[k].id:=⟨_,rfl⟩
           rw [← hx] at c1
           rw [← hy] at c2
           by_cases hxy:x=y
           · have dx:(x==y)=true:=by simpa using hxy
             have hr:=HNI.out (by rw [HRK.out];exact HIN.out m hmk (by rw [← hx,← hy];exact hxy))
             have HR:=zh hr;have HBM:=zh hbm;have HNE:=zh hne;have HX:=zh hx;have HY:=zh hy;clear hr hbm hne hx hy hxy;go_wp2_with fail;go_region
             go_wp2_with fail;go_ret
             rw [HR.out]
             exact ⟨rfl,HBM.out.drew⟩
           · have dx:(x==y)=false:=by simpa using hxy
             have hne2:∀ z (hz:z<m+1) (hz2:z<rs.length),rs[z].id≠rs[k].id:=by
              intro z hz hz2
              by_cases hzm:z=m
              · subst hzm;rw [← hx,← hy];exact hxy
              · exact hne z (by omega) hz2
             have HNE2:=zh hne2;have HBM:=zh hbm;have HNE:=zh hne;have HX:=zh hx;have HY:=zh hy;clear hne2 hbm hne hx hy hxy;go_wp2_with fail;go_region
             go_wp2_with fail;go_roundw
             case rel=>exact ⟨m+1,by omega,by go_num,HBM.out.drew,HNE2.out⟩
             case measure=>simp [intOf];omega
         · have hke:m=k:=by omega
           subst hke;have dm:decide ((m:Int)<(m:Int))=false:=by simp
           have hg2:=HST.out HE.out (by rw [HRK.out];exact HOUT.out (fun x hx=>hne x hx (by omega)))
           have HG2:=zh hg2;have HBM:=zh hbm;have HNE:=zh hne;clear hg2 hbm hne;go_wp2_with fail;go_roundw
           case rel=>exact ⟨m+1,by omega,by go_num,HBM.out,HG2.out⟩
           case measure=>simp [intOf];omega
      · have b0:(Z14 r==0)=false:=by simpa using he
        have hr:=HNS.out he
        have HR:=zh hr;clear hr he;go_wp2_with fail;go_ret
        rw [HR.out]
        exact ⟨rfl,HB3.out⟩
    · have hke:k=rs.length:=by omega
      subst hke;have hr:=Zg5 HG.out (by omega)
      have dk:decide ((rs.length:Int)<(rs.length:Int))=false:=by simp
      have HR:=zh hr;clear hr;go_wp2_with fail;go_ret
      rw [HR.out]
      exact ⟨rfl,HB.out⟩
theorem Zkq {w:World}{B n c k:Nat}{A:Option Addr}{rs:List Rt}(h:RtsV w B (.slice A n c) rs)(hk:k<rs.length):∃ g o WA PA wk pc,A=some ⟨g,o,none⟩∧FoV w B (.slice WA (flen rs[k].wl) wk) rs[k].wl∧FoV w B (.slice PA (flen rs[k].pl) pc) rs[k].pl ∧
 w.cell? ⟨g,o+k*16+10,none⟩=some (.int .i64 rs[k].wo)∧w.cell? ⟨g,o+k*16+11,none⟩=some (.int .i64 rs[k].wn)∧w.cell? ⟨g,o+k*16+12,none⟩=some (.slice WA (flen rs[k].wl) wk) ∧
 w.cell? ⟨g,o+k*16+13,none⟩=some (.int .i64 rs[k].po)∧w.cell? ⟨g,o+k*16+14,none⟩=some (.int .i64 rs[k].pn)∧w.cell? ⟨g,o+k*16+15,none⟩=some (.slice PA (flen rs[k].pl) pc):=by
 obtain ⟨g,o,WA,PA,wk,pc,e,_,f1,f2,hc⟩:=Z9d h hk
 exact ⟨g,o,WA,PA,wk,pc,e,f1,f2,hc 10 _ rfl,hc 11 _ rfl,hc 12 _ rfl,hc 13 _ rfl,hc 14 _ rfl,hc 15 _ rfl⟩
theorem Zap (rs:List Rt)(v:Value)(w:World)(hv:RtsV w w.heap.size v rs):Calls Tryz.prog 48 #[v] w fun e w'=>(∃ b,e=.returned (.bool b))∧Below w.heap.size w w':=by
 obtain ⟨A,c,rfl,_⟩:=id hv
 by_cases hl:105<rs.length
 · have d:decide ((rs.length:Int) > (105:Int))=true:=by simp;omega
   have d':decide ((105:Int)<(rs.length:Int))=true:=by simp;omega
   clear hv;go_enter Tryz.func48,Tryz.ntmps48
   go_wp2_with fail;go_ret
   exact ⟨⟨_,rfl⟩,Below.refl _ _⟩
 · have d:decide ((rs.length:Int) > (105:Int))=false:=by simp;omega
   have d':decide ((105:Int)<(rs.length:Int))=false:=by simp;omega
   have HV:=zh hv;clear hv;go_enter Tryz.func48,Tryz.ntmps48
   go_wp2_with fail;go_loopw [3] (fun i wr=>∃ k:Nat,k≤rs.length∧i=.int .i64 k∧Below w.heap.size w wr) (fun i _=>rs.length - (intOf i).toNat)
   case atStart=>exact ⟨0,by omega,rfl,Below.refl _ _⟩
   case round =>
    obtain ⟨k,hk,rfl,hb⟩:=hrel
    by_cases hlt:k<rs.length
    · obtain ⟨g,o,WA,PA,wk,pc,rfl,f1,f2,x0,x1,x2,y0,y1,y2⟩:=Zkq (HV.out.on hb) hlt
      have hsz:=hb.size
      have hcl:=Zg3 rs[k].wo rs[k].wn rs[k].wl (.slice WA (flen rs[k].wl) wk) wr (f1.up hsz)
      have hyy:=fun W (hb2:Below wr.heap.size wr W)=>(hb2.cell (p:=⟨g,o+k*16+13,none⟩) (World.block_lt_of_cell? _ _ y0)).trans y0
      have hyz:=fun W (hb2:Below wr.heap.size wr W)=>(hb2.cell (p:=⟨g,o+k*16+14,none⟩) (World.block_lt_of_cell? _ _ y1)).trans y1
      have hyw:=fun W (hb2:Below wr.heap.size wr W)=>(hb2.cell (p:=⟨g,o+k*16+15,none⟩) (World.block_lt_of_cell? _ _ y2)).trans y2
      have hcp:=fun W (hb2:Below wr.heap.size wr W)=>Zg3 rs[k].po rs[k].pn rs[k].pl (.slice PA (flen rs[k].pl) pc) W ((f2.up hsz).on hb2 |>.up hb2.size)
      have dk:decide ((k:Int)<(rs.length:Int))=true:=by simpa using hlt
      have i2:(k:Int)<(rs.length:Int):=by omega
      generalize decide (0≤lftE rs[k].wl 300)=b1 at *
      generalize decide (0≤lftE rs[k].pl 300)=b2 at *
      generalize rs[k].wo=wo at *
      generalize rs[k].wn=wn at *
      generalize rs[k].po=po at *
      generalize rs[k].pn=pn at *
      generalize flen rs[k].wl=wl at *
      generalize flen rs[k].pl=pl at *
      have HCL:=zh hcl;have HYY:=zh hyy;have HYZ:=zh hyz;have HYW:=zh hyw;have HCP:=zh hcp;have HB:=zh hb;clear hcl hyy hyz hyw hcp hb f1 f2;go_wp2_with fail;refine HCL.out.mono ?_
      rintro e w3 ⟨rfl,hb3⟩;have hB3:=Z00 HB.out hb3
      have y0:=HYY.out _ hb3
      have y1:=HYZ.out _ hb3
      have y2:=HYW.out _ hb3
      have hcp:=HCP.out _ hb3
      have HB3:=zh hB3;have HCP2:=zh hcp;clear hB3 hcp hb3 HCL HCP HYY HYZ HYW HB x0 x1 x2;cases b1 with
      | false =>
       go_wp2_with fail;go_ret
       exact ⟨⟨_,rfl⟩,HB3.out⟩
      | true =>
       go_wp2_with fail;refine (HCP2.out).mono ?_
       rintro e w4 ⟨rfl,hb4⟩;have hB4:=Z00 HB3.out hb4
       have HB4:=zh hB4;clear hB4 hb4 HB3 HCP2;cases b2 with
       | false =>
        go_wp2_with fail;go_ret
        exact ⟨⟨_,rfl⟩,HB4.out⟩
       | true =>
        go_wp2_with fail;go_roundw
        case rel=>exact ⟨k+1,by omega,by go_num,HB4.out⟩
        case measure=>simp [intOf];omega
    · have hke:k=rs.length:=by omega
      subst hke;have dk:decide ((rs.length:Int)<(rs.length:Int))=false:=by simp
      have HB:=zh hb;clear hb;go_wp2_with fail;go_ret
      exact ⟨⟨_,rfl⟩,HB.out⟩
end
section
open Lx Px
namespace Qx
theorem Qt.same_iff (a b:Qt):a.same b=true ↔ a.ver=b.ver∧a.time=b.time∧a.total=b.total∧a.keep=b.keep∧a.ask=b.ask∧a.nights=b.nights∧a.dig=b.dig:=by
 obtain ⟨a1,a2,a3,a4,a5,a6,a7,a8,a9⟩:=a
 obtain ⟨b1,b2,b3,b4,b5,b6,b7,b8,b9⟩:=b
 simp [Qt.same]
theorem Qt.same_says (a b:Qt):(decide (a.ask=b.ask)&&decide (a.dig=b.dig)&&decide (a.says=b.says))=a.same b:=by
 rw [Bool.eq_iff_iff,Qt.same_iff]
 simp only [Bool.and_eq_true,decide_eq_true_eq]
 constructor
 · rintro ⟨⟨h1,h2⟩,h3⟩
   unfold Qt.says at h3
   simp only [List.cons_append,List.nil_append,List.cons.injEq] at h3
   obtain ⟨e1,e2,e3,e4,_,_,_,_,e5,e6⟩:=h3
   have e7:a.nights=b.nights:=by
    have hl:a.nights.length=b.nights.length:=by omega
    exact (List.append_inj e6 hl).1
   exact ⟨e1,e2,e3,e4,h1,e7,h2⟩
 · rintro ⟨e1,e2,e3,e4,e5,e6,e7⟩
   refine ⟨⟨e5,e7⟩,?_⟩
   unfold Qt.says
   rw [e1,e2,e3,e4,e5,e6,e7]
theorem Z5c {v:Vr}{a:Ask}{t:Int}{q:Qt}(h:Z2F v a t=.ok q):q.ver=v.num∧q.time=t∧q.ask=a∧q.dig=v.dig∧Z0g v.rs a=.ok (q.nights,q.keep)∧q.total=q.nights.sum:=by
 unfold Z2F at h
 cases hp:Z0g v.rs a with
 | error e=>rw [hp] at h;cases h
 | ok p =>
  obtain ⟨ns,kp⟩:=p
  rw [hp] at h
  simp only [Except.ok.injEq] at h
  subst h;generalize v.dig=d
  exact ⟨rfl,rfl,rfl,rfl,rfl,rfl⟩
theorem Z8i {l:List Rt}{a:Ask}{ns:List Int}{kp:Int}(h:Z0g l a=.ok (ns,kp)):useB l=true∧a.okB=true∧Z0d l a (a.un - a.fr).toNat a.fr=.ok (ns,kp)∧ns.sum≤1000000000:=by
 unfold Z0g at h
 split at h
 · rename_i hc
   rw [Bool.and_eq_true] at hc
   cases hn:Z0d l a (a.un - a.fr).toNat a.fr with
   | error e=>rw [hn] at h;cases h
   | ok p =>
    obtain ⟨cs,k⟩:=p
    rw [hn] at h
    simp only at h
    split at h
    · cases h
    · simp only [Except.ok.injEq,Prod.mk.injEq] at h
      rename_i hs
      obtain ⟨e1,e2⟩:=h
      rw [e1] at hs
      rw [e1,e2]
      exact ⟨hc.1,hc.2,rfl,Int.not_lt.1 hs⟩
 · cases h
theorem Z2j {l:List Rt}{a:Ask}{ns:List Int}{kp:Int}(h:Z0g l a=.ok (ns,kp)) :
 (ns.length:Int)=a.un - a.fr∧0≤kp∧kp≤ns.sum∧ns.sum≤1000000000∧(∀ i (h:i<ns.length),∃ r,Z0z l a (a.fr+i)=.ok ns[i] r):=by
 obtain ⟨hu,ha,hn,hs⟩:=Z8i h
 obtain ⟨h1,h2,h3,h4,h5⟩:=ZcD ((Z31 l).1 hu).2.1 _ _ _ _ hn
 have:a.fr<a.un:=by simp [Ask.okB] at ha;omega
 exact ⟨by omega,h2,h3,hs,h5⟩
theorem Zaq:∀ (l:List Int),(∀ x∈l,0≤x)→0≤l.sum∧∀ x∈l,x≤l.sum:=by
 intro l
 induction l with
 | nil=>intro _;simp
 | cons a l ih =>
  intro h
  obtain ⟨h1,h2⟩:=ih (fun x hx=>h x (by simp [hx]))
  have h0:=h a (by simp)
  simp only [List.sum_cons,List.mem_cons,forall_eq_or_imp]
  exact ⟨by omega,by omega,fun x hx=>by have:=h2 x hx;omega⟩
theorem Z6A {l:List Rt}{a:Ask}{ns:List Int}{kp:Int}(h:Z0g l a=.ok (ns,kp)):∀ x∈ns,0≤x∧x≤1000000000:=by
 intro x hx
 obtain ⟨_,_,_,_,h5⟩:=Z2j h
 obtain ⟨i,hi,rfl⟩:=List.getElem_of_mem hx
 obtain ⟨r,hr⟩:=h5 i hi
 exact ⟨(Z8e hr).1,(Z8e hr).2.1⟩
theorem Z9b {v:Vr}{a:Ask}{t s o:Int}{q:Qt}(h:Z3x v a t s o=(q,0)):v.okB=true∧a.okB=true∧Z0D t=true∧secB s=true∧secB o=true∧v.time≤t ∧
 ∃ w,Z2F v a t=.ok w∧q={ w with sE:=sigE s.toNat o.toNat w.says,sS:=sigS s.toNat o.toNat w.says }:=by
 unfold Z3x at h
 split at h
 · rename_i hc
   simp only [Bool.and_eq_true] at hc
   split at h
   · simp at h
   · rename_i ht
     cases hp:Z2F v a t with
     | error e =>
      rw [hp] at h
      simp only [Prod.mk.injEq] at h
      have:Z0g v.rs a=.error 0:=by
       unfold Z2F at hp
       cases hq:Z0g v.rs a with
       | ok p=>rw [hq] at hp;cases hp
       | error e'=>rw [hq] at hp;simp only [Except.error.injEq] at hp;rw [hp,h.2]
      exact absurd this (by
       intro hz
       exact price_err_ne hz)
     | ok w =>
      rw [hp] at h
      simp only [Prod.mk.injEq] at h
      exact ⟨hc.1.1.1.1,hc.1.1.1.2,hc.1.1.2,hc.1.2,hc.2,by omega,w,rfl,h.1.symm⟩
 · simp at h
where
 price_err_ne {l:List Rt} {a:Ask} (h:Z0g l a=.error 0):False:=by
  unfold Z0g at h
  split at h
  · cases hn:Z0d l a (a.un - a.fr).toNat a.fr with
    | error e =>
     rw [hn] at h
     simp only [Except.error.injEq] at h
     subst h;exact nights_err_ne _ _ hn
    | ok p =>
     rw [hn] at h
     simp only at h
     split at h
     · simp at h
     · cases h
  · simp at h
 nights_err_ne {l:List Rt} {a:Ask} (k:Nat) (night:Int) (h:Z0d l a k night=.error 0):False:=by
  induction k generalizing night with
  | zero=>simp [Z0d] at h
  | succ k ih =>
   unfold Z0d at h
   cases hn:Z0z l a night with
   | no e =>
    rw [hn] at h
    simp only [Except.error.injEq] at h
    subst h;exact night_err_ne hn
   | ok c r =>
    rw [hn] at h
    cases hr:Z0d l a k (night+1) with
    | error e=>rw [hr] at h;simp only [Except.error.injEq] at h;subst h;exact ih _ hr
    | ok p=>rw [hr] at h;cases h
 night_err_ne {l:List Rt} {a:Ask} {night:Int} (h:Z0z l a night=.no 0):False:=by
  unfold Z0z at h
  cases hb:Z48 a night none l with
  | error e =>
   rw [hb] at h
   simp only [N.no.injEq] at h
   subst h;exact best_err_ne l none hb
  | ok o =>
   rw [hb] at h
   cases o with
   | none=>simp at h
   | some r =>
    simp only at h
    cases hv:valE (Z1p a night) (r.po,r.pn) r.pl with
    | no e =>
     rw [hv] at h
     simp only [N.no.injEq] at h
     have:=Z58 hv
     omega
    | ok n d =>
     rw [hv] at h
     simp only at h
     split at h <;> simp at h
 best_err_ne {a:Ask} {night:Int} (l:List Rt) (o:Option Rt) (h:Z48 a night o l=.error 0):False:=by
  induction l generalizing o with
  | nil=>simp [Z48] at h
  | cons r l ih =>
   unfold Z48 at h
   split at h
   · simp only [Except.error.injEq] at h;omega
   · exact ih _ h
end Qx
end
section
open Go.RowKit Lx Px Qx
theorem Z4B (n:Int)(w:World):Calls Tryz.prog 45 #[.int .i64 n] w fun e w'=>e=.returned (.bool (Z0D n))∧w=w':=by
 unfold Z0D
 obtain ⟨b1,h1⟩:∃ b,decide (0≤n)=b:=⟨_,rfl⟩
 obtain ⟨b2,h2⟩:∃ b,decide (n≤1000000000)=b:=⟨_,rfl⟩
 have h1':decide (n≥0)=b1:=h1
 rw [h1,h2]
 cases b1 <;> cases b2
 all_goals
  go_enter Tryz.func45,Tryz.ntmps45
  go_wp2_with fail;go_ret
  exact ⟨rfl,rfl⟩
theorem Z7h (n:Int)(w:World):Calls Tryz.prog 49 #[.int .i64 n] w fun e w'=>e=.returned (.bool (Z0D n))∧w=w':=by
 unfold Z0D
 obtain ⟨b1,h1⟩:∃ b,decide (0≤n)=b:=⟨_,rfl⟩
 obtain ⟨b2,h2⟩:∃ b,decide (n≤1000000000)=b:=⟨_,rfl⟩
 rw [h1,h2]
 cases b1 <;> cases b2
 all_goals
  go_enter Tryz.func49,Tryz.ntmps49
  go_wp2_with fail;go_ret
  exact ⟨rfl,rfl⟩
theorem Z9c (n:Int)(w:World):Calls Tryz.prog 24 #[.int .i64 n] w fun e w'=>e=.returned (.bool (secB n))∧w=w':=by
 unfold secB
 obtain ⟨b1,h1⟩:∃ b,decide (1≤n)=b:=⟨_,rfl⟩
 obtain ⟨b2,h2⟩:∃ b,decide (n<1073741789)=b:=⟨_,rfl⟩
 have h1':decide (n≥1)=b1:=h1
 rw [h1,h2]
 cases b1 <;> cases b2
 all_goals
  go_enter Tryz.func24,Tryz.ntmps24
  go_wp2_with fail;go_ret
  exact ⟨rfl,rfl⟩
end
end Go.Proofs.YtnepkoepbapgeaaGreatDoor
