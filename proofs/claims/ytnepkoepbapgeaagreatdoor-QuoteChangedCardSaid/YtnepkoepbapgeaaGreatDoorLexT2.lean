/-
  Several texts in one: Range, LexT1, LexT2.
-/
import Derived.RangeFuncNested
import Derived.RangeFuncBound
import Derived.RangeFuncCalls
import Derived.RangeFuncLeaves
import Derived.Test.YtnepkoepbapgeaaGreatDoorLexW5
import Derived.Test.YtnepkoepbapgeaaGreatDoorLexR5
import Derived.Shelf.Abstract
import Derived.Shelf.RegionOpen
import Derived.OwnWalkIn
import Derived.TacticsInMore
import Derived.LoopNIn
import Derived.LoopIn
import Derived.Maps.AppendAt
namespace Go.Proofs.YtnepkoepbapgeaaGreatDoor
set_option maxHeartbeats 2000000
set_option maxRecDepth 100000
section
open Go.RowKit
def Z1D (Bs:Nat)(W W':World):Prop:=W'.cell? ⟨Bs,0,none⟩=W.cell? ⟨Bs,0,none⟩∧W'.frozen? ⟨Bs,0,none⟩=W.frozen? ⟨Bs,0,none⟩
theorem Z1D.refl (Bs:Nat)(W:World):Z1D Bs W W:=⟨rfl,rfl⟩
theorem Z1D.trans {Bs:Nat}{A B C:World}(h:Z1D Bs A B)(k:Z1D Bs B C):Z1D Bs A C:=⟨k.1.trans h.1,k.2.trans h.2⟩
theorem Z1D.block {Bs:Nat}{W W':World}(h:W'.heap[Bs]?=W.heap[Bs]?):Z1D Bs W W':=⟨World.cell?_of_block (a:=⟨Bs,0,none⟩) h,World.frozen?_of_block (a:=⟨Bs,0,none⟩) h⟩
theorem Z1D.putObj {Bs l:Nat}(W:World)(o:Obj)(h:Bs≠l):Z1D Bs W (W.putObj l o):=Z1D.block (World.putObj_heap_other h)
theorem Z1D.below {Bs:Nat}{W W':World}(h:Below W.heap.size W W')(hb:Bs<W.heap.size):Z1D Bs W W':=Z1D.block (h.block Bs hb)
theorem Z1D.setCell {Bs:Nat}(W:World)(p:Addr)(u:Value)(h:Bs≠p.block):Z1D Bs W (W.setCell p u):=Z1D.block (Below.heap_setCell W p u Bs h)
structure Z9d {α:Type} (Bs:Nat) (J:List α→World→Prop):Prop where
 set:∀ s W v,J s W→J s (W.setCell ⟨Bs,0,none⟩ v)
 below:∀ s W W',J s W→Below W.heap.size W W'→J s W'
def SeqC {α:Type}(F:Fence)(n:Nat)(P:Program)(g:Nat)(lb:Array Value)(encs:α→Array Value)(ok:World→Prop)(Bs:Nat)(S Sp:List α→Prop):Prop :=
 ∀ (l:Nat) (J Jx:List α→World→Prop) (W:World),ok W→Z9d Bs J →
  (∀ pre x W1,J pre W1→Sp (pre++[x])→YieldAt F (n - 1) P l (encs x) W1 fun e W' =>
   (e=.returned (.bool true)∧J (pre++[x]) W'∧Z1D Bs W1 W')∨(e=.returned (.bool false)∧Jx (pre++[x]) W')) →
  J [] W →
  CallsIn F n P g (#[.func (.yield l) #[] #[]]++lb) W fun e W'=>(∃ v,e=.returned v)∧((∃ xs,S xs∧J xs W')∨(∃ pre,Sp pre∧Jx pre W'))
def Ziz {α:Type}(Bs B:Nat)(I:List α→World→Prop)(Ix:Code→List α→World→Prop)(xs:List α)(W:World):Exit→Act→World→Prop
 | .normal,_,W'=>KeepsFrom B W W'∧Z1D Bs W W'∧I xs W'
 | .ret,_,W'=>KeepsFrom B W W'∧Ix .ret xs W'
 | .exit id,_,W'=>KeepsFrom B W W'∧Ix (.exit id) xs W'
 | .goto t,_,W'=>KeepsFrom B W W'∧Ix (.goto t) xs W'
 | .panic _,_,_=>False
 | .outgrown,_,_=>False
variable {F:Fence} {n:Nat} {P:Program}
theorem Z6w {α:Type}{g:Operand}{ps:Array Tmp}{assign body:Code}{Q:Exit→Act→World→Prop}{a:Act}{w:World}
 (hro:F.round=none) (h1:1≤n) {gf:Nat} {lb:Array Value} (hg:a.eval g=.func (.func gf) #[] lb) (hFg:F.fn gf) (eg:∀ args w,(callFunc gf args).run P w=.ok (.enter gf args) w)
 {encs:α→Array Value} {ok:World→Prop} {Bs:Nat} {S Sp:List α→Prop} (hseq:SeqC F (n - 1) P gf lb encs ok Bs S Sp)
 (hBs:Bs<w.heap.size) (hok:∀ W',Below w.heap.size w W'→ok W') (hps:∀ x,(encs x).size=ps.size)
 (I:List α→World→Prop) (Ix:Code→List α→World→Prop) (hI:Z9d Bs I)
 (hIp:∀ s W l o o',I s W→w.heap.size≤l→W.heap[l]?=some o→o.isCells=false→I s (W.putObj l o'))
 (hIx:∀ c s W l o o',Ix c s W→w.heap.size≤l→W.heap[l]?=some o→o.isCells=false→Ix c s (W.putObj l o')) (h0:I [] w) (a₁:α→Act)
 (hassign:∀ (l:Nat) (x:α) (W:World) (K:Act→World→Prop),K (a₁ x) W →
  assign.wpIn (F.inRound l) (n - 1 - 1) P (Exit.then K (fun _ _ _=>False)) { tmps:=(ps.zip (encs x)).foldl (fun t (p,v)=>t.setIfInBounds p v) a.tmps,defers:=[] } W)
 (hbody:∀ (l:Nat) (pre:List α) (x:α) (W:World),I pre W→Sp (pre++[x])→body.wpIn (F.inRound l) (n - 1 - 1) P (Ziz Bs w.heap.size I Ix (pre++[x]) W) (a₁ x) W)
 (hdone:∀ (D:Nat) (xs:List α) (W:World),w.heap.size≤D→S xs→I xs W→W.heap[D]?=some (.deferred (some []))→Q .normal { a with defers:={ target:=.collected D,args:=#[] }::a.defers } W)
 (hstop:∀ (D:Nat) (c:Code) (pre:List α) (W:World),w.heap.size≤D→Sp pre→Ix c pre W→W.heap[D]?=some (.deferred (some []))→c.wpIn F n P Q { a with defers:={ target:=.collected D,args:=#[] }::a.defers } W) :
 (Code.rangeFunc g ps assign body).wpIn F n P Q a w:=by
 refine wpIn_rangeFunc ?_
 intro fn hfn
 rw [hro]
 obtain ⟨rec,hrec⟩:∃ rec:LoopState→Option Code→Loop,rec=fun st pe=>{ state:=st,pending:=pe,fn,tmps:=a.tmps,params:=ps,assign,body,defers:=w.heap.size }:=⟨_,rfl⟩
 obtain ⟨W1,hW1⟩:∃ W1,(w.alloc (.deferred (some []))).alloc (.loop (rec .ready none))=W1:=⟨_,rfl⟩
 have hL1:W1.heap[w.heap.size+1]?=some (.loop (rec .ready none)):=by
  rw [← hW1];have:=za (w.alloc (.deferred (some []))) (.loop (rec .ready none));rwa [World.size_alloc] at this
 have hK1:W1.heap[w.heap.size]?=some (.deferred (some [])):=by
  rw [← hW1];exact (Below.heap_alloc _ _ _ (by simp)).trans (za w _)
 have hb1:Below w.heap.size w W1:=by
  rw [← hW1];exact ((Below.refl _ w).alloc (zn _) _).alloc (by simp) _
 have hI1:I [] W1:=hI.below _ _ _ h0 hb1
 refine ⟨w.heap.size+1,[{ target:=.collected w.heap.size,args:=#[] }],W1,{ target:=.fn (.func gf) lb,args:=#[.func (.yield (w.heap.size+1)) #[] #[]] },W1,gf,
  #[.func (.yield (w.heap.size+1)) #[] #[]]++lb,W1,?_,?_,?_,?_,fun _=>h1,?_⟩
 · rw [← hW1,hrec];exact run_enterLoop_outer _ _ _ _ _
 · simp only [resolve,hg]
   simp [go_sem]
 · intro f' hf';simp [Target.leads] at hf';subst hf';exact hFg
 · simp [invoke,go_sem,eg]
 · refine (hseq (w.heap.size+1)
    (fun pre W=>I pre W∧W.heap[w.heap.size+1]?=some (.loop (rec .ready none))∧W.heap[w.heap.size]?=some (.deferred (some [])))
    (fun pre W=>∃ c,Ix c pre W∧W.heap[w.heap.size+1]?=some (.loop (rec .done (some c)))∧W.heap[w.heap.size]?=some (.deferred (some [])))
    W1 (hok W1 hb1)
    ⟨fun s W v hs=>⟨hI.set _ _ _ hs.1,(Below.heap_setCell W ⟨Bs,0,none⟩ v _ (by show _≠Bs;omega)).trans hs.2.1,(Below.heap_setCell W ⟨Bs,0,none⟩ v _ (by show _≠Bs;omega)).trans hs.2.2⟩,
     fun s W W' hs hb=>⟨hI.below _ _ _ hs.1 hb,(hb.block _ (zs hs.2.1)).trans hs.2.1,(hb.block _ (zs hs.2.2)).trans hs.2.2⟩⟩
    ?_ ⟨hI1,hL1,hK1⟩).mono ?_
   · rintro pre x W ⟨hi,hl,hk⟩ hlen
     have hlt:w.heap.size+1<W.heap.size:=(zs hl)
     have hy:=run_yield (P:=P) (args:=encs x) hl (by rw [hrec];exact hps x)
     rw [hrec] at hy
     refine ⟨fn,_,assign,body,hy,roundIn_of_wpIn hfn (hassign _ x W _ ⟨_,run_beginRound hl (by rw [hrec]),?_⟩)⟩
     have hl2:(W.putObj (w.heap.size+1) (.loop { rec .ready none with state:=.busy })).heap[w.heap.size+1]?=some (.loop { rec .ready none with state:=.busy }):=World.putObj_heap_same hlt
     have hk2:(W.putObj (w.heap.size+1) (.loop { rec .ready none with state:=.busy })).heap[w.heap.size]?=some (.deferred (some [])):=(World.putObj_heap_other (by omega)).trans hk
     have hw2:Z1D Bs W (W.putObj (w.heap.size+1) (.loop { rec .ready none with state:=.busy })):=Z1D.putObj _ _ (by omega)
     refine wpIn_mono (hbody _ pre x _ (hIp _ _ _ _ _ hi (by omega) hl rfl) hlen) ?_
     have fin:∀ (jump:Option Code) (W3:World),KeepsFrom w.heap.size (W.putObj (w.heap.size+1) (.loop { rec .ready none with state:=.busy })) W3 →
      (Instr.endRound (w.heap.size+1) jump).run P W3=.ok (.bool jump.isNone) (W3.putObj (w.heap.size+1) (.loop (rec (if jump.isNone then .ready else .done) jump))) ∧
      W3.heap[w.heap.size+1]?=some (.loop { rec .ready none with state:=.busy }) ∧
      (W3.putObj (w.heap.size+1) (.loop (rec (if jump.isNone then .ready else .done) jump))).heap[w.heap.size+1]?=some (.loop (rec (if jump.isNone then .ready else .done) jump)) ∧
      (W3.putObj (w.heap.size+1) (.loop (rec (if jump.isNone then .ready else .done) jump))).heap[w.heap.size]?=some (.deferred (some [])):=fun jump W3 hk3=>by
      have hl3:=hk3.same _ _ (by omega) hl2 rfl
      have:=run_endRound (P:=P) jump hl3
      rw [hrec] at this ⊢
      exact ⟨this,by rw [hrec] at hl3;exact hl3,World.putObj_heap_same (zs hl3),(World.putObj_heap_other (by omega)).trans (hk3.same _ _ (zn _) hk2 rfl)⟩
     rintro e a3 W3 hp
     cases e with
     | normal =>
      obtain ⟨hk3,hkp3,hi3⟩:=hp
      obtain ⟨hr,hl3,hl4,hk4⟩:=fin none W3 hk3
      exact ⟨_,_,hr,.inl ⟨rfl,⟨hIp _ _ _ _ _ hi3 (by omega) hl3 rfl,hl4,hk4⟩,(hw2.trans hkp3).trans (Z1D.putObj _ _ (by omega))⟩⟩
     | ret =>
      obtain ⟨hk3,hi3⟩:=hp
      obtain ⟨hr,hl3,hl4,hk4⟩:=fin (some .ret) W3 hk3
      exact ⟨_,_,hr,.inr ⟨rfl,.ret,hIx _ _ _ _ _ _ hi3 (by omega) hl3 rfl,hl4,hk4⟩⟩
     | exit id =>
      obtain ⟨hk3,hi3⟩:=hp
      obtain ⟨hr,hl3,hl4,hk4⟩:=fin (some (.exit id)) W3 hk3
      exact ⟨_,_,hr,.inr ⟨rfl,.exit id,hIx _ _ _ _ _ _ hi3 (by omega) hl3 rfl,hl4,hk4⟩⟩
     | goto t =>
      obtain ⟨hk3,hi3⟩:=hp
      obtain ⟨hr,hl3,hl4,hk4⟩:=fin (some (.goto t)) W3 hk3
      exact ⟨_,_,hr,.inr ⟨rfl,.goto t,hIx _ _ _ _ _ _ hi3 (by omega) hl3 rfl,hl4,hk4⟩⟩
     | panic ch=>exact hp.elim
     | outgrown=>exact hp.elim
   · rintro e W2 ⟨⟨v,rfl⟩,(⟨xs,hS,hi,hl,hk⟩ | ⟨pre,hSp,c,hi,hl,hk⟩)⟩
     · exact ⟨none,_,by have:=run_endLoop (P:=P) hl (by rw [hrec];simp);rw [hrec] at this;exact this,hdone _ xs _ (zn _) hS (hIp _ _ _ _ _ hi (by omega) hl rfl) ((World.putObj_heap_other (by omega)).trans hk)⟩
     · exact ⟨some c,_,by have:=run_endLoop (P:=P) hl (by rw [hrec];simp);rw [hrec] at this;exact this,hstop _ c pre _ (zn _) hSp (hIx _ _ _ _ _ _ hi (by omega) hl rfl) ((World.putObj_heap_other (by omega)).trans hk)⟩
end
section
open Go.RowKit Lx Go.Shelf
attribute [local go_sem] Oper.semAt_some
def ZiA (Bs:Nat)(w:World):Nat:=match w.cell? ⟨Bs,0,none⟩ with
 | some (.string r)=>r.size
 | _=>0
theorem Z5c {Bs:Nat}{w:World}{r:ByteArray}(h:w.cell? ⟨Bs,0,none⟩=some (.string r)):ZiA Bs w=r.size:=by simp [ZiA,h]
def encP (x:Int × Bytes):Array Value:=#[.int .i64 x.1,.string (mk x.2)]
def PcOk (Bs:Nat)(s:ByteArray)(W:World):Prop:=W.cell? ⟨Bs,0,none⟩=some (.string s)∧W.frozen? ⟨Bs,0,none⟩=false
def PcLoop (Bs:Nat)(s:ByteArray)(J:List (Int × Bytes)→World→Prop)(ln:Value)(wr:World):Prop :=
 ∃ (l:Int) (r:ByteArray) (pre:List (Int × Bytes)),ln=.int .i64 l∧PcOk Bs r wr∧P 1 (bl s)=pre++P l (bl r)∧J pre wr∧1≤l∧l+r.size≤s.size+1∧Bs<wr.heap.size
theorem Zeb {w:World}{b o:Nat}{v:Value}(h:w.cell? ⟨b,o,none⟩=some v):b<w.heap.size:=by
 rcases Nat.lt_or_ge b w.heap.size with h1 | h1
 · exact h1
 · simp [World.cell?,Array.getElem?_eq_none h1] at h
theorem Z5G (r:ByteArray)(h:0<r.size):bl r=r[0]::(bl r).drop 1:=by
 have:=Zby r 0 h
 rwa [List.drop_zero] at this
theorem ZfF (r:ByteArray):bl (r.extract 1 r.size)=(bl r).drop 1:=by
 rw [Z4h,List.take_of_length_le (by rw [List.length_drop,Z01];omega)]
theorem Za2 (r:ByteArray)(h:0<r.size):(cutB 10 r).size<r.size:=by
 rw [cutB,Z0D,← Z01 r]
 have:=Z32 (· != 10) (bl r)
 rw [← Z01] at h
 rw [List.length_tail];omega
theorem ZiB (r:ByteArray)(ln:Int)(h:0<r.size)(hc:r[0]=35):P ln (bl r)=P (if Z87 10 r then ln+1 else ln) (bl (cutB 10 r)):=by
 have h1:(bl r).dropWhile (· != 10)=((bl r).drop 1).dropWhile (· != 10):=by
  conv=>lhs;rw [Z5G r h,hc]
  rw [List.dropWhile_cons,if_pos (by decide)]
 have h2:P ln (bl r)=P ln ((bl r).dropWhile (· != 10)):=by
  rw [h1];conv=>lhs;rw [Z5G r h,hc,P_hash]
 rw [h2,cutB,Z52]
 cases hk:Z87 10 r with
 | false=>rw [Z6m _ _ hk];rfl
 | true =>
  have hs:=Z6k _ _ hk
  have hd:=Z4A (bl r) (· != 10)
  have hne:(bl r).dropWhile (· != 10)≠[]:=by
   intro e;rw [e] at hd;have:=congrArg List.length hd;rw [List.length_drop] at this;simp at this;omega
  cases hw:(bl r).dropWhile (· != 10) with
  | nil=>exact absurd hw hne
  | cons c q =>
   have:=List.head_dropWhile_not (· != 10) hne
   simp only [hw,List.head_cons] at this
   have hc10:c=10:=by simpa using this
   subst hc10;simp [P_feed]
theorem Zec (n l Bs:Nat)(s:ByteArray)(hs:s.size≤1000000000)(J Jx:List (Int × Bytes)→World→Prop)(W:World)(hok:PcOk Bs s W)(hBs:Bs<W.heap.size)(hJ:Z9d Bs J)
 (hY:∀ pre x W1,J pre W1→(pre++[x] <+: P 1 (bl s))→YieldAt Fence.wide (n - 1) Tryz.prog l (encP x) W1 fun e W' =>
  (e=.returned (.bool true)∧J (pre++[x]) W'∧Z1D Bs W1 W')∨(e=.returned (.bool false)∧Jx (pre++[x]) W')) (h0:J [] W) :
 CallsIn Fence.wide n Tryz.prog 156 #[.func (.yield l) #[] #[],.pointer (some ⟨Bs,0,none⟩)] W fun e W' =>
  (∃ v,e=.returned v)∧((∃ xs,xs=P 1 (bl s)∧J xs W')∨(∃ pre,(pre <+: P 1 (bl s))∧Jx pre W')):=by
 have HJ:=zh hJ;have HY:=zh hY;have H0:=zh h0;have HOk:=zh hok;clear hJ hY h0 hok;refine callsIn_of_wp Tryz.func156 rfl trivial ?_ rfl
 simp only [Tryz.ntmps156,List.size_toArray,List.length_cons,List.length_nil,Nat.reduceAdd,Nat.reduceSub,Array.replicate_succ,Array.replicate_zero,List.push_toArray,List.append_toArray,List.nil_append,List.cons_append]
 gi_wp2
 gi_loopw [3] (fun ln wr=>PcLoop Bs s J ln wr) (fun _ wr=>ZiA Bs wr)
 case atStart=>exact ⟨1,s,[],rfl,HOk.out,rfl,H0.out,by omega,by omega,hBs⟩
 case round =>
  obtain ⟨ln,r,pre,rfl,⟨hc,hf⟩,hP,hj,hl1,hl2,hBr⟩:=hrel
  have HP:=zh hP;have Hj:=zh hj;have HM:=zh (Z5c hc)
  clear hP hj;by_cases hr:0<r.size
  · have he:(!r.toList.isEmpty)=true:=by rw [ByteArray.toList_eq];have:bl r≠[]:=by { intro e;have:=Z01 r;rw [e] at this;simp at this;omega };simpa [bl] using this
    by_cases c1:r[0]=32
    · have hb1:((r[0].toNat:Int)==32)=true:=ZfD r[0] 32 (by omega) c1
      have C1:=zh c1;clear c1;gi_wp2
      go_roundw
      case rel=>exact ⟨ln,r.extract 1 r.size,pre,rfl,⟨World.cell?_setCell_same' _ _ _ (by rw [hc];rfl),by rw [World.frozen?_setCell];exact hf⟩,by rw [HP.out,Z5G r hr,C1.out,P_blank,ZfF],HJ.out.set _ _ _ Hj.out,hl1,by rw [ByteArray.size_extract];omega,by simpa [World.setCell] using hBr⟩
      case measure=>rw [Z5c (World.cell?_setCell_same' _ _ _ (by rw [hc];rfl)),HM.out,ByteArray.size_extract];omega
    · have hb1:((r[0].toNat:Int)==32)=false:=ZfE r[0] 32 (by omega) c1
      have C1:=zh c1;clear c1;by_cases c2:r[0]=10
      · have hb2:((r[0].toNat:Int)==10)=true:=ZfD r[0] 10 (by omega) c2
        have C2:=zh c2;clear c2;gi_wp2
        gi_region
        gi_wp2
        go_roundw
        case rel=>exact ⟨ln+1,r.extract 1 r.size,pre,rfl,⟨World.cell?_setCell_same' _ _ _ (by rw [hc];rfl),(World.frozen?_setCell _ _ _ _).trans hf⟩,by rw [HP.out,Z5G r hr,C2.out,P_feed,ZfF],HJ.out.below _ _ _ (HJ.out.set _ _ _ Hj.out) (Below.drew (Za3 _)),by omega,by rw [ByteArray.size_extract];omega,by simpa [World.setCell] using hBr⟩
        case measure =>
         have:ZiA Bs (wr.setCell ⟨Bs,0,none⟩ (.string (r.extract 1 r.size))).drew=(r.extract 1 r.size).size:=Z5c (World.cell?_setCell_same' _ _ _ (by rw [hc];rfl))
         rw [this,HM.out,ByteArray.size_extract];omega
      · have hb2:((r[0].toNat:Int)==10)=false:=ZfE r[0] 10 (by omega) c2
        have C2:=zh c2;clear c2;by_cases c3:r[0]=35
        · have hb3:((r[0].toNat:Int)==35)=true:=ZfD r[0] 35 (by omega) c3
          have C3:=zh c3;clear c3;have hcut:=ZiB r ln hr C3.out
          have hcs:=Za2 r hr
          have HCut:=zh hcut;have HR:Hid (r.size≤maxLen):=by show _≤_;unfold maxLen;omega
          clear hcut;generalize hB:cutB 10 r=rb at *
          generalize hO:Z87 10 r=ob at *
          have HB:=zh hB;have HO:=zh hO;clear hB hO;cases ob
          all_goals
           gi_wp2_with fail
           refine ⟨trivial,(fun h=>by cases h),(callsIn_wide.2 (Z60 r 10 wr HR.out)).mono ?_⟩
           rintro e w2 ⟨rfl,hb2⟩;rw [HB.out,HO.out]
           have hc2:=(hb2.cell (p:=⟨Bs,0,none⟩) hBr).trans hc
           have hf2:=(hb2.frozen (p:=⟨Bs,0,none⟩) hBr).trans hf
           have hz2:=hb2.size
           gi_wp2
           go_roundw
           case measure=>rw [Z5c (World.cell?_setCell_same' _ _ _ (by rw [hc2];rfl)),HM.out];exact hcs
           case rel =>
            first
            | exact ⟨ln,rb,pre,rfl,⟨World.cell?_setCell_same' _ _ _ (by rw [hc2];rfl),(World.frozen?_setCell _ _ _ _).trans hf2⟩,by rw [HP.out,HCut.out];rfl,HJ.out.set _ _ _ (HJ.out.below _ _ _ Hj.out hb2),by omega,by omega,by simp [World.setCell];omega⟩
            | exact ⟨ln+1,rb,pre,rfl,⟨World.cell?_setCell_same' _ _ _ (by rw [hc2];rfl),(World.frozen?_setCell _ _ _ _).trans hf2⟩,by rw [HP.out,HCut.out];rfl,HJ.out.set _ _ _ (HJ.out.below _ _ _ Hj.out hb2),by omega,by omega,by simp [World.setCell];omega⟩
        · have hb3:((r[0].toNat:Int)==35)=false:=ZfE r[0] 35 (by omega) c3
          have C3:=zh c3;clear c3;have HR:Hid (r.size≤maxLen):=by show _≤_;unfold maxLen;omega
          have n1:=Z9q (bl r)
          have n2:=ZmC (bl r) (by rw [Z01];exact hr)
          rw [Z01] at n2
          have hx:r.extract 0 (tlen (bl r))=mk ((bl r).take (tlen (bl r))):=Z5H _ _ _ _ (by simp)
          have hy:bl (r.extract (tlen (bl r)) r.size)=(bl r).drop (tlen (bl r)):=by
           rw [Z4h,List.take_of_length_le (by rw [List.length_drop,Z01];omega)]
          have hp:P ln (bl r)=(ln,(bl r).take (tlen (bl r)))::P ln ((bl r).drop (tlen (bl r))):=by
           conv=>lhs;rw [Z5G r hr,P_tok ln _ _ C1.out C2.out C3.out,← Z5G r hr]
          generalize htx:(bl r).take (tlen (bl r))=tx at *
          generalize hn:tlen (bl r)=m at *
          have hpre:pre++[(ln,tx)] <+: P 1 (bl s):=⟨P ln ((bl r).drop m),by rw [HP.out,hp];simp⟩
          obtain ⟨fn,tmps,assign,body,hyl,hR⟩:=HY.out pre (ln,tx) wr Hj.out hpre
          simp only [encP] at hyl
          rw [← hx] at hyl
          have HN:=zh hn;have HX:=zh hx;have HY2:=zh hy;have HPp:=zh hp;clear hn hx hy hp htx hpre;gi_wp2_with fail
          refine ⟨trivial,(fun h=>by cases h),(callsIn_wide.2 (Zef r wr HR.out)).mono ?_⟩
          rintro e w2 ⟨rfl,rfl⟩;rw [HN.out]
          gi_wp2_with fail
          refine ⟨(fun h=>by cases h),hR.mono ?_⟩
          rintro e W3 (⟨rfl,hJ3,hk3⟩ | ⟨rfl,hJx3⟩)
          · have hc3:=hk3.1.trans hc
            have hf3:=hk3.2.trans hf
            have hBr3:=Zeb hc3;gi_wp2
            go_roundw
            case rel=>exact ⟨ln,r.extract m r.size,pre++[(ln,tx)],rfl,⟨World.cell?_setCell_same' _ _ _ (by rw [hc3];rfl),(World.frozen?_setCell _ _ _ _).trans hf3⟩,by rw [HP.out,HPp.out,HY2.out];simp,HJ.out.set _ _ _ hJ3,hl1,by rw [ByteArray.size_extract];omega,by simpa [World.setCell] using hBr3⟩
            case measure=>rw [Z5c (World.cell?_setCell_same' _ _ _ (by rw [hc3];rfl)),HM.out,ByteArray.size_extract];omega
          · gi_wp2
            refine bodyPost_ret (results_none rfl _ _ _) rfl ?_
            exact ⟨⟨_,rfl⟩,.inr ⟨pre++[(ln,tx)],⟨P ln ((bl r).drop m),by rw [HP.out,HPp.out];simp⟩,hJx3⟩⟩
  · have he:(!r.toList.isEmpty)=false:=by rw [ByteArray.toList_eq];have:bl r=[]:=List.length_eq_zero_iff.1 (by rw [Z01];omega);simpa [bl] using this
    gi_wp2
    go_end0
    exact ⟨⟨_,rfl⟩,.inl ⟨pre,by rw [HP.out,(List.length_eq_zero_iff.1 (by rw [Z01];omega):bl r=[]),P_nil,List.append_nil],Hj.out⟩⟩
theorem Zbz (n Bs:Nat)(s:ByteArray)(hs:s.size≤1000000000) :
 SeqC Fence.wide n Tryz.prog 156 #[.pointer (some ⟨Bs,0,none⟩)] encP (fun W=>PcOk Bs s W∧Bs<W.heap.size) Bs (fun xs=>xs=P 1 (bl s)) (fun pre=>pre <+: P 1 (bl s)) :=
 fun l J Jx W hok hJ hY h0=>Zec n l Bs s hs J Jx W hok.1 hok.2 hJ hY h0
theorem Zed (s:ByteArray)(w:World) :
 Calls Tryz.prog 117 #[.string s] w fun e w'=>e=.returned (.func (.func 156) #[] #[.pointer (some ⟨w.heap.size,0,none⟩)])∧w'=w.alloc (.cells #[.string s] 9):=by
 go_enter Tryz.func117,Tryz.ntmps117
 go_wp2
 go_ret
 exact ⟨rfl,rfl⟩
end
section
open Go.RowKit Lx Go.Shelf
attribute [local go_sem] Oper.semAt_some
theorem Z4F (acc ts:List Tok)(l:Int)(ps rest:List (Int × Bytes))(h:coll acc ps=(ts,0,l)):coll acc (ps++rest)=coll ts rest:=by
 induction ps generalizing acc with
 | nil=>simp only [coll,Prod.mk.injEq] at h;rw [List.nil_append,h.1]
 | cons p ps ih =>
  obtain ⟨ln,t⟩:=p
  simp only [coll,List.cons_append] at h ⊢
  split at h
  · simp at h
  · split at h
    · simp at h
    · rw [if_neg ‹_›,if_neg ‹_›];exact ih _ h
theorem ZfG (ts:List Tok)(pre:List (Int × Bytes))(x:Int × Bytes)(h:coll [] pre=(ts,0,0))(hk:Z07 x.2≠0)(hl:ts.length≠5000):coll [] (pre++[x])=(ts++[(Z07 x.2,x.1,x.2)],0,0):=by
 rw [Z4F [] ts 0 pre [x] h];simp [coll,hk,hl]
theorem ZiC (ts:List Tok)(pre rest:List (Int × Bytes))(x:Int × Bytes)(h:coll [] pre=(ts,0,0))(hk:Z07 x.2=0):coll [] ((pre++[x])++rest)=([],8,x.1):=by
 rw [List.append_assoc,Z4F [] ts 0 pre _ h];simp [coll,hk]
theorem ZfH (ts:List Tok)(pre rest:List (Int × Bytes))(x:Int × Bytes)(h:coll [] pre=(ts,0,0))(hk:Z07 x.2≠0)(hl:ts.length=5000):coll [] ((pre++[x])++rest)=([],2,x.1):=by
 rw [List.append_assoc,Z4F [] ts 0 pre _ h];simp [coll,hk,hl]
theorem Zmk:∀ (f:Nat) (ln:Int) (s:Bytes),∀ x∈pcs f ln s,x.2.length≤s.length:=by
 intro f
 induction f with
 | zero=>intro ln s x hx;simp [pcs] at hx
 | succ f ih =>
  intro ln s x hx
  cases s with
  | nil=>simp [pcs] at hx
  | cons c r =>
   simp only [pcs] at hx
   split at hx
   · have:=ih _ _ x hx;simp;omega
   · split at hx
     · have:=ih _ _ x hx;simp;omega
     · split at hx
       · have:=ih _ _ x hx;have h2:=Z32 (· != 10) r;simp;omega
       · rcases List.mem_cons.1 hx with rfl | hx
         · simp;omega
         · have:=ih _ _ x hx;rw [List.length_drop] at this;omega
def TkI (w:World)(pre:List (Int × Bytes))(W:World):Prop :=
 ∃ (ts:List Tok) (v:Value),coll [] pre=(ts,0,0)∧ts.length≤5000∧Boxed W (w.heap.size+3) 118 v∧W.ownsRow (w.heap.size+5) 169 3 v ts.length (cellsOf ts) ∧
  Boxed W w.heap.size 118 (.slice none 0 0)∧Boxed W (w.heap.size+1) 35 (.int .i64 0)∧Boxed W (w.heap.size+2) 3 (.int .i64 0)∧w.heap.size+5≤W.heap.size∧Below w.heap.size w W
def TkX (w:World)(c:Code)(pre:List (Int × Bytes))(W:World):Prop :=
 c=.ret∧∃ e l:Int,(∀ rest,coll [] (pre++rest)=([],e,l))∧Boxed W w.heap.size 118 (.slice none 0 0)∧Boxed W (w.heap.size+1) 35 (.int .i64 e)∧Boxed W (w.heap.size+2) 3 (.int .i64 l)∧w.heap.size+5≤W.heap.size∧Below w.heap.size w W
theorem Z1n {W:World}{B:Nat}{t:TypeId}{v:Value}(h:Boxed W B t v)(p:Addr)(u:Value)(hp:B≠p.block):Boxed (W.setCell p u) B t v:=(Below.heap_setCell W p u B hp).trans h
theorem Z1p {W W':World}{B:Nat}{t:TypeId}{v:Value}(h:Boxed W B t v)(hb:Below W.heap.size W W'):Boxed W' B t v:=(hb.block B h.lt).trans h
theorem Z4y {W:World}{B l:Nat}{t:TypeId}{v:Value}(h:Boxed W B t v)(o:Obj)(hp:B≠l):Boxed (W.putObj l o) B t v:=(World.putObj_heap_other hp).trans h
theorem Z78 {n₀ l:Nat}{W:World}{o o':Obj}(hl:n₀≤l)(h:W.heap[l]?=some o):Below n₀ W (W.putObj l o') :=
 (Below.refl n₀ W).grown (grownBy_putObj' W l o') (by have:=(zs h);omega) (fun k e=>by cases e;omega)
theorem Z5d {W:World}{base:Nat}{e:TypeId}{size:Nat}{v:Value}{n:Nat}{xs:List Value}(h:W.ownsRow base e size v n xs)(p:Addr)(u:Value)(hp:p.block<base):(W.setCell p u).ownsRow base e size v n xs :=
 ownsRow_setCell_below h hp u
theorem Z8g {W W':World}{base:Nat}{e:TypeId}{size:Nat}{v:Value}{n:Nat}{xs:List Value}(h:W.ownsRow base e size v n xs)(hb:Below W.heap.size W W'):W'.ownsRow base e size v n xs:=by
 refine ⟨h.1,?_⟩
 rcases h.2 with ⟨hv,h0⟩ | ⟨g,cap,cur,hv,hbase,hg,rest⟩
 · exact .inl ⟨hv,h0⟩
 · exact .inr ⟨g,cap,cur,hv,hbase,(hb.block g (zs hg)).trans hg,rest⟩
theorem TkI.abides (w:World):Z9d (w.heap.size+4) (TkI w) where
 set:=by
  rintro s W u ⟨ts,v,h1,h2,b3,ho,b0,b1,b2,hz,hB⟩
  exact ⟨ts,v,h1,h2,Z1n b3 _ _ (by show _≠w.heap.size+4;omega),Z5d ho _ _ (by show w.heap.size+4<_;omega),Z1n b0 _ _ (by show _≠w.heap.size+4;omega),Z1n b1 _ _ (by show _≠w.heap.size+4;omega),Z1n b2 _ _ (by show _≠w.heap.size+4;omega),by simpa [World.setCell] using hz,hB.setCell (p:=⟨w.heap.size+4,0,none⟩) (by show _≤w.heap.size+4;omega) _⟩
 below:=by
  rintro s W W' ⟨ts,v,h1,h2,b3,ho,b0,b1,b2,hz,hB⟩ hb
  exact ⟨ts,v,h1,h2,Z1p b3 hb,Z8g ho hb,Z1p b0 hb,Z1p b1 hb,Z1p b2 hb,Nat.le_trans hz hb.size,hB.trans (hb.mono hB.size)⟩
theorem TkI.put (w:World)(s:List (Int × Bytes))(W:World)(l:Nat)(o o':Obj)(h:TkI w s W)(hl:w.heap.size+5≤l)(ho:W.heap[l]?=some o)(hc:o.isCells=false):TkI w s (W.putObj l o'):=by
 obtain ⟨ts,v,h1,h2,b3,hr,b0,b1,b2,hz,hB⟩:=h
 exact ⟨ts,v,h1,h2,Z4y b3 _ (by omega),ownsRow_putObj hr _ ho hc,Z4y b0 _ (by omega),Z4y b1 _ (by omega),Z4y b2 _ (by omega),by simpa using hz,hB.trans (Z78 (by omega) ho)⟩
theorem TkX.put (w:World)(c:Code)(s:List (Int × Bytes))(W:World)(l:Nat)(o o':Obj)(h:TkX w c s W)(hl:w.heap.size+5≤l)(ho:W.heap[l]?=some o):TkX w c s (W.putObj l o'):=by
 obtain ⟨hc,e,l',h1,b0,b1,b2,hz,hB⟩:=h
 exact ⟨hc,e,l',h1,Z4y b0 _ (by omega),Z4y b1 _ (by omega),Z4y b2 _ (by omega),by simpa using hz,hB.trans (Z78 (by omega) ho)⟩
theorem Z79 {B:Nat}{W W':World}(h:Below W.heap.size W W'):KeepsFrom B W W':=⟨h.size,fun k _ _ hk _=>(h.block k (zs hk)).trans hk⟩
theorem ZkE {w W W2:World}{pre:List (Int × Bytes)}{B:Nat}(e l:Int)(hb2:Below W.heap.size W W2)(b0:Boxed W2 w.heap.size 118 (.slice none 0 0))(b1:Boxed W2 (w.heap.size+1) 35 (.int .i64 0))(b2:Boxed W2 (w.heap.size+2) 3 (.int .i64 0))
 (hz:w.heap.size+5≤W.heap.size) (hB:Below w.heap.size w W) (hc:∀ rest,coll [] (pre++rest)=([],e,l)) :
 KeepsFrom B W (((W2.setCell ⟨w.heap.size,0,none⟩ (.slice none 0 0)).setCell ⟨w.heap.size+1,0,none⟩ (.int .i64 e)).setCell ⟨w.heap.size+1+1,0,none⟩ (.int .i64 l)) ∧
  TkX w .ret pre (((W2.setCell ⟨w.heap.size,0,none⟩ (.slice none 0 0)).setCell ⟨w.heap.size+1,0,none⟩ (.int .i64 e)).setCell ⟨w.heap.size+1+1,0,none⟩ (.int .i64 l)):=by
 refine ⟨(((Z79 hb2).trans ((KeepsOthers.setCell _ _ _).from _)).trans ((KeepsOthers.setCell _ _ _).from _)).trans ((KeepsOthers.setCell _ _ _).from _),rfl,e,l,hc,?_,?_,?_,?_,?_⟩
 · exact Z1n (Z1n (b0.set _) _ _ (by show _≠w.heap.size+1;omega)) _ _ (by show _≠w.heap.size+1+1;omega)
 · exact Z1n ((Z1n b1 _ _ (by show _≠w.heap.size;omega)).set _) _ _ (by show _≠w.heap.size+1+1;omega)
 · exact (Z1n (Z1n b2 _ _ (by show _≠w.heap.size;omega)) _ _ (by show _≠w.heap.size+1;omega)).set _
 · have:=hb2.size;simp [World.setCell];omega
 · have h2:Below w.heap.size w W2:=hB.trans (hb2.mono hB.size)
   exact ((h2.setCell (p:=⟨w.heap.size,0,none⟩) (zn _) _).setCell (p:=⟨w.heap.size+1,0,none⟩) (by show _≤w.heap.size+1;omega) _).setCell (p:=⟨w.heap.size+1+1,0,none⟩) (by show _≤w.heap.size+1+1;omega) _
theorem Zmm {w W W2 w1:World}{pre:List (Int × Bytes)}{x:Int × Bytes}{B:Nat}{ts:List Tok}{v v':Value}{kd:Int}{tmp:Obj}(hb2:Below W.heap.size W W2)(b0:Boxed W2 w.heap.size 118 (.slice none 0 0))(b1:Boxed W2 (w.heap.size+1) 35 (.int .i64 0))(b2:Boxed W2 (w.heap.size+2) 3 (.int .i64 0))
 (b3:Boxed W2 (w.heap.size+3) 118 v) (hr:W2.ownsRow (w.heap.size+5) 169 3 v ts.length (cellsOf ts)) (hz:w.heap.size+5≤W.heap.size) (hB:Below w.heap.size w W) (h4:ts.length<5000)
 (hown':w1.ownsRow (w.heap.size+5) 169 3 v' (ts.length+1) (cellsOf ts++[.int .i64 kd,.int .i64 x.1,.string (mk x.2)])) (hgrow:(W2.alloc tmp).grownBy w1 v.ownBlock)
 (hc:coll [] (pre++[x])=(ts++[(kd,x.1,x.2)],0,0)) :
 KeepsFrom B W (w1.setCell ⟨w.heap.size+1+1+1,0,none⟩ v')∧Z1D (w.heap.size+4) W (w1.setCell ⟨w.heap.size+1+1+1,0,none⟩ v')∧TkI w (pre++[x]) (w1.setCell ⟨w.heap.size+1+1+1,0,none⟩ v'):=by
 have hz2:=hb2.size
 have hrow:∀ j,v.ownBlock=some j→w.heap.size+5≤j:=fun j e=>(hr.lt j e).1
 have keep:∀ {b:Nat} {t:TypeId} {u:Value},b<w.heap.size+5→Boxed W2 b t u→Boxed w1 b t u:=fun {b t u} hb h=>(h.alloc _).kept hgrow (fun e=>by have:=hrow _ e.symm;omega)
 have hk:KeepsOthers W2 w1:=(KeepsOthers.alloc W2 tmp).trans (KeepsOthers.of_grownBy hgrow fun j o ej hj=>by
  rcases (hr.alloc tmp).2 with ⟨rfl,_⟩ | ⟨g,cap,cur,rfl,_,hgb,_⟩
  · simp [Value.ownBlock] at ej
  · obtain rfl:g=j:=by simpa [Value.ownBlock] using ej
    rw [hgb] at hj;cases hj;rfl)
 have hB1:Below w.heap.size w w1:=((hB.trans (hb2.mono hB.size)).alloc (by omega) tmp).grown hgrow (by simp;omega) (fun j e=>by have:=hrow j e;omega)
 have hz1:=hk.size
 refine ⟨((Z79 hb2).trans (hk.from _)).trans ((KeepsOthers.setCell _ _ _).from _),?_,ts++[(kd,x.1,x.2)],v',hc,by rw [List.length_append,List.length_singleton];omega,(keep (by omega) b3).set _,?_,?_,?_,?_,?_,?_⟩
 · refine ((Z1D.below hb2 (by omega)).trans (Z1D.block ?_)).trans (Z1D.setCell _ _ _ (by show _≠w.heap.size+1+1+1;omega))
   rw [hgrow.block _ (by simp;omega) (fun e=>by have:=hrow _ e.symm;omega)]
   exact Below.heap_alloc _ _ _ (by omega)
 · rw [List.length_append,List.length_singleton,Zad,Z2q]
   exact Z5d hown' _ _ (by show w.heap.size+1+1+1<_;omega)
 · exact Z1n (keep (by omega) b0) _ _ (by show _≠w.heap.size+1+1+1;omega)
 · exact Z1n (keep (by omega) b1) _ _ (by show _≠w.heap.size+1+1+1;omega)
 · exact Z1n (keep (by omega) b2) _ _ (by show _≠w.heap.size+1+1+1;omega)
 · simp [World.setCell];omega
 · exact hB1.setCell (p:=⟨w.heap.size+1+1+1,0,none⟩) (by show _≤w.heap.size+1+1+1;omega) _
theorem Zd2 {w W:World}{D:Nat}{tmps:Array Value}{R:List Tok × Int × Int}{v:Value}(hD:w.heap.size+5≤D)(hK:W.heap[D]?=some (.deferred (some [])))
 (t2:tmps[2]?.getD undef=.pointer (some ⟨w.heap.size,0,none⟩)) (t3:tmps[3]?.getD undef=.pointer (some ⟨w.heap.size+1,0,none⟩)) (t4:tmps[4]?.getD undef=.pointer (some ⟨w.heap.size+1+1,0,none⟩))
 (b0:Boxed W w.heap.size 118 v) (b1:Boxed W (w.heap.size+1) 35 (.int .i64 R.2.1)) (b2:Boxed W (w.heap.size+2) 3 (.int .i64 R.2.2)) (hB:Below w.heap.size w W) (hv:∃ A c,v=.slice A R.1.length c)
 (hS:Sl (W.putObj D (.deferred none)) (W.putObj D (.deferred none)).heap.size v R.1) :
 bodyPostM Fence.wide 5 Tryz.prog Tryz.f82 (Z9c w R) Exit.ret { tmps,defers:=[{ target:=.collected D,args:=#[] }] } W:=by
 refine ⟨by simp,.inl ⟨_,_,rfl,run_takeDeferred hK,?_⟩⟩
 have c0:=(Z4y b0 (.deferred none) (by omega:w.heap.size≠D)).cell
 have c1:=(Z4y b1 (.deferred none) (by omega:w.heap.size+1≠D)).cell
 have c2:(W.putObj D (.deferred none)).cell? ⟨w.heap.size+1+1,0,none⟩=_:=(Z4y b2 (.deferred none) (by omega:w.heap.size+2≠D)).cell
 obtain ⟨A,c,rfl⟩:=hv
 refine ⟨.tuple #[.slice A R.1.length c,.int .i64 R.2.1,.int .i64 R.2.2],?_,_,rfl,hS,hB.trans (Z78 (by omega) hK)⟩
 simp [results,Tryz.results82,go_sem,t2,t3,t4,c0,c1,c2]
theorem Zee (s:ByteArray)(w:World)(hs:s.size≤1000000000):Calls Tryz.prog 82 #[.string s] w (Z9c w (toks (bl s))):=by
 by_cases hbig:20000<s.size
 · rw [Zd1 s hbig]
   go_enter Tryz.func82,Tryz.ntmps82
   go_wp2_with fail;refine bodyPost_ret (v:=.tuple #[.slice none 0 0,.int .i64 2,.int .i64 0]) (by simp [results,Tryz.results82,go_sem]) rfl ?_
   exact ⟨_,rfl,Sl.nil _ _,(((Za3 w).alloc (zn _) _).alloc (by simp) _).alloc (by simp;omega) _⟩
 · rw [Zea s hbig]
   obtain ⟨R,hR⟩:∃ R,coll [] (P 1 (bl s))=R:=⟨_,rfl⟩
   rw [hR]
   have HR:=zh hR;clear hR;have hbd:decide ((20000:Int)<s.size)=false:=by simp;omega
   obtain ⟨i0,hi,hz0,hz1,hz2⟩:=info_parts Tryz.infoTok
   have hI:=zh hi;have hZ0:=zh hz0;have hZ1:=zh hz1;have hZ2:=zh hz2;clear hi hz0 hz1 hz2;refine (callsIn_wide (n:=5)).1 ?_
   refine callsIn_of_wp_marks Tryz.func82 rfl trivial ?_ rfl
   simp only [Tryz.ntmps82,List.size_toArray,List.length_cons,List.length_nil,Nat.reduceAdd,Nat.reduceSub,Array.replicate_succ,Array.replicate_zero,List.push_toArray,List.append_toArray,List.nil_append,List.cons_append]
   gi_wp2_with fail
   refine ⟨trivial,(callsIn_wide.2 (Zed s _)).mono ?_⟩
   rintro e w1 ⟨rfl,rfl⟩;gi_wp2_with fail
   obtain ⟨W0,hW0⟩:∃ W0,((((((w.alloc (.cells #[.slice none 0 0] 118)).alloc (.cells #[.int .i64 0] 35)).alloc (.cells #[.int .i64 0] 3)).alloc (.cells #[.slice none 0 0] 118)).alloc (.cells #[.string s] 9)))=W0:=⟨_,rfl⟩
   have k0:Boxed W0 w.heap.size 118 (.slice none 0 0):=by rw [← hW0];exact ((((Boxed.new w _ _).alloc _).alloc _).alloc _).alloc _
   have k1:Boxed W0 (w.heap.size+1) 35 (.int .i64 0):=by rw [← hW0];have:=(((Boxed.new (w.alloc (.cells #[.slice none 0 0] 118)) 35 (.int .i64 0)).alloc (.cells #[.int .i64 0] 3)).alloc (.cells #[.slice none 0 0] 118)).alloc (.cells #[.string s] 9);simpa using this
   have k2:Boxed W0 (w.heap.size+2) 3 (.int .i64 0):=by rw [← hW0];have:=((Boxed.new ((w.alloc (.cells #[.slice none 0 0] 118)).alloc (.cells #[.int .i64 0] 35)) 3 (.int .i64 0)).alloc (.cells #[.slice none 0 0] 118)).alloc (.cells #[.string s] 9);simpa using this
   have k3:Boxed W0 (w.heap.size+3) 118 (.slice none 0 0):=by rw [← hW0];have:=(Boxed.new (((w.alloc (.cells #[.slice none 0 0] 118)).alloc (.cells #[.int .i64 0] 35)).alloc (.cells #[.int .i64 0] 3)) 118 (.slice none 0 0)).alloc (.cells #[.string s] 9);simpa using this
   have k4:Boxed W0 (w.heap.size+4) 9 (.string s):=by rw [← hW0];have:=Boxed.new ((((w.alloc (.cells #[.slice none 0 0] 118)).alloc (.cells #[.int .i64 0] 35)).alloc (.cells #[.int .i64 0] 3)).alloc (.cells #[.slice none 0 0] 118)) 9 (.string s);simpa using this
   have kz:W0.heap.size=w.heap.size+5:=by rw [← hW0];simp
   have kB:Below w.heap.size w W0:=by rw [← hW0];exact (((((Za3 w).alloc (zn _) _).alloc (by simp) _).alloc (by simp;omega) _).alloc (by simp;omega) _).alloc (by simp;omega) _
   rw [hW0]
   clear hW0;refine Z6w rfl (by omega) (gf:=156) (lb:=#[.pointer (some ⟨w.heap.size+4,0,none⟩)]) rfl trivial (enters_of Tryz.func156 (by kernel_rfl) rfl)
    (Zbz _ (w.heap.size+4) s hs) (by omega) (fun W' hb=>⟨⟨(Z1p k4 hb).cell,(Z1p k4 hb).frozen⟩,(Z1p k4 hb).lt⟩) (fun _=>rfl) (TkI w) (TkX w) (TkI.abides w)
    (fun s W l o o' h hl ho hc=>TkI.put w s W l o o' h (by omega) ho hc) (fun c s W l o o' h hl ho _=>TkX.put w c s W l o o' h (by omega) ho)
    ⟨[],_,rfl,by simp,k3,World.ownsRow_nil _ _ _ _,k0,k1,k2,by omega,kB⟩
    (fun x=>{ tmps:=#[.string s,undef,.pointer (some ⟨w.heap.size,0,none⟩),.pointer (some ⟨w.heap.size+1,0,none⟩),.pointer (some ⟨w.heap.size+1+1,0,none⟩),.pointer (some ⟨w.heap.size+1+1+1,0,none⟩),.int .i64 x.1,.string (mk x.2),undef,.string s,.int .i64 s.size,.bool false,.string s,.func (.func 156) #[] #[.pointer (some ⟨w.heap.size+4,0,none⟩)],.int .i64 x.1,.string (mk x.2),undef,undef,undef,undef,undef,undef,undef,undef,undef,undef,undef,undef,undef,undef,undef,undef,undef,undef,undef],defers:=[] }) ?assign ?body ?done ?stop
   case assign =>
    intro l x W K hK
    simp only [encP]
    gi_wp2
    exact hK
   case body =>
    rintro l pre x W ⟨ts,v,h1,h2,b3,hr,b0,b1,b2,hz,hB⟩ hpre
    have hxl:Hid ((mk x.2).size≤maxLen):=by
     show _≤_
     have hm:x∈P 1 (bl s):=hpre.subset (by simp)
     have:=Zmk _ _ _ x hm
     rw [Z01] at this
     rw [Z0D];unfold maxLen;omega
    have Hpre:=zh hpre;clear hpre;have HKd:Hid (Z07 (bl (mk x.2))=Z07 x.2):=by rw [Z52];exact rfl
    have HBad:=zh (fun h rest=>ZiC ts pre rest x h1 h)
    have HMuch:=zh (fun h h' rest=>ZfH ts pre rest x h1 h h')
    have HSnoc:=zh (fun h h'=>ZfG ts pre x h1 h h')
    have H1:=zh h1;clear h1;generalize Z07 x.2=kd at *
    clear k0 k1 k2 k3 k4 kB;have hKZ:=zh kz;clear kz;gi_wp2_with fail
    refine ⟨trivial,(CallsIn.inRound l (callsIn_wide.2 (Zeg _ W hxl.out))).mono ?_⟩
    rintro e W2 ⟨rfl,hb2⟩;rw [HKd.out]
    have b0':=Z1p b0 hb2
    have b1':=Z1p b1 hb2
    have b2':=Z1p b2 hb2
    have b3':=Z1p b3 hb2
    have hr':=Z8g hr hb2
    have c0:=b0'.cell
    have f0:=b0'.frozen
    have c1:=b1'.cell
    have f1:=b1'.frozen
    have c2:W2.cell? ⟨w.heap.size+1+1,0,none⟩=_:=b2'.cell
    have f2:W2.frozen? ⟨w.heap.size+1+1,0,none⟩=_:=b2'.frozen
    have c3:W2.cell? ⟨w.heap.size+1+1+1,0,none⟩=_:=b3'.cell
    have f3:W2.frozen? ⟨w.heap.size+1+1+1,0,none⟩=_:=b3'.frozen
    have hz2:=hb2.size
    by_cases hk0:kd=0
    · have hb4:(kd==0)=true:=by simp [hk0]
      have HK0:=zh hk0;clear hk0;gi_wp2_with fail
      exact ZkE 8 x.1 hb2 b0' b1' b2' hz hB (fun rest=>HBad.out HK0.out rest)
    · have hb4:(kd==0)=false:=by simp [hk0]
      have HK0:=zh hk0;clear hk0;have hlen:∃ A c,v=.slice A ts.length c:=by
       rcases hr.2 with ⟨hv,h0⟩ | ⟨g,cap,cur,hv,_⟩
       · exact ⟨none,0,by rw [hv,h0]⟩
       · exact ⟨_,_,hv⟩
      obtain ⟨A,c,rfl⟩:=hlen
      by_cases h5:ts.length=5000
      · have hb5:((ts.length:Int)==5000)=true:=by simp;omega
        have H5:=zh h5;clear h5;gi_wp2_with fail
        exact ZkE 2 x.1 hb2 b0' b1' b2' hz hB (fun rest=>HMuch.out HK0.out H5.out rest)
      · have hb5:((ts.length:Int)==5000)=false:=by simp;omega
        have h4:ts.length<5000:=by omega
        have H5:=zh h5;clear h5;gi_wp2_with (gi_at_builtin;refine wpListIn_append_own _ rfl _ _ 118 rfl (w.heap.size+5) 169 i0 _ 3 32 Tryz.underlying118 hI.out hZ0.out hZ1.out hZ2.out rfl (by decide) _ _ _ rfl (hr'.alloc _) ⟨W2.heap.size,0,none⟩ 1 1 [.int .i64 kd,.int .i64 x.1,.string (mk x.2)] rfl rfl (news3 _ _ _ _ _) (by simp [Value.oneCell']) (by unfold maxLen;omega) (by omega) (by simp;omega) ?_;intro v' w1 hown' hgrow _;obtain ⟨g',cap',rfl⟩:=ownsRow_succ hown';have c4:w1.cell? ⟨w.heap.size+1+1+1,0,none⟩=_:=(b3'.alloc _ |>.kept hgrow (b3'.not_row (by decide) hr')).cell;have f4:w1.frozen? ⟨w.heap.size+1+1+1,0,none⟩=_:=(b3'.alloc _ |>.kept hgrow (b3'.not_row (by decide) hr')).frozen)
        exact Zmm hb2 b0' b1' b2' b3' hr' hz hB h4 hown' hgrow (HSnoc.out HK0.out H5.out)
   case done =>
    rintro D ys W hD rfl ⟨ts,v,h1,h2,b3,hr,b0,b1,b2,hz,hB⟩ hK
    have c0:=b0.cell
    have f0:=b0.frozen
    have c1:=b1.cell
    have f1:=b1.frozen
    have c2:W.cell? ⟨w.heap.size+1+1,0,none⟩=_:=b2.cell
    have f2:W.frozen? ⟨w.heap.size+1+1,0,none⟩=_:=b2.frozen
    have c3:W.cell? ⟨w.heap.size+1+1+1,0,none⟩=_:=b3.cell
    have hlen:∃ A c,v=.slice A ts.length c:=by
     rcases hr.2 with ⟨hv,h0⟩ | ⟨g,cap,cur,hv,_⟩
     · exact ⟨none,0,by rw [hv,h0]⟩
     · exact ⟨_,_,hv⟩
    obtain ⟨A,c,rfl⟩:=hlen
    have H1:=zh h1;clear h1 k0 k1 k2 k3 k4 kB;have hD':w.heap.size+5≤D:=by omega
    have hKZ:=zh kz;clear kz;gi_wp2_with fail
    rw [← HR.out,H1.out]
    have e0:=Z1n (Z1n (b0.set (.slice A ts.length c)) ⟨w.heap.size+1,0,none⟩ (.int .i64 0) (by show _≠w.heap.size+1;omega)) ⟨w.heap.size+1+1,0,none⟩ (.int .i64 0) (by show _≠w.heap.size+1+1;omega)
    have e1:=Z1n ((Z1n b1 ⟨w.heap.size,0,none⟩ (.slice A ts.length c) (by show _≠w.heap.size;omega)).set (.int .i64 0)) ⟨w.heap.size+1+1,0,none⟩ (.int .i64 0) (by show _≠w.heap.size+1+1;omega)
    have e2:=(Z1n (Z1n b2 ⟨w.heap.size,0,none⟩ (.slice A ts.length c) (by show _≠w.heap.size;omega)) ⟨w.heap.size+1,0,none⟩ (.int .i64 0) (by show _≠w.heap.size+1;omega)).set (.int .i64 0)
    have eK:(((W.setCell ⟨w.heap.size,0,none⟩ (.slice A ts.length c)).setCell ⟨w.heap.size+1,0,none⟩ (.int .i64 0)).setCell ⟨w.heap.size+1+1,0,none⟩ (.int .i64 0)).heap[D]?=some (.deferred (some [])) :=
     (Below.heap_setCell _ _ _ D (by show _≠w.heap.size+1+1;omega)).trans ((Below.heap_setCell _ _ _ D (by show _≠w.heap.size+1;omega)).trans ((Below.heap_setCell _ _ _ D (by show _≠w.heap.size;omega)).trans hK))
    have eB:Below w.heap.size w (((W.setCell ⟨w.heap.size,0,none⟩ (.slice A ts.length c)).setCell ⟨w.heap.size+1,0,none⟩ (.int .i64 0)).setCell ⟨w.heap.size+1+1,0,none⟩ (.int .i64 0)) :=
     ((hB.setCell (p:=⟨w.heap.size,0,none⟩) (zn _) _).setCell (p:=⟨w.heap.size+1,0,none⟩) (by show _≤w.heap.size+1;omega) _).setCell (p:=⟨w.heap.size+1+1,0,none⟩) (by show _≤w.heap.size+1+1;omega) _
    have eR:=Z5d (Z5d (Z5d hr ⟨w.heap.size,0,none⟩ (.slice A ts.length c) (by show w.heap.size<_;omega)) ⟨w.heap.size+1,0,none⟩ (.int .i64 0) (by show w.heap.size+1<_;omega)) ⟨w.heap.size+1+1,0,none⟩ (.int .i64 0) (by show w.heap.size+1+1<_;omega)
    exact Zd2 (R:=(ts,0,0)) hD' eK rfl rfl rfl e0 e1 e2 eB ⟨A,c,rfl⟩ (Sl.of_own (ownsRow_putObj eR _ eK rfl))
   case stop =>
    rintro D c pre W hD hpre ⟨rfl,e,l,h1,b0,b1,b2,hz,hB⟩ hK
    have hD':w.heap.size+5≤D:=by omega
    obtain ⟨rest,hrest⟩:=hpre
    have h2:=h1 rest;rw [hrest] at h2
    have H2:=zh h2;clear h1 h2 hrest k0 k1 k2 k3 k4 kB kz;gi_wp2_with fail
    rw [← HR.out,H2.out]
    exact Zd2 (R:=([],e,l)) hD' hK rfl rfl rfl b0 b1 b2 hB ⟨none,0,rfl⟩ (Sl.nil _ _)
end
end Go.Proofs.YtnepkoepbapgeaaGreatDoor
