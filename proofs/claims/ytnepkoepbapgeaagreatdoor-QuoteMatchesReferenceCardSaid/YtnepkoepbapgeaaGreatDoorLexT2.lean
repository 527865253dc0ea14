import Derived.Test.YtnepkoepbapgeaaGreatDoorParMem
import Derived.RangeFuncNested
import Derived.RangeFuncBound
import Derived.RangeFuncCalls
import Derived.RangeFuncLeaves
import Derived.Shelf.Abstract
import Derived.Shelf.RegionOpen
import Derived.OwnWalkIn
import Derived.TacticsInMore
import Derived.LoopNIn
import Derived.LoopIn
import Derived.Maps.AppendAt
namespace Go.Proofs.YtnepkoepbapgeaaGreatDoor
open _root_.Go.Proofs.Tryz
open Value (int slice)
open IntKind (i64)
set_option maxHeartbeats 2000000
set_option maxRecDepth 100000
section
open Go.RowKit Lx
end
section
open Go.RowKit Lx
theorem Zi1 (c:UInt8)(n:Nat)(B:n<256)(h:c=UInt8.ofNat n):((c.toNat:Int)==(n:Int))=true:=by subst h;simp;omega
theorem Zi2 (c:UInt8)(n:Nat)(B:n<256)(h:c≠UInt8.ofNat n):((c.toNat:Int)==(n:Int))=false:=by
 simp only [beq_eq_false_iff_ne,ne_eq];intro C;apply h;apply UInt8.toNat_inj.1;simp;omega
end
section
open Go.RowKit Lx
end
section
open Go.RowKit Lx
end
section
open Go.RowKit Lx
theorem Tryz.infoTok:(Tryz.prog.info? 169).map (λi=>(i.zero,i.size,i.bytes))=some (some (.agg #[int i64 0,int i64 0,.string ⟨#[]⟩]),3,32):=by kernel_rfl
def Rest (s:ByteArray)(a:Nat)(ln:Int)(ts:List Tok):Prop:=coll ts (P ln ((bl s).drop a))=coll [] (P 1 (bl s))/\1<=ln/\ln<=a+1/\ts.length<=5000
theorem Zd9 (s:ByteArray)(a:Nat)(h:a<s.size):(bl s).drop a=s[a]::(bl s).drop (a+1):=by
 rw [List.drop_eq_getElem_cons (by rw [Z02];exact h),ZeG s a h]
theorem Rest.tok {s:ByteArray}{a:Nat}{B:Int}{ts:List Tok}(h:Rest s a B ts)(C:a<s.size)(D:s[a]≠32)(G:s[a]≠10)(F:s[a]≠35) : coll ts ((B,((bl s).drop a).take (tlen ((bl s).drop a)))::P B ((bl s).drop (a+tlen ((bl s).drop a))))=coll [] (P 1 (bl s)):=by
 obtain ⟨H,_⟩:=h;rw [<- H]
 conv=>rhs;rw [Zd9 s a C,P_tok B _ _ D G F,<- Zd9 s a C]
 rw [List.drop_drop]
theorem Rest.err {s:ByteArray}{a:Nat}{B:Int}{ts:List Tok}(h:Rest s a B ts)(C:a<s.size)(D:s[a]≠32)(G:s[a]≠10)(F:s[a]≠35) (hk:Z0b (((bl s).drop a).take (tlen ((bl s).drop a)))=0):coll [] (P 1 (bl s))=([],8,B):=by
 rw [<- h.tok C D G F,coll,zp hk]
theorem Rest.next {s:ByteArray}{a:Nat}{B:Int}{ts:List Tok}(h:Rest s a B ts)(F:a<s.size)(C:s[a]≠32)(H:s[a]≠10)(G:s[a]≠35) (hk:Z0b (((bl s).drop a).take (tlen ((bl s).drop a)))≠0) (I:ts.length≠5000) : Rest s (a+tlen ((bl s).drop a)) B (ts++[(Z0b (((bl s).drop a).take (tlen ((bl s).drop a))),B,((bl s).drop a).take (tlen ((bl s).drop a)))]):=by
 have:=h.tok F C H G;rw [coll,zf hk,zf I] at this;obtain ⟨L,D,M,J⟩:=h;exact ⟨this,D,by omega,by rw [zj,List.length_singleton];omega⟩
theorem Rest.done {s:ByteArray}{a:Nat}{B:Int}{ts:List Tok}(h:Rest s a B ts)(C:¬ a<s.size):coll [] (P 1 (bl s))=(ts,0,0):=by
 rw [<- h.1,List.drop_of_length_le (by rw [Z02];omega),P_nil];rfl
theorem Rest.zero (s:ByteArray):Rest s 0 1 []:=⟨rfl,by omega,by omega,by simp⟩
theorem Zg8 (s:ByteArray)(h:¬ 20000<s.size):toks (bl s)=coll [] (P 1 (bl s)):=by rw [toks,Z02,zf h];rfl
theorem Zet (s:ByteArray)(h:20000<s.size):toks (bl s)=([],2,0):=by rw [toks,Z02,zp h]
theorem news3 (w:World)(a b c:Value)(t:TypeId):∀ (j:Nat) (u:Value),[a,b,c][j]?=some u->(w.alloc (.cells #[a,b,c] t)).cell? ((⟨w.heap.size,0,none⟩:Addr).add j)=some u:=by
 intro j u h;have B:((⟨w.heap.size,0,none⟩:Addr).add j)=⟨w.heap.size,j,none⟩:=by unfold Addr.add;split <;> simp_all
 rw [B]
 match j,h with
 | 0,h=>simpa [go_sem] using h
 | 1,h=>simpa [go_sem] using h
 | 2,h=>simpa [go_sem] using h
 | j+3,h=>simp at h
def Zae (w:World)(r:List Tok × Int × Int)(e:Ending)(w':World):Prop := ∃ v,e=.returned (.tuple #[v,int i64 r.2.1,int i64 r.2.2])/\Sl w' w'.heap.size v r.1/\Below w.heap.size w w'
end
section
open Go.RowKit
def Z2h (Bs:Nat)(W W':World):Prop:=W'.cell? ⟨Bs,0,none⟩=W.cell? ⟨Bs,0,none⟩/\W'.frozen? ⟨Bs,0,none⟩=W.frozen? ⟨Bs,0,none⟩
theorem Z2h.refl (B:Nat)(W:World):Z2h B W W:=⟨rfl,rfl⟩
theorem Z2h.trans {D:Nat}{A B C:World}(h:Z2h D A B)(k:Z2h D B C):Z2h D A C:=⟨k.1.trans h.1,k.2.trans h.2⟩
theorem Z2h.block {B:Nat}{W C:World}(h:C.heap[B]?=W.heap[B]?):Z2h B W C:=⟨World.cell?_of_block (a:=⟨B,0,none⟩) h,World.frozen?_of_block (a:=⟨B,0,none⟩) h⟩
theorem Z2h.putObj {B l:Nat}(W:World)(o:Obj)(h:B≠l):Z2h B W (W.putObj l o):=Z2h.block (zQ h)
theorem Z2h.below {B:Nat}{W C:World}(h:Below W.heap.size W C)(hb:B<W.heap.size):Z2h B W C:=Z2h.block (h.block B hb)
theorem Z2h.setCell {B:Nat}(W:World)(p:Addr)(u:Value)(h:B≠p.block):Z2h B W (W.setCell p u):=Z2h.block (zg W p u B h)
structure Zaf {α:Type} (Bs:Nat) (J:List α->World->Prop):Prop where
 set:∀ s W v,J s W->J s (W.setCell ⟨Bs,0,none⟩ v)
 below:∀ s W W',J s W->Below W.heap.size W W'->J s W'
def SeqC {α:Type}(F:Fence)(n:Nat)(P:Program)(g:Nat)(lb:Array Value)(encs:α->Array Value)(ok:World->Prop)(Bs:Nat)(S Sp:List α->Prop):Prop := ∀ (l:Nat) (J Jx:List α->World->Prop) (W:World),ok W->Zaf Bs J -> (∀ pre x W1,J pre W1->Sp (pre++[x])->YieldAt F (n - 1) P l (encs x) W1 λe W' =>
   (e=.returned (.bool true)/\J (pre++[x]) W'/\Z2h Bs W1 W')\/(e=.returned (.bool false)/\Jx (pre++[x]) W')) ->
  J [] W ->
  CallsIn F n P g (#[.func (.yield l) #[] #[]]++lb) W λe W'=>(∃ v,e=.returned v)/\((∃ xs,S xs/\J xs W')\/(∃ pre,Sp pre/\Jx pre W'))
def Zm9 {α:Type}(Bs B:Nat)(I:List α->World->Prop)(Ix:Code->List α->World->Prop)(xs:List α)(W:World):Exit->Act->World->Prop
 | .normal,_,W'=>KeepsFrom B W W'/\Z2h Bs W W'/\I xs W'
 | .ret,_,W'=>KeepsFrom B W W'/\Ix .ret xs W'
 | .exit id,_,W'=>KeepsFrom B W W'/\Ix (.exit id) xs W'
 | .goto t,_,W'=>KeepsFrom B W W'/\Ix (.goto t) xs W'
 | .panic _,_,_=>False
 | .outgrown,_,_=>False
variable {F:Fence} {n:Nat} {P:Program}
theorem Z7A {α:Type}{g:Operand}{d:Array Tmp}{assign body:Code}{Q:Exit->Act->World->Prop}{a:Act}{w:World} (bz:F.round=none) (h1:1<=n) {gf:Nat} {lb:Array Value} (hg:a.eval g=.func (.func gf) #[] lb) (bm:F.fn gf) (eg:∀ args w,(callFunc gf args).run P w=.ok (.enter gf args) w) {j:α->Array Value} {ok:World->Prop} {O:Nat} {S r:List α->Prop} (bx:SeqC F (n - 1) P gf lb j ok O S r) (bA:O<w.heap.size) (bh:∀ W',Below w.heap.size w W'->ok W') (bu:∀ x,(j x).size=d.size) (I:List α->World->Prop) (Y:Code->List α->World->Prop) (A:Zaf O I) (y:∀ s W l o o',I s W->w.heap.size<=l->W.heap[l]?=some o->o.isCells=false->I s (W.putObj l o')) (q:∀ c s W l o o',Y c s W->w.heap.size<=l->W.heap[l]?=some o->o.isCells=false->Y c s (W.putObj l o')) (h0:I [] w) (a₁:α->Act) (br:∀ (l:Nat) (x:α) (W:World) (K:Act->World->Prop),K (a₁ x) W -> assign.wpIn (F.inRound l) (n - 1 - 1) P (Exit.then K (λ_ _ _=>False)) { tmps:=(d.zip (j x)).foldl (λt (p,v)=>t.setIfInBounds p v) a.tmps,defers:=[] } W) (bq:∀ (l:Nat) (C:List α) (x:α) (W:World),I C W->r (C++[x])->body.wpIn (F.inRound l) (n - 1 - 1) P (Zm9 O w.heap.size I Y (C++[x]) W) (a₁ x) W) (bf:∀ (D:Nat) (m:List α) (W:World),w.heap.size<=D->S m->I m W->W.heap[D]?=some (.deferred (some []))->Q .normal { a with defers:={ target:=.collected D,args:=#[] }::a.defers } W) (bt:∀ (D:Nat) (c:Code) (C:List α) (W:World),w.heap.size<=D->r C->Y c C W->W.heap[D]?=some (.deferred (some []))->c.wpIn F n P Q { a with defers:={ target:=.collected D,args:=#[] }::a.defers } W) : (Code.rangeFunc g d assign body).wpIn F n P Q a w:=by
 refine wpIn_rangeFunc ?_;intro fn bv;rw [bz];obtain ⟨B,L⟩:∃ B:LoopState->Option Code->Loop,B=λst pe=>{ state:=st,pending:=pe,fn,tmps:=a.tmps,params:=d,assign,body,defers:=w.heap.size }:=⟨_,rfl⟩
 obtain ⟨J,f⟩:∃ J,(w.alloc (.deferred (some []))).alloc (.loop (B .ready none))=J:=⟨_,rfl⟩
 have bj:J.heap[w.heap.size+1]?=some (.loop (B .ready none)):=by rw [<- f];have:=za (w.alloc (.deferred (some []))) (.loop (B .ready none));rwa [zk] at this
 have bk:J.heap[w.heap.size]?=some (.deferred (some [])):=by rw [<- f];exact (Below.heap_alloc _ _ _ (by simp)).trans (za w _)
 have hb1:Below w.heap.size w J:=by rw [<- f];exact ((zr _ w).alloc (zn _) _).alloc (by simp) _
 have be:I [] J:=A.below _ _ _ h0 hb1;refine ⟨w.heap.size+1,[{ target:=.collected w.heap.size,args:=#[] }],J,{ target:=.fn (.func gf) lb,args:=#[.func (.yield (w.heap.size+1)) #[] #[]] },J,gf, #[.func (.yield (w.heap.size+1)) #[] #[]]++lb,J,?_,?_,?_,?_,λ_=>h1,?_⟩
 · rw [<- f,L];exact run_enterLoop_outer _ _ _ _ _
 · simp only [resolve,hg];simp [go_sem]
 · intro f' ba;simp [Target.leads] at ba;subst ba;exact bm
 · simp [invoke,go_sem,eg]
 · refine (bx (w.heap.size+1) (λC W=>I C W/\W.heap[w.heap.size+1]?=some (.loop (B .ready none))/\W.heap[w.heap.size]?=some (.deferred (some []))) (λC W=>∃ c,Y c C W/\W.heap[w.heap.size+1]?=some (.loop (B .done (some c)))/\W.heap[w.heap.size]?=some (.deferred (some []))) J (bh J hb1) ⟨λs W v hs=>⟨A.set _ _ _ hs.1,(zg W ⟨O,0,none⟩ v _ (by show _≠O;omega)).trans hs.2.1,(zg W ⟨O,0,none⟩ v _ (by show _≠O;omega)).trans hs.2.2⟩, λs W W' hs hb=>⟨A.below _ _ _ hs.1 hb,(hb.block _ (zs hs.2.1)).trans hs.2.1,(hb.block _ (zs hs.2.2)).trans hs.2.2⟩⟩
    ?_ ⟨be,bj,bk⟩).mono ?_
   · rintro C x W ⟨Z,M,hk⟩ bs;have bn:w.heap.size+1<W.heap.size:=(zs M)
     have hy:=run_yield (P:=P) (args:=j x) M (by rw [L];exact bu x);rw [L] at hy;refine ⟨fn,_,assign,body,hy,roundIn_of_wpIn bv (br _ x W _ ⟨_,run_beginRound M (by rw [L]),?_⟩)⟩;have bd:(W.putObj (w.heap.size+1) (.loop { B .ready none with state:=.busy })).heap[w.heap.size+1]?=some (.loop { B .ready none with state:=.busy }):=World.putObj_heap_same bn;have bb:(W.putObj (w.heap.size+1) (.loop { B .ready none with state:=.busy })).heap[w.heap.size]?=some (.deferred (some [])):=(zQ (by omega)).trans hk;have bp:Z2h O W (W.putObj (w.heap.size+1) (.loop { B .ready none with state:=.busy })):=Z2h.putObj _ _ (by omega);refine wpIn_mono (bq _ C x _ (y _ _ _ _ _ Z (by omega) M rfl) bs) ?_;have fin:∀ (jump:Option Code) (G:World),KeepsFrom w.heap.size (W.putObj (w.heap.size+1) (.loop { B .ready none with state:=.busy })) G -> (Instr.endRound (w.heap.size+1) jump).run P G=.ok (.bool jump.isNone) (G.putObj (w.heap.size+1) (.loop (B (if jump.isNone then .ready else .done) jump))) /\ G.heap[w.heap.size+1]?=some (.loop { B .ready none with state:=.busy }) /\ (G.putObj (w.heap.size+1) (.loop (B (if jump.isNone then .ready else .done) jump))).heap[w.heap.size+1]?=some (.loop (B (if jump.isNone then .ready else .done) jump)) /\ (G.putObj (w.heap.size+1) (.loop (B (if jump.isNone then .ready else .done) jump))).heap[w.heap.size]?=some (.deferred (some [])):=λjump G N=>by
      have H:=N.same _ _ (by omega) bd rfl;have:=run_endRound (P:=P) jump H;rw [L] at this |-
      exact ⟨this,by rw [L] at H;exact H,World.putObj_heap_same (zs H),(zQ (by omega)).trans (N.same _ _ (zn _) bb rfl)⟩
     rintro e a3 G X;cases e with
     | normal =>obtain ⟨N,bg,V⟩:=X;obtain ⟨R,H,U,T⟩:=fin none G N;exact ⟨_,_,R,.inl ⟨rfl,⟨y _ _ _ _ _ V (by omega) H rfl,U,T⟩,(bp.trans bg).trans (Z2h.putObj _ _ (by omega))⟩⟩
     | ret =>obtain ⟨N,V⟩:=X;obtain ⟨R,H,U,T⟩:=fin (some .ret) G N;exact ⟨_,_,R,.inr ⟨rfl,.ret,q _ _ _ _ _ _ V (by omega) H rfl,U,T⟩⟩
     | exit id =>obtain ⟨N,V⟩:=X;obtain ⟨R,H,U,T⟩:=fin (some (.exit id)) G N;exact ⟨_,_,R,.inr ⟨rfl,.exit id,q _ _ _ _ _ _ V (by omega) H rfl,U,T⟩⟩
     | goto t =>obtain ⟨N,V⟩:=X;obtain ⟨R,H,U,T⟩:=fin (some (.goto t)) G N;exact ⟨_,_,R,.inr ⟨rfl,.goto t,q _ _ _ _ _ _ V (by omega) H rfl,U,T⟩⟩
     | panic ch=>exact X.elim
     | outgrown=>exact X.elim
   · rintro e W2 ⟨⟨v,rfl⟩,(⟨m,hS,Z,M,hk⟩ | ⟨C,bc,c,Z,M,hk⟩)⟩
     · exact ⟨none,_,by have:=run_endLoop (P:=P) M (by rw [L];simp);rw [L] at this;exact this,bf _ m _ (zn _) hS (y _ _ _ _ _ Z (by omega) M rfl) ((zQ (by omega)).trans hk)⟩
     · exact ⟨some c,_,by have:=run_endLoop (P:=P) M (by rw [L];simp);rw [L] at this;exact this,bt _ c C _ (zn _) bc (q _ _ _ _ _ _ Z (by omega) M rfl) ((zQ (by omega)).trans hk)⟩
end
section
open Go.RowKit Lx Go.Shelf
attribute [local go_sem] Oper.semAt_some
def Zma (Bs:Nat)(w:World):Nat:=match w.cell? ⟨Bs,0,none⟩ with
 | some (.string r)=>r.size
 | _=>0
theorem Z63 {B:Nat}{w:World}{r:ByteArray}(h:w.cell? ⟨B,0,none⟩=some (.string r)):Zma B w=r.size:=by simp [Zma,h]
def encP (x:Int × Bytes):Array Value:=#[int i64 x.1,.string (mk x.2)]
def PcOk (Bs:Nat)(s:ByteArray)(W:World):Prop:=W.cell? ⟨Bs,0,none⟩=some (.string s)/\W.frozen? ⟨Bs,0,none⟩=false
def PcLoop (Bs:Nat)(s:ByteArray)(J:List (Int × Bytes)->World->Prop)(ln:Value)(wr:World):Prop := ∃ (l:Int) (r:ByteArray) (pre:List (Int × Bytes)),ln=int i64 l/\PcOk Bs r wr/\P 1 (bl s)=pre++P l (bl r)/\J pre wr/\1<=l/\l+r.size<=s.size+1/\Bs<wr.heap.size
theorem Zg9 {w:World}{b o:Nat}{v:Value}(h:w.cell? ⟨b,o,none⟩=some v):b<w.heap.size:=by
 rcases Nat.lt_or_ge b w.heap.size with B | B
 · exact B
 · simp [World.cell?,Array.getElem?_eq_none B] at h
theorem Z6C (r:ByteArray)(h:0<r.size):bl r=r[0]::(bl r).drop 1:=by
 have:=Zd9 r 0 h;rwa [List.drop_zero] at this
theorem Zi3 (r:ByteArray):bl (r.extract 1 r.size)=(bl r).drop 1:=by
 rw [Z5a,List.take_of_length_le (by rw [List.length_drop,Z02];omega)]
theorem Zb8 (r:ByteArray)(h:0<r.size):(cutB 10 r).size<r.size:=by
 rw [cutB,Z09,<- Z02 r];have:=Z3x (· != 10) (bl r);rw [<- Z02] at h;rw [List.length_tail];omega
theorem Zmb (r:ByteArray)(B:Int)(h:0<r.size)(C:r[0]=35):P B (bl r)=P (if Z9a 10 r then B+1 else B) (bl (cutB 10 r)):=by
 have G:(bl r).dropWhile (· != 10)=((bl r).drop 1).dropWhile (· != 10):=by
  conv=>lhs;rw [Z6C r h,C]
  rw [List.dropWhile_cons,zp (by decide)]
 have I:P B (bl r)=P B ((bl r).dropWhile (· != 10)):=by rw [G];conv=>lhs;rw [Z6C r h,C,P_hash]
 rw [I,cutB,Z3m];cases hk:Z9a 10 r with
 | false=>rw [Z7q _ _ hk];rfl
 | true =>
  have J:=Z7p _ _ hk;have D:=Z5s (bl r) (· != 10);have F:(bl r).dropWhile (· != 10)≠[]:=by intro e;rw [e] at D;have:=congrArg List.length D;rw [List.length_drop] at this;simp at this;omega
  cases hw:(bl r).dropWhile (· != 10) with
  | nil=>exact absurd hw F
  | cons c q =>
   have:=List.head_dropWhile_not (· != 10) F;simp only [hw,List.head_cons] at this;have H:c=10:=by simpa using this
   subst H;simp [P_feed]
theorem Zga (n l D:Nat)(s:ByteArray)(hs:s.size<=1000000000)(J A:List (Int × Bytes)->World->Prop)(W:World)(q:PcOk D s W)(bh:D<W.heap.size)(f:Zaf D J) (j:∀ C x W1,J C W1->(C++[x] <+: P 1 (bl s))->YieldAt Fence.wide (n - 1) prog l (encP x) W1 λe W' =>
  (e=.returned (.bool true)/\J (C++[x]) W'/\Z2h D W1 W')\/(e=.returned (.bool false)/\A (C++[x]) W')) (h0:J [] W) :
 CallsIn Fence.wide n prog 156 #[.func (.yield l) #[] #[],.pointer (some ⟨D,0,none⟩)] W λe W' =>
  (∃ v,e=.returned v)/\((∃ xs,xs=P 1 (bl s)/\J xs W')\/(∃ C,(C <+: P 1 (bl s))/\A C W')):=by
 have F:=zh f;have HY:=zh j;have H0:=zh h0;have bn:=zh q;clear f j h0 q;refine callsIn_of_wp func156 rfl trivial ?_ rfl;simp only [ntmps156,List.size_toArray,zw,zx,Nat.reduceAdd,Nat.reduceSub,Array.replicate_succ,Array.replicate_zero,List.push_toArray,List.append_toArray,zn2,zc2];gi_wp2;gi_loopw [3] (λB wr=>PcLoop D s J B wr) (λ_ wr=>Zma D wr)
 case atStart=>exact ⟨1,s,[],rfl,bn.out,rfl,H0.out,by omega,by omega,bh⟩
 case round =>
  obtain ⟨B,r,C,rfl,⟨I,O⟩,hP,hj,be,bu,R⟩:=hrel;have G:=zh hP;have L:=zh hj;have M:=zh (Z63 I);clear hP hj;by_cases hr:0<r.size
  · have he:(!r.toList.isEmpty)=true:=by rw [ByteArray.toList_eq];have:bl r≠[]:=by { intro e;have:=Z02 r;rw [e] at this;simp at this;omega };simpa [bl] using this
    by_cases c1:r[0]=32
    · have bm:((r[0].toNat:Int)==32)=true:=Zi1 r[0] 32 (by omega) c1;have T:=zh c1;clear c1;gi_wp2;go_roundw
      case rel=>exact ⟨B,r.extract 1 r.size,C,rfl,⟨World.cell?_setCell_same' _ _ _ (by rw [I];rfl),by rw [World.frozen?_setCell];exact O⟩,by rw [G.out,Z6C r hr,T.out,P_blank,Zi3],F.out.set _ _ _ L.out,be,by rw [ByteArray.size_extract];omega,by simpa [World.setCell] using R⟩
      case measure=>rw [Z63 (World.cell?_setCell_same' _ _ _ (by rw [I];rfl)),M.out,ByteArray.size_extract];omega
    · have bm:((r[0].toNat:Int)==32)=false:=Zi2 r[0] 32 (by omega) c1;have T:=zh c1;clear c1;by_cases c2:r[0]=10
      · have H:((r[0].toNat:Int)==10)=true:=Zi1 r[0] 10 (by omega) c2;have Y:=zh c2;clear c2;gi_wp2;gi_region;gi_wp2;go_roundw
        case rel=>exact ⟨B+1,r.extract 1 r.size,C,rfl,⟨World.cell?_setCell_same' _ _ _ (by rw [I];rfl),(World.frozen?_setCell _ _ _ _).trans O⟩,by rw [G.out,Z6C r hr,Y.out,P_feed,Zi3],F.out.below _ _ _ (F.out.set _ _ _ L.out) (Below.drew (Zb9 _)),by omega,by rw [ByteArray.size_extract];omega,by simpa [World.setCell] using R⟩
        case measure =>have:Zma D (wr.setCell ⟨D,0,none⟩ (.string (r.extract 1 r.size))).drew=(r.extract 1 r.size).size:=Z63 (World.cell?_setCell_same' _ _ _ (by rw [I];rfl));rw [this,M.out,ByteArray.size_extract];omega
      · have H:((r[0].toNat:Int)==10)=false:=Zi2 r[0] 10 (by omega) c2;have Y:=zh c2;clear c2;by_cases c3:r[0]=35
        · have bk:((r[0].toNat:Int)==35)=true:=Zi1 r[0] 35 (by omega) c3;have d:=zh c3;clear c3;have bc:=Zmb r B hr d.out;have bt:=Zb8 r hr;have g:=zh bc;have V:Hid (r.size<=maxLen):=by show _<=_;unfold maxLen;omega
          clear bc;generalize hB:cutB 10 r=y at *
          generalize hO:Z9a 10 r=ob at *
          have HB:=zh hB;have HO:=zh hO;clear hB hO;cases ob
          all_goals
           gi_wp2_with fail;refine ⟨trivial,(λh=>by cases h),(callsIn_wide.2 (Z6E r 10 wr V.out)).mono ?_⟩;rintro e w2 ⟨rfl,H⟩;rw [HB.out,HO.out];have Z:=(H.cell (p:=⟨D,0,none⟩) R).trans I;have bb:=(H.frozen (p:=⟨D,0,none⟩) R).trans O;have bv:=H.size;gi_wp2;go_roundw
           case measure=>rw [Z63 (World.cell?_setCell_same' _ _ _ (by rw [Z];rfl)),M.out];exact bt
           case rel =>
            first
            | exact ⟨B,y,C,rfl,⟨World.cell?_setCell_same' _ _ _ (by rw [Z];rfl),(World.frozen?_setCell _ _ _ _).trans bb⟩,by rw [G.out,g.out];rfl,F.out.set _ _ _ (F.out.below _ _ _ L.out H),by omega,by omega,by simp [World.setCell];omega⟩
            | exact ⟨B+1,y,C,rfl,⟨World.cell?_setCell_same' _ _ _ (by rw [Z];rfl),(World.frozen?_setCell _ _ _ _).trans bb⟩,by rw [G.out,g.out];rfl,F.out.set _ _ _ (F.out.below _ _ _ L.out H),by omega,by omega,by simp [World.setCell];omega⟩
        · have bk:((r[0].toNat:Int)==35)=false:=Zi2 r[0] 35 (by omega) c3;have d:=zh c3;clear c3;have V:Hid (r.size<=maxLen):=by show _<=_;unfold maxLen;omega
          have n1:=Zas (bl r);have n2:=Zqd (bl r) (by rw [Z02];exact hr);rw [Z02] at n2;have U:r.extract 0 (tlen (bl r))=mk ((bl r).take (tlen (bl r))):=Z6D _ _ _ _ (by simp);have hy:bl (r.extract (tlen (bl r)) r.size)=(bl r).drop (tlen (bl r)):=by rw [Z5a,List.take_of_length_le (by rw [List.length_drop,Z02];omega)]
          have S:P B (bl r)=(B,(bl r).take (tlen (bl r)))::P B ((bl r).drop (tlen (bl r))):=by conv=>lhs;rw [Z6C r hr,P_tok B _ _ T.out Y.out d.out,<- Z6C r hr]
          generalize bp:(bl r).take (tlen (bl r))=N at *
          generalize hn:tlen (bl r)=m at *
          have hpre:C++[(B,N)] <+: P 1 (bl s):=⟨P B ((bl r).drop m),by rw [G.out,S];simp⟩
          obtain ⟨fn,tmps,assign,body,ba,hR⟩:=HY.out C (B,N) wr L.out hpre;simp only [encP] at ba;rw [<- U] at ba;have HN:=zh hn;have HX:=zh U;have bg:=zh hy;have bd:=zh S;clear hn U hy S bp hpre;gi_wp2_with fail;refine ⟨trivial,(λh=>by cases h),(callsIn_wide.2 (Zgd r wr V.out)).mono ?_⟩;rintro e w2 ⟨rfl,rfl⟩;rw [HN.out];gi_wp2_with fail;refine ⟨(λh=>by cases h),hR.mono ?_⟩;rintro e W3 (⟨rfl,bq,bf⟩ | ⟨rfl,bs⟩)
          · have X:=bf.1.trans I;have br:=bf.2.trans O;have bj:=Zg9 X;gi_wp2;go_roundw
            case rel=>exact ⟨B,r.extract m r.size,C++[(B,N)],rfl,⟨World.cell?_setCell_same' _ _ _ (by rw [X];rfl),(World.frozen?_setCell _ _ _ _).trans br⟩,by rw [G.out,bd.out,bg.out];simp,F.out.set _ _ _ bq,be,by rw [ByteArray.size_extract];omega,by simpa [World.setCell] using bj⟩
            case measure=>rw [Z63 (World.cell?_setCell_same' _ _ _ (by rw [X];rfl)),M.out,ByteArray.size_extract];omega
          · gi_wp2;refine bodyPost_ret (results_none rfl _ _ _) rfl ?_;exact ⟨⟨_,rfl⟩,.inr ⟨C++[(B,N)],⟨P B ((bl r).drop m),by rw [G.out,bd.out];simp⟩,bs⟩⟩
  · have he:(!r.toList.isEmpty)=false:=by rw [ByteArray.toList_eq];have:bl r=[]:=List.length_eq_zero_iff.1 (by rw [Z02];omega);simpa [bl] using this
    gi_wp2;go_end0;exact ⟨⟨_,rfl⟩,.inl ⟨C,by rw [G.out,(List.length_eq_zero_iff.1 (by rw [Z02];omega):bl r=[]),P_nil,List.append_nil],L.out⟩⟩
theorem Zda (n B:Nat)(s:ByteArray)(C:s.size<=1000000000) : SeqC Fence.wide n prog 156 #[.pointer (some ⟨B,0,none⟩)] encP (λW=>PcOk B s W/\B<W.heap.size) B (λxs=>xs=P 1 (bl s)) (λpre=>pre <+: P 1 (bl s)) := λl J Jx W hok hJ hY h0=>Zga n l B s C J Jx W hok.1 hok.2 hJ hY h0
theorem Zgb (s:ByteArray)(w:World) : Calls prog 117 #[.string s] w λe w'=>e=.returned (.func (.func 156) #[] #[.pointer (some ⟨w.heap.size,0,none⟩)])/\w'=w.alloc (.cells #[.string s] 9):=by
 go_enter func117,ntmps117;go_wp2;go_ret;exact ⟨rfl,rfl⟩
end
section
open Go.RowKit Lx Go.Shelf
attribute [local go_sem] Oper.semAt_some
theorem Z5y (acc ts:List Tok)(l:Int)(B rest:List (Int × Bytes))(h:coll acc B=(ts,0,l)):coll acc (B++rest)=coll ts rest:=by
 induction B generalizing acc with
 | nil=>simp only [coll,Prod.mk.injEq] at h;rw [zn2,h.1]
 | cons p B ih =>
  obtain ⟨C,t⟩:=p;simp only [coll,zc2] at h |-
  split at h
  · simp at h
  · split at h
    · simp at h
    · rw [zf ‹_›,zf ‹_›];exact ih _ h
theorem Zi4 (ts:List Tok)(B:List (Int × Bytes))(x:Int × Bytes)(h:coll [] B=(ts,0,0))(hk:Z0b x.2≠0)(C:ts.length≠5000):coll [] (B++[x])=(ts++[(Z0b x.2,x.1,x.2)],0,0):=by
 rw [Z5y [] ts 0 B [x] h];simp [coll,hk,C]
theorem Zmc (ts:List Tok)(B rest:List (Int × Bytes))(x:Int × Bytes)(h:coll [] B=(ts,0,0))(hk:Z0b x.2=0):coll [] ((B++[x])++rest)=([],8,x.1):=by
 rw [List.append_assoc,Z5y [] ts 0 B _ h];simp [coll,hk]
theorem Zi5 (ts:List Tok)(B rest:List (Int × Bytes))(x:Int × Bytes)(h:coll [] B=(ts,0,0))(hk:Z0b x.2≠0)(C:ts.length=5000):coll [] ((B++[x])++rest)=([],2,x.1):=by
 rw [List.append_assoc,Z5y [] ts 0 B _ h];simp [coll,hk,C]
theorem Zq0:∀ (f:Nat) (C:Int) (s:Bytes),∀ x∈pcs f C s,x.2.length<=s.length:=by
 intro f;induction f with
 | zero=>intro C s x B;simp [pcs] at B
 | succ f ih =>
  intro C s x B;cases s with
  | nil=>simp [pcs] at B
  | cons c r =>
   simp only [pcs] at B;split at B
   · have:=ih _ _ x B;simp;omega
   · split at B
     · have:=ih _ _ x B;simp;omega
     · split at B
       · have:=ih _ _ x B;have D:=Z3x (· != 10) r;simp;omega
       · rcases zD.1 B with rfl | B
         · simp;omega
         · have:=ih _ _ x B;rw [List.length_drop] at this;omega
def TkI (w:World)(pre:List (Int × Bytes))(W:World):Prop := ∃ (ts:List Tok) (v:Value),coll [] pre=(ts,0,0)/\ts.length<=5000/\Boxed W (w.heap.size+3) 118 v/\W.ownsRow (w.heap.size+5) 169 3 v ts.length (cellsOf ts) /\ Boxed W w.heap.size 118 (slice none 0 0)/\Boxed W (w.heap.size+1) 35 (int i64 0)/\Boxed W (w.heap.size+2) 3 (int i64 0)/\w.heap.size+5<=W.heap.size/\Below w.heap.size w W
def TkX (w:World)(c:Code)(pre:List (Int × Bytes))(W:World):Prop := c=.ret/\∃ e l:Int,(∀ rest,coll [] (pre++rest)=([],e,l))/\Boxed W w.heap.size 118 (slice none 0 0)/\Boxed W (w.heap.size+1) 35 (int i64 e)/\Boxed W (w.heap.size+2) 3 (int i64 l)/\w.heap.size+5<=W.heap.size/\Below w.heap.size w W
theorem Z1F {W:World}{B:Nat}{t:TypeId}{v:Value}(h:Boxed W B t v)(p:Addr)(u:Value)(C:B≠p.block):Boxed (W.setCell p u) B t v:=(zg W p u B C).trans h
theorem Z1G {W C:World}{B:Nat}{t:TypeId}{v:Value}(h:Boxed W B t v)(hb:Below W.heap.size W C):Boxed C B t v:=(hb.block B h.lt).trans h
theorem Z5q {W:World}{B l:Nat}{t:TypeId}{v:Value}(h:Boxed W B t v)(o:Obj)(C:B≠l):Boxed (W.putObj l o) B t v:=(zQ C).trans h
theorem Z8b {n₀ l:Nat}{W:World}{o B:Obj}(C:n₀<=l)(h:W.heap[l]?=some o):Below n₀ W (W.putObj l B) := (zr n₀ W).grown (grownBy_putObj' W l B) (by have:=(zs h);omega) (λk e=>by cases e;omega)
theorem Z64 {W:World}{base:Nat}{e:TypeId}{size:Nat}{v:Value}{n:Nat}{B:List Value}(h:W.ownsRow base e size v n B)(p:Addr)(u:Value)(C:p.block<base):(W.setCell p u).ownsRow base e size v n B := ownsRow_setCell_below h C u
theorem Z9g {W C:World}{base:Nat}{e:TypeId}{size:Nat}{v:Value}{n:Nat}{F:List Value}(h:W.ownsRow base e size v n F)(hb:Below W.heap.size W C):C.ownsRow base e size v n F:=by
 refine ⟨h.1,?_⟩;rcases h.2 with ⟨B,I⟩ | ⟨g,cap,H,B,G,D,rest⟩
 · exact .inl ⟨B,I⟩
 · exact .inr ⟨g,cap,H,B,G,(hb.block g (zs D)).trans D,rest⟩
theorem TkI.abides (w:World):Zaf (w.heap.size+4) (TkI w) where
 set:=by
  rintro s W u ⟨ts,v,D,H,C,G,L,J,F,I,B⟩
  exact ⟨ts,v,D,H,Z1F C _ _ (by show _≠w.heap.size+4;omega),Z64 G _ _ (by show w.heap.size+4<_;omega),Z1F L _ _ (by show _≠w.heap.size+4;omega),Z1F J _ _ (by show _≠w.heap.size+4;omega),Z1F F _ _ (by show _≠w.heap.size+4;omega),by simpa [World.setCell] using I,B.setCell (p:=⟨w.heap.size+4,0,none⟩) (by show _<=w.heap.size+4;omega) _⟩
 below:=by
  rintro s W M ⟨ts,v,D,H,C,G,L,J,F,I,B⟩ hb
  exact ⟨ts,v,D,H,Z1G C hb,Z9g G hb,Z1G L hb,Z1G J hb,Z1G F hb,Nat.le_trans I hb.size,B.trans (hb.mono B.size)⟩
theorem TkI.put (w:World)(s:List (Int × Bytes))(W:World)(l:Nat)(o N:Obj)(h:TkI w s W)(R:w.heap.size+5<=l)(B:W.heap[l]?=some o)(C:o.isCells=false):TkI w s (W.putObj l N):=by
 obtain ⟨ts,v,F,H,D,M,O,L,G,I,J⟩:=h;exact ⟨ts,v,F,H,Z5q D _ (by omega),ownsRow_putObj M _ B C,Z5q O _ (by omega),Z5q L _ (by omega),Z5q G _ (by omega),by simpa using I,J.trans (Z8b (by omega) B)⟩
theorem TkX.put (w:World)(c:Code)(s:List (Int × Bytes))(W:World)(l:Nat)(o L:Obj)(h:TkX w c s W)(N:w.heap.size+5<=l)(F:W.heap[l]?=some o):TkX w c s (W.putObj l L):=by
 obtain ⟨B,e,G,C,M,J,D,H,I⟩:=h;exact ⟨B,e,G,C,Z5q M _ (by omega),Z5q J _ (by omega),Z5q D _ (by omega),by simpa using H,I.trans (Z8b (by omega) F)⟩
theorem Z8c {B:Nat}{W C:World}(h:Below W.heap.size W C):KeepsFrom B W C:=⟨h.size,λk _ _ hk _=>(h.block k (zs hk)).trans hk⟩
theorem Zpf {w W C:World}{F:List (Int × Bytes)}{B:Nat}(e l:Int)(D:Below W.heap.size W C)(M:Boxed C w.heap.size 118 (slice none 0 0))(L:Boxed C (w.heap.size+1) 35 (int i64 0))(I:Boxed C (w.heap.size+2) 3 (int i64 0)) (N:w.heap.size+5<=W.heap.size) (G:Below w.heap.size w W) (H:∀ rest,coll [] (F++rest)=([],e,l)) : KeepsFrom B W (((C.setCell ⟨w.heap.size,0,none⟩ (slice none 0 0)).setCell ⟨w.heap.size+1,0,none⟩ (int i64 e)).setCell ⟨w.heap.size+1+1,0,none⟩ (int i64 l)) /\ TkX w .ret F (((C.setCell ⟨w.heap.size,0,none⟩ (slice none 0 0)).setCell ⟨w.heap.size+1,0,none⟩ (int i64 e)).setCell ⟨w.heap.size+1+1,0,none⟩ (int i64 l)):=by
 refine ⟨(((Z8c D).trans ((KeepsOthers.setCell _ _ _).from _)).trans ((KeepsOthers.setCell _ _ _).from _)).trans ((KeepsOthers.setCell _ _ _).from _),rfl,e,l,H,?_,?_,?_,?_,?_⟩
 · exact Z1F (Z1F (M.set _) _ _ (by show _≠w.heap.size+1;omega)) _ _ (by show _≠w.heap.size+1+1;omega)
 · exact Z1F ((Z1F L _ _ (by show _≠w.heap.size;omega)).set _) _ _ (by show _≠w.heap.size+1+1;omega)
 · exact (Z1F (Z1F I _ _ (by show _≠w.heap.size;omega)) _ _ (by show _≠w.heap.size+1;omega)).set _
 · have:=D.size;simp [World.setCell];omega
 · have J:Below w.heap.size w C:=G.trans (D.mono G.size);exact ((J.setCell (p:=⟨w.heap.size,0,none⟩) (zn _) _).setCell (p:=⟨w.heap.size+1,0,none⟩) (by show _<=w.heap.size+1;omega) _).setCell (p:=⟨w.heap.size+1+1,0,none⟩) (by show _<=w.heap.size+1+1;omega) _
theorem Zq1 {w W C D:World}{O:List (Int × Bytes)}{x:Int × Bytes}{B:Nat}{ts:List Tok}{v F:Value}{L:Int}{G:Obj}(H:Below W.heap.size W C)(Y:Boxed C w.heap.size 118 (slice none 0 0))(X:Boxed C (w.heap.size+1) 35 (int i64 0))(V:Boxed C (w.heap.size+2) 3 (int i64 0)) (U:Boxed C (w.heap.size+3) 118 v) (M:C.ownsRow (w.heap.size+5) 169 3 v ts.length (cellsOf ts)) (q:w.heap.size+5<=W.heap.size) (N:Below w.heap.size w W) (d:ts.length<5000) (T:D.ownsRow (w.heap.size+5) 169 3 F (ts.length+1) (cellsOf ts++[int i64 L,int i64 x.1,.string (mk x.2)])) (I:(C.alloc G).grownBy D v.ownBlock) (Z:coll [] (O++[x])=(ts++[(L,x.1,x.2)],0,0)) : KeepsFrom B W (D.setCell ⟨w.heap.size+1+1+1,0,none⟩ F)/\Z2h (w.heap.size+4) W (D.setCell ⟨w.heap.size+1+1+1,0,none⟩ F)/\TkI w (O++[x]) (D.setCell ⟨w.heap.size+1+1+1,0,none⟩ F):=by
 have f:=H.size;have J:∀ j,v.ownBlock=some j->w.heap.size+5<=j:=λj e=>(M.lt j e).1;have keep:∀ {b:Nat} {t:TypeId} {u:Value},b<w.heap.size+5->Boxed C b t u->Boxed D b t u:=λ{b t u} hb h=>(h.alloc _).kept I (λe=>by have:=J _ e.symm;omega);have hk:KeepsOthers C D:=(KeepsOthers.alloc C G).trans (KeepsOthers.of_grownBy I λj o ej hj=>by
  rcases (M.alloc G).2 with ⟨rfl,_⟩ | ⟨g,cap,l,rfl,_,S,_⟩
  · simp [Value.ownBlock] at ej
  · obtain rfl:g=j:=by simpa [Value.ownBlock] using ej
    rw [S] at hj;cases hj;rfl)
 have R:Below w.heap.size w D:=((N.trans (H.mono N.size)).alloc (by omega) G).grown I (by simp;omega) (λj e=>by have:=J j e;omega);have m:=hk.size;refine ⟨((Z8c H).trans (hk.from _)).trans ((KeepsOthers.setCell _ _ _).from _),?_,ts++[(L,x.1,x.2)],F,Z,by rw [zj,List.length_singleton];omega,(keep (by omega) U).set _,?_,?_,?_,?_,?_,?_⟩
 · refine ((Z2h.below H (by omega)).trans (Z2h.block ?_)).trans (Z2h.setCell _ _ _ (by show _≠w.heap.size+1+1+1;omega));rw [I.block _ (by simp;omega) (λe=>by have:=J _ e.symm;omega)];exact Below.heap_alloc _ _ _ (by omega)
 · rw [zj,List.length_singleton,Zbg,Z35];exact Z64 T _ _ (by show w.heap.size+1+1+1<_;omega)
 · exact Z1F (keep (by omega) Y) _ _ (by show _≠w.heap.size+1+1+1;omega)
 · exact Z1F (keep (by omega) X) _ _ (by show _≠w.heap.size+1+1+1;omega)
 · exact Z1F (keep (by omega) V) _ _ (by show _≠w.heap.size+1+1+1;omega)
 · simp [World.setCell];omega
 · exact R.setCell (p:=⟨w.heap.size+1+1+1,0,none⟩) (by show _<=w.heap.size+1+1+1;omega) _
theorem Zeu {w W:World}{D:Nat}{tmps:Array Value}{R:List Tok × Int × Int}{v:Value}(O:w.heap.size+5<=D)(B:W.heap[D]?=some (.deferred (some []))) (C:tmps[2]?.getD undef=.pointer (some ⟨w.heap.size,0,none⟩)) (M:tmps[3]?.getD undef=.pointer (some ⟨w.heap.size+1,0,none⟩)) (J:tmps[4]?.getD undef=.pointer (some ⟨w.heap.size+1+1,0,none⟩)) (N:Boxed W w.heap.size 118 v) (H:Boxed W (w.heap.size+1) 35 (int i64 R.2.1)) (F:Boxed W (w.heap.size+2) 3 (int i64 R.2.2)) (I:Below w.heap.size w W) (L:∃ A c,v=slice A R.1.length c) (G:Sl (W.putObj D (.deferred none)) (W.putObj D (.deferred none)).heap.size v R.1) : bodyPostM Fence.wide 5 prog f82 (Zae w R) Exit.ret { tmps,defers:=[{ target:=.collected D,args:=#[] }] } W:=by
 refine ⟨by simp,.inl ⟨_,_,rfl,run_takeDeferred B,?_⟩⟩;have c0:=(Z5q N (.deferred none) (by omega:w.heap.size≠D)).cell;have c1:=(Z5q H (.deferred none) (by omega:w.heap.size+1≠D)).cell;have c2:(W.putObj D (.deferred none)).cell? ⟨w.heap.size+1+1,0,none⟩=_:=(Z5q F (.deferred none) (by omega:w.heap.size+2≠D)).cell;obtain ⟨A,c,rfl⟩:=L;refine ⟨.tuple #[slice A R.1.length c,int i64 R.2.1,int i64 R.2.2],?_,_,rfl,G,I.trans (Z8b (by omega) B)⟩;simp [results,results82,go_sem,C,M,J,c0,c1,c2]
theorem Zgc (s:ByteArray)(w:World)(hs:s.size<=1000000000):Calls prog 82 #[.string s] w (Zae w (toks (bl s))):=by
 by_cases hbig:20000<s.size
 · rw [Zet s hbig];go_enter func82,ntmps82;go_wp2_with fail;refine bodyPost_ret (v:=.tuple #[slice none 0 0,int i64 2,int i64 0]) (by simp [results,results82,go_sem]) rfl ?_;exact ⟨_,rfl,Sl.nil _ _,(((Zb9 w).alloc (zn _) _).alloc (by simp) _).alloc (by simp;omega) _⟩
 · rw [Zg8 s hbig];obtain ⟨R,hR⟩:∃ R,coll [] (P 1 (bl s))=R:=⟨_,rfl⟩
   rw [hR];have HR:=zh hR;clear hR;have bB:decide ((20000:Int)<s.size)=false:=by simp;omega
   obtain ⟨i0,hi,bk,bh,be⟩:=info_parts Tryz.infoTok;have hI:=zh hi;have bv:=zh bk;have bp:=zh bh;have bu:=zh be;clear hi bk bh be;refine (callsIn_wide (n:=5)).1 ?_;refine callsIn_of_wp_marks func82 rfl trivial ?_ rfl;simp only [ntmps82,List.size_toArray,zw,zx,Nat.reduceAdd,Nat.reduceSub,Array.replicate_succ,Array.replicate_zero,List.push_toArray,List.append_toArray,zn2,zc2];gi_wp2_with fail;refine ⟨trivial,(callsIn_wide.2 (Zgb s _)).mono ?_⟩;rintro e w1 ⟨rfl,rfl⟩;gi_wp2_with fail;obtain ⟨G,C⟩:∃ G,((((((w.alloc (.cells #[slice none 0 0] 118)).alloc (.cells #[int i64 0] 35)).alloc (.cells #[int i64 0] 3)).alloc (.cells #[slice none 0 0] 118)).alloc (.cells #[.string s] 9)))=G:=⟨_,rfl⟩
   have m:Boxed G w.heap.size 118 (slice none 0 0):=by rw [<- C];exact ((((Boxed.new w _ _).alloc _).alloc _).alloc _).alloc _
   have k1:Boxed G (w.heap.size+1) 35 (int i64 0):=by rw [<- C];have:=(((Boxed.new (w.alloc (.cells #[slice none 0 0] 118)) 35 (int i64 0)).alloc (.cells #[int i64 0] 3)).alloc (.cells #[slice none 0 0] 118)).alloc (.cells #[.string s] 9);simpa using this
   have k2:Boxed G (w.heap.size+2) 3 (int i64 0):=by rw [<- C];have:=((Boxed.new ((w.alloc (.cells #[slice none 0 0] 118)).alloc (.cells #[int i64 0] 35)) 3 (int i64 0)).alloc (.cells #[slice none 0 0] 118)).alloc (.cells #[.string s] 9);simpa using this
   have q:Boxed G (w.heap.size+3) 118 (slice none 0 0):=by rw [<- C];have:=(Boxed.new (((w.alloc (.cells #[slice none 0 0] 118)).alloc (.cells #[int i64 0] 35)).alloc (.cells #[int i64 0] 3)) 118 (slice none 0 0)).alloc (.cells #[.string s] 9);simpa using this
   have O:Boxed G (w.heap.size+4) 9 (.string s):=by rw [<- C];have:=Boxed.new ((((w.alloc (.cells #[slice none 0 0] 118)).alloc (.cells #[int i64 0] 35)).alloc (.cells #[int i64 0] 3)).alloc (.cells #[slice none 0 0] 118)) 9 (.string s);simpa using this
   have Y:G.heap.size=w.heap.size+5:=by rw [<- C];simp
   have kB:Below w.heap.size w G:=by rw [<- C];exact (((((Zb9 w).alloc (zn _) _).alloc (by simp) _).alloc (by simp;omega) _).alloc (by simp;omega) _).alloc (by simp;omega) _
   rw [C];clear C;refine Z7A rfl (by omega) (gf:=156) (lb:=#[.pointer (some ⟨w.heap.size+4,0,none⟩)]) rfl trivial (enters_of func156 (by kernel_rfl) rfl) (Zda _ (w.heap.size+4) s hs) (by omega) (λW' hb=>⟨⟨(Z1G O hb).cell,(Z1G O hb).frozen⟩,(Z1G O hb).lt⟩) (λ_=>rfl) (TkI w) (TkX w) (TkI.abides w) (λs W l o o' h hl ho hc=>TkI.put w s W l o o' h (by omega) ho hc) (λc s W l o o' h hl ho _=>TkX.put w c s W l o o' h (by omega) ho) ⟨[],_,rfl,by simp,q,World.ownsRow_nil _ _ _ _,m,k1,k2,by omega,kB⟩ (λx=>{ tmps:=#[.string s,undef,.pointer (some ⟨w.heap.size,0,none⟩),.pointer (some ⟨w.heap.size+1,0,none⟩),.pointer (some ⟨w.heap.size+1+1,0,none⟩),.pointer (some ⟨w.heap.size+1+1+1,0,none⟩),int i64 x.1,.string (mk x.2),undef,.string s,int i64 s.size,.bool false,.string s,.func (.func 156) #[] #[.pointer (some ⟨w.heap.size+4,0,none⟩)],int i64 x.1,.string (mk x.2),undef,undef,undef,undef,undef,undef,undef,undef,undef,undef,undef,undef,undef,undef,undef,undef,undef,undef,undef],defers:=[] }) ?assign ?body ?done ?stop
   case assign =>intro l x W K d;simp only [encP];gi_wp2;exact d
   case body =>
    rintro l ba x W ⟨ts,v,B,Z,b3,U,J,M,N,X,I⟩ S;have bm:Hid ((mk x.2).size<=maxLen):=by show _<=_;have hm:x∈P 1 (bl s):=S.subset (by simp);have:=Zq0 _ _ _ x hm;rw [Z02] at this;rw [Z09];unfold maxLen;omega
    have bC:=zh S;clear S;have bq:Hid (Z0b (bl (mk x.2))=Z0b x.2):=by rw [Z3m];exact rfl
    have bz:=zh (λh rest=>Zmc ts ba rest x B h);have bt:=zh (λh h' rest=>Zi5 ts ba rest x B h h');have bs:=zh (λh h'=>Zi4 ts ba x B h h');have H1:=zh B;clear B;generalize Z0b x.2=y at *
    clear m k1 k2 q O kB;have br:=zh Y;clear Y;gi_wp2_with fail;refine ⟨trivial,(CallsIn.inRound l (callsIn_wide.2 (Zge _ W bm.out))).mono ?_⟩;rintro e V ⟨rfl,F⟩;rw [bq.out];have j:=Z1G J F;have f:=Z1G M F;have T:=Z1G N F;have L:=Z1G b3 F;have bb:=Z9g U F;have c0:=j.cell;have f0:=j.frozen;have c1:=f.cell;have f1:=f.frozen;have c2:V.cell? ⟨w.heap.size+1+1,0,none⟩=_:=T.cell;have f2:V.frozen? ⟨w.heap.size+1+1,0,none⟩=_:=T.frozen;have c3:V.cell? ⟨w.heap.size+1+1+1,0,none⟩=_:=L.cell;have f3:V.frozen? ⟨w.heap.size+1+1+1,0,none⟩=_:=L.frozen;have be:=F.size;by_cases hk0:y=0
    · have bn:(y==0)=true:=by simp [hk0]
      have r:=zh hk0;clear hk0;gi_wp2_with fail;exact Zpf 8 x.1 F j f T X I (λrest=>bz.out r.out rest)
    · have bn:(y==0)=false:=by simp [hk0]
      have r:=zh hk0;clear hk0;have bc:∃ A c,v=slice A ts.length c:=by
       rcases U.2 with ⟨H,h0⟩ | ⟨g,cap,bx,H,_⟩
       · exact ⟨none,0,by rw [H,h0]⟩
       · exact ⟨_,_,H⟩
      obtain ⟨A,c,rfl⟩:=bc;by_cases h5:ts.length=5000
      · have bA:((ts.length:Int)==5000)=true:=by simp;omega
        have H5:=zh h5;clear h5;gi_wp2_with fail;exact Zpf 2 x.1 F j f T X I (λrest=>bt.out r.out H5.out rest)
      · have bA:((ts.length:Int)==5000)=false:=by simp;omega
        have h4:ts.length<5000:=by omega
        have H5:=zh h5;clear h5;gi_wp2_with (gi_at_builtin;refine wpListIn_append_own _ rfl _ _ 118 rfl (w.heap.size+5) 169 i0 _ 3 32 underlying118 hI.out bv.out bp.out bu.out rfl (by decide) _ _ _ rfl (bb.alloc _) ⟨V.heap.size,0,none⟩ 1 1 [int i64 y,int i64 x.1,.string (mk x.2)] rfl rfl (news3 _ _ _ _ _) (by simp [Value.oneCell']) (by unfold maxLen;omega) (by omega) (by simp;omega) ?_;intro v' w1 bg bf _;obtain ⟨g',bD,rfl⟩:=ownsRow_succ bg;have c4:w1.cell? ⟨w.heap.size+1+1+1,0,none⟩=_:=(L.alloc _ |>.kept bf (L.not_row (by decide) bb)).cell;have f4:w1.frozen? ⟨w.heap.size+1+1+1,0,none⟩=_:=(L.alloc _ |>.kept bf (L.not_row (by decide) bb)).frozen);exact Zq1 F j f T L bb X I h4 bg bf (bs.out r.out H5.out)
   case done =>
    rintro D ys W hD rfl ⟨ts,v,B,Z,b3,U,J,M,N,X,I⟩ d;have c0:=J.cell;have f0:=J.frozen;have c1:=M.cell;have f1:=M.frozen;have c2:W.cell? ⟨w.heap.size+1+1,0,none⟩=_:=N.cell;have f2:W.frozen? ⟨w.heap.size+1+1,0,none⟩=_:=N.frozen;have c3:W.cell? ⟨w.heap.size+1+1+1,0,none⟩=_:=b3.cell;have bc:∃ A c,v=slice A ts.length c:=by
     rcases U.2 with ⟨H,h0⟩ | ⟨g,cap,bx,H,_⟩
     · exact ⟨none,0,by rw [H,h0]⟩
     · exact ⟨_,_,H⟩
    obtain ⟨A,c,rfl⟩:=bc;have H1:=zh B;clear B m k1 k2 q O kB;have bd:w.heap.size+5<=D:=by omega
    have br:=zh Y;clear Y;gi_wp2_with fail;rw [<- HR.out,H1.out];have e0:=Z1F (Z1F (J.set (slice A ts.length c)) ⟨w.heap.size+1,0,none⟩ (int i64 0) (by show _≠w.heap.size+1;omega)) ⟨w.heap.size+1+1,0,none⟩ (int i64 0) (by show _≠w.heap.size+1+1;omega);have e1:=Z1F ((Z1F M ⟨w.heap.size,0,none⟩ (slice A ts.length c) (by show _≠w.heap.size;omega)).set (int i64 0)) ⟨w.heap.size+1+1,0,none⟩ (int i64 0) (by show _≠w.heap.size+1+1;omega);have e2:=(Z1F (Z1F N ⟨w.heap.size,0,none⟩ (slice A ts.length c) (by show _≠w.heap.size;omega)) ⟨w.heap.size+1,0,none⟩ (int i64 0) (by show _≠w.heap.size+1;omega)).set (int i64 0);have eK:(((W.setCell ⟨w.heap.size,0,none⟩ (slice A ts.length c)).setCell ⟨w.heap.size+1,0,none⟩ (int i64 0)).setCell ⟨w.heap.size+1+1,0,none⟩ (int i64 0)).heap[D]?=some (.deferred (some [])) := (zg _ _ _ D (by show _≠w.heap.size+1+1;omega)).trans ((zg _ _ _ D (by show _≠w.heap.size+1;omega)).trans ((zg _ _ _ D (by show _≠w.heap.size;omega)).trans d));have eB:Below w.heap.size w (((W.setCell ⟨w.heap.size,0,none⟩ (slice A ts.length c)).setCell ⟨w.heap.size+1,0,none⟩ (int i64 0)).setCell ⟨w.heap.size+1+1,0,none⟩ (int i64 0)) := ((I.setCell (p:=⟨w.heap.size,0,none⟩) (zn _) _).setCell (p:=⟨w.heap.size+1,0,none⟩) (by show _<=w.heap.size+1;omega) _).setCell (p:=⟨w.heap.size+1+1,0,none⟩) (by show _<=w.heap.size+1+1;omega) _;have eR:=Z64 (Z64 (Z64 U ⟨w.heap.size,0,none⟩ (slice A ts.length c) (by show w.heap.size<_;omega)) ⟨w.heap.size+1,0,none⟩ (int i64 0) (by show w.heap.size+1<_;omega)) ⟨w.heap.size+1+1,0,none⟩ (int i64 0) (by show w.heap.size+1+1<_;omega);exact Zeu (R:=(ts,0,0)) bd eK rfl rfl rfl e0 e1 e2 eB ⟨A,c,rfl⟩ (Sl.of_own (ownsRow_putObj eR _ eK rfl))
   case stop =>
    rintro D c ba W hD S ⟨rfl,e,l,B,J,M,N,X,I⟩ d;have bd:w.heap.size+5<=D:=by omega
    obtain ⟨rest,bj⟩:=S;have Z:=B rest;rw [bj] at Z;have H2:=zh Z;clear B Z bj m k1 k2 q O kB Y;gi_wp2_with fail;rw [<- HR.out,H2.out];exact Zeu (R:=([],e,l)) bd d rfl rfl rfl J M N I ⟨none,0,rfl⟩ (Sl.nil _ _)
end
end Go.Proofs.YtnepkoepbapgeaaGreatDoor
