import Derived.Test.YtnepkoepbapgeaaGreatDoorQuoRt2
import Derived.Test.YtnepkoepbapgeaaGreatDoorPrtCan
import Derived.Lib.OthersKept
import Derived.LoopTactic
namespace Go.Proofs.YtnepkoepbapgeaaGreatDoor
open _root_.Go.Proofs.Tryz
open Value (int slice)
open IntKind (i64)
set_option maxHeartbeats 4000000
set_option maxRecDepth 100000
section
open Go.RowKit Lx Px Qx Go.Shelf
attribute [local go_sem] Oper.semAt_some
def yOf (a:Qx.Ask)(night:Int)(m:Rm):Option (Rm × Int):=if apR m.r a night=0 then none else some (m,if apR m.r a night<0 then -(apR m.r a night) else 0)
def yl (a:Qx.Ask)(night:Int)(ms:List Rm):List (Rm × Int):=ms.filterMap (yOf a night)
theorem Zqs (a:Qx.Ask)(C:Int)(B:List Rm)(k:Nat)(h:k<B.length):yl a C (B.take (k+1))=yl a C (B.take k)++(yOf a C B[k]).toList:=by
 unfold yl;rw [zT h,List.filterMap_append];cases hy:yOf a C B[k] <;> simp [hy]
theorem yl_pre (a:Qx.Ask)(C:Int)(B:List Rm)(k:Nat):yl a C (B.take k) <+: yl a C B:=by
 unfold yl
 conv=>rhs;rw [<- List.take_append_drop k B]
 rw [List.filterMap_append];exact List.prefix_append _ _
def encT (x:Rm × Int):Array Value:=#[rtV x.1.r x.1.wv x.1.pv,int i64 x.2]
theorem ZaC (r:Rt)(a:Qx.Ask)(B:Int):apR r a B=0\/apR r a B=1\/apR r a B<0:=by
 unfold apR;split
 · cases h:valE (Z0w a B) (r.wo,r.wn) r.wl with
   | ok n d=>dsimp only;split;exact .inr (.inl rfl);exact .inl rfl
   | no e=>dsimp only;rcases Z3B h with rfl | rfl <;> omega
 · exact .inl rfl
theorem Zjn (n l B0 lb M d:Nat)(v:Value)(B:List Rm)(a:Qx.Ask)(C:Int)(hl:B.length<=1000000)(j:∀ m∈B,Z15 m.r=0)(ha:a.okB=true)(bI:a.fr<=C)(bG:C<a.un) (J Jx:List (Rm × Int)->World->Prop) (W:World) (bb:ThB B0 lb M d v B a C W) (hJ:Z94 J) (hY:∀ pre x W1,J pre W1->(pre++[x] <+: yl a C B)->YieldAt Fence.wide (n - 1) prog l (encT x) W1 λe W' =>
  (e=.returned (.bool true)/\J (pre++[x]) W'/\Z1z (Ts B0 lb M d) W1 W')\/(e=.returned (.bool false)/\Jx (pre++[x]) W')) (h0:J [] W) :
 CallsIn Fence.wide n prog 145 #[.func (.yield l) #[] #[],.pointer (some ⟨lb,0,none⟩),.pointer (some ⟨M,0,none⟩),.pointer (some ⟨d,0,none⟩)] W λe W' =>
  (∃ v,e=.returned v)/\((∃ xs,xs=yl a C B/\J xs W')\/(∃ pre,(pre <+: yl a C B)/\Jx pre W')):=by
 obtain ⟨A,c,rfl,_⟩:=id bb.m;have c0:W.cell? ⟨lb,0,none⟩=some (slice A B.length c):=by rw [zc bb.l];rfl
 have HJ:=zh hJ;have HY:=zh hY;have H0:=zh h0;have bH:=zh bb;have HF:=zh j;clear hJ hY h0 bb j;refine callsIn_of_wp func145 rfl trivial ?_ rfl;simp only [ntmps145,List.size_toArray,zw,zx,Nat.reduceAdd,Nat.reduceSub,Array.replicate_succ,Array.replicate_zero,List.push_toArray,List.append_toArray,zn2,zc2];gi_wp2;gi_loopw [11] (λi wr=>∃ k:Nat,k<=B.length/\i=int i64 k/\J (yl a C (B.take k)) wr/\ThB B0 lb M d (slice A B.length c) B a C wr) (λi _=>B.length - (intOf i).toNat)
 case atStart=>exact ⟨0,Nat.zero_le _,rfl,H0.out,bH.out⟩
 case round =>
  obtain ⟨k,hk,rfl,U,O⟩:=hrel;clear c0;by_cases hlt:k<B.length
  · obtain ⟨g,o,rfl,hg,br,ba,hpv⟩:=ZiB O.m hlt;have hr:=HF.out _ (List.getElem_mem hlt);have bF:=Zqs a C B k hlt;have bA:=yl_pre a C B (k+1);have be:=ZaC B[k].r a C;have bm:yOf a C B[k]=if apR B[k].r a C=0 then none else some (B[k],if apR B[k].r a C<0 then -(apR B[k].r a C) else 0):=rfl;generalize B[k]=m at *
    obtain ⟨r,wv,pv⟩:=m;dsimp only at hr be bm ba hpv;have bL:lb<wr.heap.size:=(zs O.l)
    have bD:B0<=wr.heap.size:=by have:=O.z;omega
    obtain ⟨F,G,rfl,_⟩:=id ba;obtain ⟨D,H,rfl,_⟩:=id hpv;have HC:=zh (Z5w br);have dk:decide ((k:Int)<(B.length:Int))=true:=by simpa using hlt
    have N:=(zr wr.heap.size wr).alloc (zn _) (.cells #[int i64 r.id,int i64 r.lv,int i64 r.kd,int i64 r.fr,int i64 r.un,int i64 r.ls,int i64 r.mo,int i64 r.ar,int i64 r.kn,int i64 r.kq,int i64 r.wo,int i64 r.wn,slice F (flen r.wl) G,int i64 r.po,int i64 r.pn,slice D (flen r.pl) H] 65);have R:=O.on N;have bt:=HJ.out.below _ _ _ U N;have bc:=Zeg r (slice F (flen r.wl) G) (slice D (flen r.pl) H) a C _ ((ba.up bD).on N |>.up N.size) ((hpv.up bD).on N |>.up N.size) hr ha bI bG;have bx:=za wr (.cells #[int i64 r.id,int i64 r.lv,int i64 r.kd,int i64 r.fr,int i64 r.un,int i64 r.ls,int i64 r.mo,int i64 r.ar,int i64 r.kn,int i64 r.kq,int i64 r.wo,int i64 r.wn,slice F (flen r.wl) G,int i64 r.po,int i64 r.pn,slice D (flen r.pl) H] 65);have a0:(wr.alloc (.cells #[int i64 r.id,int i64 r.lv,int i64 r.kd,int i64 r.fr,int i64 r.un,int i64 r.ls,int i64 r.mo,int i64 r.ar,int i64 r.kn,int i64 r.kq,int i64 r.wo,int i64 r.wn,slice F (flen r.wl) G,int i64 r.po,int i64 r.pn,slice D (flen r.pl) H] 65)).cell? ⟨M,0,none⟩=some (int i64 a.kind):=by rw [zc R.a];rfl
    have a1:(wr.alloc (.cells #[int i64 r.id,int i64 r.lv,int i64 r.kd,int i64 r.fr,int i64 r.un,int i64 r.ls,int i64 r.mo,int i64 r.ar,int i64 r.kn,int i64 r.kq,int i64 r.wo,int i64 r.wn,slice F (flen r.wl) G,int i64 r.po,int i64 r.pn,slice D (flen r.pl) H] 65)).cell? ⟨M,1,none⟩=some (int i64 a.fr):=by rw [zc R.a];rfl
    have a2:(wr.alloc (.cells #[int i64 r.id,int i64 r.lv,int i64 r.kd,int i64 r.fr,int i64 r.un,int i64 r.ls,int i64 r.mo,int i64 r.ar,int i64 r.kn,int i64 r.kq,int i64 r.wo,int i64 r.wn,slice F (flen r.wl) G,int i64 r.po,int i64 r.pn,slice D (flen r.pl) H] 65)).cell? ⟨M,2,none⟩=some (int i64 a.un):=by rw [zc R.a];rfl
    have a3:(wr.alloc (.cells #[int i64 r.id,int i64 r.lv,int i64 r.kd,int i64 r.fr,int i64 r.un,int i64 r.ls,int i64 r.mo,int i64 r.ar,int i64 r.kn,int i64 r.kq,int i64 r.wo,int i64 r.wn,slice F (flen r.wl) G,int i64 r.po,int i64 r.pn,slice D (flen r.pl) H] 65)).cell? ⟨M,3,none⟩=some (int i64 a.pers):=by rw [zc R.a];rfl
    have n0:(wr.alloc (.cells #[int i64 r.id,int i64 r.lv,int i64 r.kd,int i64 r.fr,int i64 r.un,int i64 r.ls,int i64 r.mo,int i64 r.ar,int i64 r.kn,int i64 r.kq,int i64 r.wo,int i64 r.wn,slice F (flen r.wl) G,int i64 r.po,int i64 r.pn,slice D (flen r.pl) H] 65)).cell? ⟨d,0,none⟩=some (int i64 C):=by rw [zc R.n];rfl
    dsimp only [rtV,askV] at bc;generalize apR r a C=X at *
    have bC:=zh bc;have bs:=zh R;have bE:=zh bt;have bg:=zh bF;have bv:=zh bA;have bk:=zh bm;have HN3:=zh bx;have bK:=zh be;clear bc R bt bF bA bm bx be O U N hr ba hpv br;gi_wp2_with (first | (with_reducible refine Z30 rfl _ rfl g (o+k*16) rfl _ rfl HC.out ?_) | (with_reducible refine Z1w rfl _ rfl wr.heap.size rfl _ rfl HN3.out ?_) | (with_reducible refine Z2j rfl _ _ rfl _ _ rfl rfl rfl rfl (by rfl) ?_));generalize wr.alloc (.cells #[int i64 r.id,int i64 r.lv,int i64 r.kd,int i64 r.fr,int i64 r.un,int i64 r.ls,int i64 r.mo,int i64 r.ar,int i64 r.kn,int i64 r.kq,int i64 r.wo,int i64 r.wn,slice F (flen r.wl) G,int i64 r.po,int i64 r.pn,slice D (flen r.pl) H] 65)=W3 at *
    refine ⟨trivial,(λh=>by cases h),(callsIn_wide.2 bC.out).mono ?_⟩;rintro e w4 ⟨rfl,y⟩;have bu:=bs.out.on y;have bz:=HJ.out.below _ _ _ bE.out y;have bq:=(y.block _ (zs HN3.out)).trans HN3.out;have bM:=Array.getElem?_eq_some_iff.1 bq |>.1
    have bf:=zh bu;have bp:=zh bz;have bB:=zh bq;clear bu bz bq bs bE HN3 bC y a0 a1 a2 a3 n0;unfold apO;rcases bK.out with S | S | S
    · subst S;have I:yl a C (B.take (k+1))=yl a C (B.take k):=by rw [bg.out,bk.out];simp
      have Z:=zh I;clear I;gi_wp2_with fail;refine ⟨λf j=>(by cases j),?_⟩;gi_wp2_with fail;go_roundw
      case rel=>exact ⟨k+1,by omega,by go_num,by rw [Z.out];exact bp.out,bf.out⟩
      case measure=>simp [intOf];omega
    · subst S;have I:yl a C (B.take (k+1))=yl a C (B.take k)++[(⟨r,slice F (flen r.wl) G,slice D (flen r.pl) H⟩,0)]:=by rw [bg.out,bk.out];simp
      have L:=bv.out;rw [I] at L;obtain ⟨fn,tmps,assign,body,bj,hR⟩:=HY.out _ _ w4 bp.out L;simp only [encT,rtV] at bj;have Z:=zh I;have bn:=zh L;clear I L;gi_wp2_with (with_reducible refine Z3G (by kernel_rfl) _ rfl wr.heap.size rfl _ rfl bB.out ?_);refine ⟨(λh=>by cases h),hR.mono ?_⟩;rintro e w5 (⟨rfl,V,bd⟩ | ⟨rfl,bh⟩)
      · have Y:=bf.out.keep bd;have T:=zh V;have q:=zh Y;clear V Y;gi_wp2_with fail;go_roundw
        case rel=>exact ⟨k+1,by omega,by go_num,by rw [Z.out];exact T.out,q.out⟩
        case measure=>simp [intOf];omega
      · gi_wp2_with fail;refine bodyPost_ret (results_none rfl _ _ _) rfl ?_;exact ⟨⟨_,rfl⟩,.inr ⟨_,bn.out,bh⟩⟩
    · have d1:(X==1)=false:=by simp;omega
      have d2:(-X != 0)=true:=by simp;omega
      rw [zp S];have I:yl a C (B.take (k+1))=yl a C (B.take k)++[(⟨r,slice F (flen r.wl) G,slice D (flen r.pl) H⟩,-X)]:=by rw [bg.out,bk.out];simp [S,show X≠0 by omega]
      have L:=bv.out;rw [I] at L;obtain ⟨fn,tmps,assign,body,bj,hR⟩:=HY.out _ _ w4 bp.out L;simp only [encT,rtV] at bj;have Z:=zh I;have bn:=zh L;clear I L;gi_wp2_with (with_reducible refine Z3G (by kernel_rfl) _ rfl wr.heap.size rfl _ rfl bB.out ?_);refine ⟨(λh=>by cases h),hR.mono ?_⟩;rintro e w5 (⟨rfl,V,bd⟩ | ⟨rfl,bh⟩)
      · have Y:=bf.out.keep bd;have T:=zh V;have q:=zh Y;clear V Y;gi_wp2_with fail;go_roundw
        case rel=>exact ⟨k+1,by omega,by go_num,by rw [Z.out];exact T.out,q.out⟩
        case measure=>simp [intOf];omega
      · gi_wp2_with fail;refine bodyPost_ret (results_none rfl _ _ _) rfl ?_;exact ⟨⟨_,rfl⟩,.inr ⟨_,bn.out,bh⟩⟩
  · have bJ:k=B.length:=by omega
    subst bJ;have dk:decide ((B.length:Int)<(B.length:Int))=false:=by simp
    rw [List.take_length] at U;have T:=zh U;have q:=zh O;clear U O;gi_wp2;go_end0;exact ⟨⟨_,rfl⟩,.inl ⟨_,rfl,T.out⟩⟩
end
section
open Go.RowKit Lx Px Qx Go.Shelf
attribute [local go_sem] Oper.semAt_some
theorem tab_lt {B:Nat}{w:World}(h:Tabs B w):1<B:=by
 rcases Nat.lt_or_ge 1 B with F | F
 · exact F
 · have D:=h.1 (w.putObj 1 (.deferred none)) ((zr B w).grown (grownBy_putObj' w _ _) h.2.2.1 (λk e=>by cases e;exact F));unfold Lib.TabIs World.var? at D;rw [Tryz.gPow] at D;simp only [Option.bind_some] at D;have C:=h.1.here;unfold Lib.TabIs World.var? at C;rw [Tryz.gPow] at C;simp only [Option.bind_some] at C;by_cases hs:1<w.heap.size
   · rw [World.putObj_heap_same hs] at D;cases D
   · rw [Array.getElem?_eq_none (by omega)] at C;cases C
theorem Zjp {B:Nat}{w w':World}(h:Tabs B w)(hk:∀ b,b<B->w'.heap[b]?=w.heap[b]?)(F:B<=w'.heap.size):Tabs B w':=by
 have D:=tab_lt h;refine ⟨λw'' hb=>?_,h.2.1,F,λk h1 h2=>(World.cell?_of_block (a:=⟨0,k,none⟩) (hk _ h.2.1)).trans (h.2.2.2 k h1 h2)⟩;have C:=h.1.here;unfold Lib.TabIs World.var? at C |-
 rw [Tryz.gPow] at C |-
 simp only [Option.bind_some] at C |-
 rw [hb.block _ D,hk _ D];exact C
structure TxB (B0 lb:Nat) (v:Value) (ms:List Rm) (W:World):Prop where
 l:W.heap[lb]?=some (.cells #[v] 22 (0,0))
 m:RmsV W B0 v ms
 t:Tabs B0 W
 z:B0<=lb
def Tx (B0 lb:Nat):Nat->Prop:=λb=>b<B0\/b=lb
theorem TxB.keep {B lb:Nat}{v:Value}{F:List Rm}{W C:World}(h:TxB B lb v F W)(hk:Z1z (Tx B lb) W C):TxB B lb v F C:=by
 have D:=(hk lb (.inr rfl)).trans h.l;exact ⟨D,h.m.keepS (λb hb=>hk b (.inl hb)),Zjp h.t (λb hb=>hk b (.inl hb)) (by have:=(zs D);have:=h.z;omega),h.z⟩
theorem TxB.ts {B lb:Nat}{v:Value}{C:List Rm}{W:World}(h:TxB B lb v C W):∀ b,Tx B lb b->b<W.heap.size:=by
 rintro b (hb | rfl)
 · have:=h.z;have:=(zs h.l);omega
 · exact (zs h.l)
theorem TxB.on {D lb:Nat}{v:Value}{C:List Rm}{W B:World}(h:TxB D lb v C W)(hb:Below W.heap.size W B):TxB D lb v C B:=h.keep (Z1z.below hb h.ts)
def encX (x:Bytes × Int):Array Value:=#[.string (mk x.1),int i64 x.2]
def xl (ms:List Rm):List (Bytes × Int):=ms.map λm=>m.r.res
theorem Zqt (B:List Rm)(k:Nat)(h:k<B.length):xl (B.take (k+1))=xl (B.take k)++[B[k].r.res]:=by
 unfold xl;rw [zT h,List.map_append];rfl
theorem xl_pre (B:List Rm)(k:Nat):xl (B.take k) <+: xl B:=by
 unfold xl;rw [List.map_take];exact List.take_prefix _ _
theorem Zjq (A:Option Addr)(k c:Nat)(w:World):Calls prog 61 #[slice A k c] w λe w' =>
 e=.returned (.func (.func 99) #[] #[.pointer (some ⟨w.heap.size,0,none⟩)])/\w'=w.alloc (.cells #[slice A k c] 22):=by
 have B:∀ (fn:Fn) (first cap:Array Value) (w:World),(Instr.makeFunc fn first cap).run prog w=.ok (.func fn first cap) w:=λ_ _ _ _=>rfl;go_enter func61,ntmps61;go_wp2_with fail;go_ret;exact ⟨rfl,rfl⟩
theorem Zjr (n l G lb:Nat)(v:Value)(B:List Rm)(hl:B.length<=1000000) (J Jx:List (Bytes × Int)->World->Prop) (W:World) (O:TxB G lb v B W) (hJ:Z94 J) (y:∀ pre x W1,J pre W1->(pre++[x] <+: xl B)->YieldAt Fence.wide (n - 1) prog l (encX x) W1 λe W' =>
  (e=.returned (.bool true)/\J (pre++[x]) W'/\Z1z (Tx G lb) W1 W')\/(e=.returned (.bool false)/\Jx (pre++[x]) W')) (h0:J [] W) :
 CallsIn Fence.wide n prog 99 #[.func (.yield l) #[] #[],.pointer (some ⟨lb,0,none⟩)] W λe W' =>
  (∃ v,e=.returned v)/\((∃ xs,xs=xl B/\J xs W')\/(∃ pre,(pre <+: xl B)/\Jx pre W')):=by
 obtain ⟨A,c,rfl,_⟩:=id O.m;have c0:W.cell? ⟨lb,0,none⟩=some (slice A B.length c):=by rw [zc O.l];rfl
 have HJ:=zh hJ;have HY:=zh y;have H0:=zh h0;have bt:=zh O;clear hJ y h0 O;refine callsIn_of_wp func99 rfl trivial ?_ rfl;simp only [ntmps99,List.size_toArray,zw,zx,Nat.reduceAdd,Nat.reduceSub,Array.replicate_succ,Array.replicate_zero,List.push_toArray,List.append_toArray,zn2,zc2];gi_wp2;gi_loopw [7] (λi wr=>∃ k:Nat,k<=B.length/\i=int i64 k/\J (xl (B.take k)) wr/\TxB G lb (slice A B.length c) B wr) (λi _=>B.length - (intOf i).toNat)
 case atStart=>exact ⟨0,Nat.zero_le _,rfl,H0.out,bt.out⟩
 case round =>
  obtain ⟨k,hk,rfl,H,C⟩:=hrel;clear c0;by_cases hlt:k<B.length
  · obtain ⟨g,o,rfl,hg,bh,I,T⟩:=ZiB C.m hlt;have U:=Zqt B k hlt;have bj:=xl_pre B (k+1);generalize B[k]=m at *
    obtain ⟨r,wv,pv⟩:=m;dsimp only at I T U;have bv:lb<wr.heap.size:=(zs C.l)
    have bb:G<=wr.heap.size:=by have:=C.z;omega
    obtain ⟨M,N,rfl,_⟩:=id I;obtain ⟨S,L,rfl,_⟩:=id T;have HC:=zh (Z5w bh);have dk:decide ((k:Int)<(B.length:Int))=true:=by simpa using hlt
    have F:=(zr wr.heap.size wr).alloc (zn _) (.cells #[int i64 r.id,int i64 r.lv,int i64 r.kd,int i64 r.fr,int i64 r.un,int i64 r.ls,int i64 r.mo,int i64 r.ar,int i64 r.kn,int i64 r.kq,int i64 r.wo,int i64 r.wn,slice M (flen r.wl) N,int i64 r.po,int i64 r.pn,slice S (flen r.pl) L] 65);have V:=C.on F;have q:=HJ.out.below _ _ _ H F;have D:=Zi0 r (slice M (flen r.wl) N) (slice S (flen r.pl) L) _ G (I.on (F.mono bb)) (T.on (F.mono bb)) V.t;have f:=za wr (.cells #[int i64 r.id,int i64 r.lv,int i64 r.kd,int i64 r.fr,int i64 r.un,int i64 r.ls,int i64 r.mo,int i64 r.ar,int i64 r.kn,int i64 r.kq,int i64 r.wo,int i64 r.wn,slice M (flen r.wl) N,int i64 r.po,int i64 r.pn,slice S (flen r.pl) L] 65);dsimp only [rtV] at D;unfold Z58 at D;obtain ⟨X,hX⟩:∃ X,r.res=X:=⟨_,rfl⟩
    obtain ⟨tx,er⟩:=X;rw [hX] at D U;dsimp only at D;have HCL:=zh D;have j:=zh V;have bf:=zh q;have ba:=zh U;have bk:=zh bj;have d:=zh f;clear D V q U bj f C H F I T bh hX;gi_wp2_with (first | (with_reducible refine Z30 rfl _ rfl g (o+k*16) rfl _ rfl HC.out ?_) | (with_reducible refine Z1w rfl _ rfl wr.heap.size rfl _ rfl d.out ?_) | (with_reducible refine Z2j rfl _ _ rfl _ _ rfl rfl rfl rfl (by rfl) ?_));generalize wr.alloc (.cells #[int i64 r.id,int i64 r.lv,int i64 r.kd,int i64 r.fr,int i64 r.un,int i64 r.ls,int i64 r.mo,int i64 r.ar,int i64 r.kn,int i64 r.kq,int i64 r.wo,int i64 r.wn,slice M (flen r.wl) N,int i64 r.po,int i64 r.pn,slice S (flen r.pl) L] 65)=W3 at *
    refine ⟨trivial,(λh=>by cases h),(callsIn_wide.2 HCL.out).mono ?_⟩;rintro e w4 ⟨rfl,Z⟩;have be:=j.out.on Z;have bq:=HJ.out.below _ _ _ bf.out Z;have R:=bk.out;rw [ba.out] at R;obtain ⟨fn,tmps,assign,body,bs,hR⟩:=HY.out _ _ w4 bq R;simp only [encX] at bs;have bn:=zh be;have bm:=zh R;have HR:=zh hR;clear be R hR j bf d HCL Z;gi_wp2_with fail;refine ⟨(λh=>by cases h),HR.out.mono ?_⟩;rintro e w5 (⟨rfl,bd,bp⟩ | ⟨rfl,br⟩)
    · have bg:=bn.out.keep bp;have Y:=zh bd;have bc:=zh bg;clear bd bg;gi_wp2_with fail;go_roundw
      case rel=>exact ⟨k+1,by omega,by go_num,by rw [ba.out];exact Y.out,bc.out⟩
      case measure=>simp [intOf];omega
    · gi_wp2_with fail;refine bodyPost_ret (results_none rfl _ _ _) rfl ?_;exact ⟨⟨_,rfl⟩,.inr ⟨_,bm.out,br⟩⟩
  · have bu:k=B.length:=by omega
    subst bu;have dk:decide ((B.length:Int)<(B.length:Int))=false:=by simp
    rw [List.take_length] at H;have Y:=zh H;have bc:=zh C;clear H C;gi_wp2;go_end0;exact ⟨⟨_,rfl⟩,.inl ⟨_,rfl,Y.out⟩⟩
theorem ZgC (n C lb:Nat)(v:Value)(B:List Rm)(D:B.length<=1000000) : SeqS Fence.wide n prog 99 #[.pointer (some ⟨lb,0,none⟩)] encX (λW=>TxB C lb v B W) (Tx C lb) (λxs=>xs=xl B) (λpre=>pre <+: xl B) := λl J Jx W hok hJ hY h0=>Zjr n l C lb v B D J Jx W hok hJ hY h0
end
section
open Go.RowKit Lx Px Qx
def DigB (w:World)(p d:Nat):Prop:=w.heap[p]?=some (.cells #[.int .u64 (d:Nat)] 28 (0,0))
theorem DigB.lt {w:World}{p d:Nat}(h:DigB w p d):p<w.heap.size:=(zs h)
theorem DigB.on {w w':World}{p d:Nat}(h:DigB w p d)(hb:Below w.heap.size w w'):DigB w' p d:=(hb.block p h.lt).trans h
theorem DigB.c {w:World}{p d:Nat}(h:DigB w p d):w.cell? ⟨p,0,none⟩=some (.int .u64 (d:Nat)):=by rw [zc h];rfl
theorem DigB.fr {w:World}{p d:Nat}(h:DigB w p d):w.frozen? ⟨p,0,none⟩=false:=by have B:w.heap[p]?=_:=h;simp [World.frozen?,B]
theorem DigB.set {w:World}{p d:Nat}(h:DigB w p d)(x:Nat):DigB (w.setCell ⟨p,0,none⟩ (.int .u64 (x:Nat))) p x:=by
 have B:w.heap[p]?=_:=h;simp [DigB,World.setCell,zM,B]
def BytX (w:World)(p:Nat)(v:Value)(l:Bytes):Prop := ∃ A c,v=slice A l.length c/\(l≠[]->∃ b o,A=some ⟨b,o,none⟩/\b<w.heap.size/\b≠p/\∀ i (h:i<l.length),w.cell? ⟨b,o+i,none⟩=some (.int .u8 l[i].toNat))
def BytV (w:World)(B:Nat)(v:Value)(l:Bytes):Prop := ∃ A c,v=slice A l.length c/\(l≠[]->∃ b o,A=some ⟨b,o,none⟩/\b<B/\∀ i (h:i<l.length),w.cell? ⟨b,o+i,none⟩=some (.int .u8 l[i].toNat))
theorem BytV.nil (w:World)(B c:Nat):BytV w B (slice none 0 c) []:=⟨none,c,rfl,λh=>absurd rfl h⟩
theorem BytV.on {w w':World}{B:Nat}{v:Value}{l:Bytes}(h:BytV w B v l)(hb:Below B w w'):BytV w' B v l:=by
 obtain ⟨A,c,e,D⟩:=h;refine ⟨A,c,e,λhl=>?_⟩;obtain ⟨b,o,G,C,F⟩:=D hl;exact ⟨b,o,G,C,λi hi=>(hb.cell (p:=⟨b,o+i,none⟩) C).trans (F i hi)⟩
theorem BytV.x {w:World}{B p:Nat}{v:Value}{l:Bytes}(h:BytV w B v l)(G:B<=p)(hw:B<=w.heap.size):BytX w p v l:=by
 obtain ⟨A,c,e,F⟩:=h;refine ⟨A,c,e,λhl=>?_⟩;obtain ⟨b,o,C,H,D⟩:=F hl;exact ⟨b,o,C,by omega,by omega,D⟩
theorem BytX.one (w:World)(p:Nat)(B:p<w.heap.size)(x:UInt8):BytX (w.alloc (.cells #[.int .u8 x.toNat] 5)) p (slice (some ⟨w.heap.size,0,none⟩) 1 1) [x]:=by
 refine ⟨_,1,rfl,λ_=>⟨w.heap.size,0,rfl,by simp,by omega,λi hi=>?_⟩⟩;have:i=0:=by simpa using hi
 subst this;rw [zc (za w _)];rfl
theorem Zqu (d:Nat)(x:UInt8):fnv d [x]=((d ^^^ x.toNat)*1099511628211) % 18446744073709551616:=by unfold fnv;rw [List.foldl_cons,List.foldl_nil]
theorem Zfd (d:Nat)(l:Bytes)(k:Nat)(h:k<l.length):fnv d (l.take (k+1))=((fnv d (l.take k) ^^^ l[k].toNat)*1099511628211) % 18446744073709551616:=by
 rw [zT h,fnv_append,Zqu]
theorem Z9z (p d:Nat)(v:Value)(l:Bytes)(w:World)(H:DigB w p d)(N:d<18446744073709551616)(T:BytX w p v l)(hl:l.length<=1000000000000) : Calls prog 139 #[v,.pointer (some ⟨p,0,none⟩)] w λe w'=>e=.returned (.tuple #[])/\DigB w' p (fnv d l)/\But p w w':=by
 obtain ⟨A,c,rfl,F⟩:=T;have f:=zh H;have V:=zh F;clear H F;go_enter func139,ntmps139;go_wp2_with fail;go_loopw [7] (λi wr=>∃ k:Nat,k<=l.length/\i=int i64 k/\DigB wr p (fnv d (l.take k))/\But p w wr) (λi _=>l.length - (intOf i).toNat)
 case atStart=>exact ⟨0,Nat.zero_le _,rfl,by simpa [fnv] using f.out,But.refl _ _⟩
 case round =>
  obtain ⟨k,hk,rfl,B,C⟩:=hrel;by_cases hlt:k<l.length
  · obtain ⟨b,o,rfl,R,U,L⟩:=V.out (by intro e;rw [e] at hlt;simp at hlt);have r:=(C.cell (p:=⟨b,o+k,none⟩) R U).trans (L k hlt);have J:=Zfd d l k hlt;have S:=Z6t d (l.take k) N;have m:l[k].toNat<256:=l[k].toNat_lt;generalize l[k].toNat=x at *
    generalize fnv d (l.take k)=D at *
    have c0:=B.c;have f0:=B.fr;have ba:=bits_xor_u64_nat D x S (by omega);have q:D ^^^ x<18446744073709551616:=Nat.xor_lt_two_pow (n:=64) (by omega) (by omega);have I:=B.set ((D ^^^ x)*1099511628211 % 18446744073709551616);generalize D ^^^ x=y at *
    have hw:IntKind.u64.wrap ((y:Int)*1099511628211)=((y*1099511628211 % 18446744073709551616:Nat):Int):=by rw [IntKind.wrap_u64];omega
    have O:decide ((k:Int)<(l.length:Int))=true:=by simpa using hlt
    generalize y*1099511628211 % 18446744073709551616=z at *
    have G:=C.set (p:=⟨p,0,none⟩) rfl (.int .u64 (z:Nat));have M:=zh I;have g:=zh G;have Y:=zh J;clear I G J B C L;go_wp2_with fail;go_roundw
    case rel=>exact ⟨k+1,by omega,by go_num,by rw [Y.out];exact M.out,g.out⟩
    case measure=>simp [intOf];omega
  · have j:k=l.length:=by omega
    subst j;have O:decide ((l.length:Int)<(l.length:Int))=false:=by simp
    rw [List.take_length] at B;have Z:=zh B;have X:=zh C;clear B C;go_wp2_with fail;go_end0;exact ⟨rfl,Z.out,X.out⟩
def addF (p:Nat):Value:=.func (.func 139) #[] #[.pointer (some ⟨p,0,none⟩)]
def Zqv (p:Nat):Value:=.func (.func 140) #[] #[.pointer (some ⟨p,0,none⟩)]
theorem Z9A (w:World):Calls prog 101 #[] w λe w'=>e=.returned (.tuple #[addF w.heap.size,Zqv w.heap.size])/\w'=w.alloc (.cells #[.int .u64 14695981039346656037] 28):=by
 have B:∀ (fn:Fn) (first cap:Array Value) (w:World),(Instr.makeFunc fn first cap).run prog w=.ok (.func fn first cap) w:=λ_ _ _ _=>rfl;go_enter func101,ntmps101;go_wp2_with fail;go_ret2;exact ⟨rfl,rfl⟩
theorem Z8B (p d:Nat)(w:World)(h:DigB w p d):Calls prog 140 #[.pointer (some ⟨p,0,none⟩)] w λe w'=>e=.returned (.int .u64 (d:Nat))/\w=w':=by
 have c0:=h.c;clear h;go_enter func140,ntmps140;go_wp2_with fail;go_ret;exact ⟨rfl,rfl⟩
theorem Zjs (w:World):DigB (w.alloc (.cells #[.int .u64 14695981039346656037] 28)) w.heap.size Z2c:=za w _
theorem Z9B (v:Value)(l:Bytes)(w:World)(J:BytV w w.heap.size v l)(N:l.length<=1000000000000):Calls prog 63 #[v] w λe w'=>e=.returned (.int .u64 (sumD l:Nat))/\Below w.heap.size w w':=by
 have hb:=(zr w.heap.size w).alloc (zn _) (.cells #[.int .u64 14695981039346656037] 28);have C:=(J.on hb).x (zn _) hb.size;have I:=Z9z w.heap.size Z2c v l _ (Zjs w) Z4i C N;have D:=λW d h=>Z8B w.heap.size d W h;obtain ⟨A,c,rfl,_⟩:=J;have F:=zh I;have B:=zh hb;have O:=zh D;clear I hb D C;have T:Hid (sumD l=fnv Z2c l):=rfl;go_enter func63,ntmps63;go_wp2_with fail;refine (Z9A _).mono ?_;rintro e S ⟨rfl,rfl⟩;unfold addF Zqv;go_wp2_with fail;generalize w.alloc (.cells #[.int .u64 14695981039346656037] 28)=S at *
 refine F.out.mono ?_;rintro e R ⟨rfl,L,H⟩;have G:Below w.heap.size w R:=B.out.trans (H.below B.out.size);have M:=zh G;clear G H F B;go_wp2_with fail;refine (O.out _ _ L).mono ?_;rintro e U ⟨rfl,rfl⟩;go_wp2_with fail;go_ret;rw [T.out];exact ⟨rfl,M.out⟩
def ZaD (d k:Nat):UInt8:=UInt8.ofNat (d / 2 ^ (56 - 8*k))
theorem Zcf (d k:Nat)(h:k<8):(Z1k d).length=8/\∀ (h:k<(Z1k d).length),(Z1k d)[k]=ZaD d k:=by
 refine ⟨rfl,λ_=>?_⟩;have:k=0\/k=1\/k=2\/k=3\/k=4\/k=5\/k=6\/k=7:=by omega
 rcases this with rfl | rfl | rfl | rfl | rfl | rfl | rfl | rfl
 all_goals (unfold Z1k ZaD;simp;rfl)
theorem ZgD (n:Int):∀ b∈Lib.itoa n,b.toNat<128:=by
 have C:∀ (f m:Nat),m<10 ^ f->∀ b∈Lib.decDigits m,b.toNat<128:=by
  intro f;induction f with
  | zero =>
   intro m B;have:m=0:=by simpa using B
   subst this;intro b hb;rw [Z2B] at hb;simp at hb;subst hb;decide
  | succ f ih =>
   intro m B b hb;rw [Z2B] at hb;split at hb
   · have hb:=List.mem_singleton.1 hb;subst hb;rw [UInt8.toNat_ofNat'];omega
   · rw [zC] at hb;rcases hb with hb | hb
     · exact ih (m / 10) (by rw [Nat.pow_succ] at B;omega) b hb
     · have hb:=List.mem_singleton.1 hb;subst hb;rw [UInt8.toNat_ofNat'];omega
 intro b hb;unfold Lib.itoa at hb;have D:∀ m:Nat,m<10 ^ m:=λm=>Nat.lt_pow_self (by decide);split at hb
 · rcases zD.1 hb with rfl | hb
   · decide
   · exact C _ _ (D _) b hb
 · exact C _ _ (D _) b hb
theorem Z7b (l:List Int)(k:Nat)(h:k<l.length):Z2E (l.take (k+1))=Z2E (l.take k)++(Lib.itoa l[k]++[32]):=by
 induction l generalizing k with
 | nil=>simp at h
 | cons a l ih =>
  cases k with
  | zero=>simp [Z2E,decS]
  | succ k =>simp only [List.take_succ_cons,Z2E,List.getElem_cons_succ];rw [ih k (by simpa using h)];simp
theorem Zfe (d k:Nat):((d:Int) / 2 ^ (56 - 8*k) % 256)=((ZaD d k).toNat:Int):=by
 unfold ZaD;rw [UInt8.toNat_ofNat',Int.natCast_emod,Int.natCast_ediv,Int.natCast_pow];rfl
theorem Zqw {p x:Nat}{w wr:World}(b:UInt8)(B:DigB wr p x)(D:x<18446744073709551616)(H:Below p w wr) : Calls prog 139 #[slice (some ⟨wr.heap.size,0,none⟩) 1 1,.pointer (some ⟨p,0,none⟩)] (wr.alloc (.cells #[.int .u8 b.toNat] 5)) λe w'=>e=.returned (.tuple #[])/\DigB w' p (fnv x [b])/\Below p w w'/\wr.heap.size<w'.heap.size/\(∀ k,k<wr.heap.size->k≠p->w'.heap[k]?=wr.heap[k]?):=by
 have G:=(zr wr.heap.size wr).alloc (zn _) (.cells #[.int .u8 b.toNat] 5);refine (Z9z p x _ [b] _ (B.on G) D (BytX.one wr p B.lt b) (by simp)).mono ?_;rintro e w' ⟨rfl,F,C⟩;have I:=B.lt;have J:(wr.alloc (.cells #[.int .u8 b.toNat] 5)).heap.size=wr.heap.size+1:=by simp
 have L:=C.size;exact ⟨rfl,F,(H.alloc (by omega) _).trans (C.below (by omega)),by omega,λk hk hn=>(C.block k (by omega) hn).trans (Below.heap_alloc _ _ _ hk)⟩
theorem Zna (n:Int)(B:Nat)(w:World)(F : -9223372036854775808<=n)(D:n<=9223372036854775807)(C:Tabs B w) : Calls prog 102 #[int i64 n] w λe w'=>e=.returned (.string ⟨(Lib.itoa n).toArray⟩)/\Below w.heap.size w w':=by
 refine (Tryz.strconv_Itoa n F D w C.1.here).mono ?_;rintro e w' ⟨rfl,k,os,rfl⟩;exact ⟨rfl,Lib.below_grow _ _ (zn _) _ _⟩
theorem Z8C (d:Nat)(v:Value)(l:List Int)(B:Nat)(w:World)(_hd:d<18446744073709551616)(y:Z03 w w.heap.size v l)(hl:l.length<=1000000)(hr:∀ x∈l,-9223372036854775808<=x/\x<=9223372036854775807)(ht:Tabs B w) : Calls prog 62 #[.int .u64 (d:Nat),v] w λe w'=>e=.returned (.int .u64 (Z54 d l:Nat))/\Below w.heap.size w w':=by
 have bS:B<=w.heap.size:=ht.2.2.1;have hb:=(zr w.heap.size w).alloc (zn _) (.cells #[.int .u64 14695981039346656037] 28);have bm:=Zjs w;have bx:=λ(x:Nat) (wr:World) (b:UInt8) h1 h2 h3=>Zqw (p:=w.heap.size) (x:=x) (w:=w) (wr:=wr) b h1 h2 h3;have bF:=λW d h=>Z8B w.heap.size d W h;have HE:Hid (Z54 d l=fnv Z2c (Z1k d++Z2E l)):=rfl;obtain ⟨A,c,rfl,_⟩:=id y;have bd:=zh bx;have HB:=zh hb;have bY:=zh bF;have bc:=zh bm;have HV:=zh y;have HR:=zh hr;have HT:=zh ht;clear bx hb bF bm y hr ht;go_enter func62,ntmps62;go_wp2_with fail;refine (Z9A _).mono ?_;rintro e w1 ⟨rfl,rfl⟩;unfold addF Zqv;go_wp2_with fail;generalize b6:w.alloc (.cells #[.int .u64 14695981039346656037] 28)=w1 at *
 have b4:w.heap.size<w1.heap.size:=bc.out.lt;clear b6;go_loopw [7] (λi wr=>∃ k:Nat,k<=8/\i=int i64 (56 - 8*(k:Int))/\DigB wr w.heap.size (fnv Z2c ((Z1k d).take k))/\Below w.heap.size w wr) (λi _=>(8+intOf i).toNat)
 case atStart=>exact ⟨0,by omega,by simp,by simpa [fnv] using bc.out,HB.out⟩
 case round =>
  obtain ⟨k,hk,rfl,F,G⟩:=hrel;by_cases hlt:k<8
  · have ce:(0:Int)<=56 - 8*(k:Int):=by omega
    have cj:56 - 8*(k:Int)<=64:=by omega
    have dc:decide (56 - 8*(k:Int)>=0)=true:=by simp;omega
    have cc:=Zfe d k;obtain ⟨h8,Z⟩:=Zcf d k hlt;have S:fnv Z2c ((Z1k d).take (k+1))=fnv (fnv Z2c ((Z1k d).take k)) [ZaD d k]:=by rw [zT (by omega),fnv_append,Z]
    have I:=bd.out _ wr (ZaD d k) F (Z6t _ _ Z4i) G;rw [<- S] at I;generalize ZaD d k=bb at *
    have cd:(8+(56 - 8*((k:Int)+1))).toNat<(8+(56 - 8*(k:Int))).toNat:=by omega
    have O:=zh I;have HS:=zh S;have N:=zh F;have L:=zh G;have H8:=zh h8;have HG:=zh Z;clear I S F G h8 Z;go_wp2_with fail;refine O.out.mono ?_;rintro e w2 ⟨rfl,bA,bv,_,_⟩;have b8:=zh bA;have bX:=zh bv;clear bA bv O HS N L;go_wp2_with fail;go_roundw
    case rel=>exact ⟨k+1,by omega,by go_num,b8.out,bX.out⟩
    case measure=>simp [intOf];omega
  · have b7:k=8:=by omega
    subst b7;have b0:(Z1k d).take 8=Z1k d++Z2E (l.take 0):=by simp [Z1k,Z2E]
    rw [b0] at F;have f:w.heap.size<wr.heap.size:=F.lt;have N:=zh F;have L:=zh G;clear F G;go_wp2_with fail;go_loopw [29] (λi wr=>∃ k:Nat,k<=l.length/\i=int i64 k/\DigB wr w.heap.size (fnv Z2c (Z1k d++Z2E (l.take k)))/\Below w.heap.size w wr) (λi _=>l.length - (intOf i).toNat)
    case atStart=>exact ⟨0,by omega,rfl,N.out,L.out⟩
    case round =>
     clear N L HB bc b4 f;obtain ⟨k,hk,rfl,F,G⟩:=hrel;by_cases hlt:k<l.length
     · obtain ⟨g,o,rfl,Z,bt⟩:=Z4j (HV.out.on G) (by intro e;rw [e] at hlt;simp at hlt);have ck:=bt k hlt;obtain ⟨r1,r2⟩:=HR.out _ (List.getElem_mem hlt);have S:=Z7b l k hlt;have bE:=ZgD l[k];have dl:decide ((k:Int)<(l.length:Int))=true:=by simpa using hlt
       have H:=Zna l[k] B wr r1 r2 (HT.out.on (G.mono bS));generalize bP:Lib.itoa l[k]=J at *
       generalize l[k]=z at *
       clear bP;have bB:=zh H;have HS:=zh S;have b2:=zh bE;have N:=zh F;have L:=zh G;clear H S bE F G bt;go_wp2_with fail;refine bB.out.mono ?_;rintro e D ⟨rfl,be⟩;have X:=N.out.on be;have ba:=Z00 L.out be;clear be bB N L;obtain ⟨s,f,hsx⟩:∃ s:ByteArray,s.size=J.length/\s=⟨J.toArray⟩:=⟨_,by simp [ByteArray.size],rfl⟩
       rw [<- hsx];have bq:∀ i (h:i<s.size) (h2:i<J.length),s[i]=J[i]:=by intro i h h2;subst hsx;rfl
       have bn:Hid (s.size=J.length):=f;clear hsx f;have bL:=X.lt;obtain ⟨M,U⟩:∃ M,M=fnv Z2c (Z1k d++Z2E (l.take k)):=⟨_,rfl⟩
       have bN:M<18446744073709551616:=by rw [U];exact Z6t _ _ Z4i
       have bG:fnv Z2c (Z1k d++Z2E (l.take (k+1)))=fnv (fnv M J) [32]:=by rw [HS.out,<- List.append_assoc,fnv_append,<- U,fnv_append]
       rw [<- U] at X;have bz:DigB (D.iter s 0) w.heap.size M:=(Below.heap_alloc D _ _ bL).trans X;have bJ:Below w.heap.size w (D.iter s 0):=ba.alloc (zl bL) _;have bO:=World.iter_heap D s 0;have bH:=zh bz;have bC:=zh bJ;have bs:=zh bq;have bM:=zh bO;have cb:=zh U;have bW:=zh bG;have b1:=zh X;have bT:=zh ba;clear bz bJ bq bO U bG X ba;go_wp2_with fail;go_loopw [] (λwq=>∃ C:Nat,C<=s.size/\wq.heap[D.heap.size]?=some (.stringIter s C)/\DigB wq w.heap.size (fnv M (J.take C))/\Below w.heap.size w wq) (λwq=>s.size - wq.iterPos D.heap.size)
       case atStart=>exact ⟨0,Nat.zero_le _,bM.out,by simpa [fnv] using bH.out,bC.out⟩
       case round =>
        clear bM bH bC b1 bT;obtain ⟨C,cg,H,R,T⟩:=hrel;have ch:D.heap.size<wr.heap.size:=(zs H)
        by_cases hp:C<s.size
        · have j:C<J.length:=by have:=bn.out;omega
          have ha:s[C].toNat<128:=by rw [bs.out C hp j];exact b2.out _ (List.getElem_mem j)
          have q:∀ ty,(Instr.next (.pointer (some ⟨D.heap.size,0,none⟩)) true ty).run prog wr=_:=λty=>Lib.run_next_ascii_at wr D.heap.size s C ty H hp ha;have bu:=Lib.iterAt_heap wr D.heap.size s C (C+1) H;have bh:DigB (wr.iterAt D.heap.size s (C+1)) w.heap.size (fnv M (J.take C)):=(Lib.iterAt_other _ _ _ _ _ (by omega)).trans R;have bk:=Lib.below_iterAt T (k:=D.heap.size) (by omega) s (C+1);have bf:fnv M (J.take (C+1))=fnv (fnv M (J.take C)) [s[C]]:=by rw [zT j,fnv_append,bs.out C hp j]
          have I:=bd.out _ (wr.iterAt D.heap.size s (C+1)) s[C] bh (Z6t _ _ bN) bk;rw [<- bf] at I;have b9:((s[C].toNat:Nat):Int) % 256=(s[C].toNat:Nat):=by omega
          have bV:(wr.iterAt D.heap.size s (C+1)).heap.size=wr.heap.size:=Lib.iterAt_size _ _ _ _;generalize s[C]=bb at *
          have O:=zh I;have b5:=zh bf;have m:=zh H;have bp:=zh R;have bK:=zh T;have bD:=zh bu;have bQ:=zh bh;have bR:=zh bk;clear I bf H R T bu bh bk ha;go_wp2_with fail;rw [<- bV];generalize bU:wr.iterAt D.heap.size s (C+1)=wi at *
          clear q bU;refine O.out.mono ?_;rintro e w5 ⟨rfl,V,Y,cf,r⟩;have br:=(r D.heap.size (by omega) (by omega)).trans bD.out;have bg:=zh V;have bj:=zh Y;have bI:=zh br;have ca:=zh r;clear V Y br r O b5 bQ bR bD;go_wp2_with fail;go_roundw
          case rel=>exact ⟨C+1,by omega,bI.out,bg.out,bj.out⟩
          case measure=>simp only [World.iterPos,bI.out,m.out];omega
        · have bZ:C=s.size:=by omega
          subst bZ;have q:∀ ty,(Instr.next (.pointer (some ⟨D.heap.size,0,none⟩)) true ty).run prog wr=_:=λty=>Lib.run_next_end_at wr D.heap.size s s.size ty H hp;rw [bn.out,List.take_length] at R;have I:=bd.out _ wr 32 R (Z6t _ _ bN) T;rw [<- bW.out] at I;have O:=zh I;have m:=zh H;have bp:=zh R;have bK:=zh T;clear I H R T;go_wp2_with fail;refine O.out.mono ?_;rintro e w5 ⟨rfl,V,Y,_,_⟩;have bg:=zh V;have bj:=zh Y;clear V Y O m bp bK q;go_wp2_with fail;go_roundw
          case rel =>refine ⟨_,_,_,_,_,_,_,_,_,_,_,_,_,_,_,_,_,_,_,_,_,?_,rfl⟩;exact ⟨k+1,by omega,by go_num,bg.out,bj.out⟩
          case measure=>simp [intOf];omega
     · have b3:k=l.length:=by omega
       subst b3;have dl:decide ((l.length:Int)<(l.length:Int))=false:=by simp
       rw [List.take_length,<- HE.out] at F;have N:=zh F;have L:=zh G;clear F G;go_wp2_with fail;refine (bY.out _ _ N.out).mono ?_;rintro e w5 ⟨rfl,rfl⟩;go_wp2_with fail;go_ret;exact ⟨rfl,L.out⟩
end
end Go.Proofs.YtnepkoepbapgeaaGreatDoor
