import Derived.Test.YtnepkoepbapgeaaGreatDoorPrtW5
import Derived.Deep.DeepCutAuto
import Derived.StillTailTactics
import Derived.Deep.DrawnRows
import Derived.Outline
namespace Go.Proofs.YtnepkoepbapgeaaGreatDoor
open Value (int slice)
open IntKind (i64)
set_option maxRecDepth 100000
open Go.RowKit Lx Px
def Zdy (b:Nat)(out:Bytes)(w:World)(e:Ending)(w':World):Prop:=e=.returned (.tuple #[])/\Wd b out w'/\Below b w w'/\Okp b w w'
def PutC (a:Int × Int)(l:Fo):Prop := ∀ (least:Int) (w:World) (v:Value) (B b:Nat) (txt:Bytes),Z05 a.1 a.2 (flen l)=true->okF l=true->FoV w B v l->B<=b->Tabs B w->Wd b txt w->0<=least->least<=7 -> (txt++brk (decide (Z04 a.1<least)) (textE a.1 a.2 l)).length<=140737488355328 -> Calls Tryz.prog 136 #[.pointer (some ⟨b,0,none⟩),.agg #[int i64 a.1,int i64 a.2,v],int i64 least] w (Zdy b (txt++brk (decide (Z04 a.1<least)) (textE a.1 a.2 l)) w)
theorem zform {B w':World}(hb:Below (B.alloc (.cells #[.string ⟨#[]⟩,slice none 0 0,.string ⟨#[]⟩,int i64 0,slice none 0 0] 234)).heap.size (B.alloc (.cells #[.string ⟨#[]⟩,slice none 0 0,.string ⟨#[]⟩,int i64 0,slice none 0 0] 234)).drew w') : w'.cell? ⟨B.heap.size,0,none⟩=some (.string ⟨#[]⟩)/\w'.cell? ⟨B.heap.size,1,none⟩=some (slice none 0 0)/\w'.cell? ⟨B.heap.size,2,none⟩=some (.string ⟨#[]⟩)/\w'.cell? ⟨B.heap.size,3,none⟩=some (int i64 0)/\w'.cell? ⟨B.heap.size,4,none⟩=some (slice none 0 0) /\ w'.frozen? ⟨B.heap.size,0,none⟩=false/\w'.frozen? ⟨B.heap.size,1,none⟩=false/\w'.frozen? ⟨B.heap.size,2,none⟩=false/\w'.frozen? ⟨B.heap.size,3,none⟩=false/\w'.frozen? ⟨B.heap.size,4,none⟩=false:=by
 have h:w'.heap[B.heap.size]?=some (.cells #[.string ⟨#[]⟩,slice none 0 0,.string ⟨#[]⟩,int i64 0,slice none 0 0] 234 (0,0)):=(hb.block B.heap.size (by simp)).trans (za B _);have f:=zO h;exact ⟨by rw [zc h];rfl,by rw [zc h];rfl,by rw [zc h];rfl,by rw [zc h];rfl,by rw [zc h];rfl,f 0,f 1,f 2,f 3,f 4⟩
theorem Z1t {b k:Nat}{l:Bytes}{w w':World}{cs:Array Value}{t:TypeId}{B:Nat × Nat}(F:Wd b l w)(h:Okp b w w')(hk:w.heap[k]?=some (.cells cs t B))(D:t≠5)(C:t≠189):w'.heap[k]?=some (.cells cs t B):=by
 refine Zji h hk (λe=>?_) D;subst e;rcases F with ⟨_,v,hb,_⟩ | ⟨_,v,hb,_⟩
 · rw [hb] at hk;injection hk with hk;injection hk with _ hk _;exact C hk.symm
 · rw [hb] at hk;injection hk with hk;injection hk with _ hk _;exact C hk.symm
theorem Zay.keep {w w':World}{op:Int}{F:Option Addr}{D C:Nat}(h:Zay w op F D C)(hk:∀ (k:Nat) (cs:Array Value) (t:TypeId),(t=9\/t=3)->w.heap[k]?=some (.cells cs t (0,0))->w'.heap[k]?=some (.cells cs t (0,0))):Zay w' op F D C:=by
 obtain ⟨B,I⟩:=h;refine ⟨?_,hk _ _ _ (.inr rfl) I⟩;rcases B with B | ⟨G,J,M,L,H⟩
 · exact .inl B
 · exact .inr ⟨G,J,M,L,hk _ _ _ (.inl rfl) H⟩
def PutG (b:Nat)(acc:Bytes)(w:World)(op n:Int)(kv:Value)(bf:Nat)(A1:Option Addr)(n1 c1 b2:Nat)(wx:World):Prop := wx.heap[bf]?=some (.cells #[.string (mk (beginOf op)),slice A1 n1 c1,.string (mk (endOf op)),int i64 (Z04 op),slice (some ⟨b2,0,none⟩) (Z0p op) (Z0p op)] 234 (0,0)) /\ wx.heap[w.heap.size]?=some (.cells #[int i64 op,int i64 n,kv] 63 (0,0)) /\ Zay wx op A1 n1 b2/\Wd b acc wx/\Below b w wx/\Okp b w wx
theorem PutG.write {b:Nat}{acc J:Bytes}{w:World}{op n:Int}{F:Value}{L:Nat}{I:Option Addr}{H c1 G:Nat}{C B:World}(h:PutG b acc w op n F L I H c1 G C)(T:Wd b J B)(hb:Below b C B)(hk:Okp b C B):PutG b J w op n F L I H c1 G B:=by
 obtain ⟨M,R,N,D,O,S⟩:=h;exact ⟨Z1t D hk M (by decide) (by decide),Z1t D hk R (by decide) (by decide),N.keep (λk cs t ht hc=>Z1t D hk hc (by rcases ht with rfl | rfl <;> decide) (by rcases ht with rfl | rfl <;> decide)),T,O.trans hb,Lib.OthersKept.trans S hk⟩
theorem Z4D {b:Nat}{w w':World}(h:Below w.heap.size w w'):Okp b w w':=λk _ hk _ _=>(h.block k (zs hk)).trans hk
theorem PutG.alloc {b:Nat}{acc:Bytes}{w:World}{op n:Int}{B:Value}{H:Nat}{G:Option Addr}{D c1 C:Nat}{F:World}(h:PutG b acc w op n B H G D c1 C F)(o:Obj):PutG b acc w op n B H G D c1 C (F.alloc o) := h.write (Zf8 h.2.2.2.1 o) (((zr _ _).alloc (zn _) _).mono (zl (Z6e h.2.2.2.1))) (Z4D ((zr _ _).alloc (zn _) _))
theorem PutG.drew {b:Nat}{acc:Bytes}{w:World}{op n:Int}{B:Value}{H:Nat}{G:Option Addr}{D c1 C:Nat}{F:World}(h:PutG b acc w op n B H G D c1 C F):PutG b acc w op n B H G D c1 C F.drew := ⟨h.1,h.2.1,h.2.2.1,h.2.2.2.1,h.2.2.2.2.1.drew,h.2.2.2.2.2⟩
def PutL (b:Nat)(w:World)(op n:Int)(l:Fo)(kv:Value)(bf:Nat)(A1:Option Addr)(n1 c1 b2:Nat)(fin:Bytes)(i:Value)(wr:World):Prop := ∃ (k:Nat) (acc:Bytes),k<=flen l/\i=int i64 k/\PutG b acc w op n kv bf A1 n1 c1 b2 wr/\acc++Z2e (Z1x l k) op k=fin
def PutF (b:Nat)(txt:Bytes)(w:World)(op n:Int)(kv:Value)(s6 s7:Value)(wx:World):Prop := ∃ (bf:Nat) (A1:Option Addr) (n1 c1 b2:Nat),s6=.pointer (some ⟨bf,0,none⟩)/\s7=.bool true/\PutG b txt w op n kv bf A1 n1 c1 b2 wx
theorem Zf9 {b:Nat}{txt:Bytes}{w D w':World}{op n:Int}{H:Value}{F:Option Addr}{C c1 B:Nat}(L:Wd b txt w)(I:D.heap[w.heap.size]?=some (.cells #[int i64 op,int i64 n,H] 63 (0,0))) (M:Below w.heap.size w D) (J:Below D.heap.size D w') (N:Zay w' op F C B) : PutF b txt w op n H (.pointer (some ⟨w'.heap.size,0,none⟩)) (.bool true) (w'.alloc (.cells #[.string (mk (beginOf op)),slice F C c1,.string (mk (endOf op)),int i64 (Z04 op),slice (some ⟨B,0,none⟩) (Z0p op) (Z0p op)] 234)):=by
 have hb:=Z00 M J;have G:=hb.alloc hb.size (.cells #[.string (mk (beginOf op)),slice F C c1,.string (mk (endOf op)),int i64 (Z04 op),slice (some ⟨B,0,none⟩) (Z0p op) (Z0p op)] 234);refine ⟨_,F,C,c1,B,rfl,rfl,za _ _,Z0A ((J.block _ (zs I)).trans I) _,N.keep (λk cs t _ hc=>Z0A hc _),Z3y L G,G.mono (zl (Z6e L)),Z4D G⟩
theorem Z36 {w:World}{g i:Nat}{cs:Array Value}{t:TypeId}{B:Nat × Nat}(h:w.heap[g]?=some (.cells cs t B))(v:Value):(w.setCell ⟨g,i,none⟩ v).heap[g]?=some (.cells (cs.setIfInBounds i v) t B):=by
 simp [World.setCell,zM,h]
theorem Z0r {w:World}{g i k:Nat}(hk:k≠g)(v:Value):(w.setCell ⟨g,i,none⟩ v).heap[k]?=w.heap[k]?:=zg _ _ _ _ hk
theorem Zn3 {b:Nat}{txt:Bytes}{w B w':World}{op n:Int}{M:Value}{G:Option Addr}{F c1 D:Nat}(N:Wd b txt w)(L:B.heap[w.heap.size]?=some (.cells #[int i64 op,int i64 n,M] 63 (0,0))) (C:Below w.heap.size w B) (H:Below (B.alloc (.cells #[.string ⟨#[]⟩,slice none 0 0,.string ⟨#[]⟩,int i64 0,slice none 0 0] 234)).heap.size (B.alloc (.cells #[.string ⟨#[]⟩,slice none 0 0,.string ⟨#[]⟩,int i64 0,slice none 0 0] 234)) w') (R:Zay w' op G F D) : PutF b txt w op n M (.pointer (some ⟨B.heap.size,0,none⟩)) (.bool true) (((((w'.setCell ⟨B.heap.size,0,none⟩ (.string (mk (beginOf op)))).setCell ⟨B.heap.size,1,none⟩ (slice G F c1)).setCell ⟨B.heap.size,2,none⟩ (.string (mk (endOf op)))).setCell ⟨B.heap.size,3,none⟩ (int i64 (Z04 op))).setCell ⟨B.heap.size,4,none⟩ (slice (some ⟨D,0,none⟩) (Z0p op) (Z0p op))):=by
 have O:w'.heap[B.heap.size]?=some (.cells #[.string ⟨#[]⟩,slice none 0 0,.string ⟨#[]⟩,int i64 0,slice none 0 0] 234 (0,0)):=(H.block B.heap.size (by simp)).trans (za B _);have S:=(zs L)
 have hb:Below w.heap.size w w':=Z00 (C.alloc (by have:=C.size;omega) _) H;have I:Below w.heap.size w (((((w'.setCell ⟨B.heap.size,0,none⟩ (.string (mk (beginOf op)))).setCell ⟨B.heap.size,1,none⟩ (slice G F c1)).setCell ⟨B.heap.size,2,none⟩ (.string (mk (endOf op)))).setCell ⟨B.heap.size,3,none⟩ (int i64 (Z04 op))).setCell ⟨B.heap.size,4,none⟩ (slice (some ⟨D,0,none⟩) (Z0p op) (Z0p op))) := ((((hb.setCell (p:=⟨B.heap.size,0,none⟩) C.size _).setCell (p:=⟨B.heap.size,1,none⟩) C.size _).setCell (p:=⟨B.heap.size,2,none⟩) C.size _).setCell (p:=⟨B.heap.size,3,none⟩) C.size _).setCell (p:=⟨B.heap.size,4,none⟩) C.size _;have J:∀ k,k≠B.heap.size->(((((w'.setCell ⟨B.heap.size,0,none⟩ (.string (mk (beginOf op)))).setCell ⟨B.heap.size,1,none⟩ (slice G F c1)).setCell ⟨B.heap.size,2,none⟩ (.string (mk (endOf op)))).setCell ⟨B.heap.size,3,none⟩ (int i64 (Z04 op))).setCell ⟨B.heap.size,4,none⟩ (slice (some ⟨D,0,none⟩) (Z0p op) (Z0p op))).heap[k]?=w'.heap[k]?:=by intro k hk;rw [Z0r hk,Z0r hk,Z0r hk,Z0r hk,Z0r hk]
 refine ⟨_,G,F,c1,D,rfl,rfl,?_,?_,R.keep (λk cs t ht hc=>?_),Z3y N I,I.mono (zl (Z6e N)),Z4D I⟩
 · rw [Z36 (Z36 (Z36 (Z36 (Z36 O _) _) _) _) _];rfl
 · rw [J _ (by omega)];exact (H.block _ (by simp;omega)).trans (Z0A L _)
 · rw [J _ (λe=>?_)]
   · exact hc
   · subst e;rw [O] at hc;injection hc with hc;injection hc with _ hc _;rcases ht with rfl | rfl <;> exact absurd hc (by decide)
namespace Px
theorem Zdz (op:Int):0<=Z04 op/\Z04 op<=7:=by
 unfold Z04;repeat' split
 all_goals omega
theorem Zaz (op:Int)(k:Nat):0<=Z07 op k/\(k<=1->Z07 op k<=7):=by
 unfold Z07;have:=Zdz op
 repeat' split
 all_goals omega
theorem Zn4 (op:Int)(k:Nat)(hk:k<Z0p op)(C:4<=op)(B:op<=15):(Z9x op)[k]?=some (Z07 op k):=by
 unfold Z9x Z0p at *
 by_cases h10:op=10
 · subst h10;simp at hk |-
   rcases (show k=0\/k=1\/k=2 by omega) with rfl | rfl | rfl <;> simp [Z07,Z04]
 · by_cases h15:op=15
   · subst h15;simp at hk |-;subst hk;simp [Z07,Z04]
   · simp [h10,h15] at hk |-
     rcases (show k=0\/k=1 by omega) with rfl | rfl <;> simp
theorem Zca (op:Int)(k:Nat)(hk:k<Z0p op)(D:4<=op)(C:op<=15):Z07 op k<=7:=by
 have B:=(Zaz op k).2;by_cases h10:op=10
 · subst h10;simp [Z07,Z04]
 · exact B (by unfold Z0p at hk;rw [zf h10] at hk;split at hk <;> omega)
theorem sep_at (op:Int)(k:Nat)(hk:k+1<Z0p op):(sepL op)[k]?=some (sepOf op (k+1)):=by
 unfold sepL Z0p at *
 by_cases h10:op=10
 · subst h10;simp at hk |-
   rcases (show k=0\/k=1 by omega) with rfl | rfl <;> simp
 · by_cases h15:op=15
   · subst h15;simp at hk
   · simp [h10,h15] at hk |-
     rcases (show k=0 by omega) with rfl;simp
end Px
theorem Z2n {w:World}{op:Int}{G:Option Addr}{F B k:Nat}(h:Zay w op G F B)(hk:k<Z0p op)(D:4<=op)(C:op<=15):w.cell? ⟨B,k,none⟩=some (int i64 (Px.Z07 op k)):=by
 rw [zc h.2];simp [Zn4 op k hk D C]
theorem Z6f {w:World}{op:Int}{D:Option Addr}{C G k:Nat}(h:Zay w op D C G)(hk:k+1<Z0p op):∃ B,D=some ⟨B,0,none⟩/\k<C/\w.cell? ⟨B,k,none⟩=some (.string (mk (sepOf op (k+1)))):=by
 rcases h.1 with ⟨F,_⟩ | ⟨B,F,e,I,H⟩
 · subst F;simp [Z0p] at hk
 · refine ⟨B,e,by omega,?_⟩;rw [zc H];simp [sep_at op k hk]
set_option maxHeartbeats 2000000 in
theorem Zfa (a:Int × Int)(l:Fo)(y:4<=a.1)(ih:∀ k,k<flen l->PutC (getF l k).1 (getF l k).2):PutC a l:=by
 intro bv w v B b txt bL bT hv hB bR bO bW ca bu;obtain ⟨A,c,rfl,hA⟩:=hv;obtain ⟨op,n⟩:=a;dsimp only at y bL bu |-
 obtain ⟨bj,bS,hk⟩:=Z8A bL y;have cb:=Z6e bO;have HW:=zh bO;have HA:=zh hA;have HI:=zh ih;have HT:=zh bR;have HK:=zh hk;have HN:=zh bS;have HO:=zh bT;clear bO hA ih bR hk bS bL bT;go_enter_defers Tryz.func136,Tryz.ntmps136;go_upto_region 1 with fail
 go_cut [6,7] from 12 (λs6 s7 wx=>PutF b txt w op n (slice A (flen l) c) s6 s7 wx)
 case first =>
  have x0:(w.alloc (.cells #[int i64 op,int i64 n,slice A (flen l) c] 63)).heap[w.heap.size]?=some (.cells #[int i64 op,int i64 n,slice A (flen l) c] 63 (0,0)):=za w _;have x1:Below w.heap.size w (w.alloc (.cells #[int i64 op,int i64 n,slice A (flen l) c] 63)):=(zr _ _).alloc (zn _) _;have x2:w.heap.size<(w.alloc (.cells #[int i64 op,int i64 n,slice A (flen l) c] 63)).heap.size:=by simp
  generalize w.alloc (.cells #[int i64 op,int i64 n,slice A (flen l) c] 63)=W1 at *
  have x3:W1.cell? ⟨w.heap.size,0,none⟩=some (int i64 op):=by rw [zc x0];rfl
  have x4:=World.new_ne W1 ⟨w.heap.size,0,none⟩ x3;have X0:=zh x0;clear x0;go_region_held3 (λw'=>w'.cell? ⟨w.heap.size,0,none⟩=some (int i64 op)) (first | with_reducible assumption | go_keep) (first | (go_at_call 180;refine (Zgv op _ y bj).mono ?_;rintro e w' ⟨r,A1,n1,c1,b2,rfl,bJ,b8,bN,hb⟩;have s0:w'.cell? ⟨w.heap.size,0,none⟩=some (int i64 op):=(hb.cell (p:=⟨w.heap.size,0,none⟩) (by simp;omega)).trans (by assumption);have s1:=World.new_ne w' ⟨w.heap.size,0,none⟩ s0;have bW:=bJ w' rfl;have cc:=λo=>bJ (w'.alloc o) (by rw [Lib.alloc_old _ _ _ b8]);have cd:=zh bJ;clear bJ;have b9:=hb.size;(first | (have R:=zform hb;obtain ⟨k0,k1,k2,k3,k4,j0,j1,j2,j3,j4⟩:=R) | skip);have HB:=zh hb;clear hb))
  all_goals (go_wp2_with fail)
  all_goals go_meet
  · exact Zf9 HW.out X0.out x1 (((zr _ _).drew).trans HB.out) bN
  · exact Zf9 HW.out X0.out x1 (((zr _ _).drew).trans HB.out) bN
  · exact Zn3 HW.out X0.out x1 (((zr _ _).drew).trans HB.out) bN
 case rest =>
  obtain ⟨Y,A1,n1,c1,b2,rfl,rfl,hG⟩:=hcut;have i1:(op==1)=false:=by simp;omega
  have i2:(op==2)=false:=by simp;omega
  have i3:(op==3)=false:=by simp;omega
  have f3:wc.cell? ⟨Y,3,none⟩=some (int i64 (Z04 op)):=by rw [zc hG.1];rfl
  have e0:wc.cell? ⟨w.heap.size,0,none⟩=some (int i64 op):=by rw [zc hG.2.1];rfl
  have G:=zh hG;clear hG;by_cases hbr:Z04 op<bv
  · have d1:decide (Z04 op<bv)=true:=by simpa using hbr
    have b7:txt.length+1+(beginOf op).length+(Z2e l op 0).length+(endOf op).length+1<=140737488355328:=by have:=bu;simp only [d1,brk,textE,body,zf (show ¬ op=1 by omega),zf (show ¬ op=2 by omega),zf (show ¬ op=3 by omega),zj,zw,zx,if_true] at this;omega
    clear bu;go_wp2_with fail;refine (Z3z b txt ⟨#[40]⟩ _ G.out.2.2.2.1 (by show txt.length+1<=_;omega)).mono ?_;rintro e w3 ⟨rfl,F,D,C⟩;have bK:=G.out.write F D C;rw [show bl ⟨#[40]⟩=[40] from rfl] at bK;have b0:w3.cell? ⟨w.heap.size,0,none⟩=some (int i64 op):=by rw [zc bK.2.1];rfl
    clear G F D C f3 e0;have G:=zh bK;clear bK;go_wp2_with fail;clear b0;have f0:w3.cell? ⟨Y,0,none⟩=some (.string (mk (beginOf op))):=by rw [zc G.out.1];rfl
    go_still_tail 5,(by kernel_rfl)
    change wpList _ _ _ _ _ w3.drew;have ba:=G.out.drew;clear f0 G;generalize w3.drew=w1 at *
    have V:=zh ba;clear ba;go_wp2_with fail;refine (Z3z b (txt++[40]) (mk (beginOf op)) _ V.out.2.2.2.1 (by rw [Z09];(try simp only [zj]);(try simp only [zw,zx]);omega)).mono ?_;rintro e w2 ⟨rfl,F,D,C⟩;have bd:=V.out.write F D C;rw [Z3m] at bd;have e2:w2.cell? ⟨w.heap.size,2,none⟩=some (slice A (flen l) c):=by rw [zc bd.2.1];rfl
    have bH:=zh bd;clear bd F D C V;have bZ:flen l<=3:=by rw [HK.out];unfold Z0p;split <;> (try split) <;> omega
    go_wp2_with fail;go_loopw [44] (λi wr=>PutL b w op n l (slice A (flen l) c) Y A1 n1 c1 b2 ((txt++[40])++beginOf op++Z2e l op 0) i wr) (λi _=>flen l - (intOf i).toNat)
    case atStart=>exact ⟨0,_,by omega,rfl,bH.out,by rw [Z1x]⟩
    case round =>
     clear e2 bH;obtain ⟨k,acc,bV,rfl,bE,bB⟩:=hrel;have G:=zh bE;have d:=zh bB;clear bE bB;by_cases hlt:k<flen l
     · have bI:∀ p:Addr,p.block<B->wr.cell? p=w.cell? p:=λp hp=>G.out.2.2.2.2.1.cell (by omega);obtain ⟨ad,I,c',rfl,bX,t0,t1,t2,t3⟩:=FoAt.get l A 0 k (FoAt.keep bI l A 0 HA.out) hlt;rw [Nat.zero_add] at t0 t1 t2;obtain ⟨bb,oo,hd⟩:=Z4y l k hlt;have bh:=HI.out k hlt;have be:=Zdx l k HO.out hlt;obtain ⟨⟨J,N⟩,H,bC⟩:∃ a' H,getF l k=(a',H):=⟨_,_,rfl⟩
       rw [bC] at t0 t1 t2 t3 hd bh be;dsimp only at t0 t1 t2 t3 hd bh be;have bp:Z2e (Z1x l k) op k=(if 0<k then sepOf op k else [])++brk (decide (Z04 J<Px.Z07 op k)) (textE J N H)++Z2e (Z1x l (k+1)) op (k+1):=by rw [hd];rfl
       have bA:=(Zaz op k).1;have bz:=Zca op k (by rw [<- HK.out];exact hlt) y bj;have g:acc.length+(if 0<k then sepOf op k else []).length+(brk (decide (Z04 J<Px.Z07 op k)) (textE J N H)).length<=140737488355328:=by have:=congrArg List.length d.out;rw [bp] at this;simp only [zj] at this;(try simp only [zw,zx] at this);omega
       have HR:=zh bh;have bc:=zh be;have HS:=zh bp;have T3:=zh t3;have bY:(ad.add (k*3)).block<wr.heap.size:=by have:=Z6e G.out.2.2.2.1;rw [Z1d];omega
       have gl:=Z2n G.out.2.2.1 (by rw [<- HK.out];exact hlt) y bj;clear bh be bp t3 hd bC bI;have bt:k<Z0p op:=by rw [<- HK.out];exact hlt
       clear gl;by_cases hk0:0<k
       · obtain ⟨bs,rfl,bU,_⟩:=Z6f (k:=k - 1) G.out.2.2.1 (by omega);go_wp2_with fail;have U:=G.out.alloc (.cells #[int i64 J,int i64 N,slice I (flen H) c'] 63);have S:=za wr (.cells #[int i64 J,int i64 N,slice I (flen H) c'] 63);generalize wr.alloc (.cells #[int i64 J,int i64 N,slice I (flen H) c'] 63)=L at *
         obtain ⟨q,R⟩:∃ q,q=wr.heap.size:=⟨_,rfl⟩
         rw [<- R] at S |-
         have HQ:=zh R;clear R;obtain ⟨bs',j,_,gs⟩:=Z6f (k:=k - 1) U.2.2.1 (by omega);rw [show k - 1+1=k from by omega] at gs;injection j with j
         injection j with j _ _
         subst j;have g1:L.cell? ⟨Y,1,none⟩=some (slice (some ⟨bs,0,none⟩) n1 c1):=by rw [zc U.1];rfl
         have HGa:=zh U;have X:=zh S;clear U S;have b1:(0:Int)<=(k:Int) - 1:=by omega
         have b3:(k:Int) - 1<(n1:Int):=by omega
         have b4:((k:Int) - 1).toNat=k - 1:=by omega
         have b5:IntKind.i64.wrap ((k:Int) - 1)=(k:Int) - 1:=zi _ (by omega);have b6:(1:Int)<=(k:Int):=by omega
         go_still_tail 9,(by kernel_rfl)
         change wpList _ _ _ _ _ L.drew;clear b1 b3 b4 b5 b6 g1 gs;have O:=HGa.out.drew;have bD:L.drew.heap[q]?=_:=X.out;clear HGa X;generalize L.drew=w5 at *
         have bg:=zh O;have bG:=zh bD;clear O bD;go_wp2_with fail;refine (Z3z b acc (mk (sepOf op k)) _ bg.out.2.2.2.1 (by rw [Z09];rw [zp hk0] at g;omega)).mono ?_;rintro e Z ⟨rfl,F,D,C⟩;have bn:=bg.out.write F D C;have bx:=Z1t bg.out.2.2.2.1 C bG.out (by decide) (by decide);rw [Z3m] at bn;have bF:=zh bn;have bm:=zh bx;clear bn bx F D C bg bG;go_wp2_with fail;have T:=bF.out;have m0:Z.cell? ⟨q,0,none⟩=some (int i64 J):=by rw [zc bm.out];rfl
         have m1:Z.cell? ⟨q,1,none⟩=some (int i64 N):=by rw [zc bm.out];rfl
         have m2:Z.cell? ⟨q,2,none⟩=some (slice I (flen H) c'):=by rw [zc bm.out];rfl
         have m4:Z.cell? ⟨Y,4,none⟩=some (slice (some ⟨b2,0,none⟩) (Z0p op) (Z0p op)):=by rw [zc T.1];rfl
         have ml:=Z2n T.2.2.1 bt y bj;clear T;have mi:(k:Int)<(Z0p op:Int):=by omega
         go_still_tail 7,(by kernel_rfl)
         change wpList _ _ _ _ _ Z.drew;clear mi m0 m1 m2 m4 ml;have O:=bF.out.drew;generalize Z.drew=w7 at *
         have M:=zh O;clear O;go_wp2_with fail;refine (HR.out (Px.Z07 op k) w7 (slice I (flen H) c') B b _ bc.out.1 bc.out.2 ⟨I,c',rfl,FoAt.keep (λp hp=>(M.out.2.2.2.2.1.cell (by omega)).trans (G.out.2.2.2.2.1.cell (by omega)).symm) H I 0 T3.out⟩ hB (HT.out.on (M.out.2.2.2.2.1.mono hB)) M.out.2.2.2.1 bA bz (by rw [zp hk0] at g;simpa [zj,Nat.add_assoc] using g)).mono ?_;rintro e w8 ⟨rfl,F,D,C⟩;have m:=M.out.write F D C;have bk:=zh m;clear m F D C M;go_wp2_with fail;go_roundw
         case rel=>exact ⟨k+1,_,by omega,by go_num,bk.out,by rw [<- d.out,HS.out,zp hk0];simp⟩
         case measure=>simp [intOf];omega
       · go_wp2_with fail;have U:=G.out.alloc (.cells #[int i64 J,int i64 N,slice I (flen H) c'] 63);have S:=za wr (.cells #[int i64 J,int i64 N,slice I (flen H) c'] 63);generalize wr.alloc (.cells #[int i64 J,int i64 N,slice I (flen H) c'] 63)=L at *
         obtain ⟨q,R⟩:∃ q,q=wr.heap.size:=⟨_,rfl⟩
         rw [<- R] at S |-
         have HQ:=zh R;have HGa:=zh U;have X:=zh S;clear U S R;have T:=HGa.out;have m0:L.cell? ⟨q,0,none⟩=some (int i64 J):=by rw [zc X.out];rfl
         have m1:L.cell? ⟨q,1,none⟩=some (int i64 N):=by rw [zc X.out];rfl
         have m2:L.cell? ⟨q,2,none⟩=some (slice I (flen H) c'):=by rw [zc X.out];rfl
         have m4:L.cell? ⟨Y,4,none⟩=some (slice (some ⟨b2,0,none⟩) (Z0p op) (Z0p op)):=by rw [zc T.1];rfl
         have ml:=Z2n T.2.2.1 bt y bj;clear T;have mi:(k:Int)<(Z0p op:Int):=by omega
         go_still_tail 7,(by kernel_rfl)
         change wpList _ _ _ _ _ L.drew;clear mi m0 m1 m2 m4 ml;have O:=HGa.out.drew;generalize L.drew=w7 at *
         have M:=zh O;clear O;go_wp2_with fail;refine (HR.out (Px.Z07 op k) w7 (slice I (flen H) c') B b _ bc.out.1 bc.out.2 ⟨I,c',rfl,FoAt.keep (λp hp=>(M.out.2.2.2.2.1.cell (by omega)).trans (G.out.2.2.2.2.1.cell (by omega)).symm) H I 0 T3.out⟩ hB (HT.out.on (M.out.2.2.2.2.1.mono hB)) M.out.2.2.2.1 bA bz (by rw [zf hk0] at g;simpa [zj] using g)).mono ?_;rintro e w8 ⟨rfl,F,D,C⟩;have m:=M.out.write F D C;have bk:=zh m;clear m F D C M;go_wp2_with fail;go_roundw
         case rel=>exact ⟨k+1,_,by omega,by go_num,bk.out,by rw [<- d.out,HS.out,zf hk0];simp⟩
         case measure=>simp [intOf];omega
     · have bP:Z1x l k=.nil:=Z3H l k (by omega);have hC:=d.out;rw [bP,Z2e,List.append_nil] at hC;subst hC;clear d;have g2:wr.cell? ⟨Y,2,none⟩=some (.string (mk (endOf op))):=by rw [zc G.out.1];rfl
       go_wp2_with fail;go_still_tail 5,(by kernel_rfl)
       change wpList _ _ _ _ _ wr.drew;have ba:=G.out.drew;clear g2 G;generalize wr.drew=w4 at *
       have V:=zh ba;clear ba;go_wp2_with fail;refine (Z3z b _ (mk (endOf op)) _ V.out.2.2.2.1 (by rw [Z09];(try simp only [zj]);(try simp only [zw,zx]);omega)).mono ?_;rintro e w5 ⟨rfl,F,D,C⟩;have bq:=V.out.write F D C;rw [Z3m] at bq;have br:=zh bq;clear bq F D C V;go_wp2_with fail;have bM:txt++brk (decide (Z04 op<bv)) (textE op n l)=txt++[40]++beginOf op++Z2e l op 0++endOf op++[41]:=by simp [d1,brk,textE,body,zf (show ¬ op=1 by omega),zf (show ¬ op=2 by omega),zf (show ¬ op=3 by omega)]
       rw [bM];refine leaves_cons (f:=137) (args:=#[.pointer (some ⟨b,0,none⟩),.string ⟨#[41]⟩]) (by simp) (by simp [go_sem]) ?_;refine (Zn1 b _ ⟨#[41]⟩ _ .returning br.out.2.2.2.1 (by show _+1<=_;simp only [zj,zw,zx];omega)).mono ?_;rintro e u' w9 ⟨rfl,rfl,F,D,C⟩;have bQ:=br.out.write F D C;exact ⟨_,results_none rfl _ _ _,rfl,bQ.2.2.2.1,bQ.2.2.2.2.1,bQ.2.2.2.2.2⟩
  · have d1:decide (Z04 op<bv)=false:=by simpa using hbr
    have b7:txt.length+(beginOf op).length+(Z2e l op 0).length+(endOf op).length<=140737488355328:=by have:=bu;simp only [d1,brk,textE,body,zf (show ¬ op=1 by omega),zf (show ¬ op=2 by omega),zf (show ¬ op=3 by omega),zj,Bool.false_eq_true,if_false] at this;omega
    clear bu;go_wp2_with fail;clear f3 e0;have f0:wc.cell? ⟨Y,0,none⟩=some (.string (mk (beginOf op))):=by rw [zc G.out.1];rfl
    go_still_tail 5,(by kernel_rfl)
    change wpList _ _ _ _ _ wc.drew;have ba:=G.out.drew;clear f0 G;generalize wc.drew=w1 at *
    have V:=zh ba;clear ba;go_wp2_with fail;refine (Z3z b txt (mk (beginOf op)) _ V.out.2.2.2.1 (by rw [Z09];(try simp only [zj]);(try simp only [zw,zx]);omega)).mono ?_;rintro e w2 ⟨rfl,F,D,C⟩;have bd:=V.out.write F D C;rw [Z3m] at bd;have e2:w2.cell? ⟨w.heap.size,2,none⟩=some (slice A (flen l) c):=by rw [zc bd.2.1];rfl
    have bH:=zh bd;clear bd F D C V;have bZ:flen l<=3:=by rw [HK.out];unfold Z0p;split <;> (try split) <;> omega
    go_wp2_with fail;go_loopw [44] (λi wr=>PutL b w op n l (slice A (flen l) c) Y A1 n1 c1 b2 (txt++beginOf op++Z2e l op 0) i wr) (λi _=>flen l - (intOf i).toNat)
    case atStart=>exact ⟨0,_,by omega,rfl,bH.out,by rw [Z1x]⟩
    case round =>
     clear e2 bH;obtain ⟨k,acc,bV,rfl,bE,bB⟩:=hrel;have G:=zh bE;have d:=zh bB;clear bE bB;by_cases hlt:k<flen l
     · have bI:∀ p:Addr,p.block<B->wr.cell? p=w.cell? p:=λp hp=>G.out.2.2.2.2.1.cell (by omega);obtain ⟨ad,I,c',rfl,bX,t0,t1,t2,t3⟩:=FoAt.get l A 0 k (FoAt.keep bI l A 0 HA.out) hlt;rw [Nat.zero_add] at t0 t1 t2;obtain ⟨bb,oo,hd⟩:=Z4y l k hlt;have bh:=HI.out k hlt;have be:=Zdx l k HO.out hlt;obtain ⟨⟨J,N⟩,H,bC⟩:∃ a' H,getF l k=(a',H):=⟨_,_,rfl⟩
       rw [bC] at t0 t1 t2 t3 hd bh be;dsimp only at t0 t1 t2 t3 hd bh be;have bp:Z2e (Z1x l k) op k=(if 0<k then sepOf op k else [])++brk (decide (Z04 J<Px.Z07 op k)) (textE J N H)++Z2e (Z1x l (k+1)) op (k+1):=by rw [hd];rfl
       have bA:=(Zaz op k).1;have bz:=Zca op k (by rw [<- HK.out];exact hlt) y bj;have g:acc.length+(if 0<k then sepOf op k else []).length+(brk (decide (Z04 J<Px.Z07 op k)) (textE J N H)).length<=140737488355328:=by have:=congrArg List.length d.out;rw [bp] at this;simp only [zj] at this;(try simp only [zw,zx] at this);omega
       have HR:=zh bh;have bc:=zh be;have HS:=zh bp;have T3:=zh t3;have bY:(ad.add (k*3)).block<wr.heap.size:=by have:=Z6e G.out.2.2.2.1;rw [Z1d];omega
       have gl:=Z2n G.out.2.2.1 (by rw [<- HK.out];exact hlt) y bj;clear bh be bp t3 hd bC bI;have bt:k<Z0p op:=by rw [<- HK.out];exact hlt
       clear gl;by_cases hk0:0<k
       · obtain ⟨bs,rfl,bU,_⟩:=Z6f (k:=k - 1) G.out.2.2.1 (by omega);go_wp2_with fail;have U:=G.out.alloc (.cells #[int i64 J,int i64 N,slice I (flen H) c'] 63);have S:=za wr (.cells #[int i64 J,int i64 N,slice I (flen H) c'] 63);generalize wr.alloc (.cells #[int i64 J,int i64 N,slice I (flen H) c'] 63)=L at *
         obtain ⟨q,R⟩:∃ q,q=wr.heap.size:=⟨_,rfl⟩
         rw [<- R] at S |-
         have HQ:=zh R;clear R;obtain ⟨bs',j,_,gs⟩:=Z6f (k:=k - 1) U.2.2.1 (by omega);rw [show k - 1+1=k from by omega] at gs;injection j with j
         injection j with j _ _
         subst j;have g1:L.cell? ⟨Y,1,none⟩=some (slice (some ⟨bs,0,none⟩) n1 c1):=by rw [zc U.1];rfl
         have HGa:=zh U;have X:=zh S;clear U S;have b1:(0:Int)<=(k:Int) - 1:=by omega
         have b3:(k:Int) - 1<(n1:Int):=by omega
         have b4:((k:Int) - 1).toNat=k - 1:=by omega
         have b5:IntKind.i64.wrap ((k:Int) - 1)=(k:Int) - 1:=zi _ (by omega);have b6:(1:Int)<=(k:Int):=by omega
         go_still_tail 9,(by kernel_rfl)
         change wpList _ _ _ _ _ L.drew;clear b1 b3 b4 b5 b6 g1 gs;have O:=HGa.out.drew;have bD:L.drew.heap[q]?=_:=X.out;clear HGa X;generalize L.drew=w5 at *
         have bg:=zh O;have bG:=zh bD;clear O bD;go_wp2_with fail;refine (Z3z b acc (mk (sepOf op k)) _ bg.out.2.2.2.1 (by rw [Z09];rw [zp hk0] at g;omega)).mono ?_;rintro e Z ⟨rfl,F,D,C⟩;have bn:=bg.out.write F D C;have bx:=Z1t bg.out.2.2.2.1 C bG.out (by decide) (by decide);rw [Z3m] at bn;have bF:=zh bn;have bm:=zh bx;clear bn bx F D C bg bG;go_wp2_with fail;have T:=bF.out;have m0:Z.cell? ⟨q,0,none⟩=some (int i64 J):=by rw [zc bm.out];rfl
         have m1:Z.cell? ⟨q,1,none⟩=some (int i64 N):=by rw [zc bm.out];rfl
         have m2:Z.cell? ⟨q,2,none⟩=some (slice I (flen H) c'):=by rw [zc bm.out];rfl
         have m4:Z.cell? ⟨Y,4,none⟩=some (slice (some ⟨b2,0,none⟩) (Z0p op) (Z0p op)):=by rw [zc T.1];rfl
         have ml:=Z2n T.2.2.1 bt y bj;clear T;have mi:(k:Int)<(Z0p op:Int):=by omega
         go_still_tail 7,(by kernel_rfl)
         change wpList _ _ _ _ _ Z.drew;clear mi m0 m1 m2 m4 ml;have O:=bF.out.drew;generalize Z.drew=w7 at *
         have M:=zh O;clear O;go_wp2_with fail;refine (HR.out (Px.Z07 op k) w7 (slice I (flen H) c') B b _ bc.out.1 bc.out.2 ⟨I,c',rfl,FoAt.keep (λp hp=>(M.out.2.2.2.2.1.cell (by omega)).trans (G.out.2.2.2.2.1.cell (by omega)).symm) H I 0 T3.out⟩ hB (HT.out.on (M.out.2.2.2.2.1.mono hB)) M.out.2.2.2.1 bA bz (by rw [zp hk0] at g;simpa [zj,Nat.add_assoc] using g)).mono ?_;rintro e w8 ⟨rfl,F,D,C⟩;have m:=M.out.write F D C;have bk:=zh m;clear m F D C M;go_wp2_with fail;go_roundw
         case rel=>exact ⟨k+1,_,by omega,by go_num,bk.out,by rw [<- d.out,HS.out,zp hk0];simp⟩
         case measure=>simp [intOf];omega
       · go_wp2_with fail;have U:=G.out.alloc (.cells #[int i64 J,int i64 N,slice I (flen H) c'] 63);have S:=za wr (.cells #[int i64 J,int i64 N,slice I (flen H) c'] 63);generalize wr.alloc (.cells #[int i64 J,int i64 N,slice I (flen H) c'] 63)=L at *
         obtain ⟨q,R⟩:∃ q,q=wr.heap.size:=⟨_,rfl⟩
         rw [<- R] at S |-
         have HQ:=zh R;have HGa:=zh U;have X:=zh S;clear U S R;have T:=HGa.out;have m0:L.cell? ⟨q,0,none⟩=some (int i64 J):=by rw [zc X.out];rfl
         have m1:L.cell? ⟨q,1,none⟩=some (int i64 N):=by rw [zc X.out];rfl
         have m2:L.cell? ⟨q,2,none⟩=some (slice I (flen H) c'):=by rw [zc X.out];rfl
         have m4:L.cell? ⟨Y,4,none⟩=some (slice (some ⟨b2,0,none⟩) (Z0p op) (Z0p op)):=by rw [zc T.1];rfl
         have ml:=Z2n T.2.2.1 bt y bj;clear T;have mi:(k:Int)<(Z0p op:Int):=by omega
         go_still_tail 7,(by kernel_rfl)
         change wpList _ _ _ _ _ L.drew;clear mi m0 m1 m2 m4 ml;have O:=HGa.out.drew;generalize L.drew=w7 at *
         have M:=zh O;clear O;go_wp2_with fail;refine (HR.out (Px.Z07 op k) w7 (slice I (flen H) c') B b _ bc.out.1 bc.out.2 ⟨I,c',rfl,FoAt.keep (λp hp=>(M.out.2.2.2.2.1.cell (by omega)).trans (G.out.2.2.2.2.1.cell (by omega)).symm) H I 0 T3.out⟩ hB (HT.out.on (M.out.2.2.2.2.1.mono hB)) M.out.2.2.2.1 bA bz (by rw [zf hk0] at g;simpa [zj] using g)).mono ?_;rintro e w8 ⟨rfl,F,D,C⟩;have m:=M.out.write F D C;have bk:=zh m;clear m F D C M;go_wp2_with fail;go_roundw
         case rel=>exact ⟨k+1,_,by omega,by go_num,bk.out,by rw [<- d.out,HS.out,zf hk0];simp⟩
         case measure=>simp [intOf];omega
     · have bP:Z1x l k=.nil:=Z3H l k (by omega);have hC:=d.out;rw [bP,Z2e,List.append_nil] at hC;subst hC;clear d;have g2:wr.cell? ⟨Y,2,none⟩=some (.string (mk (endOf op))):=by rw [zc G.out.1];rfl
       go_wp2_with fail;go_still_tail 5,(by kernel_rfl)
       change wpList _ _ _ _ _ wr.drew;have ba:=G.out.drew;clear g2 G;generalize wr.drew=w4 at *
       have V:=zh ba;clear ba;go_wp2_with fail;refine (Z3z b _ (mk (endOf op)) _ V.out.2.2.2.1 (by rw [Z09];(try simp only [zj]);(try simp only [zw,zx]);omega)).mono ?_;rintro e w5 ⟨rfl,F,D,C⟩;have bq:=V.out.write F D C;rw [Z3m] at bq;have br:=zh bq;clear bq F D C V;go_wp2_with fail;have bM:txt++brk (decide (Z04 op<bv)) (textE op n l)=txt++beginOf op++Z2e l op 0++endOf op:=by simp [d1,brk,textE,body,zf (show ¬ op=1 by omega),zf (show ¬ op=2 by omega),zf (show ¬ op=3 by omega)]
       rw [bM];exact ⟨_,results_none rfl _ _ _,rfl,br.out.2.2.2.1,br.out.2.2.2.2.1,br.out.2.2.2.2.2⟩
end Go.Proofs.YtnepkoepbapgeaaGreatDoor
