/-
  Walks: put of package printer, at an operator.
-/
import Derived.Test.YtnepkoepbapgeaaGreatDoorPrtW5
import Derived.Test.YtnepkoepbapgeaaGreatDoorPrtW4
import Derived.Deep.QuietTactic
import Derived.BigQuiet
import Derived.Deep.RegionHeld3
import Derived.Deep.DeepCutAuto
import Derived.StillTailTactics
import Derived.Deep.DrawnRows
import Derived.Outline
import Derived.IntWalk
namespace Go.Proofs.YtnepkoepbapgeaaGreatDoor
set_option maxRecDepth 100000
open Go.RowKit Lx Px
def Zcf (b:Nat)(out:Bytes)(w:World)(e:Ending)(w':World):Prop:=e=.returned (.tuple #[])∧Wd b out w'∧Below b w w'∧Okp b w w'
def PutC (a:Int × Int)(l:Fo):Prop :=
 ∀ (least:Int) (w:World) (v:Value) (B b:Nat) (txt:Bytes),Z05 a.1 a.2 (flen l)=true→okF l=true→FoV w B v l→B≤b→Tabs B w→Wd b txt w→0≤least→least≤7 →
  (txt++brk (decide (Z03 a.1<least)) (textE a.1 a.2 l)).length≤140737488355328 →
  Calls Tryz.prog 136 #[.pointer (some ⟨b,0,none⟩),.agg #[.int .i64 a.1,.int .i64 a.2,v],.int .i64 least] w (Zcf b (txt++brk (decide (Z03 a.1<least)) (textE a.1 a.2 l)) w)
theorem zform {W1 w':World}(hb:Below (W1.alloc (.cells #[.string ⟨#[]⟩,.slice none 0 0,.string ⟨#[]⟩,.int .i64 0,.slice none 0 0] 234)).heap.size (W1.alloc (.cells #[.string ⟨#[]⟩,.slice none 0 0,.string ⟨#[]⟩,.int .i64 0,.slice none 0 0] 234)).drew w') :
 w'.cell? ⟨W1.heap.size,0,none⟩=some (.string ⟨#[]⟩)∧w'.cell? ⟨W1.heap.size,1,none⟩=some (.slice none 0 0)∧w'.cell? ⟨W1.heap.size,2,none⟩=some (.string ⟨#[]⟩)∧w'.cell? ⟨W1.heap.size,3,none⟩=some (.int .i64 0)∧w'.cell? ⟨W1.heap.size,4,none⟩=some (.slice none 0 0) ∧
 w'.frozen? ⟨W1.heap.size,0,none⟩=false∧w'.frozen? ⟨W1.heap.size,1,none⟩=false∧w'.frozen? ⟨W1.heap.size,2,none⟩=false∧w'.frozen? ⟨W1.heap.size,3,none⟩=false∧w'.frozen? ⟨W1.heap.size,4,none⟩=false:=by
 have h:w'.heap[W1.heap.size]?=some (.cells #[.string ⟨#[]⟩,.slice none 0 0,.string ⟨#[]⟩,.int .i64 0,.slice none 0 0] 234 (0,0)):=(hb.block W1.heap.size (by simp)).trans (za W1 _)
 have f:=Lib.frozen_of_heap h
 exact ⟨by rw [zc h];rfl,by rw [zc h];rfl,by rw [zc h];rfl,by rw [zc h];rfl,by rw [zc h];rfl,f 0,f 1,f 2,f 3,f 4⟩
theorem Z1c {b k:Nat}{l:Bytes}{w w':World}{cs:Array Value}{t:TypeId}{fz:Nat × Nat}(hW:Wd b l w)(h:Okp b w w')(hk:w.heap[k]?=some (.cells cs t fz))(h5:t≠5)(hT:t≠189):w'.heap[k]?=some (.cells cs t fz):=by
 refine Zh7 h hk (fun e=>?_) h5
 subst e;rcases hW with ⟨_,v,hb,_⟩ | ⟨_,v,hb,_⟩
 · rw [hb] at hk;injection hk with hk;injection hk with _ hk _;exact hT hk.symm
 · rw [hb] at hk;injection hk with hk;injection hk with _ hk _;exact hT hk.symm
theorem Z9x.keep {w w':World}{op:Int}{A1:Option Addr}{n1 b2:Nat}(h:Z9x w op A1 n1 b2)(hk:∀ (k:Nat) (cs:Array Value) (t:TypeId),(t=9∨t=3)→w.heap[k]?=some (.cells cs t (0,0))→w'.heap[k]?=some (.cells cs t (0,0))):Z9x w' op A1 n1 b2:=by
 obtain ⟨h1,h2⟩:=h
 refine ⟨?_,hk _ _ _ (.inr rfl) h2⟩
 rcases h1 with h1 | ⟨bs,e1,e2,e3,e4⟩
 · exact .inl h1
 · exact .inr ⟨bs,e1,e2,e3,hk _ _ _ (.inl rfl) e4⟩
def PutG (b:Nat)(acc:Bytes)(w:World)(op n:Int)(kv:Value)(bf:Nat)(A1:Option Addr)(n1 c1 b2:Nat)(wx:World):Prop :=
 wx.heap[bf]?=some (.cells #[.string (mk (Z0y op)),.slice A1 n1 c1,.string (mk (Z3g op)),.int .i64 (Z03 op),.slice (some ⟨b2,0,none⟩) (Z0h op) (Z0h op)] 234 (0,0)) ∧
  wx.heap[w.heap.size]?=some (.cells #[.int .i64 op,.int .i64 n,kv] 63 (0,0)) ∧
  Z9x wx op A1 n1 b2∧Wd b acc wx∧Below b w wx∧Okp b w wx
theorem PutG.write {b:Nat}{acc acc2:Bytes}{w:World}{op n:Int}{kv:Value}{bf:Nat}{A1:Option Addr}{n1 c1 b2:Nat}{wx wy:World}(h:PutG b acc w op n kv bf A1 n1 c1 b2 wx)(hW:Wd b acc2 wy)(hb:Below b wx wy)(hk:Okp b wx wy):PutG b acc2 w op n kv bf A1 n1 c1 b2 wy:=by
 obtain ⟨h1,h2,h3,h4,h5,h6⟩:=h
 exact ⟨Z1c h4 hk h1 (by decide) (by decide),Z1c h4 hk h2 (by decide) (by decide),h3.keep (fun k cs t ht hc=>Z1c h4 hk hc (by rcases ht with rfl | rfl <;> decide) (by rcases ht with rfl | rfl <;> decide)),hW,h5.trans hb,Lib.OthersKept.trans h6 hk⟩
theorem Z43 {b:Nat}{w w':World}(h:Below w.heap.size w w'):Okp b w w':=fun k _ hk _ _=>(h.block k (zs hk)).trans hk
theorem PutG.alloc {b:Nat}{acc:Bytes}{w:World}{op n:Int}{kv:Value}{bf:Nat}{A1:Option Addr}{n1 c1 b2:Nat}{wx:World}(h:PutG b acc w op n kv bf A1 n1 c1 b2 wx)(o:Obj):PutG b acc w op n kv bf A1 n1 c1 b2 (wx.alloc o) :=
 h.write (Zdn h.2.2.2.1 o) (((Below.refl _ _).alloc (zn _) _).mono (Nat.le_of_lt (Z5p h.2.2.2.1))) (Z43 ((Below.refl _ _).alloc (zn _) _))
theorem PutG.drew {b:Nat}{acc:Bytes}{w:World}{op n:Int}{kv:Value}{bf:Nat}{A1:Option Addr}{n1 c1 b2:Nat}{wx:World}(h:PutG b acc w op n kv bf A1 n1 c1 b2 wx):PutG b acc w op n kv bf A1 n1 c1 b2 wx.drew :=
 ⟨h.1,h.2.1,h.2.2.1,h.2.2.2.1,h.2.2.2.2.1.drew,h.2.2.2.2.2⟩
def PutL (b:Nat)(w:World)(op n:Int)(l:Fo)(kv:Value)(bf:Nat)(A1:Option Addr)(n1 c1 b2:Nat)(fin:Bytes)(i:Value)(wr:World):Prop :=
 ∃ (k:Nat) (acc:Bytes),k≤flen l∧i=.int .i64 k∧PutG b acc w op n kv bf A1 n1 c1 b2 wr∧acc++Z30 (Z29 l k) op k=fin
def PutF (b:Nat)(txt:Bytes)(w:World)(op n:Int)(kv:Value)(s6 s7:Value)(wx:World):Prop :=
 ∃ (bf:Nat) (A1:Option Addr) (n1 c1 b2:Nat),s6=.pointer (some ⟨bf,0,none⟩)∧s7=.bool true∧PutG b txt w op n kv bf A1 n1 c1 b2 wx
theorem Zdp {b:Nat}{txt:Bytes}{w W1 w':World}{op n:Int}{kv:Value}{A1:Option Addr}{n1 c1 b2:Nat}(hW:Wd b txt w)(hx:W1.heap[w.heap.size]?=some (.cells #[.int .i64 op,.int .i64 n,kv] 63 (0,0)))
 (h1:Below w.heap.size w W1) (h2:Below W1.heap.size W1 w') (hF:Z9x w' op A1 n1 b2) :
 PutF b txt w op n kv (.pointer (some ⟨w'.heap.size,0,none⟩)) (.bool true) (w'.alloc (.cells #[.string (mk (Z0y op)),.slice A1 n1 c1,.string (mk (Z3g op)),.int .i64 (Z03 op),.slice (some ⟨b2,0,none⟩) (Z0h op) (Z0h op)] 234)):=by
 have hb:=Z00 h1 h2
 have hb2:=hb.alloc hb.size (.cells #[.string (mk (Z0y op)),.slice A1 n1 c1,.string (mk (Z3g op)),.int .i64 (Z03 op),.slice (some ⟨b2,0,none⟩) (Z0h op) (Z0h op)] 234)
 refine ⟨_,A1,n1,c1,b2,rfl,rfl,za _ _,Z0z ((h2.block _ (zs hx)).trans hx) _,hF.keep (fun k cs t _ hc=>Z0z hc _),Z34 hW hb2,hb2.mono (Nat.le_of_lt (Z5p hW)),Z43 hb2⟩
theorem Z2r {w:World}{g i:Nat}{cs:Array Value}{t:TypeId}{fz:Nat × Nat}(h:w.heap[g]?=some (.cells cs t fz))(v:Value):(w.setCell ⟨g,i,none⟩ v).heap[g]?=some (.cells (cs.setIfInBounds i v) t fz):=by
 simp [World.setCell,Array.getElem?_modify,h]
theorem Z0i {w:World}{g i k:Nat}(hk:k≠g)(v:Value):(w.setCell ⟨g,i,none⟩ v).heap[k]?=w.heap[k]?:=Below.heap_setCell _ _ _ _ hk
theorem ZjD {b:Nat}{txt:Bytes}{w W1 w':World}{op n:Int}{kv:Value}{A1:Option Addr}{n1 c1 b2:Nat}(hW:Wd b txt w)(hx:W1.heap[w.heap.size]?=some (.cells #[.int .i64 op,.int .i64 n,kv] 63 (0,0)))
 (h1:Below w.heap.size w W1) (h2:Below (W1.alloc (.cells #[.string ⟨#[]⟩,.slice none 0 0,.string ⟨#[]⟩,.int .i64 0,.slice none 0 0] 234)).heap.size (W1.alloc (.cells #[.string ⟨#[]⟩,.slice none 0 0,.string ⟨#[]⟩,.int .i64 0,.slice none 0 0] 234)) w') (hF:Z9x w' op A1 n1 b2) :
 PutF b txt w op n kv (.pointer (some ⟨W1.heap.size,0,none⟩)) (.bool true) (((((w'.setCell ⟨W1.heap.size,0,none⟩ (.string (mk (Z0y op)))).setCell ⟨W1.heap.size,1,none⟩ (.slice A1 n1 c1)).setCell ⟨W1.heap.size,2,none⟩ (.string (mk (Z3g op)))).setCell ⟨W1.heap.size,3,none⟩ (.int .i64 (Z03 op))).setCell ⟨W1.heap.size,4,none⟩ (.slice (some ⟨b2,0,none⟩) (Z0h op) (Z0h op))):=by
 have hz:w'.heap[W1.heap.size]?=some (.cells #[.string ⟨#[]⟩,.slice none 0 0,.string ⟨#[]⟩,.int .i64 0,.slice none 0 0] 234 (0,0)):=(h2.block W1.heap.size (by simp)).trans (za W1 _)
 have hlt:=(zs hx)
 have hb:Below w.heap.size w w':=Z00 (h1.alloc (by have:=h1.size;omega) _) h2
 have hb2:Below w.heap.size w (((((w'.setCell ⟨W1.heap.size,0,none⟩ (.string (mk (Z0y op)))).setCell ⟨W1.heap.size,1,none⟩ (.slice A1 n1 c1)).setCell ⟨W1.heap.size,2,none⟩ (.string (mk (Z3g op)))).setCell ⟨W1.heap.size,3,none⟩ (.int .i64 (Z03 op))).setCell ⟨W1.heap.size,4,none⟩ (.slice (some ⟨b2,0,none⟩) (Z0h op) (Z0h op))) :=
  ((((hb.setCell (p:=⟨W1.heap.size,0,none⟩) h1.size _).setCell (p:=⟨W1.heap.size,1,none⟩) h1.size _).setCell (p:=⟨W1.heap.size,2,none⟩) h1.size _).setCell (p:=⟨W1.heap.size,3,none⟩) h1.size _).setCell (p:=⟨W1.heap.size,4,none⟩) h1.size _
 have hother:∀ k,k≠W1.heap.size→(((((w'.setCell ⟨W1.heap.size,0,none⟩ (.string (mk (Z0y op)))).setCell ⟨W1.heap.size,1,none⟩ (.slice A1 n1 c1)).setCell ⟨W1.heap.size,2,none⟩ (.string (mk (Z3g op)))).setCell ⟨W1.heap.size,3,none⟩ (.int .i64 (Z03 op))).setCell ⟨W1.heap.size,4,none⟩ (.slice (some ⟨b2,0,none⟩) (Z0h op) (Z0h op))).heap[k]?=w'.heap[k]?:=by
  intro k hk
  rw [Z0i hk,Z0i hk,Z0i hk,Z0i hk,Z0i hk]
 refine ⟨_,A1,n1,c1,b2,rfl,rfl,?_,?_,hF.keep (fun k cs t ht hc=>?_),Z34 hW hb2,hb2.mono (Nat.le_of_lt (Z5p hW)),Z43 hb2⟩
 · rw [Z2r (Z2r (Z2r (Z2r (Z2r hz _) _) _) _) _];rfl
 · rw [hother _ (by omega)]
   exact (h2.block _ (by simp;omega)).trans (Z0z hx _)
 · rw [hother _ (fun e=>?_)]
   · exact hc
   · subst e;rw [hz] at hc;injection hc with hc;injection hc with _ hc _;rcases ht with rfl | rfl <;> exact absurd hc (by decide)
namespace Px
theorem Zhb (op:Int):0≤Z03 op∧Z03 op≤7:=by
 unfold Z03;repeat' split
 all_goals omega
theorem Z9y (op:Int)(k:Nat):0≤Z08 op k∧(k≤1→Z08 op k≤7):=by
 unfold Z08
 have:=Zhb op
 repeat' split
 all_goals omega
theorem ZjE (op:Int)(k:Nat)(hk:k<Z0h op)(ho:4≤op)(ho2:op≤15):(Z8w op)[k]?=some (Z08 op k):=by
 unfold Z8w Z0h at *
 by_cases h10:op=10
 · subst h10;simp at hk ⊢
   rcases (show k=0∨k=1∨k=2 by omega) with rfl | rfl | rfl <;> simp [Z08,Z03]
 · by_cases h15:op=15
   · subst h15;simp at hk ⊢;subst hk;simp [Z08,Z03]
   · simp [h10,h15] at hk ⊢
     rcases (show k=0∨k=1 by omega) with rfl | rfl <;> simp
theorem Zb3 (op:Int)(k:Nat)(hk:k<Z0h op)(ho:4≤op)(ho2:op≤15):Z08 op k≤7:=by
 have h1:=(Z9y op k).2
 by_cases h10:op=10
 · subst h10;simp [Z08,Z03]
 · exact h1 (by unfold Z0h at hk;rw [if_neg h10] at hk;split at hk <;> omega)
theorem sep_at (op:Int)(k:Nat)(hk:k+1<Z0h op):(sepL op)[k]?=some (Z53 op (k+1)):=by
 unfold sepL Z0h at *
 by_cases h10:op=10
 · subst h10;simp at hk ⊢
   rcases (show k=0∨k=1 by omega) with rfl | rfl <;> simp
 · by_cases h15:op=15
   · subst h15;simp at hk
   · simp [h10,h15] at hk ⊢
     rcases (show k=0 by omega) with rfl;simp
end Px
theorem Z1H {w:World}{op:Int}{A1:Option Addr}{n1 b2 k:Nat}(h:Z9x w op A1 n1 b2)(hk:k<Z0h op)(ho:4≤op)(ho2:op≤15):w.cell? ⟨b2,k,none⟩=some (.int .i64 (Px.Z08 op k)):=by
 rw [zc h.2]
 simp [ZjE op k hk ho ho2]
theorem Z5q {w:World}{op:Int}{A1:Option Addr}{n1 b2 k:Nat}(h:Z9x w op A1 n1 b2)(hk:k+1<Z0h op):∃ bs,A1=some ⟨bs,0,none⟩∧k<n1∧w.cell? ⟨bs,k,none⟩=some (.string (mk (Z53 op (k+1)))):=by
 rcases h.1 with ⟨h15,_⟩ | ⟨bs,h15,e,e2,e3⟩
 · subst h15;simp [Z0h] at hk
 · refine ⟨bs,e,by omega,?_⟩
   rw [zc e3]
   simp [sep_at op k hk]
set_option maxHeartbeats 2000000 in
theorem Zdq (a:Int × Int)(l:Fo)(ho:4≤a.1)(ih:∀ k,k<flen l→PutC (getF l k).1 (getF l k).2):PutC a l:=by
 intro least w v B b txt hform hokl hv hB htab hwd hl0 hl7 hlen
 obtain ⟨A,c,rfl,hA⟩:=hv
 obtain ⟨op,n⟩:=a
 dsimp only at ho hform hlen ⊢
 obtain ⟨ho2,hn0,hk⟩:=Zce hform ho
 have hbl:=Z5p hwd;have HW:=zh hwd;have HA:=zh hA;have HI:=zh ih;have HT:=zh htab;have HK:=zh hk;have HN:=zh hn0;have HO:=zh hokl;clear hwd hA ih htab hk hn0 hform hokl;go_enter_defers Tryz.func136,Tryz.ntmps136
 go_upto_region 1 with fail
 go_cut [6,7] from 12 (fun s6 s7 wx=>PutF b txt w op n (.slice A (flen l) c) s6 s7 wx)
 case first =>
  have x0:(w.alloc (.cells #[.int .i64 op,.int .i64 n,.slice A (flen l) c] 63)).heap[w.heap.size]?=some (.cells #[.int .i64 op,.int .i64 n,.slice A (flen l) c] 63 (0,0)):=za w _
  have x1:Below w.heap.size w (w.alloc (.cells #[.int .i64 op,.int .i64 n,.slice A (flen l) c] 63)):=(Below.refl _ _).alloc (zn _) _
  have x2:w.heap.size<(w.alloc (.cells #[.int .i64 op,.int .i64 n,.slice A (flen l) c] 63)).heap.size:=by simp
  generalize w.alloc (.cells #[.int .i64 op,.int .i64 n,.slice A (flen l) c] 63)=W1 at *
  have x3:W1.cell? ⟨w.heap.size,0,none⟩=some (.int .i64 op):=by rw [zc x0];rfl
  have x4:=World.new_ne W1 ⟨w.heap.size,0,none⟩ x3
  have X0:=zh x0;clear x0;go_region_held3 (fun w'=>w'.cell? ⟨w.heap.size,0,none⟩=some (.int .i64 op)) (first | with_reducible assumption | go_keep)
   (first | (go_at_call 180;refine (Zew op _ ho ho2).mono ?_;rintro e w' ⟨r,A1,n1,c1,b2,rfl,hlk,hrl,hFK,hb⟩;have s0:w'.cell? ⟨w.heap.size,0,none⟩=some (.int .i64 op):=(hb.cell (p:=⟨w.heap.size,0,none⟩) (by simp;omega)).trans (by assumption);have s1:=World.new_ne w' ⟨w.heap.size,0,none⟩ s0;have hl0:=hlk w' rfl;have hl1:=fun o=>hlk (w'.alloc o) (by rw [Lib.alloc_old _ _ _ hrl]);have HLK:=zh hlk;clear hlk;have hsz:=hb.size;(first | (have hq:=zform hb;obtain ⟨k0,k1,k2,k3,k4,j0,j1,j2,j3,j4⟩:=hq) | skip);have HB:=zh hb;clear hb))
  all_goals (go_wp2_with fail)
  all_goals go_meet
  · exact Zdp HW.out X0.out x1 (((Below.refl _ _).drew).trans HB.out) hFK
  · exact Zdp HW.out X0.out x1 (((Below.refl _ _).drew).trans HB.out) hFK
  · exact ZjD HW.out X0.out x1 (((Below.refl _ _).drew).trans HB.out) hFK
 case rest =>
  obtain ⟨bf,A1,n1,c1,b2,rfl,rfl,hG⟩:=hcut
  have i1:(op==1)=false:=by simp;omega
  have i2:(op==2)=false:=by simp;omega
  have i3:(op==3)=false:=by simp;omega
  have f3:wc.cell? ⟨bf,3,none⟩=some (.int .i64 (Z03 op)):=by rw [zc hG.1];rfl
  have e0:wc.cell? ⟨w.heap.size,0,none⟩=some (.int .i64 op):=by rw [zc hG.2.1];rfl
  have HG:=zh hG;clear hG;by_cases hbr:Z03 op<least
  · have d1:decide (Z03 op<least)=true:=by simpa using hbr
    have hlen2:txt.length+1+(Z0y op).length+(Z30 l op 0).length+(Z3g op).length+1≤140737488355328:=by
     have:=hlen;simp only [d1,brk,textE,body,if_neg (show ¬ op=1 by omega),if_neg (show ¬ op=2 by omega),if_neg (show ¬ op=3 by omega),List.length_append,List.length_cons,List.length_nil,if_true] at this;omega
    clear hlen;go_wp2_with fail;refine (Z35 b txt ⟨#[40]⟩ _ HG.out.2.2.2.1 (by show txt.length+1≤_;omega)).mono ?_
    rintro e w3 ⟨rfl,y1,y2,y3⟩;have hG3:=HG.out.write y1 y2 y3
    rw [show bl ⟨#[40]⟩=[40] from rfl] at hG3
    have e0':w3.cell? ⟨w.heap.size,0,none⟩=some (.int .i64 op):=by rw [zc hG3.2.1];rfl
    clear HG y1 y2 y3 f3 e0;have HG:=zh hG3;clear hG3;go_wp2_with fail;clear e0';have f0:w3.cell? ⟨bf,0,none⟩=some (.string (mk (Z0y op))):=by rw [zc HG.out.1];rfl
    go_still_tail 5,(by kernel_rfl)
    change wpList _ _ _ _ _ w3.drew
    have hG1:=HG.out.drew
    clear f0 HG;generalize w3.drew=w1 at *
    have HG1:=zh hG1;clear hG1;go_wp2_with fail;refine (Z35 b (txt++[40]) (mk (Z0y op)) _ HG1.out.2.2.2.1 (by rw [Z0D];(try simp only [List.length_append]);(try simp only [List.length_cons,List.length_nil]);omega)).mono ?_
    rintro e w2 ⟨rfl,y1,y2,y3⟩;have hG2:=HG1.out.write y1 y2 y3
    rw [Z52] at hG2
    have e2:w2.cell? ⟨w.heap.size,2,none⟩=some (.slice A (flen l) c):=by rw [zc hG2.2.1];rfl
    have HG2:=zh hG2;clear hG2 y1 y2 y3 HG1;have hkm:flen l≤3:=by rw [HK.out];unfold Z0h;split <;> (try split) <;> omega
    go_wp2_with fail;go_loopw [44] (fun i wr=>PutL b w op n l (.slice A (flen l) c) bf A1 n1 c1 b2 ((txt++[40])++Z0y op++Z30 l op 0) i wr) (fun i _=>flen l - (intOf i).toNat)
    case atStart=>exact ⟨0,_,by omega,rfl,HG2.out,by rw [Z29]⟩
    case round =>
     clear e2 HG2;obtain ⟨k,acc,hkl,rfl,hGr,hacc⟩:=hrel
     have HG:=zh hGr;have HC:=zh hacc;clear hGr hacc;by_cases hlt:k<flen l
     · have hkeep:∀ p:Addr,p.block<B→wr.cell? p=w.cell? p:=fun p hp=>HG.out.2.2.2.2.1.cell (by omega)
       obtain ⟨ad,A',c',rfl,hlo,t0,t1,t2,t3⟩:=FoAt.get l A 0 k (FoAt.keep hkeep l A 0 HA.out) hlt
       rw [Nat.zero_add] at t0 t1 t2
       obtain ⟨bb,oo,hd⟩:=Z5i l k hlt
       have hrec:=HI.out k hlt
       have hok:=Zh9 l k HO.out hlt
       obtain ⟨⟨op',n'⟩,l',hel⟩:∃ a' l',getF l k=(a',l'):=⟨_,_,rfl⟩
       rw [hel] at t0 t1 t2 t3 hd hrec hok
       dsimp only at t0 t1 t2 t3 hd hrec hok
       have hstep:Z30 (Z29 l k) op k=(if 0<k then Z53 op k else [])++brk (decide (Z03 op'<Px.Z08 op k)) (textE op' n' l')++Z30 (Z29 l (k+1)) op (k+1):=by rw [hd];rfl
       have hls:=(Z9y op k).1
       have hls7:=Zb3 op k (by rw [← HK.out];exact hlt) ho ho2
       have hlens:acc.length+(if 0<k then Z53 op k else []).length+(brk (decide (Z03 op'<Px.Z08 op k)) (textE op' n' l')).length≤140737488355328:=by
        have:=congrArg List.length HC.out;rw [hstep] at this;simp only [List.length_append] at this;(try simp only [List.length_cons,List.length_nil] at this);omega
       have HR:=zh hrec;have HOK:=zh hok;have HS:=zh hstep;have T3:=zh t3;have hb2:(ad.add (k*3)).block<wr.heap.size:=by have:=Z5p HG.out.2.2.2.1;rw [Z19];omega
       have gl:=Z1H HG.out.2.2.1 (by rw [← HK.out];exact hlt) ho ho2
       clear hrec hok hstep t3 hd hel hkeep;have har:k<Z0h op:=by rw [← HK.out];exact hlt
       clear gl;by_cases hk0:0<k
       · obtain ⟨bs,rfl,hn1,_⟩:=Z5q (k:=k - 1) HG.out.2.2.1 (by omega)
         go_wp2_with fail;have hGa:=HG.out.alloc (.cells #[.int .i64 op',.int .i64 n',.slice A' (flen l') c'] 63)
         have hXa:=za wr (.cells #[.int .i64 op',.int .i64 n',.slice A' (flen l') c'] 63)
         generalize wr.alloc (.cells #[.int .i64 op',.int .i64 n',.slice A' (flen l') c'] 63)=wk at *
         obtain ⟨q,hq⟩:∃ q,q=wr.heap.size:=⟨_,rfl⟩
         rw [← hq] at hXa ⊢
         have HQ:=zh hq;clear hq;obtain ⟨bs',hbs,_,gs⟩:=Z5q (k:=k - 1) hGa.2.2.1 (by omega)
         rw [show k - 1+1=k from by omega] at gs
         injection hbs with hbs
         injection hbs with hbs _ _
         subst hbs;have g1:wk.cell? ⟨bf,1,none⟩=some (.slice (some ⟨bs,0,none⟩) n1 c1):=by rw [zc hGa.1];rfl
         have HGa:=zh hGa;have HXa:=zh hXa;clear hGa hXa;have b1:(0:Int)≤(k:Int) - 1:=by omega
         have b3:(k:Int) - 1<(n1:Int):=by omega
         have b4:((k:Int) - 1).toNat=k - 1:=by omega
         have b5:IntKind.i64.wrap ((k:Int) - 1)=(k:Int) - 1:=IntWalk.i64_in _ (by omega)
         have b6:(1:Int)≤(k:Int):=by omega
         go_still_tail 9,(by kernel_rfl)
         change wpList _ _ _ _ _ wk.drew
         clear b1 b3 b4 b5 b6 g1 gs;have hGd:=HGa.out.drew
         have hXd:wk.drew.heap[q]?=_:=HXa.out
         clear HGa HXa;generalize wk.drew=w5 at *
         have HGb:=zh hGd;have HXb:=zh hXd;clear hGd hXd;go_wp2_with fail;refine (Z35 b acc (mk (Z53 op k)) _ HGb.out.2.2.2.1 (by rw [Z0D];rw [if_pos hk0] at hlens;omega)).mono ?_
         rintro e w6 ⟨rfl,y1,y2,y3⟩;have hG6:=HGb.out.write y1 y2 y3
         have hX6:=Z1c HGb.out.2.2.2.1 y3 HXb.out (by decide) (by decide)
         rw [Z52] at hG6
         have HGc:=zh hG6;have HXc:=zh hX6;clear hG6 hX6 y1 y2 y3 HGb HXb;go_wp2_with fail;have hGk:=HGc.out
         have m0:w6.cell? ⟨q,0,none⟩=some (.int .i64 op'):=by rw [zc HXc.out];rfl
         have m1:w6.cell? ⟨q,1,none⟩=some (.int .i64 n'):=by rw [zc HXc.out];rfl
         have m2:w6.cell? ⟨q,2,none⟩=some (.slice A' (flen l') c'):=by rw [zc HXc.out];rfl
         have m4:w6.cell? ⟨bf,4,none⟩=some (.slice (some ⟨b2,0,none⟩) (Z0h op) (Z0h op)):=by rw [zc hGk.1];rfl
         have ml:=Z1H hGk.2.2.1 har ho ho2
         clear hGk;have mi:(k:Int)<(Z0h op:Int):=by omega
         go_still_tail 7,(by kernel_rfl)
         change wpList _ _ _ _ _ w6.drew
         clear mi m0 m1 m2 m4 ml;have hGd:=HGc.out.drew
         generalize w6.drew=w7 at *
         have HGd:=zh hGd;clear hGd;go_wp2_with fail;refine (HR.out (Px.Z08 op k) w7 (.slice A' (flen l') c') B b _ HOK.out.1 HOK.out.2 ⟨A',c',rfl,FoAt.keep (fun p hp=>(HGd.out.2.2.2.2.1.cell (by omega)).trans (HG.out.2.2.2.2.1.cell (by omega)).symm) l' A' 0 T3.out⟩ hB (HT.out.on (HGd.out.2.2.2.2.1.mono hB)) HGd.out.2.2.2.1 hls hls7 (by rw [if_pos hk0] at hlens;simpa [List.length_append,Nat.add_assoc] using hlens)).mono ?_
         rintro e w8 ⟨rfl,y1,y2,y3⟩;have hG8:=HGd.out.write y1 y2 y3
         have HG8:=zh hG8;clear hG8 y1 y2 y3 HGd;go_wp2_with fail;go_roundw
         case rel=>exact ⟨k+1,_,by omega,by go_num,HG8.out,by rw [← HC.out,HS.out,if_pos hk0];simp⟩
         case measure=>simp [intOf];omega
       · go_wp2_with fail
         have hGa:=HG.out.alloc (.cells #[.int .i64 op',.int .i64 n',.slice A' (flen l') c'] 63)
         have hXa:=za wr (.cells #[.int .i64 op',.int .i64 n',.slice A' (flen l') c'] 63)
         generalize wr.alloc (.cells #[.int .i64 op',.int .i64 n',.slice A' (flen l') c'] 63)=wk at *
         obtain ⟨q,hq⟩:∃ q,q=wr.heap.size:=⟨_,rfl⟩
         rw [← hq] at hXa ⊢
         have HQ:=zh hq;have HGa:=zh hGa;have HXa:=zh hXa;clear hGa hXa hq;have hGk:=HGa.out
         have m0:wk.cell? ⟨q,0,none⟩=some (.int .i64 op'):=by rw [zc HXa.out];rfl
         have m1:wk.cell? ⟨q,1,none⟩=some (.int .i64 n'):=by rw [zc HXa.out];rfl
         have m2:wk.cell? ⟨q,2,none⟩=some (.slice A' (flen l') c'):=by rw [zc HXa.out];rfl
         have m4:wk.cell? ⟨bf,4,none⟩=some (.slice (some ⟨b2,0,none⟩) (Z0h op) (Z0h op)):=by rw [zc hGk.1];rfl
         have ml:=Z1H hGk.2.2.1 har ho ho2
         clear hGk;have mi:(k:Int)<(Z0h op:Int):=by omega
         go_still_tail 7,(by kernel_rfl)
         change wpList _ _ _ _ _ wk.drew
         clear mi m0 m1 m2 m4 ml;have hGd:=HGa.out.drew
         generalize wk.drew=w7 at *
         have HGd:=zh hGd;clear hGd;go_wp2_with fail;refine (HR.out (Px.Z08 op k) w7 (.slice A' (flen l') c') B b _ HOK.out.1 HOK.out.2 ⟨A',c',rfl,FoAt.keep (fun p hp=>(HGd.out.2.2.2.2.1.cell (by omega)).trans (HG.out.2.2.2.2.1.cell (by omega)).symm) l' A' 0 T3.out⟩ hB (HT.out.on (HGd.out.2.2.2.2.1.mono hB)) HGd.out.2.2.2.1 hls hls7 (by rw [if_neg hk0] at hlens;simpa [List.length_append] using hlens)).mono ?_
         rintro e w8 ⟨rfl,y1,y2,y3⟩;have hG8:=HGd.out.write y1 y2 y3
         have HG8:=zh hG8;clear hG8 y1 y2 y3 HGd;go_wp2_with fail;go_roundw
         case rel=>exact ⟨k+1,_,by omega,by go_num,HG8.out,by rw [← HC.out,HS.out,if_neg hk0];simp⟩
         case measure=>simp [intOf];omega
     · have hke:Z29 l k=.nil:=Z3H l k (by omega)
       have hC:=HC.out
       rw [hke,Z30,List.append_nil] at hC
       subst hC;clear HC;have g2:wr.cell? ⟨bf,2,none⟩=some (.string (mk (Z3g op))):=by rw [zc HG.out.1];rfl
       go_wp2_with fail;go_still_tail 5,(by kernel_rfl)
       change wpList _ _ _ _ _ wr.drew
       have hG1:=HG.out.drew
       clear g2 HG;generalize wr.drew=w4 at *
       have HG1:=zh hG1;clear hG1;go_wp2_with fail;refine (Z35 b _ (mk (Z3g op)) _ HG1.out.2.2.2.1 (by rw [Z0D];(try simp only [List.length_append]);(try simp only [List.length_cons,List.length_nil]);omega)).mono ?_
       rintro e w5 ⟨rfl,y1,y2,y3⟩;have hG5:=HG1.out.write y1 y2 y3
       rw [Z52] at hG5
       have HG5:=zh hG5;clear hG5 y1 y2 y3 HG1;go_wp2_with fail;have hout:txt++brk (decide (Z03 op<least)) (textE op n l)=txt++[40]++Z0y op++Z30 l op 0++Z3g op++[41]:=by
        simp [d1,brk,textE,body,if_neg (show ¬ op=1 by omega),if_neg (show ¬ op=2 by omega),if_neg (show ¬ op=3 by omega)]
       rw [hout]
       refine leaves_cons (f:=137) (args:=#[.pointer (some ⟨b,0,none⟩),.string ⟨#[41]⟩]) (by simp) (by simp [go_sem]) ?_
       refine (ZjB b _ ⟨#[41]⟩ _ .returning HG5.out.2.2.2.1 (by show _+1≤_;simp only [List.length_append,List.length_cons,List.length_nil];omega)).mono ?_
       rintro e u' w9 ⟨rfl,rfl,y1,y2,y3⟩
       have hG9:=HG5.out.write y1 y2 y3
       exact ⟨_,results_none rfl _ _ _,rfl,hG9.2.2.2.1,hG9.2.2.2.2.1,hG9.2.2.2.2.2⟩
  · have d1:decide (Z03 op<least)=false:=by simpa using hbr
    have hlen2:txt.length+(Z0y op).length+(Z30 l op 0).length+(Z3g op).length≤140737488355328:=by
     have:=hlen;simp only [d1,brk,textE,body,if_neg (show ¬ op=1 by omega),if_neg (show ¬ op=2 by omega),if_neg (show ¬ op=3 by omega),List.length_append,Bool.false_eq_true,if_false] at this;omega
    clear hlen;go_wp2_with fail;clear f3 e0;have f0:wc.cell? ⟨bf,0,none⟩=some (.string (mk (Z0y op))):=by rw [zc HG.out.1];rfl
    go_still_tail 5,(by kernel_rfl)
    change wpList _ _ _ _ _ wc.drew
    have hG1:=HG.out.drew
    clear f0 HG;generalize wc.drew=w1 at *
    have HG1:=zh hG1;clear hG1;go_wp2_with fail;refine (Z35 b txt (mk (Z0y op)) _ HG1.out.2.2.2.1 (by rw [Z0D];(try simp only [List.length_append]);(try simp only [List.length_cons,List.length_nil]);omega)).mono ?_
    rintro e w2 ⟨rfl,y1,y2,y3⟩;have hG2:=HG1.out.write y1 y2 y3
    rw [Z52] at hG2
    have e2:w2.cell? ⟨w.heap.size,2,none⟩=some (.slice A (flen l) c):=by rw [zc hG2.2.1];rfl
    have HG2:=zh hG2;clear hG2 y1 y2 y3 HG1;have hkm:flen l≤3:=by rw [HK.out];unfold Z0h;split <;> (try split) <;> omega
    go_wp2_with fail;go_loopw [44] (fun i wr=>PutL b w op n l (.slice A (flen l) c) bf A1 n1 c1 b2 (txt++Z0y op++Z30 l op 0) i wr) (fun i _=>flen l - (intOf i).toNat)
    case atStart=>exact ⟨0,_,by omega,rfl,HG2.out,by rw [Z29]⟩
    case round =>
     clear e2 HG2;obtain ⟨k,acc,hkl,rfl,hGr,hacc⟩:=hrel
     have HG:=zh hGr;have HC:=zh hacc;clear hGr hacc;by_cases hlt:k<flen l
     · have hkeep:∀ p:Addr,p.block<B→wr.cell? p=w.cell? p:=fun p hp=>HG.out.2.2.2.2.1.cell (by omega)
       obtain ⟨ad,A',c',rfl,hlo,t0,t1,t2,t3⟩:=FoAt.get l A 0 k (FoAt.keep hkeep l A 0 HA.out) hlt
       rw [Nat.zero_add] at t0 t1 t2
       obtain ⟨bb,oo,hd⟩:=Z5i l k hlt
       have hrec:=HI.out k hlt
       have hok:=Zh9 l k HO.out hlt
       obtain ⟨⟨op',n'⟩,l',hel⟩:∃ a' l',getF l k=(a',l'):=⟨_,_,rfl⟩
       rw [hel] at t0 t1 t2 t3 hd hrec hok
       dsimp only at t0 t1 t2 t3 hd hrec hok
       have hstep:Z30 (Z29 l k) op k=(if 0<k then Z53 op k else [])++brk (decide (Z03 op'<Px.Z08 op k)) (textE op' n' l')++Z30 (Z29 l (k+1)) op (k+1):=by rw [hd];rfl
       have hls:=(Z9y op k).1
       have hls7:=Zb3 op k (by rw [← HK.out];exact hlt) ho ho2
       have hlens:acc.length+(if 0<k then Z53 op k else []).length+(brk (decide (Z03 op'<Px.Z08 op k)) (textE op' n' l')).length≤140737488355328:=by
        have:=congrArg List.length HC.out;rw [hstep] at this;simp only [List.length_append] at this;(try simp only [List.length_cons,List.length_nil] at this);omega
       have HR:=zh hrec;have HOK:=zh hok;have HS:=zh hstep;have T3:=zh t3;have hb2:(ad.add (k*3)).block<wr.heap.size:=by have:=Z5p HG.out.2.2.2.1;rw [Z19];omega
       have gl:=Z1H HG.out.2.2.1 (by rw [← HK.out];exact hlt) ho ho2
       clear hrec hok hstep t3 hd hel hkeep;have har:k<Z0h op:=by rw [← HK.out];exact hlt
       clear gl;by_cases hk0:0<k
       · obtain ⟨bs,rfl,hn1,_⟩:=Z5q (k:=k - 1) HG.out.2.2.1 (by omega)
         go_wp2_with fail;have hGa:=HG.out.alloc (.cells #[.int .i64 op',.int .i64 n',.slice A' (flen l') c'] 63)
         have hXa:=za wr (.cells #[.int .i64 op',.int .i64 n',.slice A' (flen l') c'] 63)
         generalize wr.alloc (.cells #[.int .i64 op',.int .i64 n',.slice A' (flen l') c'] 63)=wk at *
         obtain ⟨q,hq⟩:∃ q,q=wr.heap.size:=⟨_,rfl⟩
         rw [← hq] at hXa ⊢
         have HQ:=zh hq;clear hq;obtain ⟨bs',hbs,_,gs⟩:=Z5q (k:=k - 1) hGa.2.2.1 (by omega)
         rw [show k - 1+1=k from by omega] at gs
         injection hbs with hbs
         injection hbs with hbs _ _
         subst hbs;have g1:wk.cell? ⟨bf,1,none⟩=some (.slice (some ⟨bs,0,none⟩) n1 c1):=by rw [zc hGa.1];rfl
         have HGa:=zh hGa;have HXa:=zh hXa;clear hGa hXa;have b1:(0:Int)≤(k:Int) - 1:=by omega
         have b3:(k:Int) - 1<(n1:Int):=by omega
         have b4:((k:Int) - 1).toNat=k - 1:=by omega
         have b5:IntKind.i64.wrap ((k:Int) - 1)=(k:Int) - 1:=IntWalk.i64_in _ (by omega)
         have b6:(1:Int)≤(k:Int):=by omega
         go_still_tail 9,(by kernel_rfl)
         change wpList _ _ _ _ _ wk.drew
         clear b1 b3 b4 b5 b6 g1 gs;have hGd:=HGa.out.drew
         have hXd:wk.drew.heap[q]?=_:=HXa.out
         clear HGa HXa;generalize wk.drew=w5 at *
         have HGb:=zh hGd;have HXb:=zh hXd;clear hGd hXd;go_wp2_with fail;refine (Z35 b acc (mk (Z53 op k)) _ HGb.out.2.2.2.1 (by rw [Z0D];rw [if_pos hk0] at hlens;omega)).mono ?_
         rintro e w6 ⟨rfl,y1,y2,y3⟩;have hG6:=HGb.out.write y1 y2 y3
         have hX6:=Z1c HGb.out.2.2.2.1 y3 HXb.out (by decide) (by decide)
         rw [Z52] at hG6
         have HGc:=zh hG6;have HXc:=zh hX6;clear hG6 hX6 y1 y2 y3 HGb HXb;go_wp2_with fail;have hGk:=HGc.out
         have m0:w6.cell? ⟨q,0,none⟩=some (.int .i64 op'):=by rw [zc HXc.out];rfl
         have m1:w6.cell? ⟨q,1,none⟩=some (.int .i64 n'):=by rw [zc HXc.out];rfl
         have m2:w6.cell? ⟨q,2,none⟩=some (.slice A' (flen l') c'):=by rw [zc HXc.out];rfl
         have m4:w6.cell? ⟨bf,4,none⟩=some (.slice (some ⟨b2,0,none⟩) (Z0h op) (Z0h op)):=by rw [zc hGk.1];rfl
         have ml:=Z1H hGk.2.2.1 har ho ho2
         clear hGk;have mi:(k:Int)<(Z0h op:Int):=by omega
         go_still_tail 7,(by kernel_rfl)
         change wpList _ _ _ _ _ w6.drew
         clear mi m0 m1 m2 m4 ml;have hGd:=HGc.out.drew
         generalize w6.drew=w7 at *
         have HGd:=zh hGd;clear hGd;go_wp2_with fail;refine (HR.out (Px.Z08 op k) w7 (.slice A' (flen l') c') B b _ HOK.out.1 HOK.out.2 ⟨A',c',rfl,FoAt.keep (fun p hp=>(HGd.out.2.2.2.2.1.cell (by omega)).trans (HG.out.2.2.2.2.1.cell (by omega)).symm) l' A' 0 T3.out⟩ hB (HT.out.on (HGd.out.2.2.2.2.1.mono hB)) HGd.out.2.2.2.1 hls hls7 (by rw [if_pos hk0] at hlens;simpa [List.length_append,Nat.add_assoc] using hlens)).mono ?_
         rintro e w8 ⟨rfl,y1,y2,y3⟩;have hG8:=HGd.out.write y1 y2 y3
         have HG8:=zh hG8;clear hG8 y1 y2 y3 HGd;go_wp2_with fail;go_roundw
         case rel=>exact ⟨k+1,_,by omega,by go_num,HG8.out,by rw [← HC.out,HS.out,if_pos hk0];simp⟩
         case measure=>simp [intOf];omega
       · go_wp2_with fail
         have hGa:=HG.out.alloc (.cells #[.int .i64 op',.int .i64 n',.slice A' (flen l') c'] 63)
         have hXa:=za wr (.cells #[.int .i64 op',.int .i64 n',.slice A' (flen l') c'] 63)
         generalize wr.alloc (.cells #[.int .i64 op',.int .i64 n',.slice A' (flen l') c'] 63)=wk at *
         obtain ⟨q,hq⟩:∃ q,q=wr.heap.size:=⟨_,rfl⟩
         rw [← hq] at hXa ⊢
         have HQ:=zh hq;have HGa:=zh hGa;have HXa:=zh hXa;clear hGa hXa hq;have hGk:=HGa.out
         have m0:wk.cell? ⟨q,0,none⟩=some (.int .i64 op'):=by rw [zc HXa.out];rfl
         have m1:wk.cell? ⟨q,1,none⟩=some (.int .i64 n'):=by rw [zc HXa.out];rfl
         have m2:wk.cell? ⟨q,2,none⟩=some (.slice A' (flen l') c'):=by rw [zc HXa.out];rfl
         have m4:wk.cell? ⟨bf,4,none⟩=some (.slice (some ⟨b2,0,none⟩) (Z0h op) (Z0h op)):=by rw [zc hGk.1];rfl
         have ml:=Z1H hGk.2.2.1 har ho ho2
         clear hGk;have mi:(k:Int)<(Z0h op:Int):=by omega
         go_still_tail 7,(by kernel_rfl)
         change wpList _ _ _ _ _ wk.drew
         clear mi m0 m1 m2 m4 ml;have hGd:=HGa.out.drew
         generalize wk.drew=w7 at *
         have HGd:=zh hGd;clear hGd;go_wp2_with fail;refine (HR.out (Px.Z08 op k) w7 (.slice A' (flen l') c') B b _ HOK.out.1 HOK.out.2 ⟨A',c',rfl,FoAt.keep (fun p hp=>(HGd.out.2.2.2.2.1.cell (by omega)).trans (HG.out.2.2.2.2.1.cell (by omega)).symm) l' A' 0 T3.out⟩ hB (HT.out.on (HGd.out.2.2.2.2.1.mono hB)) HGd.out.2.2.2.1 hls hls7 (by rw [if_neg hk0] at hlens;simpa [List.length_append] using hlens)).mono ?_
         rintro e w8 ⟨rfl,y1,y2,y3⟩;have hG8:=HGd.out.write y1 y2 y3
         have HG8:=zh hG8;clear hG8 y1 y2 y3 HGd;go_wp2_with fail;go_roundw
         case rel=>exact ⟨k+1,_,by omega,by go_num,HG8.out,by rw [← HC.out,HS.out,if_neg hk0];simp⟩
         case measure=>simp [intOf];omega
     · have hke:Z29 l k=.nil:=Z3H l k (by omega)
       have hC:=HC.out
       rw [hke,Z30,List.append_nil] at hC
       subst hC;clear HC;have g2:wr.cell? ⟨bf,2,none⟩=some (.string (mk (Z3g op))):=by rw [zc HG.out.1];rfl
       go_wp2_with fail;go_still_tail 5,(by kernel_rfl)
       change wpList _ _ _ _ _ wr.drew
       have hG1:=HG.out.drew
       clear g2 HG;generalize wr.drew=w4 at *
       have HG1:=zh hG1;clear hG1;go_wp2_with fail;refine (Z35 b _ (mk (Z3g op)) _ HG1.out.2.2.2.1 (by rw [Z0D];(try simp only [List.length_append]);(try simp only [List.length_cons,List.length_nil]);omega)).mono ?_
       rintro e w5 ⟨rfl,y1,y2,y3⟩;have hG5:=HG1.out.write y1 y2 y3
       rw [Z52] at hG5
       have HG5:=zh hG5;clear hG5 y1 y2 y3 HG1;go_wp2_with fail;have hout:txt++brk (decide (Z03 op<least)) (textE op n l)=txt++Z0y op++Z30 l op 0++Z3g op:=by
        simp [d1,brk,textE,body,if_neg (show ¬ op=1 by omega),if_neg (show ¬ op=2 by omega),if_neg (show ¬ op=3 by omega)]
       rw [hout]
       exact ⟨_,results_none rfl _ _ _,rfl,HG5.out.2.2.2.1,HG5.out.2.2.2.2.1,HG5.out.2.2.2.2.2⟩
end Go.Proofs.YtnepkoepbapgeaaGreatDoor
