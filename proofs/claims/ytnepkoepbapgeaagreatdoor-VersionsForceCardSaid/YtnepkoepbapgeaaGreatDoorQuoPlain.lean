/-
  Several texts in one: ParW9, ParHd0, ParRm, QuoOpr, QuoVal0, QuoPlain.
-/
import Derived.Test.YtnepkoepbapgeaaGreatDoorParW1
import Derived.Recover
import Derived.Test.YtnepkoepbapgeaaGreatDoorParW7
import Derived.Test.YtnepkoepbapgeaaGreatDoorLexT2
import Derived.Test.YtnepkoepbapgeaaGreatDoorParW11
import Derived.Test.YtnepkoepbapgeaaGreatDoorLexPlain8
import Derived.Deep.AppendLies
import Derived.Test.YtnepkoepbapgeaaGreatDoorPrtMem
import Derived.Test.YtnepkoepbapgeaaGreatDoorPrtNum
import Derived.Test.YtnepkoepbapgeaaGreatDoorParMem
namespace Go.Proofs.YtnepkoepbapgeaaGreatDoor
set_option maxHeartbeats 4000000
set_option maxRecDepth 100000
section
open Go.RowKit Lx Px
def Set2 (be bl:Nat)(er ln:Int)(w w':World):Prop :=
 w'.heap[be]?=some (.cells #[.int .i64 er] 35 (0,0))∧w'.heap[bl]?=some (.cells #[.int .i64 ln] 3 (0,0))∧(∀ k,k<w.heap.size→k≠be→k≠bl→w'.heap[k]?=w.heap[k]?)∧w.heap.size≤w'.heap.size∧w'.os=w.os∧w'.tape=w.tape∧w'.output=w.output
theorem ZcH {P:Program}{c:Code}{Q:Exit→Act→List Frame→World→Prop}{a:Act}{cs:List Frame}{w:World}(R:Act→World→Prop)(h:c.wp P (fun e a' w'=>e=.normal∧R a' w') a w)(hR:∀ a' w',R a' w'→Q .normal a' cs w'):c.wpS P Q a cs w :=
 wpS_of_wp (Code.wp_mono (fun e a' w' h=>by obtain ⟨he,hr⟩:=h;subst he;exact hR a' w' hr) h)
theorem Zk7 {w:World}{b:Nat}{x:Value}{ty:TypeId}(h:w.heap[b]?=some (.cells #[x] ty (0,0)))(y:Value):(w.setCell ⟨b,0,none⟩ y).heap[b]?=some (.cells #[y] ty (0,0)):=by
 simp [World.setCell,Array.getElem?_modify,h]
theorem Z80 (be bl:Nat)(x y er ln:Int)(older:List PanicEntry)(w:World)(hne:be≠bl)(he:w.heap[be]?=some (.cells #[.int .i64 x] 35 (0,0)))(hl:w.heap[bl]?=some (.cells #[.int .i64 y] 3 (0,0))) :
 CallsD Tryz.prog 119 #[.pointer (some ⟨be,0,none⟩),.pointer (some ⟨bl,0,none⟩)] (.panicking ({ v:=.iface 177 (.agg #[.int .i64 er,.int .i64 ln]),recovered:=false }::older)) w fun e u' w' =>
  e=.returned (.tuple #[])∧u'=.panicking ({ v:=.iface 177 (.agg #[.int .i64 er,.int .i64 ln]),recovered:=true }::older)∧Set2 be bl er ln w w':=by
 refine callsD_of_wpS Tryz.func119 rfl fun c₀ cs hu=>?_
 apply wpS_seq
 apply wpS_region
 simp [wpOpsS,go_sem,recoverD,hu,Tryz.ntmps119,Exit.thenS]
 refine ZcH (fun a' w'=>a'.defers=[]∧Set2 be bl er ln w w') ?_ ?_
 · have htm:∀ V:Value,(#[Value.pointer (some ⟨be,0,none⟩),Value.pointer (some ⟨bl,0,none⟩)]++(Array.replicate 19 undef).setIfInBounds 5 V)=#[Value.pointer (some ⟨be,0,none⟩),Value.pointer (some ⟨bl,0,none⟩),undef,undef,undef,undef,undef,V,undef,undef,undef,undef,undef,undef,undef,undef,undef,undef,undef,undef,undef]:=fun _=>by kernel_rfl
   rw [htm]
   have hta:∀ w:World,(Instr.typeAssert (.iface 177 (.agg #[.int .i64 er,.int .i64 ln])) 20 177 true).run Tryz.prog w=.ok (.tuple #[.agg #[.int .i64 er,.int .i64 ln],.bool true]) w:=fun _=>by kernel_rfl
   have he0:(w.alloc (.cells #[.int .i64 er,.int .i64 ln] 177)).heap[be]?=some (.cells #[.int .i64 x] 35 (0,0)):=(Below.heap_alloc _ _ _ (zs he)).trans he
   have hl0:(w.alloc (.cells #[.int .i64 er,.int .i64 ln] 177)).heap[bl]?=some (.cells #[.int .i64 y] 3 (0,0)):=(Below.heap_alloc _ _ _ (zs hl)).trans hl
   have hn0:=za w (.cells #[.int .i64 er,.int .i64 ln] 177)
   have hb0:Below w.heap.size w (w.alloc (.cells #[.int .i64 er,.int .i64 ln] 177)):=(Below.refl _ _).alloc (zn _) _
   have hbe:be<w.heap.size:=(zs he)
   have hbl:bl<w.heap.size:=(zs hl)
   have HE:=zh he0;have HL:=zh hl0;have HN:=zh hn0;have HB:=zh hb0;clear he hl he0 hl0 hn0 hb0 hu htm;go_upto_region 7 with fail
   clear hta;generalize w.alloc (.cells #[.int .i64 er,.int .i64 ln] 177)=W at *
   have a0:W.cell? ⟨be,0,none⟩=some (.int .i64 x):=by rw [zc HE.out];rfl
   have a1:W.cell? ⟨bl,0,none⟩=some (.int .i64 y):=by rw [zc HL.out];rfl
   have a2:W.cell? ⟨w.heap.size,0,none⟩=some (.int .i64 er):=by rw [zc HN.out];rfl
   have a3:W.cell? ⟨w.heap.size,1,none⟩=some (.int .i64 ln):=by rw [zc HN.out];rfl
   have a4:W.frozen? ⟨be,0,none⟩=false:=by simp [World.frozen?,HE.out]
   have a5:W.frozen? ⟨bl,0,none⟩=false:=by simp [World.frozen?,HL.out]
   have hn1:be≠w.heap.size:=by omega
   have hn2:bl≠w.heap.size:=by omega
   go_region
   refine ⟨rfl,rfl,?_,?_,?_,?_,HB.out.os,HB.out.tape,HB.out.output⟩
   · show ((W.setCell ⟨be,0,none⟩ (.int .i64 er)).setCell ⟨bl,0,none⟩ (.int .i64 ln)).heap[be]?=_
     rw [Below.heap_setCell _ _ _ _ hne]
     exact Zk7 HE.out _
   · show ((W.setCell ⟨be,0,none⟩ (.int .i64 er)).setCell ⟨bl,0,none⟩ (.int .i64 ln)).heap[bl]?=_
     refine Zk7 (x:=.int .i64 y) ?_ _
     rw [Below.heap_setCell _ _ _ _ (Ne.symm hne)]
     exact HL.out
   · intro k hk h1 h2
     show ((W.setCell ⟨be,0,none⟩ (.int .i64 er)).setCell ⟨bl,0,none⟩ (.int .i64 ln)).heap[k]?=_
     rw [Below.heap_setCell _ _ _ _ h2,Below.heap_setCell _ _ _ _ h1]
     exact HB.out.block k hk
   · show w.heap.size≤((W.setCell ⟨be,0,none⟩ (.int .i64 er)).setCell ⟨bl,0,none⟩ (.int .i64 ln)).heap.size
     have:=HB.out.size
     simp only [World.setCell,Array.size_modify]
     exact this
 · rintro a' w' ⟨hd,hS⟩
   cases c₀
   simp_all [bodyPostS,results,Tryz.results119]
theorem Zea (be bl:Nat)(w:World) :
 CallsD Tryz.prog 119 #[.pointer (some ⟨be,0,none⟩),.pointer (some ⟨bl,0,none⟩)] .returning w fun e u' w'=>e=.returned (.tuple #[])∧u'=.returning∧w'=w:=by
 refine callsD_of_wpS Tryz.func119 rfl fun c₀ cs hu=>?_
 apply wpS_seq
 apply wpS_region
 simp [wpOpsS,go_sem,recoverD,hu,Tryz.ntmps119,Exit.thenS]
 refine ZcH (fun a' w'=>a'.defers=[]∧w'=w) ?_ ?_
 · have htm:∀ V:Value,(#[Value.pointer (some ⟨be,0,none⟩),Value.pointer (some ⟨bl,0,none⟩)]++(Array.replicate 19 undef).setIfInBounds 5 V)=#[Value.pointer (some ⟨be,0,none⟩),Value.pointer (some ⟨bl,0,none⟩),undef,undef,undef,undef,undef,V,undef,undef,undef,undef,undef,undef,undef,undef,undef,undef,undef,undef,undef]:=fun _=>by kernel_rfl
   rw [htm]
   clear htm hu;go_wp2_with fail
 · rintro a' w' ⟨hd,rfl⟩
   cases c₀
   simp_all [bodyPostS,results,Tryz.results119]
end
section
open Go.RowKit Lx Px
def Wh (w:World)(wx:World):Prop :=
 wx.heap[w.heap.size]?=some (.cells #[.int .i64 0,.int .i64 0,.slice none 0 0] 63 (0,0))∧wx.heap[w.heap.size+1]?=some (.cells #[.int .i64 0] 35 (0,0))∧wx.heap[w.heap.size+2]?=some (.cells #[.int .i64 0] 3 (0,0))∧Below w.heap.size w wx
theorem Wh.but {w wx wy:World}(h:Wh w wx)(hb:But (w.heap.size+3) wx wy):Wh w wy:=by
 obtain ⟨h1,h2,h3,h4⟩:=h
 have l3:w.heap.size+2<wx.heap.size:=(zs h3)
 exact ⟨(hb.block _ (by omega) (by omega)).trans h1,(hb.block _ (by omega) (by omega)).trans h2,(hb.block _ (by omega) (by omega)).trans h3,
  h4.trans ⟨hb.os,hb.tape,hb.output,hb.size,fun k hk=>hb.block k (by omega) (by omega)⟩⟩
theorem Zeb (s:ByteArray)(w:World):Calls Tryz.prog 82 #[.string s] w (ZaC w (toks (bl s))):=by
 by_cases hs:s.size≤1000000000
 · exact Zgt s w hs
 · have hbig:20000<s.size:=by omega
   rw [ZeD s hbig]
   go_enter Tryz.func82,Tryz.ntmps82
   go_wp2_with fail;refine bodyPost_ret (v:=.tuple #[.slice none 0 0,.int .i64 2,.int .i64 0]) (by simp [results,Tryz.results82,go_sem]) rfl ?_
   exact ⟨_,rfl,Sl.nil _ _,(((Zbz w).alloc (zn _) _).alloc (by simp) _).alloc (by simp;omega) _⟩
theorem Zns:∀ (ps:List (Int × Bytes)) (acc:List Tok),Knd acc→acc.length≤5000→Knd (coll acc ps).1∧(coll acc ps).1.length≤5000:=by
 intro ps
 induction ps with
 | nil=>intro acc h hl;exact ⟨h,hl⟩
 | cons p ps ih =>
  intro acc h hl
  obtain ⟨ln,t⟩:=p
  simp only [coll]
  split
  · exact ⟨fun t ht=>by simp at ht,by simp⟩
  · split
    · exact ⟨fun t ht=>by simp at ht,by simp⟩
    · rename_i h1 h2
      refine ih _ ?_ (by simp;omega)
      intro u hu
      rw [List.mem_append,List.mem_singleton] at hu
      rcases hu with hu | rfl
      · exact h u hu
      · exact ⟨rfl,h1⟩
theorem Znt (s:Bytes):Knd (toks s).1∧(toks s).1.length≤5000:=by
 unfold toks
 split
 · exact ⟨fun t ht=>by simp at ht,by simp⟩
 · exact Zns _ [] (fun t ht=>by simp at ht) (by simp)
end
section
open Go.RowKit Lx Px
end
section
open Go.RowKit Lx Px
inductive AllR where
 | ok (l:List Rr)
 | err (e ln:Int)
def Z25 (ex:Nat→Out)(ts:List Tok):Nat→Nat→List Rr→AllR
 | 0,_,acc=>.ok acc
 | f+1,k,acc =>
  if k<ts.length then
   (if acc.length=100∧nxt ts k=Z6a then .err 2 (lnAt ts k)
   else match Z4i ex ts k with
    | .ok r k'=>Z25 ex ts f k' (acc++[r])
    | .no j=>.err 8 (Z3z ts j)
    | .bad=>.err 1 (lnAt ts k))
  else .ok acc
def Zbn (ts:List Tok)(ex:Nat→Out):Prop:=∀ k,k≤ts.length→Rd 0 none (txt ts k) ((ex k).res ts)∧okK ts k (ex k)
theorem Z1k {s:Bytes}{ts:List Tok}{k k':Nat}{n:Int}(h:Z0h s ts k=.ok (n,k')):k<k'∧k'≤ts.length∧nxt ts k=s:=by
 unfold Z0h at h
 split at h
 · split at h
   · rename_i h1 h2
     injection h with h
     injection h with h3 h4
     have:k+1<ts.length:=by
      by_cases hk:k+1<ts.length
      · exact hk
      · exfalso
        rw [Z5B ts _ hk] at h2
        revert h2;decide
     exact ⟨by omega,by omega,h1⟩
   · cases h
 · cases h
theorem Z32 {x:Except Nat (Int × Nat)}{f:Int→Nat→ROut}{r:Rr}{k':Nat}(h:Z74 x f=.ok r k'):∃ n k,x=.ok (n,k)∧f n k=.ok r k':=by
 unfold Z74 at h
 split at h
 · cases h
 · exact ⟨_,_,rfl,h⟩
theorem Z8f {s:Bytes}{ts:List Tok}{k:Nat}{f:Nat→ROut}{r:Rr}{k':Nat}(h:Z4h s ts k f=.ok r k'):nxt ts k=s∧f (k+1)=.ok r k':=by
 unfold Z4h at h
 split at h
 · exact ⟨‹_›,h⟩
 · cases h
theorem ZfC {o:Out}{f:Ex→Nat→ROut}{r:Rr}{k':Nat}(h:Zgy o f=.ok r k'):∃ e k,o=.ok e k∧f e k=.ok r k':=by
 unfold Zgy at h
 split at h
 · cases h
 · exact ⟨_,_,rfl,h⟩
theorem Zec {ts:List Tok}{k:Nat}{s:Bytes}(h:nxt ts k=s)(hs:s≠[]):k<ts.length:=by
 by_cases hk:k<ts.length
 · exact hk
 · rw [Z5B ts k hk] at h;exact absurd h.symm hs
structure ZpA (ex:Nat→Out) (ts:List Tok) (k:Nat) (r:Rr) (k':Nat):Prop where
 steps:∃ k1 k2 k3 k4 k5 k6 k7 k8 k9 k10 k11,Z0h Z6a ts k=.ok (r.id,k1)∧Z0h Z9G ts k1=.ok (r.lv,k2)∧Z0h Zgz ts k2=.ok (r.kd,k3)∧Z0h Z75 ts k3=.ok (r.fr,k4)∧Z0h kTo ts k4=.ok (r.un,k5) ∧
  Z0h ZgA ts k5=.ok (r.ls,k6)∧Z0h kTo ts k6=.ok (r.mo,k7)∧Z0h Z76 ts k7=.ok (r.ar,k8)∧Z0h ZgB ts k8=.ok (r.kp,k9)∧nxt ts k9=[37]∧nxt ts (k9+1)=Zdx∧ex (k9+1+1)=.ok r.wh k10∧nxt ts k10=Z8w ∧
  ex (k10+1)=.ok r.pr k11∧nxt ts k11=[59]∧k'=k11+1
 val:Z0i r.wh.1.1 r.wh.1.2 r.wh.2=true∧Z0i r.pr.1.1 r.pr.1.2 r.pr.2=true
theorem Znu {ex:Nat→Out}{ts:List Tok}{k:Nat}{r:Rr}{k':Nat}(h:Z4i ex ts k=.ok r k'):ZpA ex ts k r k':=by
 unfold Z4i at h
 obtain ⟨id,k1,h1,h⟩:=Z32 h
 obtain ⟨lv,k2,h2,h⟩:=Z32 h
 obtain ⟨kd,k3,h3,h⟩:=Z32 h
 obtain ⟨fr,k4,h4,h⟩:=Z32 h
 obtain ⟨un,k5,h5,h⟩:=Z32 h
 obtain ⟨ls,k6,h6,h⟩:=Z32 h
 obtain ⟨mo,k7,h7,h⟩:=Z32 h
 obtain ⟨ar,k8,h8,h⟩:=Z32 h
 obtain ⟨kp,k9,h9,h⟩:=Z32 h
 obtain ⟨h10,h⟩:=Z8f h
 obtain ⟨h11,h⟩:=Z8f h
 obtain ⟨wh,k10,h12,h⟩:=ZfC h
 obtain ⟨h13,h⟩:=Z8f h
 obtain ⟨pr,k11,h14,h⟩:=ZfC h
 obtain ⟨h15,h⟩:=Z8f h
 split at h
 · rename_i hv
   injection h with h16 h17
   subst h16;simp only [Bool.and_eq_true] at hv
   exact ⟨⟨k1,k2,k3,k4,k5,k6,k7,k8,k9,k10,k11,h1,h2,h3,h4,h5,h6,h7,h8,h9,h10,h11,h12,h13,h14,h15,h17.symm⟩,hv⟩
 · cases h
theorem Z6u {ex:Nat→Out}{ts:List Tok}(hex:Zbn ts ex){k:Nat}{r:Rr}{k':Nat}(h:Z4i ex ts k=.ok r k'):k<k'∧k'≤ts.length∧nxt ts k=Z6a:=by
 obtain ⟨k1,k2,k3,k4,k5,k6,k7,k8,k9,k10,k11,h1,h2,h3,h4,h5,h6,h7,h8,h9,h10,h11,h12,h13,h14,h15,h16⟩:=(Znu h).steps
 have g1:=Z1k h1;have g2:=Z1k h2;have g3:=Z1k h3;have g4:=Z1k h4;have g5:=Z1k h5;have g6:=Z1k h6;have g7:=Z1k h7;have g8:=Z1k h8;have g9:=Z1k h9;have g11:=Zec h11 (by decide)
 have e1:=(hex (k9+1+1) (by omega)).2
 rw [h12] at e1
 have e1':k9+1+1<k10∧k10≤ts.length:=e1
 have g13:=Zec h13 (by decide)
 have e2:=(hex (k10+1) (by omega)).2
 rw [h14] at e2
 have e2':k10+1<k11∧k11≤ts.length:=e2
 have g15:=Zec h15 (by decide)
 exact ⟨by omega,by omega,g1.2.2⟩
theorem Zed {ex:Nat→Out}{ts:List Tok}(hex:Zbn ts ex):∀ (f k:Nat) (acc:List Rr),ts.length - k≤f→Z25 ex ts f k acc=Z25 ex ts (ts.length - k) k acc:=by
 intro f
 induction f using Nat.strongRecOn with
 | ind f ih =>
  intro k acc hf
  cases f with
  | zero=>rw [show ts.length - k=0 by omega]
  | succ f =>
   by_cases hk:k<ts.length
   · obtain ⟨d,hd⟩:∃ d,ts.length - k=d+1:=⟨ts.length - k - 1,by omega⟩
     rw [hd]
     simp only [Z25,if_pos hk]
     split
     · rfl
     · split
       · rename_i r k' hr
         have hfar:=Z6u hex hr
         rw [ih f (by omega) k' _ (by omega),ih d (by omega) k' _ (by omega)]
       · rfl
       · rfl
   · rw [show ts.length - k=0 by omega]
     simp only [Z25,if_neg hk]
def allO (ex:Nat→Out)(ts:List Tok):AllR:=Z25 ex ts ts.length 0 []
theorem Z46 {ex:Nat→Out}{ts:List Tok}(hex:Zbn ts ex){k:Nat}{acc:List Rr}(hk:k<ts.length)(hl:¬ (acc.length=100∧nxt ts k=Z6a)){r:Rr}{k':Nat}(hr:Z4i ex ts k=.ok r k') :
 Z25 ex ts (ts.length - k) k acc=Z25 ex ts (ts.length - k') k' (acc++[r]):=by
 obtain ⟨d,hd⟩:∃ d,ts.length - k=d+1:=⟨ts.length - k - 1,by omega⟩
 have hfar:=Z6u hex hr
 rw [hd]
 simp only [Z25,if_pos hk,if_neg hl,hr]
 exact Zed hex d k' _ (by omega)
theorem Zht {ex:Nat→Out}{ts:List Tok}{k:Nat}{acc:List Rr}(hk:¬ k<ts.length):Z25 ex ts (ts.length - k) k acc=.ok acc:=by
 rw [show ts.length - k=0 by omega];rfl
theorem Zd0 {ex:Nat→Out}{ts:List Tok}{k:Nat}{acc:List Rr}(hk:k<ts.length)(hl:acc.length=100∧nxt ts k=Z6a):Z25 ex ts (ts.length - k) k acc=.err 2 (lnAt ts k):=by
 obtain ⟨d,hd⟩:∃ d,ts.length - k=d+1:=⟨ts.length - k - 1,by omega⟩
 rw [hd];simp only [Z25,if_pos hk,if_pos hl]
theorem Zd1 {ex:Nat→Out}{ts:List Tok}{k j:Nat}{acc:List Rr}(hk:k<ts.length)(hl:¬ (acc.length=100∧nxt ts k=Z6a))(hr:Z4i ex ts k=.no j):Z25 ex ts (ts.length - k) k acc=.err 8 (Z3z ts j):=by
 obtain ⟨d,hd⟩:∃ d,ts.length - k=d+1:=⟨ts.length - k - 1,by omega⟩
 rw [hd];simp only [Z25,if_pos hk,if_neg hl,hr]
theorem Zak {ex:Nat→Out}{ts:List Tok}{k:Nat}{acc:List Rr}(hk:k<ts.length)(hl:¬ (acc.length=100∧nxt ts k=Z6a))(hr:Z4i ex ts k=.bad):Z25 ex ts (ts.length - k) k acc=.err 1 (lnAt ts k):=by
 obtain ⟨d,hd⟩:∃ d,ts.length - k=d+1:=⟨ts.length - k - 1,by omega⟩
 rw [hd];simp only [Z25,if_pos hk,if_neg hl,hr]
end
section
open Go.RowKit Lx Px
theorem ZfD (pb:Nat)(v:Value)(ts:List Tok):∃ ex:Nat→Out,Zbn ts ex∧(∀ k,¬ k≤ts.length→ex k=.no 0)∧∀ k,k≤ts.length→okK ts k (ex k)∧∀ w,PI w pb v ts k→Calls Tryz.prog 163 #[.pointer (some ⟨pb,0,none⟩)] w (RP pb v ts (ex k) w):=by
 have h:∀ k,∃ o:Out,(k≤ts.length→Rd 0 none (txt ts k) (o.res ts)∧okK ts k o∧∀ w,PI w pb v ts k→Calls Tryz.prog 163 #[.pointer (some ⟨pb,0,none⟩)] w (RP pb v ts o w))∧(¬ k≤ts.length→o=.no 0):=by
  intro k
  by_cases hk:k≤ts.length
  · obtain ⟨o,h1,h2,h3⟩:=Zmn pb v ts k hk
    exact ⟨o,fun _=>⟨h1,h2,h3⟩,fun h=>absurd hk h⟩
  · exact ⟨.no 0,fun h=>absurd h hk,fun _=>rfl⟩
 obtain ⟨ex,hex⟩:=Classical.axiomOfChoice h
 exact ⟨ex,fun k hk=>⟨((hex k).1 hk).1,((hex k).1 hk).2.1⟩,fun k hk=>(hex k).2 hk,fun k hk=>⟨((hex k).1 hk).2.1,((hex k).1 hk).2.2⟩⟩
theorem Zk8 {ts:List Tok}{ex ex':Nat→Out}(h:Zbn ts ex)(h':Zbn ts ex')(h0:∀ k,¬ k≤ts.length→ex k=.no 0)(h0':∀ k,¬ k≤ts.length→ex' k=.no 0):ex=ex':=by
 funext k
 by_cases hk:k≤ts.length
 · have hd:=Zch (h k hk).1 (h' k hk).1
   cases hx:ex' k with
   | ok e j =>
    rw [hx] at hd
    have:=h' k hk
    rw [hx] at this
    exact Ziy hd this.2.2 (h k hk).2
   | no j =>
    rw [hx] at hd
    have:=h' k hk
    rw [hx] at this
    exact Ziz hd this.2.2 (h k hk).2
 · rw [h0 k hk,h0' k hk]
theorem Zk9 (ts:List Tok):∃ ex:Nat→Out,Zbn ts ex∧∀ k,¬ k≤ts.length→ex k=.no 0:=by
 obtain ⟨ex,h1,h2,_⟩:=ZfD 0 (.slice none 0 0) ts
 exact ⟨ex,h1,h2⟩
noncomputable def exOf (ts:List Tok):Nat→Out:=Classical.choose (Zk9 ts)
theorem Z3G (ts:List Tok):Zbn ts (exOf ts):=(Classical.choose_spec (Zk9 ts)).1
theorem Znv (ts:List Tok):∀ k,¬ k≤ts.length→exOf ts k=.no 0:=(Classical.choose_spec (Zk9 ts)).2
theorem Zrp {ts:List Tok}{ex:Nat→Out}(h:Zbn ts ex)(h0:∀ k,¬ k≤ts.length→ex k=.no 0):exOf ts=ex:=Zk8 (Z3G ts) h (Znv ts) h0
theorem Znw (pb:Nat)(v:Value)(ts:List Tok):∀ k,k≤ts.length→okK ts k (exOf ts k)∧∀ w,PI w pb v ts k→Calls Tryz.prog 163 #[.pointer (some ⟨pb,0,none⟩)] w (RP pb v ts (exOf ts k) w):=by
 obtain ⟨ex,h1,h2,h3⟩:=ZfD pb v ts
 rw [Zrp h1 h2]
 exact h3
end
section
open Go.RowKit Lx Px
noncomputable def srcO (s:Bytes):AllR:=if (toks s).2.1=0 then allO (exOf (toks s).1) (toks s).1 else .err (toks s).2.1 (toks s).2.2
theorem Znx {s:Bytes}{ts:List Tok}{er ln:Int}(h:toks s=(ts,er,ln))(he:er≠0):srcO s=.err er ln:=by unfold srcO;rw [h];exact if_neg he
theorem Zee {s:Bytes}{ts:List Tok}{ln:Int}(h:toks s=(ts,0,ln)):srcO s=allO (exOf ts) ts:=by unfold srcO;rw [h];exact if_pos rfl
end
section
open Go.RowKit Lx Px
theorem Zrq {ts:List Tok}{k:Nat}(hk:k≤ts.length){o:Out}(h:Rd 0 none (txt ts k) (o.res ts))(ho:okK ts k o):exOf ts k=o:=by
 obtain ⟨h1,h2⟩:=Z3G ts k hk
 have hd:=Zch h1 h
 cases o with
 | ok e j=>exact Ziy hd ho.2 h2
 | no j=>exact Ziz hd ho.2 h2
theorem ZfE {ex:Nat→Out}{ts:List Tok}{k:Nat}{r:Rr}{k':Nat}(h:ZpA ex ts k r k'):Z4i ex ts k=.ok r k':=by
 obtain ⟨⟨k1,k2,k3,k4,k5,k6,k7,k8,k9,k10,k11,h1,h2,h3,h4,h5,h6,h7,h8,h9,h10,h11,h12,h13,h14,h15,h16⟩,hv⟩:=h
 unfold Z4i
 rw [h1];dsimp only [Z74]
 rw [h2];dsimp only
 rw [h3];dsimp only
 rw [h4];dsimp only
 rw [h5];dsimp only
 rw [h6];dsimp only
 rw [h7];dsimp only
 rw [h8];dsimp only
 rw [h9];dsimp only
 rw [Z4h,if_pos h10,Z4h,if_pos h11,h12]
 dsimp only [Zgy]
 rw [Z4h,if_pos h13,h14]
 dsimp only
 rw [Z4h,if_pos h15,if_pos (by rw [hv.1,hv.2];rfl),h16]
theorem Z8g {ts:List Tok}(f k:Nat)(hk:k≤ts.length){e:Ex}(j:Nat)(h:rd f 0 none (txt ts k)=some (.ok e (txt ts j)))(hj:k<j∧j≤ts.length):exOf ts k=.ok e j:=Zrq (o:=.ok e j) hk ⟨f,h⟩ hj
end
section
open Go.RowKit Lx Px
def tk (t:Bytes):Tok:=(Z08 t,1,t)
end
section
open Go.RowKit Lx Px
def Rr.rt (r:Rr):Rt:=⟨r.id,r.lv,r.kd,r.fr,r.un,r.ls,r.mo,r.ar,pctN r.kp,pctD r.kp,r.wh.1.1,r.wh.1.2,r.wh.2,r.pr.1.1,r.pr.1.2,r.pr.2⟩
def Z3w (r:Rt)(wv pv:Value):List Value:=[.int .i64 r.id,.int .i64 r.lv,.int .i64 r.kd,.int .i64 r.fr,.int .i64 r.un,.int .i64 r.ls,.int .i64 r.mo,.int .i64 r.ar,.int .i64 r.kn,.int .i64 r.kq,.int .i64 r.wo,.int .i64 r.wn,wv,.int .i64 r.po,.int .i64 r.pn,pv]
structure Rm where
 r:Rt
 wv:Value
 pv:Value
def Rm.cells (m:Rm):List Value:=Z3w m.r m.wv m.pv
theorem Rm.cells_len (m:Rm):m.cells.length=16:=rfl
def Z47 (ms:List Rm):List Value:=ms.flatMap Rm.cells
theorem Zd2 (ms:List Rm)(m:Rm):Z47 (ms++[m])=Z47 ms++m.cells:=by simp [Z47]
theorem Zef (ms:List Rm)(k j:Nat)(h:k<ms.length)(hj:j<16):(Z47 ms)[k*16+j]?=ms[k].cells[j]?:=by
 induction ms generalizing k with
 | nil=>simp at h
 | cons m ms ih =>
  have hc:Z47 (m::ms)=m.cells++Z47 ms:=by simp [Z47]
  rw [hc]
  cases k with
  | zero=>simp only [Nat.zero_mul,Nat.zero_add,List.getElem_cons_zero];rw [List.getElem?_append_left (by rw [Rm.cells_len];omega)]
  | succ k =>
   rw [List.getElem?_append_right (by rw [Rm.cells_len];omega)]
   have:=ih k (by simpa using h)
   simp only [Rm.cells_len,List.getElem_cons_succ]
   rw [← this];congr 1;omega
def RtAt (w:World)(B:Nat)(p:Addr)(r:Rt):Prop :=
 p.spot=none∧∃ wv pv,(∀ j u,(Z3w r wv pv)[j]?=some u→w.cell? ⟨p.block,p.off+j,none⟩=some u)∧FoV w B wv r.wl∧FoV w B pv r.pl
def RtsV (w:World)(B:Nat)(v:Value)(rs:List Rt):Prop :=
 ∃ A c,v=.slice A rs.length c∧∀ i (h:i<rs.length),∃ ad,A=some ad∧ad.block<B∧RtAt w B (ad.add (i*16)) rs[i]
theorem RtAt.keep {w w':World}{B:Nat}{p:Addr}{r:Rt}(h:RtAt w B p r)(hb:Below B w w')(hp:p.block<B):RtAt w' B p r:=by
 obtain ⟨hs,wv,pv,hc,h1,h2⟩:=h
 exact ⟨hs,wv,pv,fun j u hj=>(hb.cell (p:=⟨p.block,p.off+j,none⟩) hp).trans (hc j u hj),h1.on hb,h2.on hb⟩
theorem RtAt.up {w:World}{B B':Nat}{p:Addr}{r:Rt}(h:RtAt w B p r)(hb:B≤B'):RtAt w B' p r:=by
 obtain ⟨hs,wv,pv,hc,h1,h2⟩:=h
 exact ⟨hs,wv,pv,hc,h1.up hb,h2.up hb⟩
theorem RtsV.on {w w':World}{B:Nat}{v:Value}{rs:List Rt}(h:RtsV w B v rs)(hb:Below B w w'):RtsV w' B v rs:=by
 obtain ⟨A,c,e,hA⟩:=h
 refine ⟨A,c,e,fun i hi=>?_⟩
 obtain ⟨ad,e1,hl,hr⟩:=hA i hi
 exact ⟨ad,e1,hl,hr.keep hb (by rw [Z4k];exact hl)⟩
theorem RtsV.up {w:World}{B B':Nat}{v:Value}{rs:List Rt}(h:RtsV w B v rs)(hb:B≤B'):RtsV w B' v rs:=by
 obtain ⟨A,c,e,hA⟩:=h
 refine ⟨A,c,e,fun i hi=>?_⟩
 obtain ⟨ad,e1,hl,hr⟩:=hA i hi
 exact ⟨ad,e1,by omega,hr.up hb⟩
theorem RtsV.nil (w:World)(B:Nat):RtsV w B (.slice none 0 0) []:=⟨none,0,rfl,fun i h=>absurd h (by simp)⟩
def OwnD (w:World)(lo:Nat)(v:Value)(b:Nat):Prop:=lo≤b∧b<w.heap.size∧some b≠v.ownBlock
def OwnR (w:World)(lo:Nat)(v:Value)(rs:List Rt):Prop :=
 ∃ ms:List Rm,ms.map (·.r)=rs∧w.ownsRow lo 65 16 v ms.length (Z47 ms)∧∀ m∈ms,FoD w (OwnD w lo v) m.wv m.r.wl∧FoD w (OwnD w lo v) m.pv m.r.pl
theorem OwnR.nil (w:World)(lo:Nat):OwnR w lo (.slice none 0 0) []:=⟨[],rfl,World.ownsRow_nil _ _ _ _,fun m h=>absurd h (by simp)⟩
theorem Z7y {w w':World}{lo size n:Nat}{e:TypeId}{v:Value}{xs:List Value}(h:w.ownsRow lo e size v n xs)(hb:∀ k,lo≤k→k<w.heap.size→w'.heap[k]?=w.heap[k]?):w'.ownsRow lo e size v n xs:=by
 refine ⟨h.1,?_⟩
 rcases h.2 with hn | ⟨g,cap,cur,rfl,hg,hgg,rest⟩
 · exact .inl hn
 · exact .inr ⟨g,cap,cur,rfl,hg,(hb g hg (zs hgg)).trans hgg,rest⟩
theorem OwnR.keep {w w':World}{lo:Nat}{v:Value}{rs:List Rt}(h:OwnR w lo v rs)(hs:w.heap.size≤w'.heap.size)(hb:∀ k,lo≤k→k<w.heap.size→w'.heap[k]?=w.heap[k]?):OwnR w' lo v rs:=by
 obtain ⟨ms,e,ho,hf⟩:=h
 refine ⟨ms,e,⟨ho.1,?_⟩,fun m hm=>⟨(hf m hm).1.keep (fun b x=>⟨x.1,by have:=x.2.1;omega,x.2.2⟩) (fun b x=>hb b x.1 x.2.1),(hf m hm).2.keep (fun b x=>⟨x.1,by have:=x.2.1;omega,x.2.2⟩) (fun b x=>hb b x.1 x.2.1)⟩⟩
 rcases ho.2 with hn | ⟨g,cap,cur,rfl,hg,hgg,rest⟩
 · exact .inl hn
 · exact .inr ⟨g,cap,cur,rfl,hg,(hb g hg (zs hgg)).trans hgg,rest⟩
theorem OwnR.but {w w':World}{lo pb:Nat}{v:Value}{rs:List Rt}(h:OwnR w lo v rs)(hb:But pb w w')(hp:pb<lo):OwnR w' lo v rs:=h.keep hb.size (fun k h1 h2=>hb.block k h2 (by omega))
theorem OwnR.form {w:World}{lo:Nat}{v:Value}{rs:List Rt}(h:OwnR w lo v rs):∃ A c,v=.slice A rs.length c:=by
 obtain ⟨ms,e,ho,_⟩:=h
 have hl:rs.length=ms.length:=by rw [← e,List.length_map]
 rw [hl]
 rcases ho.2 with ⟨hv,h0⟩ | ⟨g,cap,cur,hv,_⟩
 · exact ⟨none,0,by rw [hv,h0]⟩
 · exact ⟨_,_,hv⟩
theorem OwnR.snoc {w w1 w2:World}{lo:Nat}{v v':Value}{ms:List Rm}{m:Rm}{c g:Nat}
 (hm:∀ x∈ms,FoD w (OwnD w lo v) x.wv x.r.wl∧FoD w (OwnD w lo v) x.pv x.r.pl) (hlo:∀ k,v.ownBlock=some k→lo≤k∧k<w.heap.size)
 (h1:FoD w1 (fun b=>w.heap.size≤b∧b<w1.heap.size) m.wv m.r.wl) (h2:FoD w1 (fun b=>w.heap.size≤b∧b<w1.heap.size) m.pv m.r.pl)
 (hw:∀ k,lo≤k→k<w.heap.size→w1.heap[k]?=w.heap[k]?) (hs:w.heap.size≤w1.heap.size) (hl:lo≤w.heap.size)
 (hown:w2.ownsRow lo 65 16 v' c (Z47 ms++m.cells)) (hc:c=ms.length+1) (hgrow:w1.grownBy w2 v.ownBlock) (hv':v'.ownBlock=some g) (hg:v.ownBlock=some g∨g=w1.heap.size) :
 OwnR w2 lo v' ((ms++[m]).map (·.r)):=by
 refine ⟨ms++[m],rfl,?_,?_⟩
 · rw [List.length_append,List.length_singleton,← hc,Zd2];exact hown
 · have hne:∀ b,lo≤b→b<w1.heap.size→some b≠v.ownBlock→some b≠v'.ownBlock:=by
    intro b hb1 hb2 hn e
    rw [hv'] at e
    injection e with e
    rcases hg with hg | hg
    · exact hn (by rw [hg,e])
    · omega
   intro x hx
   rw [List.mem_append,List.mem_singleton] at hx
   rcases hx with hx | rfl
   · obtain ⟨f1,f2⟩:=hm x hx
     refine ⟨f1.keep (fun b y=>⟨y.1,?_,?_⟩) (fun b y=>?_),f2.keep (fun b y=>⟨y.1,?_,?_⟩) (fun b y=>?_)⟩
     all_goals first
      | (have:=y.2.1;have:=hgrow.size;omega)
      | exact hne b y.1 (by have:=y.2.1;omega) y.2.2
      | (rw [hgrow.block b (by have:=y.2.1;omega) y.2.2,hw b y.1 y.2.1])
   · have hnew:∀ b,w.heap.size≤b→some b≠v.ownBlock:=by
      intro b hb e
      have:=(hlo b e.symm).2
      omega
     refine ⟨h1.keep (fun b y=>⟨?_,?_,?_⟩) (fun b y=>?_),h2.keep (fun b y=>⟨?_,?_,?_⟩) (fun b y=>?_)⟩
     all_goals first
      | (have:=y.1;omega)
      | (have:=y.2;have:=hgrow.size;omega)
      | exact hne b (by have:=y.1;omega) y.2 (hnew b y.1)
      | exact hgrow.block b y.2 (hnew b y.1)
theorem OwnR.v {w:World}{lo:Nat}{v:Value}{rs:List Rt}(h:OwnR w lo v rs):RtsV w w.heap.size v rs:=by
 obtain ⟨ms,rfl,ho,hf⟩:=h
 rcases ho.2 with ⟨hv,h0⟩ | ⟨g,cap,cur,hv,_,hg,_⟩
 · have:ms=[]:=List.length_eq_zero_iff.1 h0
   subst this;subst hv;exact RtsV.nil _ _
 · refine ⟨some ⟨g,0,none⟩,cap,by rw [hv,List.length_map],fun i hi=>⟨⟨g,0,none⟩,rfl,(zs hg),?_⟩⟩
   have hi':i<ms.length:=by simpa using hi
   obtain ⟨f1,f2⟩:=hf ms[i] (List.getElem_mem hi')
   rw [Z68]
   refine ⟨rfl,ms[i].wv,ms[i].pv,?_,?_,?_⟩
   · intro j u hj
     subst hv;have hj16:j<16:=by
      rcases Nat.lt_or_ge j 16 with h | h
      · exact h
      · rw [List.getElem?_eq_none (by show 16≤j;exact h)] at hj;cases hj
     show w.cell? ⟨g,i*16+j,none⟩=some u
     rw [ho.cellAt (i*16+j) (by omega),Zef ms i j hi' hj16,← hj]
     simp only [List.getElem_map]
     rfl
   · simp only [List.getElem_map];exact f1.v (fun b x=>x.2.1)
   · simp only [List.getElem_map];exact f2.v (fun b x=>x.2.1)
theorem ZfF {w:World}{b:Nat}{cs:Array Value}{t:TypeId}{fr:Nat × Nat}(h:w.heap[b]?=some (.cells cs t fr))(l:List Value)(hl:l=cs.toList):∀ j u,l[j]?=some u→w.cell? ((⟨b,0,none⟩:Addr).add j)=some u:=by
 subst hl;exact World.news_of_block h
theorem Tryz.infoRate:(Tryz.prog.info? 65).map (fun i=>(i.zero,i.size,i.bytes))=some (some (.agg #[.int .i64 0,.int .i64 0,.int .i64 0,.int .i64 0,.int .i64 0,.int .i64 0,.int .i64 0,.int .i64 0,.int .i64 0,.int .i64 0,.int .i64 0,.int .i64 0,.slice none 0 0,.int .i64 0,.int .i64 0,.slice none 0 0]),16,160):=by kernel_rfl
end
section
open Go.ChangeShapes Go.WideShapes Go.ChangeAt Go.RowKit Go.Deep Lx Px
theorem Zrr {B B':Nat}{w:World}(h:Tabs B w)(h1:B≤B')(h2:B'≤w.heap.size):Tabs B' w:=⟨Zpm h h1,by have:=h.2.1;omega,h2,h.2.2.2⟩
theorem Z05 {w w':World}(h:Tabs w.heap.size w)(hb:Below w.heap.size w w'):Tabs w'.heap.size w':=Zrr (h.on hb) hb.size (zn _)
theorem Z7z {p:Addr}{k j:Nat}(h:(p.add k).spot=none):p.add (k+j)=⟨(p.add k).block,(p.add k).off+j,none⟩:=by
 unfold Addr.add at h ⊢
 by_cases hk:k=0
 · subst hk
   rw [if_pos rfl] at h ⊢
   by_cases hj:j=0
   · subst hj;rw [if_pos rfl];cases p;cases h;rfl
   · rw [if_neg (by omega)];simp
 · rw [if_neg (by omega),if_neg hk]
   simp only [Nat.add_assoc]
theorem Z95 {w:World}{p:Addr}{v:Value}(h:w.cell? p=some v):p.spot=none:=by
 unfold World.cell? at h
 split at h
 · split at h
   · cases h
   · rename_i hs
     cases hp:p.spot with
     | none=>rfl
     | some x=>rw [hp] at hs;simp at hs
 · cases h
theorem Z96 {H:Type}{enc:TypeId × Value→H}{W:World}{n:Nat}{cs:List Value}{y:DataW H × List MemPlace}(h:DataW.trod enc Tryz.prog W 0 (fun _=>true) true n 65 cs=some y) :
 ∃ (r:Rt) (WA PA:Option Addr) (wc pc:Nat),cs=Z3w r (.slice WA (flen r.wl) wc) (.slice PA (flen r.pl) pc)∧FoV W W.heap.size (.slice WA (flen r.wl) wc) r.wl∧FoV W W.heap.size (.slice PA (flen r.pl) pc) r.pl:=by
 obtain ⟨xs,n',hn',_,hl,hxl,hf⟩:=DataW.trod_struct Tryz.underlying65 h
 rw [Tryz.cellsRate] at hl
 obtain ⟨c0,c1,c2,c3,c4,c5,c6,c7,c8,c9,c10,c11,c12,c13,c14,c15,rfl⟩:∃ c0 c1 c2 c3 c4 c5 c6 c7 c8 c9 c10 c11 c12 c13 c14 c15,cs=[c0,c1,c2,c3,c4,c5,c6,c7,c8,c9,c10,c11,c12,c13,c14,c15]:=by
  match cs,hl with
  | [c0,c1,c2,c3,c4,c5,c6,c7,c8,c9,c10,c11,c12,c13,c14,c15],_=>exact ⟨c0,c1,c2,c3,c4,c5,c6,c7,c8,c9,c10,c11,c12,c13,c14,c15,rfl⟩
 obtain ⟨x0,x1,x2,x3,x4,x5,x6,x7,x8,x9,rfl⟩:∃ x0 x1 x2 x3 x4 x5 x6 x7 x8 x9,xs=[x0,x1,x2,x3,x4,x5,x6,x7,x8,x9]:=by
  have hx3:xs.length=10:=hxl
  match xs,hx3 with
  | [x0,x1,x2,x3,x4,x5,x6,x7,x8,x9],_=>exact ⟨x0,x1,x2,x3,x4,x5,x6,x7,x8,x9,rfl⟩
 have g0:DataW.trod enc Tryz.prog W 0 (fun _=>true) true n' 3 [c0]=some x0:=hf 0 _ rfl
 have g1:DataW.trod enc Tryz.prog W 0 (fun _=>true) true n' 3 [c1]=some x1:=hf 1 _ rfl
 have g2:DataW.trod enc Tryz.prog W 0 (fun _=>true) true n' 3 [c2]=some x2:=hf 2 _ rfl
 have g3:DataW.trod enc Tryz.prog W 0 (fun _=>true) true n' 58 [c3,c4]=some x3:=hf 3 _ rfl
 have g4:DataW.trod enc Tryz.prog W 0 (fun _=>true) true n' 3 [c5]=some x4:=hf 4 _ rfl
 have g5:DataW.trod enc Tryz.prog W 0 (fun _=>true) true n' 3 [c6]=some x5:=hf 5 _ rfl
 have g6:DataW.trod enc Tryz.prog W 0 (fun _=>true) true n' 3 [c7]=some x6:=hf 6 _ rfl
 have g7:DataW.trod enc Tryz.prog W 0 (fun _=>true) true n' 60 [c8,c9]=some x7:=hf 7 _ rfl
 have g8:DataW.trod enc Tryz.prog W 0 (fun _=>true) true n' 63 [c10,c11,c12]=some x8:=hf 8 _ rfl
 have g9:DataW.trod enc Tryz.prog W 0 (fun _=>true) true n' 63 [c13,c14,c15]=some x9:=hf 9 _ rfl
 obtain ⟨k0,e0,_,_⟩:=DataW.trod_int Tryz.underlying3 g0
 obtain ⟨k1,e1,_,_⟩:=DataW.trod_int Tryz.underlying3 g1
 obtain ⟨k2,e2,_,_⟩:=DataW.trod_int Tryz.underlying3 g2
 obtain ⟨k5,e5,_,_⟩:=DataW.trod_int Tryz.underlying3 g4
 obtain ⟨k6,e6,_,_⟩:=DataW.trod_int Tryz.underlying3 g5
 obtain ⟨k7,e7,_,_⟩:=DataW.trod_int Tryz.underlying3 g6
 obtain ⟨k3,k4,e3,e4⟩:=ZeH Tryz.underlying58 ⟨rfl,rfl⟩ ⟨rfl,rfl⟩ (show DataW.trod enc Tryz.prog W 0 (fun _=>true) true n' 58 [c3,c4]=some x3 from g3)
 obtain ⟨k8,k9,e8,e9⟩:=ZeH Tryz.underlying60 ⟨rfl,rfl⟩ ⟨rfl,rfl⟩ (show DataW.trod enc Tryz.prog W 0 (fun _=>true) true n' 60 [c8,c9]=some x7 from g7)
 obtain ⟨wo,wn,wv,n8,y8,e10,_,t8⟩:=Z8u (show DataW.trod enc Tryz.prog W 0 (fun _=>true) true n' 63 [c10,c11,c12]=some x8 from g8)
 obtain ⟨po,pn,pv,n9,y9,e13,_,t9⟩:=Z8u (show DataW.trod enc Tryz.prog W 0 (fun _=>true) true n' 63 [c13,c14,c15]=some x9 from g9)
 obtain ⟨wl,hwl,_⟩:=Z7w n8 wv y8 t8
 obtain ⟨pl,hpl,_⟩:=Z7w n9 pv y9 t9
 have hwl':=hwl
 have hpl':=hpl
 obtain ⟨WA,wc,rfl,_⟩:=hwl'
 obtain ⟨PA,pc,rfl,_⟩:=hpl'
 simp only [List.cons.injEq,and_true] at e0 e1 e2 e5 e6 e7 e10 e13
 obtain ⟨rfl,rfl,rfl⟩:=e10
 obtain ⟨rfl,rfl,rfl⟩:=e13
 subst e0 e1 e2 e3 e4 e5 e6 e7 e8 e9;refine ⟨⟨k0,k1,k2,k3,k4,k5,k6,k7,k8,k9,wo,wn,wl,po,pn,pl⟩,WA,PA,wc,pc,rfl,hwl,hpl⟩
theorem Zrs {r:Rt}(h:r.can=true):r.text.length≤10100:=by
 simp only [Rt.can,Bool.and_eq_true,Rt.nums,List.all_cons,List.all_nil,Bool.and_true,numB,decide_eq_true_eq,beq_iff_eq] at h
 obtain ⟨⟨⟨⟨n1,n2,n3,n4,n5,n6,n7,n8⟩,_,_⟩,n9⟩,hw,hp⟩:=h
 obtain ⟨f1,o1,d1⟩:=Z2c hw
 obtain ⟨f2,o2,d2⟩:=Z2c hp
 have l1:=Z6b r.wo r.wn r.wl f1 o1
 have l2:=Z6b r.po r.pn r.pl f2 o2
 have m1:=Z1t r.id n1.1 (Int.le_trans n1.2 (by omega))
 have m2:=Z1t r.lv n2.1 (Int.le_trans n2.2 (by omega))
 have m3:=Z1t r.kd n3.1 (Int.le_trans n3.2 (by omega))
 have m4:=Z1t r.fr n4.1 (Int.le_trans n4.2 (by omega))
 have m5:=Z1t r.un n5.1 (Int.le_trans n5.2 (by omega))
 have m6:=Z1t r.ls n6.1 (Int.le_trans n6.2 (by omega))
 have m7:=Z1t r.mo n7.1 (Int.le_trans n7.2 (by omega))
 have m8:=Z1t r.ar n8.1 (Int.le_trans n8.2 (by omega))
 have m9:=Z1t r.pct n9.1 (Int.le_trans n9.2 (by omega))
 simp only [Rt.text,Rt.items,Z2t,Z7H,List.length_append,List.length_cons,List.length_nil]
 omega
end
section
open Lx Px
namespace Qx
inductive V where
 | ok (n d:Int)
 | no (e:Int)
 deriving DecidableEq
def redN (n d:Int):Int:=n.tdiv (Nat.gcd n.natAbs d.natAbs:Nat)
def redD (n d:Int):Int:=d.tdiv (Nat.gcd n.natAbs d.natAbs:Nat)
def ratV (n d:Int):V:=if 1000000000<(redN n d).natAbs∨1000000<redD n d then .no 3 else .ok (redN n d) (redD n d)
def Z3d (n d:Int):V:=if d<0 then ratV (-n) (-d) else ratV n d
def addV (a b c d:Int):V:=ratV (a*d+c*b) (b*d)
def subV (a b c d:Int):V:=ratV (a*d - c*b) (b*d)
def mulV (a b c d:Int):V:=ratV (a*c) (b*d)
def divV (a b c d:Int):V:=if c=0 then .no 22 else Z3d (a*d) (b*c)
def cmpI (a b c d:Int):Int:=if a*d<c*b then -1 else if c*b<a*d then 1 else 0
def truV (b:Bool):V:=if b then .ok 1 1 else .ok 0 1
def appV (op a b c d:Int):V :=
 if op=4 then addV a b c d
 else if op=5 then subV a b c d
 else if op=6 then mulV a b c d
 else if op=7 then divV a b c d
 else if op=8 then (if cmpI a b c d<0 then .ok a b else .ok c d)
 else if op=9 then (if 0<cmpI a b c d then .ok a b else .ok c d)
 else if op=11 then truV (decide (cmpI a b c d<0))
 else if op=12 then truV (decide (cmpI a b c d=0))
 else if op=13 then truV (decide (a=1)&&decide (c=1))
 else truV (decide (a=1) || decide (c=1))
structure Vs where
 a:Int
 b:Int
 c:Int
 d:Int
def Vs.at (v:Vs)(n:Int):Int:=if n=1 then v.a else if n=2 then v.b else if n=3 then v.c else v.d
def opV (v:Vs)(op n:Int)(x y z:V):V :=
 if op=1∨op=2 then Z3d n 1
 else if op=3 then Z3d (v.at n) 1
 else match x with
  | .no e=>.no e
  | .ok a b =>
   if op=15 then truV (decide (a=0))
   else if op=10 then (if a=1 then y else z)
   else match y with
    | .no e=>.no e
    | .ok c d=>appV op a b c d
def valF (v:Vs):Fo→Nat→V
 | .nil,_=>.no 22
 | .node _ _ a l _,0=>opV v a.1 a.2 (valF v l 0) (valF v l 1) (valF v l 2)
 | .node _ _ _ _ r,k+1=>valF v r k
def valE (v:Vs)(a:Int × Int)(l:Fo):V:=opV v a.1 a.2 (valF v l 0) (valF v l 1) (valF v l 2)
theorem Zny (v:Vs):∀ (f:Fo) (k:Nat),k<flen f→valF v f k=valE v (getF f k).1 (getF f k).2:=by
 intro f
 induction f with
 | nil=>intro k h;simp [flen] at h
 | node b o a l r _ ihr =>
  intro k h
  cases k with
  | zero=>rfl
  | succ k=>exact ihr k (by simp [flen] at h;omega)
def opT (op:Int)(x y z:Int):Int :=
 if op=1∨op=3 then 1
 else if op=2 then 2
 else if op=4∨op=5∨op=8∨op=9 then (if x=y∧x≠3 then x else 0)
 else if op=6 then (if x=1∧y=1 then 1 else if x=2∧y=1∨x=1∧y=2 then 2 else 0)
 else if op=7 then (if y=1∧x≠3 then x else 0)
 else if op=11∨op=12 then (if x=y∧x≠3 then 3 else 0)
 else if op=13∨op=14 then (if x=3∧y=3 then 3 else 0)
 else if op=15 then (if x=3 then 3 else 0)
 else if op=10 then (if x=3∧y=z then y else 0)
 else 0
def allT:Fo→Bool
 | .nil=>true
 | .node _ _ a l r=>allT l&&allT r&&decide (opT a.1 (typK l 0) (typK l 1) (typK l 2)≠0)
where
 typK:Fo→Nat→Int
 | .nil,_=>0
 | .node _ _ a l _,0=>opT a.1 (typK l 0) (typK l 1) (typK l 2)
 | .node _ _ _ _ r,k+1=>typK r k
def typE (a:Int × Int)(l:Fo):Int:=if allT l then opT a.1 (allT.typK l 0) (allT.typK l 1) (allT.typK l 2) else 0
end Qx
end
section
open Lx Px
namespace Qx
def rndE (n d:Int):Int:=if d<2*(n % d)∨2*(n % d)=d∧(n / d) % 2=1 then n / d+1 else n / d
def Z3H (r:Rt):Bool :=
 decide (1≤r.id)&&decide (r.id≤1000000)&&decide (0≤r.lv)&&decide (r.lv≤100)&&decide (1≤r.kd)&&decide (r.kd≤20)&&decide (1≤r.ar)&&decide (r.ar≤127)
 && decide (0≤r.fr)&&decide (r.fr<r.un)&&decide (r.un≤366)&&ratB r.kn r.kq&&decide (0≤r.kn)&&decide (r.kn≤r.kq)
 && decide (1≤r.ls)&&decide (r.ls≤r.mo)&&decide (r.mo≤60)&&Z0i r.wo r.wn r.wl&&Z0i r.po r.pn r.pl
def Z14 (r:Rt):Int:=if Z3H r then (if typE (r.wo,r.wn) r.wl=3∧typE (r.po,r.pn) r.pl=2 then 0 else 20) else 1
def useL (seen:List Int):List Rt→Bool
 | []=>true
 | r::l=>Z14 r==0&&!seen.contains r.id&&useL (r.id::seen) l
def useB (l:List Rt):Bool:=decide (l.length≤100)&&useL [] l
structure Ask where
 kind:Int
 fr:Int
 un:Int
 pers:Int
 deriving DecidableEq
def Ask.okB (a:Ask):Bool:=decide (0≤a.fr)&&decide (a.fr<a.un)&&decide (a.un≤366)&&decide (a.un - a.fr≤60)&&decide (1≤a.kind)&&decide (a.kind≤20)&&decide (1≤a.pers)&&decide (a.pers≤8)
def wday (n:Int):Int:=(n+3) % 7
def Z1p (a:Ask)(night:Int):Vs:=⟨a.un - a.fr,a.pers,night - a.fr,wday night⟩
def bitB (arr:Int)(day:Nat):Bool:=decide (arr / 2 ^ day % 2=1)
def Zka (r:Rt)(a:Ask)(night:Int):Bool :=
 decide (r.kd=a.kind)&&decide (r.fr≤night)&&decide (night<r.un)&&decide (r.ls≤a.un - a.fr)&&decide (a.un - a.fr≤r.mo)&&bitB r.ar (wday a.fr).toNat
def apR (r:Rt)(a:Ask)(night:Int):Int :=
 if Zka r a night then (match valE (Z1p a night) (r.wo,r.wn) r.wl with
  | .ok n _=>if n=1 then 1 else 0
  | .no e=>-e) else 0
def Z4x (r:Rt):Option Rt→Bool
 | none=>true
 | some b=>decide (b.lv<r.lv) || decide (r.lv=b.lv)&&decide (r.id<b.id)
def Z48 (a:Ask)(night:Int):Option Rt→List Rt→Except Int (Option Rt)
 | o,[]=>.ok o
 | o,r::l=>if apR r a night<0 then .error (-(apR r a night)) else Z48 a night (if apR r a night=1∧Z4x r o=true then some r else o) l
inductive N where
 | ok (c:Int) (r:Rt)
 | no (e:Int)
def Z0z (l:List Rt)(a:Ask)(night:Int):N :=
 match Z48 a night none l with
 | .error e=>.no e
 | .ok none=>.no 4
 | .ok (some r)=>match valE (Z1p a night) (r.po,r.pn) r.pl with
  | .no e=>.no e
  | .ok n d=>if rndE n d<0 then .no 22 else .ok (rndE n d) r
def Zbp (n:Int)(r:Rt):Int:=rndE (n*r.kn) r.kq
def Z0d (l:List Rt)(a:Ask):Nat→Int→Except Int (List Int × Int)
 | 0,_=>.ok ([],0)
 | k+1,night=>match Z0z l a night with
  | .no e=>.error e
  | .ok c r=>match Z0d l a k (night+1) with
   | .error e=>.error e
   | .ok (cs,kp)=>.ok (c::cs,Zbp c r+kp)
def Z0g (l:List Rt)(a:Ask):Except Int (List Int × Int) :=
 if useB l&&a.okB then (match Z0d l a (a.un - a.fr).toNat a.fr with
  | .error e=>.error e
  | .ok (cs,kp)=>if 1000000000<cs.sum then .error 3 else .ok (cs,kp)) else .error 1
end Qx
end
end Go.Proofs.YtnepkoepbapgeaaGreatDoor
