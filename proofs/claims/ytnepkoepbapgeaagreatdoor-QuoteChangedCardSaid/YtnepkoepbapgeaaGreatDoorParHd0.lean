/-
  Several texts in one: ParW9, ParHd0.
-/
import Derived.Test.YtnepkoepbapgeaaGreatDoorParW1
import Derived.Recover
import Derived.Test.YtnepkoepbapgeaaGreatDoorParW7
import Derived.Test.YtnepkoepbapgeaaGreatDoorLexT2
import Derived.Test.YtnepkoepbapgeaaGreatDoorParW11
import Derived.Test.YtnepkoepbapgeaaGreatDoorLexPlain8
namespace Go.Proofs.YtnepkoepbapgeaaGreatDoor
set_option maxHeartbeats 4000000
set_option maxRecDepth 100000
section
open Go.RowKit Lx Px
def Set2 (be bl:Nat)(er ln:Int)(w w':World):Prop :=
 w'.heap[be]?=some (.cells #[.int .i64 er] 35 (0,0))∧w'.heap[bl]?=some (.cells #[.int .i64 ln] 3 (0,0))∧(∀ k,k<w.heap.size→k≠be→k≠bl→w'.heap[k]?=w.heap[k]?)∧w.heap.size≤w'.heap.size∧w'.os=w.os∧w'.tape=w.tape∧w'.output=w.output
theorem Zaa {P:Program}{c:Code}{Q:Exit→Act→List Frame→World→Prop}{a:Act}{cs:List Frame}{w:World}(R:Act→World→Prop)(h:c.wp P (fun e a' w'=>e=.normal∧R a' w') a w)(hR:∀ a' w',R a' w'→Q .normal a' cs w'):c.wpS P Q a cs w :=
 wpS_of_wp (Code.wp_mono (fun e a' w' h=>by obtain ⟨he,hr⟩:=h;subst he;exact hR a' w' hr) h)
theorem Zg9 {w:World}{b:Nat}{x:Value}{ty:TypeId}(h:w.heap[b]?=some (.cells #[x] ty (0,0)))(y:Value):(w.setCell ⟨b,0,none⟩ y).heap[b]?=some (.cells #[y] ty (0,0)):=by
 simp [World.setCell,Array.getElem?_modify,h]
theorem Z6x (be bl:Nat)(x y er ln:Int)(older:List PanicEntry)(w:World)(hne:be≠bl)(he:w.heap[be]?=some (.cells #[.int .i64 x] 35 (0,0)))(hl:w.heap[bl]?=some (.cells #[.int .i64 y] 3 (0,0))) :
 CallsD Tryz.prog 119 #[.pointer (some ⟨be,0,none⟩),.pointer (some ⟨bl,0,none⟩)] (.panicking ({ v:=.iface 177 (.agg #[.int .i64 er,.int .i64 ln]),recovered:=false }::older)) w fun e u' w' =>
  e=.returned (.tuple #[])∧u'=.panicking ({ v:=.iface 177 (.agg #[.int .i64 er,.int .i64 ln]),recovered:=true }::older)∧Set2 be bl er ln w w':=by
 refine callsD_of_wpS Tryz.func119 rfl fun c₀ cs hu=>?_
 apply wpS_seq
 apply wpS_region
 simp [wpOpsS,go_sem,recoverD,hu,Tryz.ntmps119,Exit.thenS]
 refine Zaa (fun a' w'=>a'.defers=[]∧Set2 be bl er ln w w') ?_ ?_
 · have htm:∀ V:Value,(#[Value.pointer (some ⟨be,0,none⟩),Value.pointer (some ⟨bl,0,none⟩)]++(Array.replicate 19 undef).setIfInBounds 5 V)=#[Value.pointer (some ⟨be,0,none⟩),Value.pointer (some ⟨bl,0,none⟩),undef,undef,undef,undef,undef,V,undef,undef,undef,undef,undef,undef,undef,undef,undef,undef,undef,undef,undef]:=fun _=>by kernel_rfl
   rw [htm]
   have hta:∀ w:World,(Instr.typeAssert (.iface 177 (.agg #[.int .i64 er,.int .i64 ln])) 20 177 true).run Tryz.prog w=.ok (.tuple #[.agg #[.int .i64 er,.int .i64 ln],.bool true]) w:=fun _=>by kernel_rfl
   have he0:(w.alloc (.cells #[.int .i64 er,.int .i64 ln] 177)).heap[be]?=some (.cells #[.int .i64 x] 35 (0,0)):=(Below.heap_alloc _ _ _ (zs he)).trans he
   have hl0:(w.alloc (.cells #[.int .i64 er,.int .i64 ln] 177)).heap[bl]?=some (.cells #[.int .i64 y] 3 (0,0)):=(Below.heap_alloc _ _ _ (zs hl)).trans hl
   have hn0:=za w (.cells #[.int .i64 er,.int .i64 ln] 177)
   have hb0:Below w.heap.size w (w.alloc (.cells #[.int .i64 er,.int .i64 ln] 177)):=(Below.refl _ _).alloc (zn _) _
   have hbe:be<w.heap.size:=(zs he)
   have hbl:bl<w.heap.size:=(zs hl)
   have HE:=zh he0;have HL:=zh hl0;have HN:=zh hn0;have HB:=zh hb0;clear he hl he0 hl0 hn0 hb0 hu htm;go_upto_region 7 with fail
   clear hta;generalize w.alloc (.cells #[.int .i64 er,.int .i64 ln] 177)=W at *
   have a0:W.cell? ⟨be,0,none⟩=some (.int .i64 x):=by rw [zc HE.out];rfl
   have a1:W.cell? ⟨bl,0,none⟩=some (.int .i64 y):=by rw [zc HL.out];rfl
   have a2:W.cell? ⟨w.heap.size,0,none⟩=some (.int .i64 er):=by rw [zc HN.out];rfl
   have a3:W.cell? ⟨w.heap.size,1,none⟩=some (.int .i64 ln):=by rw [zc HN.out];rfl
   have a4:W.frozen? ⟨be,0,none⟩=false:=by simp [World.frozen?,HE.out]
   have a5:W.frozen? ⟨bl,0,none⟩=false:=by simp [World.frozen?,HL.out]
   have hn1:be≠w.heap.size:=by omega
   have hn2:bl≠w.heap.size:=by omega
   go_region
   refine ⟨rfl,rfl,?_,?_,?_,?_,HB.out.os,HB.out.tape,HB.out.output⟩
   · show ((W.setCell ⟨be,0,none⟩ (.int .i64 er)).setCell ⟨bl,0,none⟩ (.int .i64 ln)).heap[be]?=_
     rw [Below.heap_setCell _ _ _ _ hne]
     exact Zg9 HE.out _
   · show ((W.setCell ⟨be,0,none⟩ (.int .i64 er)).setCell ⟨bl,0,none⟩ (.int .i64 ln)).heap[bl]?=_
     refine Zg9 (x:=.int .i64 y) ?_ _
     rw [Below.heap_setCell _ _ _ _ (Ne.symm hne)]
     exact HL.out
   · intro k hk h1 h2
     show ((W.setCell ⟨be,0,none⟩ (.int .i64 er)).setCell ⟨bl,0,none⟩ (.int .i64 ln)).heap[k]?=_
     rw [Below.heap_setCell _ _ _ _ h2,Below.heap_setCell _ _ _ _ h1]
     exact HB.out.block k hk
   · show w.heap.size≤((W.setCell ⟨be,0,none⟩ (.int .i64 er)).setCell ⟨bl,0,none⟩ (.int .i64 ln)).heap.size
     have:=HB.out.size
     simp only [World.setCell,Array.size_modify]
     exact this
 · rintro a' w' ⟨hd,hS⟩
   cases c₀
   simp_all [bodyPostS,results,Tryz.results119]
theorem ZbD (be bl:Nat)(w:World) :
 CallsD Tryz.prog 119 #[.pointer (some ⟨be,0,none⟩),.pointer (some ⟨bl,0,none⟩)] .returning w fun e u' w'=>e=.returned (.tuple #[])∧u'=.returning∧w'=w:=by
 refine callsD_of_wpS Tryz.func119 rfl fun c₀ cs hu=>?_
 apply wpS_seq
 apply wpS_region
 simp [wpOpsS,go_sem,recoverD,hu,Tryz.ntmps119,Exit.thenS]
 refine Zaa (fun a' w'=>a'.defers=[]∧w'=w) ?_ ?_
 · have htm:∀ V:Value,(#[Value.pointer (some ⟨be,0,none⟩),Value.pointer (some ⟨bl,0,none⟩)]++(Array.replicate 19 undef).setIfInBounds 5 V)=#[Value.pointer (some ⟨be,0,none⟩),Value.pointer (some ⟨bl,0,none⟩),undef,undef,undef,undef,undef,V,undef,undef,undef,undef,undef,undef,undef,undef,undef,undef,undef,undef,undef]:=fun _=>by kernel_rfl
   rw [htm]
   clear htm hu;go_wp2_with fail
 · rintro a' w' ⟨hd,rfl⟩
   cases c₀
   simp_all [bodyPostS,results,Tryz.results119]
end
section
open Go.RowKit Lx Px
def Wh (w:World)(wx:World):Prop :=
 wx.heap[w.heap.size]?=some (.cells #[.int .i64 0,.int .i64 0,.slice none 0 0] 63 (0,0))∧wx.heap[w.heap.size+1]?=some (.cells #[.int .i64 0] 35 (0,0))∧wx.heap[w.heap.size+2]?=some (.cells #[.int .i64 0] 3 (0,0))∧Below w.heap.size w wx
theorem Wh.but {w wx wy:World}(h:Wh w wx)(hb:But (w.heap.size+3) wx wy):Wh w wy:=by
 obtain ⟨h1,h2,h3,h4⟩:=h
 have l3:w.heap.size+2<wx.heap.size:=(zs h3)
 exact ⟨(hb.block _ (by omega) (by omega)).trans h1,(hb.block _ (by omega) (by omega)).trans h2,(hb.block _ (by omega) (by omega)).trans h3,
  h4.trans ⟨hb.os,hb.tape,hb.output,hb.size,fun k hk=>hb.block k (by omega) (by omega)⟩⟩
theorem ZbE (s:ByteArray)(w:World):Calls Tryz.prog 82 #[.string s] w (Z9c w (toks (bl s))):=by
 by_cases hs:s.size≤1000000000
 · exact Zee s w hs
 · have hbig:20000<s.size:=by omega
   rw [Zd1 s hbig]
   go_enter Tryz.func82,Tryz.ntmps82
   go_wp2_with fail;refine bodyPost_ret (v:=.tuple #[.slice none 0 0,.int .i64 2,.int .i64 0]) (by simp [results,Tryz.results82,go_sem]) rfl ?_
   exact ⟨_,rfl,Sl.nil _ _,(((Za3 w).alloc (zn _) _).alloc (by simp) _).alloc (by simp;omega) _⟩
theorem ZiG:∀ (ps:List (Int × Bytes)) (acc:List Tok),Knd acc→acc.length≤5000→Knd (coll acc ps).1∧(coll acc ps).1.length≤5000:=by
 intro ps
 induction ps with
 | nil=>intro acc h hl;exact ⟨h,hl⟩
 | cons p ps ih =>
  intro acc h hl
  obtain ⟨ln,t⟩:=p
  simp only [coll]
  split
  · exact ⟨fun t ht=>by simp at ht,by simp⟩
  · split
    · exact ⟨fun t ht=>by simp at ht,by simp⟩
    · rename_i h1 h2
      refine ih _ ?_ (by simp;omega)
      intro u hu
      rw [List.mem_append,List.mem_singleton] at hu
      rcases hu with hu | rfl
      · exact h u hu
      · exact ⟨rfl,h1⟩
theorem ZiH (s:Bytes):Knd (toks s).1∧(toks s).1.length≤5000:=by
 unfold toks
 split
 · exact ⟨fun t ht=>by simp at ht,by simp⟩
 · exact ZiG _ [] (fun t ht=>by simp at ht) (by simp)
end
section
open Go.RowKit Lx Px
end
section
open Go.RowKit Lx Px
inductive AllR where
 | ok (l:List Rr)
 | err (e ln:Int)
def Z1r (ex:Nat→Out)(ts:List Tok):Nat→Nat→List Rr→AllR
 | 0,_,acc=>.ok acc
 | f+1,k,acc =>
  if k<ts.length then
   (if acc.length=100∧nxt ts k=Z63 then .err 2 (lnAt ts k)
   else match Z3F ex ts k with
    | .ok r k'=>Z1r ex ts f k' (acc++[r])
    | .no j=>.err 8 (Z3d ts j)
    | .bad=>.err 1 (lnAt ts k))
  else .ok acc
def Z9g (ts:List Tok)(ex:Nat→Out):Prop:=∀ k,k≤ts.length→Rd 0 none (txt ts k) ((ex k).res ts)∧okK ts k (ex k)
theorem Z17 {s:Bytes}{ts:List Tok}{k k':Nat}{n:Int}(h:Z0c s ts k=.ok (n,k')):k<k'∧k'≤ts.length∧nxt ts k=s:=by
 unfold Z0c at h
 split at h
 · split at h
   · rename_i h1 h2
     injection h with h
     injection h with h3 h4
     have:k+1<ts.length:=by
      by_cases hk:k+1<ts.length
      · exact hk
      · exfalso
        rw [Z50 ts _ hk] at h2
        revert h2;decide
     exact ⟨by omega,by omega,h1⟩
   · cases h
 · cases h
theorem Z2p {x:Except Nat (Int × Nat)}{f:Int→Nat→ROut}{r:Rr}{k':Nat}(h:Z62 x f=.ok r k'):∃ n k,x=.ok (n,k)∧f n k=.ok r k':=by
 unfold Z62 at h
 split at h
 · cases h
 · exact ⟨_,_,rfl,h⟩
theorem Z6E {s:Bytes}{ts:List Tok}{k:Nat}{f:Nat→ROut}{r:Rr}{k':Nat}(h:Z3C s ts k f=.ok r k'):nxt ts k=s∧f (k+1)=.ok r k':=by
 unfold Z3C at h
 split at h
 · exact ⟨‹_›,h⟩
 · cases h
theorem Zd3 {o:Out}{f:Ex→Nat→ROut}{r:Rr}{k':Nat}(h:Zem o f=.ok r k'):∃ e k,o=.ok e k∧f e k=.ok r k':=by
 unfold Zem at h
 split at h
 · cases h
 · exact ⟨_,_,rfl,h⟩
theorem ZbF {ts:List Tok}{k:Nat}{s:Bytes}(h:nxt ts k=s)(hs:s≠[]):k<ts.length:=by
 by_cases hk:k<ts.length
 · exact hk
 · rw [Z50 ts k hk] at h;exact absurd h.symm hs
structure ZkG (ex:Nat→Out) (ts:List Tok) (k:Nat) (r:Rr) (k':Nat):Prop where
 steps:∃ k1 k2 k3 k4 k5 k6 k7 k8 k9 k10 k11,Z0c Z63 ts k=.ok (r.id,k1)∧Z0c Zan ts k1=.ok (r.lv,k2)∧Z0c Zgn ts k2=.ok (r.kd,k3)∧Z0c Z64 ts k3=.ok (r.fr,k4)∧Z0c kTo ts k4=.ok (r.un,k5) ∧
  Z0c Zgp ts k5=.ok (r.ls,k6)∧Z0c kTo ts k6=.ok (r.mo,k7)∧Z0c Z7i ts k7=.ok (r.ar,k8)∧Z0c Zgq ts k8=.ok (r.kp,k9)∧nxt ts k9=[37]∧nxt ts (k9+1)=Zen∧ex (k9+1+1)=.ok r.wh k10∧nxt ts k10=Z8m ∧
  ex (k10+1)=.ok r.pr k11∧nxt ts k11=[59]∧k'=k11+1
 val:Z0d r.wh.1.1 r.wh.1.2 r.wh.2=true∧Z0d r.pr.1.1 r.pr.1.2 r.pr.2=true
theorem Zj0 {ex:Nat→Out}{ts:List Tok}{k:Nat}{r:Rr}{k':Nat}(h:Z3F ex ts k=.ok r k'):ZkG ex ts k r k':=by
 unfold Z3F at h
 obtain ⟨id,k1,h1,h⟩:=Z2p h
 obtain ⟨lv,k2,h2,h⟩:=Z2p h
 obtain ⟨kd,k3,h3,h⟩:=Z2p h
 obtain ⟨fr,k4,h4,h⟩:=Z2p h
 obtain ⟨un,k5,h5,h⟩:=Z2p h
 obtain ⟨ls,k6,h6,h⟩:=Z2p h
 obtain ⟨mo,k7,h7,h⟩:=Z2p h
 obtain ⟨ar,k8,h8,h⟩:=Z2p h
 obtain ⟨kp,k9,h9,h⟩:=Z2p h
 obtain ⟨h10,h⟩:=Z6E h
 obtain ⟨h11,h⟩:=Z6E h
 obtain ⟨wh,k10,h12,h⟩:=Zd3 h
 obtain ⟨h13,h⟩:=Z6E h
 obtain ⟨pr,k11,h14,h⟩:=Zd3 h
 obtain ⟨h15,h⟩:=Z6E h
 split at h
 · rename_i hv
   injection h with h16 h17
   subst h16;simp only [Bool.and_eq_true] at hv
   exact ⟨⟨k1,k2,k3,k4,k5,k6,k7,k8,k9,k10,k11,h1,h2,h3,h4,h5,h6,h7,h8,h9,h10,h11,h12,h13,h14,h15,h17.symm⟩,hv⟩
 · cases h
theorem Z5e {ex:Nat→Out}{ts:List Tok}(hex:Z9g ts ex){k:Nat}{r:Rr}{k':Nat}(h:Z3F ex ts k=.ok r k'):k<k'∧k'≤ts.length∧nxt ts k=Z63:=by
 obtain ⟨k1,k2,k3,k4,k5,k6,k7,k8,k9,k10,k11,h1,h2,h3,h4,h5,h6,h7,h8,h9,h10,h11,h12,h13,h14,h15,h16⟩:=(Zj0 h).steps
 have g1:=Z17 h1;have g2:=Z17 h2;have g3:=Z17 h3;have g4:=Z17 h4;have g5:=Z17 h5;have g6:=Z17 h6;have g7:=Z17 h7;have g8:=Z17 h8;have g9:=Z17 h9;have g11:=ZbF h11 (by decide)
 have e1:=(hex (k9+1+1) (by omega)).2
 rw [h12] at e1
 have e1':k9+1+1<k10∧k10≤ts.length:=e1
 have g13:=ZbF h13 (by decide)
 have e2:=(hex (k10+1) (by omega)).2
 rw [h14] at e2
 have e2':k10+1<k11∧k11≤ts.length:=e2
 have g15:=ZbF h15 (by decide)
 exact ⟨by omega,by omega,g1.2.2⟩
theorem ZbG {ex:Nat→Out}{ts:List Tok}(hex:Z9g ts ex):∀ (f k:Nat) (acc:List Rr),ts.length - k≤f→Z1r ex ts f k acc=Z1r ex ts (ts.length - k) k acc:=by
 intro f
 induction f using Nat.strongRecOn with
 | ind f ih =>
  intro k acc hf
  cases f with
  | zero=>rw [show ts.length - k=0 by omega]
  | succ f =>
   by_cases hk:k<ts.length
   · obtain ⟨d,hd⟩:∃ d,ts.length - k=d+1:=⟨ts.length - k - 1,by omega⟩
     rw [hd]
     simp only [Z1r,if_pos hk]
     split
     · rfl
     · split
       · rename_i r k' hr
         have hfar:=Z5e hex hr
         rw [ih f (by omega) k' _ (by omega),ih d (by omega) k' _ (by omega)]
       · rfl
       · rfl
   · rw [show ts.length - k=0 by omega]
     simp only [Z1r,if_neg hk]
def allO (ex:Nat→Out)(ts:List Tok):AllR:=Z1r ex ts ts.length 0 []
theorem Z4H {ex:Nat→Out}{ts:List Tok}(hex:Z9g ts ex){k:Nat}{acc:List Rr}(hk:k<ts.length)(hl:¬ (acc.length=100∧nxt ts k=Z63)){r:Rr}{k':Nat}(hr:Z3F ex ts k=.ok r k') :
 Z1r ex ts (ts.length - k) k acc=Z1r ex ts (ts.length - k') k' (acc++[r]):=by
 obtain ⟨d,hd⟩:∃ d,ts.length - k=d+1:=⟨ts.length - k - 1,by omega⟩
 have hfar:=Z5e hex hr
 rw [hd]
 simp only [Z1r,if_pos hk,if_neg hl,hr]
 exact ZbG hex d k' _ (by omega)
theorem Zeh {ex:Nat→Out}{ts:List Tok}{k:Nat}{acc:List Rr}(hk:¬ k<ts.length):Z1r ex ts (ts.length - k) k acc=.ok acc:=by
 rw [show ts.length - k=0 by omega];rfl
theorem Zab {ex:Nat→Out}{ts:List Tok}{k:Nat}{acc:List Rr}(hk:k<ts.length)(hl:acc.length=100∧nxt ts k=Z63):Z1r ex ts (ts.length - k) k acc=.err 2 (lnAt ts k):=by
 obtain ⟨d,hd⟩:∃ d,ts.length - k=d+1:=⟨ts.length - k - 1,by omega⟩
 rw [hd];simp only [Z1r,if_pos hk,if_pos hl]
theorem Zac {ex:Nat→Out}{ts:List Tok}{k j:Nat}{acc:List Rr}(hk:k<ts.length)(hl:¬ (acc.length=100∧nxt ts k=Z63))(hr:Z3F ex ts k=.no j):Z1r ex ts (ts.length - k) k acc=.err 8 (Z3d ts j):=by
 obtain ⟨d,hd⟩:∃ d,ts.length - k=d+1:=⟨ts.length - k - 1,by omega⟩
 rw [hd];simp only [Z1r,if_pos hk,if_neg hl,hr]
theorem Z8i {ex:Nat→Out}{ts:List Tok}{k:Nat}{acc:List Rr}(hk:k<ts.length)(hl:¬ (acc.length=100∧nxt ts k=Z63))(hr:Z3F ex ts k=.bad):Z1r ex ts (ts.length - k) k acc=.err 1 (lnAt ts k):=by
 obtain ⟨d,hd⟩:∃ d,ts.length - k=d+1:=⟨ts.length - k - 1,by omega⟩
 rw [hd];simp only [Z1r,if_pos hk,if_neg hl,hr]
end
section
open Go.RowKit Lx Px
theorem Zd4 (pb:Nat)(v:Value)(ts:List Tok):∃ ex:Nat→Out,Z9g ts ex∧(∀ k,¬ k≤ts.length→ex k=.no 0)∧∀ k,k≤ts.length→okK ts k (ex k)∧∀ w,PI w pb v ts k→Calls Tryz.prog 163 #[.pointer (some ⟨pb,0,none⟩)] w (RP pb v ts (ex k) w):=by
 have h:∀ k,∃ o:Out,(k≤ts.length→Rd 0 none (txt ts k) (o.res ts)∧okK ts k o∧∀ w,PI w pb v ts k→Calls Tryz.prog 163 #[.pointer (some ⟨pb,0,none⟩)] w (RP pb v ts o w))∧(¬ k≤ts.length→o=.no 0):=by
  intro k
  by_cases hk:k≤ts.length
  · obtain ⟨o,h1,h2,h3⟩:=Zjd pb v ts k hk
    exact ⟨o,fun _=>⟨h1,h2,h3⟩,fun h=>absurd hk h⟩
  · exact ⟨.no 0,fun h=>absurd h hk,fun _=>rfl⟩
 obtain ⟨ex,hex⟩:=Classical.axiomOfChoice h
 exact ⟨ex,fun k hk=>⟨((hex k).1 hk).1,((hex k).1 hk).2.1⟩,fun k hk=>(hex k).2 hk,fun k hk=>⟨((hex k).1 hk).2.1,((hex k).1 hk).2.2⟩⟩
theorem Zga {ts:List Tok}{ex ex':Nat→Out}(h:Z9g ts ex)(h':Z9g ts ex')(h0:∀ k,¬ k≤ts.length→ex k=.no 0)(h0':∀ k,¬ k≤ts.length→ex' k=.no 0):ex=ex':=by
 funext k
 by_cases hk:k≤ts.length
 · have hd:=ZaA (h k hk).1 (h' k hk).1
   cases hx:ex' k with
   | ok e j =>
    rw [hx] at hd
    have:=h' k hk
    rw [hx] at this
    exact Zgt hd this.2.2 (h k hk).2
   | no j =>
    rw [hx] at hd
    have:=h' k hk
    rw [hx] at this
    exact Zgu hd this.2.2 (h k hk).2
 · rw [h0 k hk,h0' k hk]
theorem Zgb (ts:List Tok):∃ ex:Nat→Out,Z9g ts ex∧∀ k,¬ k≤ts.length→ex k=.no 0:=by
 obtain ⟨ex,h1,h2,_⟩:=Zd4 0 (.slice none 0 0) ts
 exact ⟨ex,h1,h2⟩
noncomputable def exOf (ts:List Tok):Nat→Out:=Classical.choose (Zgb ts)
theorem Z4e (ts:List Tok):Z9g ts (exOf ts):=(Classical.choose_spec (Zgb ts)).1
theorem Zj1 (ts:List Tok):∀ k,¬ k≤ts.length→exOf ts k=.no 0:=(Classical.choose_spec (Zgb ts)).2
theorem Zmr {ts:List Tok}{ex:Nat→Out}(h:Z9g ts ex)(h0:∀ k,¬ k≤ts.length→ex k=.no 0):exOf ts=ex:=Zga (Z4e ts) h (Zj1 ts) h0
theorem Zj2 (pb:Nat)(v:Value)(ts:List Tok):∀ k,k≤ts.length→okK ts k (exOf ts k)∧∀ w,PI w pb v ts k→Calls Tryz.prog 163 #[.pointer (some ⟨pb,0,none⟩)] w (RP pb v ts (exOf ts k) w):=by
 obtain ⟨ex,h1,h2,h3⟩:=Zd4 pb v ts
 rw [Zmr h1 h2]
 exact h3
end
section
open Go.RowKit Lx Px
noncomputable def srcO (s:Bytes):AllR:=if (toks s).2.1=0 then allO (exOf (toks s).1) (toks s).1 else .err (toks s).2.1 (toks s).2.2
theorem Zj3 {s:Bytes}{ts:List Tok}{er ln:Int}(h:toks s=(ts,er,ln))(he:er≠0):srcO s=.err er ln:=by unfold srcO;rw [h];exact if_neg he
theorem Zgc {s:Bytes}{ts:List Tok}{ln:Int}(h:toks s=(ts,0,ln)):srcO s=allO (exOf ts) ts:=by unfold srcO;rw [h];exact if_pos rfl
end
section
open Go.RowKit Lx Px
theorem Zms {ts:List Tok}{k:Nat}(hk:k≤ts.length){o:Out}(h:Rd 0 none (txt ts k) (o.res ts))(ho:okK ts k o):exOf ts k=o:=by
 obtain ⟨h1,h2⟩:=Z4e ts k hk
 have hd:=ZaA h1 h
 cases o with
 | ok e j=>exact Zgt hd ho.2 h2
 | no j=>exact Zgu hd ho.2 h2
theorem Zj4 {ex:Nat→Out}{ts:List Tok}{k:Nat}{r:Rr}{k':Nat}(h:ZkG ex ts k r k'):Z3F ex ts k=.ok r k':=by
 obtain ⟨⟨k1,k2,k3,k4,k5,k6,k7,k8,k9,k10,k11,h1,h2,h3,h4,h5,h6,h7,h8,h9,h10,h11,h12,h13,h14,h15,h16⟩,hv⟩:=h
 unfold Z3F
 rw [h1];dsimp only [Z62]
 rw [h2];dsimp only
 rw [h3];dsimp only
 rw [h4];dsimp only
 rw [h5];dsimp only
 rw [h6];dsimp only
 rw [h7];dsimp only
 rw [h8];dsimp only
 rw [h9];dsimp only
 rw [Z3C,if_pos h10,Z3C,if_pos h11,h12]
 dsimp only [Zem]
 rw [Z3C,if_pos h13,h14]
 dsimp only
 rw [Z3C,if_pos h15,if_pos (by rw [hv.1,hv.2];rfl),h16]
theorem Zd5 {ts:List Tok}(f k:Nat)(hk:k≤ts.length){e:Ex}(j:Nat)(h:rd f 0 none (txt ts k)=some (.ok e (txt ts j)))(hj:k<j∧j≤ts.length):exOf ts k=.ok e j:=Zms (o:=.ok e j) hk ⟨f,h⟩ hj
end
section
open Go.RowKit Lx Px
def tk (t:Bytes):Tok:=(Z07 t,1,t)
end
end Go.Proofs.YtnepkoepbapgeaaGreatDoor
