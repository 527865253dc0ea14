/-
  Several texts in one: ParW2, ParW3, ParW4.
-/
import Derived.Test.YtnepkoepbapgeaaGreatDoorParW1
import Derived.Deep.RegionHeld3
import Derived.RegionDies
namespace Go.Proofs.YtnepkoepbapgeaaGreatDoor
set_option maxHeartbeats 4000000
set_option maxRecDepth 100000
section
open Go.RowKit Lx Px
inductive Out where
 | ok (e:Ex) (k:Nat)
 | no (k:Nat)
def Out.res (ts:List Tok):Out→Res
 | .ok e k=>.ok e (txt ts k)
 | .no k=>.no (txt ts k)
def okK (ts:List Tok)(k:Nat):Out→Prop
 | .ok _ k'=>k<k'∧k'≤ts.length
 | .no k'=>k≤k'∧k'≤ts.length
def RP (pb:Nat)(v:Value)(ts:List Tok)(o:Out)(w:World)(e:Ending)(w':World):Prop :=
 match o with
 | .ok x k'=>But pb w w'∧PI w' pb v ts k'∧∃ A c,e=.returned (.agg #[.int .i64 x.1.1,.int .i64 x.1.2,.slice A (flen x.2) c])∧FoD w' (fun b=>w.heap.size≤b∧b<w'.heap.size) (.slice A (flen x.2) c) x.2
 | .no k'=>But pb w w'∧e=.panicked [Zam ts k']
def RC (n:Nat)(g:FuncId)(pb:Nat)(v:Value)(ts:List Tok)(k:Nat):Prop :=
 ∃ o:Out,Rd n none (txt ts k) (o.res ts)∧okK ts k o∧∀ w,PI w pb v ts k→Calls Tryz.prog g #[.pointer (some ⟨pb,0,none⟩)] w (RP pb v ts o w)
theorem Zgt {ts:List Tok}{o:Out}{e:Ex}{k k0:Nat}(h:o.res ts=.ok e (txt ts k))(hk:k≤ts.length)(ho:okK ts k0 o):o=.ok e k:=by
 cases o with
 | ok e' k' =>
  simp only [Out.res,Res.ok.injEq] at h
  rw [h.1,Zgh ho.2 hk h.2]
 | no k'=>simp [Out.res] at h
theorem Zgu {ts:List Tok}{o:Out}{k k0:Nat}(h:o.res ts=.no (txt ts k))(hk:k≤ts.length)(ho:okK ts k0 o):o=.no k:=by
 cases o with
 | ok e' k'=>simp [Out.res] at h
 | no k' =>
  simp only [Out.res,Res.no.injEq] at h
  rw [Zgh ho.2 hk h]
theorem Z12 {ts:List Tok}{k:Nat}(h:k<ts.length):txt ts k=nxt ts k::txt ts (k+1):=by rw [txt_at ts k h,nxt_at ts k h]
theorem Zdd (n:Nat):Px.opAt n []=0:=by
 unfold Px.opAt
 repeat' split
 all_goals first | rfl | (exfalso;rename_i h;revert h;decide)
theorem Z9j {ts:List Tok}{n k:Nat}(e:Ex)(h:Px.opAt n (nxt ts k)=0):Rd n (some e) (txt ts k) (.ok e (txt ts k)):=by
 refine Z7s n e _ fun u r hu=>?_
 by_cases hk:k<ts.length
 · rw [Z12 hk] at hu
   injection hu with hu _
   rw [← hu];exact h
 · rw [Z9h ts k (by omega)] at hu;cases hu
theorem op_lt {ts:List Tok}{n k:Nat}(h:Px.opAt n (nxt ts k)≠0):k<ts.length:=by
 by_cases hk:k<ts.length
 · exact hk
 · rw [Z50 ts k hk,Zdd] at h;exact absurd rfl h
theorem Zde (ts:List Tok)(n:Nat):∀ (d k:Nat) (e:Ex),ts.length - k≤d→k≤ts.length→(∀ k',k<k'→k'≤ts.length→∃ o:Out,Rd (n+1) none (txt ts k') (o.res ts)∧okK ts k' o) →
 ∃ o:Out,Rd n (some e) (txt ts k) (o.res ts)∧(match o with | .ok _ k'=>k≤k'∧k'≤ts.length | .no k'=>k≤k'∧k'≤ts.length):=by
 intro d
 induction d with
 | zero =>
  intro k e hd hk _
  refine ⟨.ok e k,Z9j e ?_,zn _,hk⟩
  rw [Z50 ts k (by omega),Zdd]
 | succ d ih =>
  intro k e hd hk hp
  by_cases h:Px.opAt n (nxt ts k)=0
  · exact ⟨.ok e k,Z9j e h,zn _,hk⟩
  · have hlt:=op_lt h
    obtain ⟨o,h1,h2⟩:=hp (k+1) (by omega) (by omega)
    cases o with
    | no k'=>exact ⟨.no k',by rw [Z12 hlt];exact Z8j h h1,by have:=h2.1;omega,h2.2⟩
    | ok b k' =>
     have h3:=h2.1
     have h4:=h2.2
     obtain ⟨o2,h5,h6⟩:=ih k' (Z1C (Px.opAt n (nxt ts k)) e b) (by omega) (by omega) (fun x hx hx'=>hp x (by omega) hx')
     refine ⟨o2,by rw [Z12 hlt];exact Zc7 h h1 h5,?_⟩
     cases o2 with
     | ok e2 k2=>exact ⟨by have:=h6.1;omega,h6.2⟩
     | no k2=>exact ⟨by have:=h6.1;omega,h6.2⟩
def Zap (pb:Nat)(w:World):Nat:=match w.cell? ⟨pb,1,none⟩ with
 | some (.int _ x)=>x.toNat
 | _=>0
theorem Z4f {w:World}{pb k:Nat}{v:Value}{ts:List Tok}(h:PI w pb v ts k):Zap pb w=k:=by simp [Zap,h.cell1]
def Z3G (w:World)(pb:Nat)(n:Nat)(r b7:Nat)(e1:Ex)(A:Option Addr)(c:Nat)(wr:World):Prop :=
 But pb w wr∧RBox w #[.int .i64 0,.int .i64 0,.slice none 0 0] 63 wr∧wr.heap[b7]?=some (.cells #[.int .i64 e1.1.1,.int .i64 e1.1.2,.slice A (flen e1.2) c] 63 (0,0)) ∧
  FoD wr (fun b=>w.heap.size<b∧b≠b7∧b<wr.heap.size) (.slice A (flen e1.2) c) e1.2∧SMap wr r (Zai n)
theorem Z3G.but {w:World}{pb:Nat}{n:Nat}{r b7:Nat}{e1:Ex}{A:Option Addr}{c:Nat}{wr wx:World}(h:Z3G w pb n r b7 e1 A c wr)(hb:But pb wr wx)(hp:pb<w.heap.size)(h7:b7≠pb)(hr:r≠pb):Z3G w pb n r b7 e1 A c wx:=by
 obtain ⟨h2,h3,h4,h5,h6⟩:=h
 exact ⟨h2.trans hb,(hb.block _ h3.lt (by omega)).trans h3,(hb.block _ (zs h4) h7).trans h4,h5.keep (fun b x=>⟨x.1,x.2.1,by have:=hb.size;have:=x.2.2;omega⟩) (fun b x=>hb.block b x.2.2 (by have:=x.1;omega)),h6.on (hb.block _ h6.lt hr)⟩
theorem Z3G.cell {w:World}{pb:Nat}{n:Nat}{r b7:Nat}{e1:Ex}{A:Option Addr}{c:Nat}{wr:World}(h:Z3G w pb n r b7 e1 A c wr) :
 wr.cell? ⟨b7,0,none⟩=some (.int .i64 e1.1.1)∧wr.cell? ⟨b7,1,none⟩=some (.int .i64 e1.1.2)∧wr.cell? ⟨b7,2,none⟩=some (.slice A (flen e1.2) c):=by
 refine ⟨?_,?_,?_⟩ <;> (rw [zc h.2.2.1];rfl)
theorem Z3G.six {w:World}{pb:Nat}{n:Nat}{r b7:Nat}{e1:Ex}{A:Option Addr}{c:Nat}{wr:World}(h:Z3G w pb n r b7 e1 A c wr) :
 wr.cell? ⟨b7,0,none⟩=some (.int .i64 e1.1.1)∧wr.cell? ⟨b7,1,none⟩=some (.int .i64 e1.1.2)∧wr.cell? ⟨b7,2,none⟩=some (.slice A (flen e1.2) c)∧wr.frozen? ⟨b7,0,none⟩=false∧wr.frozen? ⟨b7,1,none⟩=false∧wr.frozen? ⟨b7,2,none⟩=false:=by
 refine ⟨h.cell.1,h.cell.2.1,h.cell.2.2,?_,?_,?_⟩ <;> simp [World.frozen?,h.2.2.1]
theorem Z3G.free {w:World}{pb:Nat}{n:Nat}{r b7:Nat}{e1:Ex}{A:Option Addr}{c:Nat}{wr:World}(h:Z3G w pb n r b7 e1 A c wr)(i:Nat):wr.frozen? ⟨b7,i,none⟩=false:=by
 simp [World.frozen?,h.2.2.1]
theorem Zgv {w:World}{b:Nat}{x y z x' y' z':Value}{ty:TypeId}(h:w.heap[b]?=some (.cells #[x,y,z] ty (0,0))):(((w.setCell ⟨b,0,none⟩ x').setCell ⟨b,1,none⟩ y').setCell ⟨b,2,none⟩ z').heap[b]?=some (.cells #[x',y',z'] ty (0,0)):=by
 simp [World.setCell,Array.getElem?_modify,h]
theorem Zaq {w:World}{b k:Nat}(hk:k≠b)(x' y' z':Value):(((w.setCell ⟨b,0,none⟩ x').setCell ⟨b,1,none⟩ y').setCell ⟨b,2,none⟩ z').heap[k]?=w.heap[k]?:=by
 rw [Below.heap_setCell _ _ _ _ hk,Below.heap_setCell _ _ _ _ hk,Below.heap_setCell _ _ _ _ hk]
theorem Zar (w:World)(b:Nat)(x' y' z':Value):(((w.setCell ⟨b,0,none⟩ x').setCell ⟨b,1,none⟩ y').setCell ⟨b,2,none⟩ z').heap.size=w.heap.size:=by simp [World.setCell]
theorem Z3G.next {w:World}{pb:Nat}{n:Nat}{r b7 lo:Nat}{e1 e2:Ex}{A1 A2:Option Addr}{c1 c2:Nat}{w':World}{op:Int}(h:Z3G w pb n r b7 e1 A1 c1 w')(hr:r<w.heap.size)(h7:w.heap.size<b7)(hlo:b7<lo)(hF:FoD w' (fun b=>lo≤b∧b<w'.heap.size) (.slice A2 (flen e2.2) c2) e2.2) :
 Z3G w pb n r b7 (Z1C op e1 e2) (some ⟨w'.heap.size,0,none⟩) 2 ((((w'.setCell ⟨b7,0,none⟩ (.int .i64 op)).setCell ⟨b7,1,none⟩ (.int .i64 0)).setCell ⟨b7,2,none⟩ (.slice (some ⟨w'.heap.size,0,none⟩) 2 2)).alloc
  (.cells #[.int .i64 e1.1.1,.int .i64 e1.1.2,.slice A1 (flen e1.2) c1,.int .i64 e2.1.1,.int .i64 e2.1.2,.slice A2 (flen e2.2) c2] 63)):=by
 obtain ⟨h2,h3,h4,h5,h6⟩:=h
 have hl7:b7<w'.heap.size:=(zs h4)
 obtain ⟨W,hW⟩:∃ W,W=((w'.setCell ⟨b7,0,none⟩ (.int .i64 op)).setCell ⟨b7,1,none⟩ (.int .i64 0)).setCell ⟨b7,2,none⟩ (.slice (some ⟨w'.heap.size,0,none⟩) 2 2):=⟨_,rfl⟩
 have hWs:W.heap.size=w'.heap.size:=by rw [hW,Zar]
 have hWf:∀ k,k≠b7→W.heap[k]?=w'.heap[k]?:=fun k hk=>by rw [hW,Zaq hk]
 have hW7:W.heap[b7]?=some (.cells #[.int .i64 op,.int .i64 0,.slice (some ⟨w'.heap.size,0,none⟩) 2 2] 63 (0,0)):=by rw [hW,Zgv h4]
 have hBW:But pb w W:=by
  rw [hW]
  exact ((h2.new (p:=⟨b7,0,none⟩) (by show w.heap.size≤b7;omega) _).new (p:=⟨b7,1,none⟩) (by show w.heap.size≤b7;omega) _).new (p:=⟨b7,2,none⟩) (by show w.heap.size≤b7;omega) _
 rw [← hW]
 have hnew:=za W (.cells #[.int .i64 e1.1.1,.int .i64 e1.1.2,.slice A1 (flen e1.2) c1,.int .i64 e2.1.1,.int .i64 e2.1.2,.slice A2 (flen e2.2) c2] 63)
 rw [hWs] at hnew
 have hal:∀ k,k<w'.heap.size→(W.alloc (.cells #[.int .i64 e1.1.1,.int .i64 e1.1.2,.slice A1 (flen e1.2) c1,.int .i64 e2.1.1,.int .i64 e2.1.2,.slice A2 (flen e2.2) c2] 63)).heap[k]?=W.heap[k]?:=fun k hk=>Below.heap_alloc _ _ _ (by omega)
 have hsz:(W.alloc (.cells #[.int .i64 e1.1.1,.int .i64 e1.1.2,.slice A1 (flen e1.2) c1,.int .i64 e2.1.1,.int .i64 e2.1.2,.slice A2 (flen e2.2) c2] 63)).heap.size=w'.heap.size+1:=by simp [hWs]
 have hBX:But pb w (W.alloc (.cells #[.int .i64 e1.1.1,.int .i64 e1.1.2,.slice A1 (flen e1.2) c1,.int .i64 e2.1.1,.int .i64 e2.1.2,.slice A2 (flen e2.2) c2] 63)):=hBW.alloc _
 generalize W.alloc (.cells #[.int .i64 e1.1.1,.int .i64 e1.1.2,.slice A1 (flen e1.2) c1,.int .i64 e2.1.1,.int .i64 e2.1.2,.slice A2 (flen e2.2) c2] 63)=X at *
 have h3l:w.heap.size<w'.heap.size:=RBox.lt h3
 refine ⟨hBX,?_,?_,?_,?_⟩
 · show X.heap[w.heap.size]?=_
   rw [hal _ h3l,hWf _ (by omega)];exact h3
 · rw [hal _ hl7];exact hW7
 · have k1:FoD X (fun b=>w.heap.size<b∧b≠b7∧b<X.heap.size) (.slice A1 (flen e1.2) c1) e1.2:=h5.keep (fun b x=>⟨x.1,x.2.1,by rw [hsz];have:=x.2.2;omega⟩) (fun b x=>by rw [hal b x.2.2,hWf b x.2.1])
   have k2:FoD X (fun b=>w.heap.size<b∧b≠b7∧b<X.heap.size) (.slice A2 (flen e2.2) c2) e2.2:=hF.keep (fun b x=>⟨by have:=x.1;omega,by have:=x.1;omega,by rw [hsz];have:=x.2;omega⟩) (fun b x=>by rw [hal b x.2,hWf b (by have:=x.1;omega)])
   exact FoD.two (D:=fun b=>w.heap.size<b∧b≠b7∧b<X.heap.size) ⟨h3l,by omega,by rw [hsz];omega⟩ hnew k1 k2 2
 · show X.heap[r]?=_
   rw [hal r h6.lt,hWf r (by omega)];exact h6
theorem Z4B {w w5:World}{pb:Nat}{v:Value}{ts:List Tok}{k1:Nat}{x:Ex}{A:Option Addr}{c:Nat}{D:Nat→Prop}(hp:pb<w.heap.size)(hb:But pb w w5)(hP:PI w5 pb v ts k1)(hF:FoD w5 D (.slice A (flen x.2) c) x.2)(hD:∀ b,D b→w.heap.size<b∧b<w5.heap.size) :
 RP pb v ts (.ok x k1) w (.returned (.agg #[.int .i64 x.1.1,.int .i64 x.1.2,.slice A (flen x.2) c])) (((w5.setCell ⟨w.heap.size,0,none⟩ (.int .i64 x.1.1)).setCell ⟨w.heap.size,1,none⟩ (.int .i64 x.1.2)).setCell ⟨w.heap.size,2,none⟩ (.slice A (flen x.2) c)):=by
 refine ⟨((hb.new (p:=⟨w.heap.size,0,none⟩) (zn _) _).new (p:=⟨w.heap.size,1,none⟩) (zn _) _).new (p:=⟨w.heap.size,2,none⟩) (zn _) _,((hP.far (p:=⟨w.heap.size,0,none⟩) hp _).far (p:=⟨w.heap.size,1,none⟩) hp _).far (p:=⟨w.heap.size,2,none⟩) hp _,A,c,rfl,?_⟩
 refine hF.keep (fun b h=>⟨by have:=(hD b h).1;omega,by have:=(hD b h).2;simp [World.setCell];omega⟩) (fun b h=>?_)
 have hne:b≠w.heap.size:=by have:=(hD b h).1;omega
 rw [Below.heap_setCell _ _ _ _ hne,Below.heap_setCell _ _ _ _ hne,Below.heap_setCell _ _ _ _ hne]
theorem Z9k (w:World):(zeroValue 3).run Tryz.prog w=.ok (.int .i64 0) w:=by kernel_rfl
theorem Z6G (n:Nat)(hn:lft n)(g:FuncId)(hcf:∀ (w:World) (args:Array Value),(callFunc g args).run Tryz.prog w=.ok (.enter g args) w)(pb:Nat)(v:Value)(ts:List Tok)(k:Nat)(hk:k≤ts.length)(hg:∀ k',k≤k'→k'≤ts.length→RC (n+1) g pb v ts k') :
 ∃ o:Out,Rd n none (txt ts k) (o.res ts)∧okK ts k o∧∀ (w:World) (r:Nat),PI w pb v ts k→SMap w r (Zai n)→r≠pb →
  Calls Tryz.prog 218 #[.pointer (some ⟨pb,0,none⟩),.func (.func g) #[.pointer (some ⟨pb,0,none⟩)] #[],.map (some r)] w (RP pb v ts o w):=by
 have hn':n≠0∧n≠3∧n≤5:=by unfold lft at hn;omega
 obtain ⟨o0,hr0,ho0,hc0⟩:=hg k (zn _) hk
 cases o0 with
 | no k0 =>
  refine ⟨.no k0,Zei hn'.1 hn'.2.1 hn'.2.2 hr0,ho0,?_⟩
  intro w r h hS hne
  have b1:Below w.heap.size w (w.alloc (.cells #[.int .i64 0,.int .i64 0,.slice none 0 0] 63)):=(Below.refl _ _).alloc (zn _) _
  have H1:=zh (h.on b1)
  have HC:=zh hc0;have B1:=zh b1;clear h hc0 hg b1;go_enter Tryz.func218,Tryz.ntmps218
  go_wp2_with fail;refine (HC.out _ H1.out).mono ?_
  rintro e w2 ⟨hb,rfl⟩;exact ⟨rfl,(But.of_below B1.out).trans hb,rfl⟩
 | ok e0 k0 =>
  obtain ⟨o,hro,hko⟩:=Zde ts n (ts.length - k0) k0 e0 (zn _) ho0.2 (fun k' h1 h2=>by
   obtain ⟨o,h3,h4,_⟩:=hg k' (by have:=ho0.1;omega) h2
   exact ⟨o,h3,h4⟩)
  have hok:okK ts k o:=by
   have:=ho0.1
   cases o with
   | ok e' k'=>exact ⟨by have:=hko.1;omega,hko.2⟩
   | no k'=>exact ⟨by have:=hko.1;omega,hko.2⟩
  refine ⟨o,ZgE hn'.1 hn'.2.1 hn'.2.2 hr0 hro,hok,?_⟩
  intro w r h hS hne
  have b1:Below w.heap.size w (w.alloc (.cells #[.int .i64 0,.int .i64 0,.slice none 0 0] 63)):=(Below.refl _ _).alloc (zn _) _
  have r1:RBox w #[.int .i64 0,.int .i64 0,.slice none 0 0] 63 (w.alloc (.cells #[.int .i64 0,.int .i64 0,.slice none 0 0] 63)):=za w _
  have s1:=hS.on (b1.block r hS.lt)
  have hrl:=hS.lt
  have H1:=zh (h.on b1)
  have hlw:=h.lt
  have HC:=zh hc0;have B1:=zh b1;have R1:=zh r1;have S1:=zh s1;have HG:=zh hg;have HRO:=zh hro;have HOK:=zh hok;have hk0:=ho0.1
  have hk0':=ho0.2
  clear h hc0 hg b1 r1 s1 hS hro hok hko hr0 ho0;go_enter Tryz.func218,Tryz.ntmps218
  go_wp2_with fail;refine (HC.out _ H1.out).mono ?_
  rintro e w2 ⟨hb,h2,A,c,rfl,hF⟩;have r2:RBox w #[.int .i64 0,.int .i64 0,.slice none 0 0] 63 w2:=(hb.block _ R1.out.lt (by omega)).trans R1.out
  have s2:SMap w2 r (Zai n):=S1.out.on (hb.block r S1.out.lt hne)
  have bw2:But pb w w2:=(But.of_below B1.out).trans hb
  have hF2:FoD w2 (fun b=>w.heap.size<b∧b<w2.heap.size) (.slice A (flen e0.2) c) e0.2:=hF.keep (fun b hb=>⟨by have:=hb.1;simp at this;omega,hb.2⟩) (fun _ _=>rfl)
  have I3:Z3G w pb n r w2.heap.size e0 A c (w2.alloc (.cells #[.int .i64 e0.1.1,.int .i64 e0.1.2,.slice A (flen e0.2) c] 63)):=by
   have ha:Below w2.heap.size w2 (w2.alloc (.cells #[.int .i64 e0.1.1,.int .i64 e0.1.2,.slice A (flen e0.2) c] 63)):=(Below.refl _ _).alloc (zn _) _
   exact ⟨bw2.on ha,r2.on ha,za w2 _,hF2.keep (fun b hb=>⟨hb.1,by have:=hb.2;omega,by have:=hb.2;simp;omega⟩) (fun b hb=>ha.block b hb.2),s2.on (ha.block r s2.lt)⟩
  have P3:PI (w2.alloc (.cells #[.int .i64 e0.1.1,.int .i64 e0.1.2,.slice A (flen e0.2) c] 63)) pb v ts k0:=h2.on ((Below.refl _ _).alloc (zn _) _)
  have I4:=zh I3;have P4:=zh P3;have hw7:w.heap.size<w2.heap.size:=r2.lt
  clear hb h2 hF r2 s2 bw2 hF2 I3 P3 H1 HC B1 R1 S1;go_wp2_with fail;generalize w2.heap.size=b7 at *
  go_loopw [] (fun wr=>∃ (k1:Nat) (e1:Ex) (A:Option Addr) (c:Nat),k<k1∧PI wr pb v ts k1∧Z3G w pb n r b7 e1 A c wr∧Rd n (some e1) (txt ts k1) (o.res ts)) (fun wr=>ts.length - Zap pb wr)
  case atStart=>exact ⟨k0,e0,A,c,hk0,P4.out,I4.out,HRO.out⟩
  case round =>
   obtain ⟨k1,e1,A1,c1,hk1,hP,hI,hR⟩:=hrel
   have HP:=zh hP;have HI:=zh hI;have HR:=zh hR;have hk1':=hP.2.2.1
   have hts:=hP.2.2.2.1
   have hfd:=Z6F
   clear hP hI hR I4 P4 HRO;go_wp2_with fail;refine (Z24 _ pb v ts k1 HP.out).mono ?_
   rintro e w5 ⟨rfl,hb5⟩;rw [tokV]
   have P5:=zh (HP.out.on hb5)
   have I5:=zh (HI.out.but (But.of_below hb5) hlw (by omega) hne)
   clear hb5 HI;by_cases h0:Px.opAt n (nxt ts k1)=0
   · have hlk:(Instr.lookup 253 (.map (some r)) (.string (mk (nxt ts k1))) true).run Tryz.prog w5=.ok (.tuple #[.int .i64 0,.bool false]) w5 :=
      Z3p Tryz.underlying253 Tryz.underlying9 I5.out.2.2.2.2 (by rw [Zd7 n hn,if_pos h0]) (Z9k w5) true
     obtain ⟨q0,q1,q2⟩:=I5.out.cell
     have z0:=I5.out.2.1.cell 0 _ rfl
     have z1:=I5.out.2.1.cell 1 _ rfl
     have z2:=I5.out.2.1.cell 2 _ rfl
     have y0:=I5.out.2.1.free 0
     have y1:=I5.out.2.1.free 1
     have y2:=I5.out.2.1.free 2
     have H0:=zh h0;clear h0;go_wp2_with fail;have hdet:=Zgt (ZaA HR.out (Z9j e1 H0.out)) hk1' HOK.out
     subst hdet;refine bodyPost_ret (v:=.agg #[.int .i64 e1.1.1,.int .i64 e1.1.2,.slice A1 (flen e1.2) c1]) (by simp [results,Tryz.results218,go_sem,z0,z1,z2]) rfl ?_
     exact Z4B hlw I5.out.1 P5.out I5.out.2.2.2.1 (fun b h=>⟨h.1,h.2.2⟩)
   · have hlt:=op_lt h0
     have hlk:(Instr.lookup 253 (.map (some r)) (.string (mk (nxt ts k1))) true).run Tryz.prog w5=.ok (.tuple #[.int .i64 (Px.opAt n (nxt ts k1)),.bool true]) w5 :=
      Z3n Tryz.underlying253 Tryz.underlying9 I5.out.2.2.2.2 (by rw [Zd7 n hn,if_neg h0]) true
     obtain ⟨op,hop⟩:∃ op,op=Px.opAt n (nxt ts k1):=⟨_,rfl⟩
     rw [← hop] at hlk
     have p0:=P5.out.cell1
     have p1:=P5.out.free 1
     have H0:=zh h0;have HOP:=zh hop;clear h0 hop;obtain ⟨o2,hr2,hk2,hc2⟩:=HG.out (k1+1) (by omega) (by omega)
     have HC2:=zh hc2;have HR2:=zh hr2;clear hc2 hr2;go_upto_region 6 with fail
     have P6:PI (w5.setCell ⟨pb,1,none⟩ (.int .i64 ((k1:Int)+1))) pb v ts (k1+1):=by
      have:=P5.out.set (k1+1) (by omega)
      rwa [show (((k1+1:Nat)):Int)=(k1:Int)+1 by omega] at this
     have I6:Z3G w pb n r b7 e1 A1 c1 (w5.setCell ⟨pb,1,none⟩ (.int .i64 ((k1:Int)+1))):=I5.out.but ((But.refl _ _).set (p:=⟨pb,1,none⟩) rfl _) hlw (by omega) hne
     clear P5 I5 p0 p1 hlk;generalize w5.setCell ⟨pb,1,none⟩ (.int .i64 ((k1:Int)+1))=w6 at *
     have P7:=P6.drew
     have I7:Z3G w pb n r b7 e1 A1 c1 w6.drew:=I6.but (But.refl _ _).drew hlw (by omega) hne
     obtain ⟨q0,q1,q2⟩:=I7.cell
     clear P6 I6;have hb7:b7≠pb:=by omega
     cases o2 with
     | no k2 =>
      have hdet:=Zgu (ZaA HR.out (by rw [Z12 hlt];exact Z8j H0.out HR2.out)) hk2.2 HOK.out
      subst hdet;obtain ⟨s0,s1,s2,s3,s4,s5⟩:=I7.six
      go_region_dies
      all_goals (refine (HC2.out _ P7).mono ?_;rintro e w' ⟨hb,rfl⟩;exact ⟨rfl,I7.1.trans hb,rfl⟩)
     | ok e2 k2 =>
      obtain ⟨s0,s1,s2,s3,s4,s5⟩:=I7.six
      have hk2a:=hk2.1
      have hk2b:=hk2.2
      obtain ⟨o3,hr3,hk3⟩:=Zde ts n (ts.length - k2) k2 (Z1C op e1 e2) (zn _) hk2b (fun k' h1 h2=>by
       obtain ⟨o,h3,h4,_⟩:=HG.out k' (by omega) h2
       exact ⟨o,h3,h4⟩)
      have hr4:Rd n (some (Z1C op e1 e2)) (txt ts k2) (o.res ts):=by
       have h5:=Zc7 (e:=e1) H0.out HR2.out (by rw [HOP.out] at hr3;exact hr3)
       rw [← Z12 hlt] at h5
       rw [ZaA HR.out h5]
       exact hr3
      have HR4:=zh hr4;clear hr4 hr3 hk3;go_region_with (first | (refine (HC2.out _ P7).mono ?_;rintro e w' ⟨hb,hP',A2,c2,rfl,hF'⟩;obtain ⟨x0,x1,x2,x3,x4,x5⟩:=(I7.but hb hlw hb7 hne).six;have xlt:=(Array.getElem?_eq_some_iff.1 (I7.but hb hlw hb7 hne).2.2.1).1))
      all_goals
       have hPX:PI ((((w'.setCell ⟨b7,0,none⟩ (.int .i64 op)).setCell ⟨b7,1,none⟩ (.int .i64 0)).setCell ⟨b7,2,none⟩ (.slice (some ⟨w'.heap.size,0,none⟩) 2 2)).alloc (.cells #[.int .i64 e1.1.1,.int .i64 e1.1.2,.slice A1 (flen e1.2) c1,.int .i64 e2.1.1,.int .i64 e2.1.2,.slice A2 (flen e2.2) c2] 63)) pb v ts k2 :=
        (((hP'.far (p:=⟨b7,0,none⟩) (by show pb<b7;omega) _).far (p:=⟨b7,1,none⟩) (by show pb<b7;omega) _).far (p:=⟨b7,2,none⟩) (by show pb<b7;omega) _).on ((Below.refl _ _).alloc (zn _) _)
       have hIX:=(I7.but hb hlw hb7 hne).next (op:=op) (lo:=w6.drew.heap.size) hrl hw7 (zs I7.2.2.1) hF'
       have hrel':∃ (k1:Nat) (e1:Ex) (A:Option Addr) (c:Nat),k<k1∧PI _ pb v ts k1∧Z3G w pb n r b7 e1 A c _∧Rd n (some e1) (txt ts k1) (o.res ts):=⟨k2,Z1C op e1 e2,_,_,by omega,hPX,hIX,HR4.out⟩
       have hnx:=Z4f hPX;have hny:=Z4f HP.out
       go_roundw
      case rel=>exact ⟨_,_,_,_,_,_,_,_,_,_,_,_,_,_,_,_,_,_,_,_,_,_,_,_,_,_,hrel',rfl⟩
      case measure=>rw [hnx,hny];omega
      case rel=>exact ⟨_,_,_,_,_,_,_,_,_,_,_,_,_,_,_,_,_,_,_,_,_,_,_,_,_,_,hrel',rfl⟩
      case measure=>rw [hnx,hny];omega
end
section
open Go.RowKit Lx Px
theorem Z0B {B:Nat}{a w:World}(h:Below B a w){r:Nat}(hr:B≤r)(o:Obj):Below B a (w.putObj r o) :=
 ⟨h.os,h.tape,h.output,by simp [World.putObj];exact h.size,fun k hk=>(World.putObj_heap_other (by omega)).trans (h.block k hk)⟩
theorem Z2i {w:World}{r:Nat}{o o':Obj}(h:w.heap[r]?=some o):(w.putObj r o').heap[r]?=some o':=by
 have:=(zs h)
 simp [World.putObj,this]
theorem Z8n (pb:Nat)(v:Value)(ts:List Tok)(k:Nat)(hk:k≤ts.length)(hg:∀ k',k≤k'→k'≤ts.length→RC 6 307 pb v ts k'):RC 5 299 pb v ts k:=by
 obtain ⟨o,hr,ho,hc⟩:=Z6G 5 (by unfold lft;omega) 307 (fun _ _=>rfl) pb v ts k hk hg
 refine ⟨o,hr,ho,fun w h=>?_⟩
 have hmf:∀ (fn:Fn) (first cap:Array Value) (w:World),(Instr.makeFunc fn first cap).run Tryz.prog w=.ok (.func fn first cap) w:=fun _ _ _ _=>rfl
 have hmm:=@run_makeMap Tryz.prog
 have hlw:=h.lt
 have b1:Below w.heap.size w (w.alloc (.cells #[.int .i64 0,.int .i64 0,.slice none 0 0] 63)):=(Below.refl _ _).alloc (zn _) _
 have r1:RBox w #[.int .i64 0,.int .i64 0,.slice none 0 0] 63 (w.alloc (.cells #[.int .i64 0,.int .i64 0,.slice none 0 0] 63)):=za w _
 have b2:=b1.alloc (by simp) (.map #[] 0)
 have s2:=SMap.new (w.alloc (.cells #[.int .i64 0,.int .i64 0,.slice none 0 0] 63))
 have hR:(w.alloc (.cells #[.int .i64 0,.int .i64 0,.slice none 0 0] 63)).heap.size=w.heap.size+1:=by simp
 rw [hR] at s2
 have u1:(Instr.mapUpdate 253 (.map (some (w.heap.size+1))) (.string ⟨#[42]⟩) (.int .i64 6)).run Tryz.prog ((w.alloc (.cells #[.int .i64 0,.int .i64 0,.slice none 0 0] 63)).alloc (.map #[] 0))=.ok () (((w.alloc (.cells #[.int .i64 0,.int .i64 0,.slice none 0 0] 63)).alloc (.map #[] 0)).putObj (w.heap.size+1) (.map (esS [([42],6)] 0).toArray 1)) :=
  Z0s (t:=[42]) Tryz.underlying253 Tryz.underlying9 s2 (by decide) 6
 have s3:SMap (((w.alloc (.cells #[.int .i64 0,.int .i64 0,.slice none 0 0] 63)).alloc (.map #[] 0)).putObj (w.heap.size+1) (.map (esS [([42],6)] 0).toArray 1)) (w.heap.size+1) [([42],6)]:=Z2i s2
 have b3:Below w.heap.size w (((w.alloc (.cells #[.int .i64 0,.int .i64 0,.slice none 0 0] 63)).alloc (.map #[] 0)).putObj (w.heap.size+1) (.map (esS [([42],6)] 0).toArray 1)):=Z0B b2 (by omega) _
 have u2:(Instr.mapUpdate 253 (.map (some (w.heap.size+1))) (.string ⟨#[47]⟩) (.int .i64 7)).run Tryz.prog (((w.alloc (.cells #[.int .i64 0,.int .i64 0,.slice none 0 0] 63)).alloc (.map #[] 0)).putObj (w.heap.size+1) (.map (esS [([42],6)] 0).toArray 1))=.ok () ((((w.alloc (.cells #[.int .i64 0,.int .i64 0,.slice none 0 0] 63)).alloc (.map #[] 0)).putObj (w.heap.size+1) (.map (esS [([42],6)] 0).toArray 1)).putObj (w.heap.size+1) (.map (esS [([42],6),([47],7)] 0).toArray 2)) :=
  Z0s (t:=[47]) Tryz.underlying253 Tryz.underlying9 s3 (by decide) 7
 have s4:SMap ((((w.alloc (.cells #[.int .i64 0,.int .i64 0,.slice none 0 0] 63)).alloc (.map #[] 0)).putObj (w.heap.size+1) (.map (esS [([42],6)] 0).toArray 1)).putObj (w.heap.size+1) (.map (esS [([42],6),([47],7)] 0).toArray 2)) (w.heap.size+1) [([42],6),([47],7)]:=Z2i s3
 have b4:Below w.heap.size w ((((w.alloc (.cells #[.int .i64 0,.int .i64 0,.slice none 0 0] 63)).alloc (.map #[] 0)).putObj (w.heap.size+1) (.map (esS [([42],6)] 0).toArray 1)).putObj (w.heap.size+1) (.map (esS [([42],6),([47],7)] 0).toArray 2)):=Z0B b3 (by omega) _
 have rl:RBox w #[.int .i64 0,.int .i64 0,.slice none 0 0] 63 ((((w.alloc (.cells #[.int .i64 0,.int .i64 0,.slice none 0 0] 63)).alloc (.map #[] 0)).putObj (w.heap.size+1) (.map (esS [([42],6)] 0).toArray 1)).putObj (w.heap.size+1) (.map (esS [([42],6),([47],7)] 0).toArray 2)):=by
  show ((((w.alloc (.cells #[.int .i64 0,.int .i64 0,.slice none 0 0] 63)).alloc (.map #[] 0)).putObj (w.heap.size+1) (.map (esS [([42],6)] 0).toArray 1)).putObj (w.heap.size+1) (.map (esS [([42],6),([47],7)] 0).toArray 2)).heap[w.heap.size]?=_
  rw [World.putObj_heap_other (by omega),World.putObj_heap_other (by omega),Below.heap_alloc _ _ _ (by simp)]
  exact r1
 have pl:PI ((((w.alloc (.cells #[.int .i64 0,.int .i64 0,.slice none 0 0] 63)).alloc (.map #[] 0)).putObj (w.heap.size+1) (.map (esS [([42],6)] 0).toArray 1)).putObj (w.heap.size+1) (.map (esS [([42],6),([47],7)] 0).toArray 2)) pb v ts k:=by
  have hx:Below (pb+1) w ((((w.alloc (.cells #[.int .i64 0,.int .i64 0,.slice none 0 0] 63)).alloc (.map #[] 0)).putObj (w.heap.size+1) (.map (esS [([42],6)] 0).toArray 1)).putObj (w.heap.size+1) (.map (esS [([42],6),([47],7)] 0).toArray 2)):=b4.mono (by omega)
  exact ⟨(hx.block _ (by omega)).trans h.1,h.2.1.below (hx.mono (by omega)),h.2.2.1,h.2.2.2.1,h.2.2.2.2.1,h.2.2.2.2.2.on (hx.mono (by omega))⟩
 have hs:w.heap.size+2=((((w.alloc (.cells #[.int .i64 0,.int .i64 0,.slice none 0 0] 63)).alloc (.map #[] 0)).putObj (w.heap.size+1) (.map (esS [([42],6)] 0).toArray 1)).putObj (w.heap.size+1) (.map (esS [([42],6),([47],7)] 0).toArray 2)).heap.size:=by simp
 have HB:=zh b4;have HS:=zh s4;have HR:=zh rl;have HP:=zh pl;have HC:=zh hc;clear hc hg h b1 r1 b2 s2 b3 s3 b4 s4 rl pl;go_enter Tryz.func299,Tryz.ntmps299
 go_wp2_with fail;generalize ((((w.alloc (.cells #[.int .i64 0,.int .i64 0,.slice none 0 0] 63)).alloc (.map #[] 0)).putObj (w.heap.size+1) (.map (esS [([42],6)] 0).toArray 1)).putObj (w.heap.size+1) (.map (esS [([42],6),([47],7)] 0).toArray 2))=WX at *
 refine (HC.out WX (w.heap.size+1) HP.out HS.out (by omega)).mono ?_
 cases o with
 | no k2 =>
  rintro e w' ⟨hb,rfl⟩;exact ⟨rfl,(But.of_below HB.out).trans hb,rfl⟩
 | ok x k2 =>
  rintro e w' ⟨hb,hP,A,c,rfl,hF⟩;have rw':RBox w #[.int .i64 0,.int .i64 0,.slice none 0 0] 63 w':=(hb.block _ HR.out.lt (by omega)).trans HR.out
  have z0:=rw'.cell 0 _ rfl
  have z1:=rw'.cell 1 _ rfl
  have z2:=rw'.cell 2 _ rfl
  have y0:=rw'.free 0
  have y1:=rw'.free 1
  have y2:=rw'.free 2
  have HP':=zh hP;have HF':=zh hF;have HB':=zh hb;clear hP hF hb rw';go_wp2_with fail;refine bodyPost_ret (v:=.agg #[.int .i64 x.1.1,.int .i64 x.1.2,.slice A (flen x.2) c]) (by simp [results,Tryz.results299,go_sem,z0,z1,z2]) rfl ?_
  exact Z4B hlw ((But.of_below HB.out).trans HB'.out) HP'.out HF'.out (fun b h=>⟨by have:=h.1;omega,h.2⟩)
theorem ZkH (pb:Nat)(v:Value)(ts:List Tok)(k:Nat)(hk:k≤ts.length)(hg:∀ k',k≤k'→k'≤ts.length→RC 5 299 pb v ts k'):RC 4 283 pb v ts k:=by
 obtain ⟨o,hr,ho,hc⟩:=Z6G 4 (by unfold lft;omega) 299 (fun _ _=>rfl) pb v ts k hk hg
 refine ⟨o,hr,ho,fun w h=>?_⟩
 have hmf:∀ (fn:Fn) (first cap:Array Value) (w:World),(Instr.makeFunc fn first cap).run Tryz.prog w=.ok (.func fn first cap) w:=fun _ _ _ _=>rfl
 have hmm:=@run_makeMap Tryz.prog
 have hlw:=h.lt
 have b1:Below w.heap.size w (w.alloc (.cells #[.int .i64 0,.int .i64 0,.slice none 0 0] 63)):=(Below.refl _ _).alloc (zn _) _
 have r1:RBox w #[.int .i64 0,.int .i64 0,.slice none 0 0] 63 (w.alloc (.cells #[.int .i64 0,.int .i64 0,.slice none 0 0] 63)):=za w _
 have b2:=b1.alloc (by simp) (.map #[] 0)
 have s2:=SMap.new (w.alloc (.cells #[.int .i64 0,.int .i64 0,.slice none 0 0] 63))
 have hR:(w.alloc (.cells #[.int .i64 0,.int .i64 0,.slice none 0 0] 63)).heap.size=w.heap.size+1:=by simp
 rw [hR] at s2
 have u1:(Instr.mapUpdate 253 (.map (some (w.heap.size+1))) (.string ⟨#[43]⟩) (.int .i64 4)).run Tryz.prog ((w.alloc (.cells #[.int .i64 0,.int .i64 0,.slice none 0 0] 63)).alloc (.map #[] 0))=.ok () (((w.alloc (.cells #[.int .i64 0,.int .i64 0,.slice none 0 0] 63)).alloc (.map #[] 0)).putObj (w.heap.size+1) (.map (esS [([43],4)] 0).toArray 1)) :=
  Z0s (t:=[43]) Tryz.underlying253 Tryz.underlying9 s2 (by decide) 4
 have s3:SMap (((w.alloc (.cells #[.int .i64 0,.int .i64 0,.slice none 0 0] 63)).alloc (.map #[] 0)).putObj (w.heap.size+1) (.map (esS [([43],4)] 0).toArray 1)) (w.heap.size+1) [([43],4)]:=Z2i s2
 have b3:Below w.heap.size w (((w.alloc (.cells #[.int .i64 0,.int .i64 0,.slice none 0 0] 63)).alloc (.map #[] 0)).putObj (w.heap.size+1) (.map (esS [([43],4)] 0).toArray 1)):=Z0B b2 (by omega) _
 have u2:(Instr.mapUpdate 253 (.map (some (w.heap.size+1))) (.string ⟨#[45]⟩) (.int .i64 5)).run Tryz.prog (((w.alloc (.cells #[.int .i64 0,.int .i64 0,.slice none 0 0] 63)).alloc (.map #[] 0)).putObj (w.heap.size+1) (.map (esS [([43],4)] 0).toArray 1))=.ok () ((((w.alloc (.cells #[.int .i64 0,.int .i64 0,.slice none 0 0] 63)).alloc (.map #[] 0)).putObj (w.heap.size+1) (.map (esS [([43],4)] 0).toArray 1)).putObj (w.heap.size+1) (.map (esS [([43],4),([45],5)] 0).toArray 2)) :=
  Z0s (t:=[45]) Tryz.underlying253 Tryz.underlying9 s3 (by decide) 5
 have s4:SMap ((((w.alloc (.cells #[.int .i64 0,.int .i64 0,.slice none 0 0] 63)).alloc (.map #[] 0)).putObj (w.heap.size+1) (.map (esS [([43],4)] 0).toArray 1)).putObj (w.heap.size+1) (.map (esS [([43],4),([45],5)] 0).toArray 2)) (w.heap.size+1) [([43],4),([45],5)]:=Z2i s3
 have b4:Below w.heap.size w ((((w.alloc (.cells #[.int .i64 0,.int .i64 0,.slice none 0 0] 63)).alloc (.map #[] 0)).putObj (w.heap.size+1) (.map (esS [([43],4)] 0).toArray 1)).putObj (w.heap.size+1) (.map (esS [([43],4),([45],5)] 0).toArray 2)):=Z0B b3 (by omega) _
 have rl:RBox w #[.int .i64 0,.int .i64 0,.slice none 0 0] 63 ((((w.alloc (.cells #[.int .i64 0,.int .i64 0,.slice none 0 0] 63)).alloc (.map #[] 0)).putObj (w.heap.size+1) (.map (esS [([43],4)] 0).toArray 1)).putObj (w.heap.size+1) (.map (esS [([43],4),([45],5)] 0).toArray 2)):=by
  show ((((w.alloc (.cells #[.int .i64 0,.int .i64 0,.slice none 0 0] 63)).alloc (.map #[] 0)).putObj (w.heap.size+1) (.map (esS [([43],4)] 0).toArray 1)).putObj (w.heap.size+1) (.map (esS [([43],4),([45],5)] 0).toArray 2)).heap[w.heap.size]?=_
  rw [World.putObj_heap_other (by omega),World.putObj_heap_other (by omega),Below.heap_alloc _ _ _ (by simp)]
  exact r1
 have pl:PI ((((w.alloc (.cells #[.int .i64 0,.int .i64 0,.slice none 0 0] 63)).alloc (.map #[] 0)).putObj (w.heap.size+1) (.map (esS [([43],4)] 0).toArray 1)).putObj (w.heap.size+1) (.map (esS [([43],4),([45],5)] 0).toArray 2)) pb v ts k:=by
  have hx:Below (pb+1) w ((((w.alloc (.cells #[.int .i64 0,.int .i64 0,.slice none 0 0] 63)).alloc (.map #[] 0)).putObj (w.heap.size+1) (.map (esS [([43],4)] 0).toArray 1)).putObj (w.heap.size+1) (.map (esS [([43],4),([45],5)] 0).toArray 2)):=b4.mono (by omega)
  exact ⟨(hx.block _ (by omega)).trans h.1,h.2.1.below (hx.mono (by omega)),h.2.2.1,h.2.2.2.1,h.2.2.2.2.1,h.2.2.2.2.2.on (hx.mono (by omega))⟩
 have hs:w.heap.size+2=((((w.alloc (.cells #[.int .i64 0,.int .i64 0,.slice none 0 0] 63)).alloc (.map #[] 0)).putObj (w.heap.size+1) (.map (esS [([43],4)] 0).toArray 1)).putObj (w.heap.size+1) (.map (esS [([43],4),([45],5)] 0).toArray 2)).heap.size:=by simp
 have HB:=zh b4;have HS:=zh s4;have HR:=zh rl;have HP:=zh pl;have HC:=zh hc;clear hc hg h b1 r1 b2 s2 b3 s3 b4 s4 rl pl;go_enter Tryz.func283,Tryz.ntmps283
 go_wp2_with fail;generalize ((((w.alloc (.cells #[.int .i64 0,.int .i64 0,.slice none 0 0] 63)).alloc (.map #[] 0)).putObj (w.heap.size+1) (.map (esS [([43],4)] 0).toArray 1)).putObj (w.heap.size+1) (.map (esS [([43],4),([45],5)] 0).toArray 2))=WX at *
 refine (HC.out WX (w.heap.size+1) HP.out HS.out (by omega)).mono ?_
 cases o with
 | no k2 =>
  rintro e w' ⟨hb,rfl⟩;exact ⟨rfl,(But.of_below HB.out).trans hb,rfl⟩
 | ok x k2 =>
  rintro e w' ⟨hb,hP,A,c,rfl,hF⟩;have rw':RBox w #[.int .i64 0,.int .i64 0,.slice none 0 0] 63 w':=(hb.block _ HR.out.lt (by omega)).trans HR.out
  have z0:=rw'.cell 0 _ rfl
  have z1:=rw'.cell 1 _ rfl
  have z2:=rw'.cell 2 _ rfl
  have y0:=rw'.free 0
  have y1:=rw'.free 1
  have y2:=rw'.free 2
  have HP':=zh hP;have HF':=zh hF;have HB':=zh hb;clear hP hF hb rw';go_wp2_with fail;refine bodyPost_ret (v:=.agg #[.int .i64 x.1.1,.int .i64 x.1.2,.slice A (flen x.2) c]) (by simp [results,Tryz.results283,go_sem,z0,z1,z2]) rfl ?_
  exact Z4B hlw ((But.of_below HB.out).trans HB'.out) HP'.out HF'.out (fun b h=>⟨by have:=h.1;omega,h.2⟩)
theorem Zm0 (pb:Nat)(v:Value)(ts:List Tok)(k:Nat)(hk:k≤ts.length)(hg:∀ k',k≤k'→k'≤ts.length→RC 3 257 pb v ts k'):RC 2 219 pb v ts k:=by
 obtain ⟨o,hr,ho,hc⟩:=Z6G 2 (by unfold lft;omega) 257 (fun _ _=>rfl) pb v ts k hk hg
 refine ⟨o,hr,ho,fun w h=>?_⟩
 have hmf:∀ (fn:Fn) (first cap:Array Value) (w:World),(Instr.makeFunc fn first cap).run Tryz.prog w=.ok (.func fn first cap) w:=fun _ _ _ _=>rfl
 have hmm:=@run_makeMap Tryz.prog
 have hlw:=h.lt
 have b1:Below w.heap.size w (w.alloc (.cells #[.int .i64 0,.int .i64 0,.slice none 0 0] 63)):=(Below.refl _ _).alloc (zn _) _
 have r1:RBox w #[.int .i64 0,.int .i64 0,.slice none 0 0] 63 (w.alloc (.cells #[.int .i64 0,.int .i64 0,.slice none 0 0] 63)):=za w _
 have b2:=b1.alloc (by simp) (.map #[] 0)
 have s2:=SMap.new (w.alloc (.cells #[.int .i64 0,.int .i64 0,.slice none 0 0] 63))
 have hR:(w.alloc (.cells #[.int .i64 0,.int .i64 0,.slice none 0 0] 63)).heap.size=w.heap.size+1:=by simp
 rw [hR] at s2
 have u1:(Instr.mapUpdate 253 (.map (some (w.heap.size+1))) (.string ⟨#[97,110,100]⟩) (.int .i64 13)).run Tryz.prog ((w.alloc (.cells #[.int .i64 0,.int .i64 0,.slice none 0 0] 63)).alloc (.map #[] 0))=.ok () (((w.alloc (.cells #[.int .i64 0,.int .i64 0,.slice none 0 0] 63)).alloc (.map #[] 0)).putObj (w.heap.size+1) (.map (esS [([97,110,100],13)] 0).toArray 1)) :=
  Z0s (t:=[97,110,100]) Tryz.underlying253 Tryz.underlying9 s2 (by decide) 13
 have s3:SMap (((w.alloc (.cells #[.int .i64 0,.int .i64 0,.slice none 0 0] 63)).alloc (.map #[] 0)).putObj (w.heap.size+1) (.map (esS [([97,110,100],13)] 0).toArray 1)) (w.heap.size+1) [([97,110,100],13)]:=Z2i s2
 have b3:Below w.heap.size w (((w.alloc (.cells #[.int .i64 0,.int .i64 0,.slice none 0 0] 63)).alloc (.map #[] 0)).putObj (w.heap.size+1) (.map (esS [([97,110,100],13)] 0).toArray 1)):=Z0B b2 (by omega) _
 have rl:RBox w #[.int .i64 0,.int .i64 0,.slice none 0 0] 63 (((w.alloc (.cells #[.int .i64 0,.int .i64 0,.slice none 0 0] 63)).alloc (.map #[] 0)).putObj (w.heap.size+1) (.map (esS [([97,110,100],13)] 0).toArray 1)):=by
  show (((w.alloc (.cells #[.int .i64 0,.int .i64 0,.slice none 0 0] 63)).alloc (.map #[] 0)).putObj (w.heap.size+1) (.map (esS [([97,110,100],13)] 0).toArray 1)).heap[w.heap.size]?=_
  rw [World.putObj_heap_other (by omega),Below.heap_alloc _ _ _ (by simp)]
  exact r1
 have pl:PI (((w.alloc (.cells #[.int .i64 0,.int .i64 0,.slice none 0 0] 63)).alloc (.map #[] 0)).putObj (w.heap.size+1) (.map (esS [([97,110,100],13)] 0).toArray 1)) pb v ts k:=by
  have hx:Below (pb+1) w (((w.alloc (.cells #[.int .i64 0,.int .i64 0,.slice none 0 0] 63)).alloc (.map #[] 0)).putObj (w.heap.size+1) (.map (esS [([97,110,100],13)] 0).toArray 1)):=b3.mono (by omega)
  exact ⟨(hx.block _ (by omega)).trans h.1,h.2.1.below (hx.mono (by omega)),h.2.2.1,h.2.2.2.1,h.2.2.2.2.1,h.2.2.2.2.2.on (hx.mono (by omega))⟩
 have hs:w.heap.size+2=(((w.alloc (.cells #[.int .i64 0,.int .i64 0,.slice none 0 0] 63)).alloc (.map #[] 0)).putObj (w.heap.size+1) (.map (esS [([97,110,100],13)] 0).toArray 1)).heap.size:=by simp
 have HB:=zh b3;have HS:=zh s3;have HR:=zh rl;have HP:=zh pl;have HC:=zh hc;clear hc hg h b1 r1 b2 s2 b3 s3 rl pl;go_enter Tryz.func219,Tryz.ntmps219
 go_wp2_with fail;generalize (((w.alloc (.cells #[.int .i64 0,.int .i64 0,.slice none 0 0] 63)).alloc (.map #[] 0)).putObj (w.heap.size+1) (.map (esS [([97,110,100],13)] 0).toArray 1))=WX at *
 refine (HC.out WX (w.heap.size+1) HP.out HS.out (by omega)).mono ?_
 cases o with
 | no k2 =>
  rintro e w' ⟨hb,rfl⟩;exact ⟨rfl,(But.of_below HB.out).trans hb,rfl⟩
 | ok x k2 =>
  rintro e w' ⟨hb,hP,A,c,rfl,hF⟩;have rw':RBox w #[.int .i64 0,.int .i64 0,.slice none 0 0] 63 w':=(hb.block _ HR.out.lt (by omega)).trans HR.out
  have z0:=rw'.cell 0 _ rfl
  have z1:=rw'.cell 1 _ rfl
  have z2:=rw'.cell 2 _ rfl
  have y0:=rw'.free 0
  have y1:=rw'.free 1
  have y2:=rw'.free 2
  have HP':=zh hP;have HF':=zh hF;have HB':=zh hb;clear hP hF hb rw';go_wp2_with fail;refine bodyPost_ret (v:=.agg #[.int .i64 x.1.1,.int .i64 x.1.2,.slice A (flen x.2) c]) (by simp [results,Tryz.results219,go_sem,z0,z1,z2]) rfl ?_
  exact Z4B hlw ((But.of_below HB.out).trans HB'.out) HP'.out HF'.out (fun b h=>⟨by have:=h.1;omega,h.2⟩)
end
section
open Go.RowKit Lx Px
def Fx (w:World)(pb:Nat)(wx:World):Prop:=But pb w wx∧RBox w #[.int .i64 0,.int .i64 0,.slice none 0 0] 63 wx∧pb<w.heap.size
theorem Fx.but {w:World}{pb:Nat}{wx wy:World}(h:Fx w pb wx)(hb:But pb wx wy):Fx w pb wy :=
 ⟨h.1.trans hb,(hb.block _ h.2.1.lt (by have:=h.2.2;omega)).trans h.2.1,h.2.2⟩
theorem Fx.new {w:World}{pb:Nat}(h:pb<w.heap.size):Fx w pb (w.alloc (.cells #[.int .i64 0,.int .i64 0,.slice none 0 0] 63)) :=
 ⟨(But.refl _ _).alloc _,za w _,h⟩
theorem Fx.lt {w:World}{pb:Nat}{wx:World}(h:Fx w pb wx):w.heap.size<wx.heap.size:=h.2.1.lt
theorem Fx.six {w:World}{pb:Nat}{wx:World}(h:Fx w pb wx):wx.cell? ⟨w.heap.size,0,none⟩=some (.int .i64 0)∧wx.cell? ⟨w.heap.size,1,none⟩=some (.int .i64 0)∧wx.cell? ⟨w.heap.size,2,none⟩=some (.slice none 0 0) ∧
 wx.frozen? ⟨w.heap.size,0,none⟩=false∧wx.frozen? ⟨w.heap.size,1,none⟩=false∧wx.frozen? ⟨w.heap.size,2,none⟩=false :=
 ⟨h.2.1.cell 0 _ rfl,h.2.1.cell 1 _ rfl,h.2.1.cell 2 _ rfl,h.2.1.free 0,h.2.1.free 1,h.2.1.free 2⟩
def Tr (w wx:World)(A:Option Addr)(c:Nat)(f:Fo):Prop:=FoD wx (fun b=>w.heap.size<b∧b<wx.heap.size) (.slice A (flen f) c) f
theorem Tr.but {w:World}{pb:Nat}{wx wy:World}{A:Option Addr}{c:Nat}{f:Fo}(h:Tr w wx A c f)(hb:But pb wx wy)(hp:pb<w.heap.size):Tr w wy A c f :=
 FoD.keep h (fun b x=>⟨x.1,by have:=hb.size;have:=x.2;omega⟩) (fun b x=>hb.block b x.2 (by have:=x.1;omega))
theorem Tr.of {w wl wx:World}{A:Option Addr}{c:Nat}{f:Fo}(h:FoD wx (fun b=>wl.heap.size≤b∧b<wx.heap.size) (.slice A (flen f) c) f)(hl:w.heap.size<wl.heap.size):Tr w wx A c f :=
 FoD.keep h (fun b x=>⟨by have:=x.1;omega,x.2⟩) (fun _ _=>rfl)
def Bx (w:World)(b:Nat)(x:Ex)(A:Option Addr)(c:Nat)(wx:World):Prop :=
 wx.heap[b]?=some (.cells #[.int .i64 x.1.1,.int .i64 x.1.2,.slice A (flen x.2) c] 63 (0,0))∧w.heap.size<b∧Tr w wx A c x.2
theorem Bx.but {w:World}{pb b:Nat}{x:Ex}{A:Option Addr}{c:Nat}{wx wy:World}(h:Bx w b x A c wx)(hb:But pb wx wy)(hp:pb<w.heap.size):Bx w b x A c wy :=
 ⟨(hb.block _ (zs h.1) (by have:=h.2.1;omega)).trans h.1,h.2.1,h.2.2.but hb hp⟩
theorem Bx.three {w:World}{b:Nat}{x:Ex}{A:Option Addr}{c:Nat}{wx:World}(h:Bx w b x A c wx):wx.cell? ⟨b,0,none⟩=some (.int .i64 x.1.1)∧wx.cell? ⟨b,1,none⟩=some (.int .i64 x.1.2)∧wx.cell? ⟨b,2,none⟩=some (.slice A (flen x.2) c):=by
 refine ⟨?_,?_,?_⟩ <;> (rw [zc h.1];rfl)
theorem Bx.lt {w:World}{b:Nat}{x:Ex}{A:Option Addr}{c:Nat}{wx:World}(h:Bx w b x A c wx):b<wx.heap.size:=(zs h.1)
theorem Bx.new {w wx:World}{x:Ex}{A:Option Addr}{c:Nat}(h:Tr w wx A c x.2)(hl:w.heap.size<wx.heap.size):Bx w wx.heap.size x A c (wx.alloc (.cells #[.int .i64 x.1.1,.int .i64 x.1.2,.slice A (flen x.2) c] 63)) :=
 ⟨za wx _,hl,FoD.keep h (fun b y=>⟨y.1,by have:=y.2;simp;omega⟩) (fun b y=>Below.heap_alloc _ _ _ y.2)⟩
theorem Z7k {w w':World}{pb:Nat}{v:Value}{ts:List Tok}{k1:Nat}{x:Ex}{cs:Array Value}(h:Fx w pb w')(hP:PI w' pb v ts k1)
 (hF:∀ X:World,(∀ b,w.heap.size<b→b<w'.heap.size→X.heap[b]?=w'.heap[b]?)→X.heap[w'.heap.size]?=some (.cells cs 63 (0,0))→X.heap.size=w'.heap.size+1→FoD X (fun b=>w.heap.size<b∧b<X.heap.size) (.slice (some ⟨w'.heap.size,0,none⟩) (flen x.2) (flen x.2)) x.2) :
 RP pb v ts (.ok x k1) w (.returned (.agg #[.int .i64 x.1.1,.int .i64 x.1.2,.slice (some ⟨w'.heap.size,0,none⟩) (flen x.2) (flen x.2)]))
  ((((w'.setCell ⟨w.heap.size,0,none⟩ (.int .i64 x.1.1)).setCell ⟨w.heap.size,1,none⟩ (.int .i64 x.1.2)).setCell ⟨w.heap.size,2,none⟩ (.slice (some ⟨w'.heap.size,0,none⟩) (flen x.2) (flen x.2))).alloc (.cells cs 63)):=by
 obtain ⟨h1,h2,hp⟩:=h
 obtain ⟨W,hW⟩:∃ W,W=((w'.setCell ⟨w.heap.size,0,none⟩ (.int .i64 x.1.1)).setCell ⟨w.heap.size,1,none⟩ (.int .i64 x.1.2)).setCell ⟨w.heap.size,2,none⟩ (.slice (some ⟨w'.heap.size,0,none⟩) (flen x.2) (flen x.2)):=⟨_,rfl⟩
 have hWs:W.heap.size=w'.heap.size:=by rw [hW,Zar]
 have hWf:∀ k,k≠w.heap.size→W.heap[k]?=w'.heap[k]?:=fun k hk=>by rw [hW,Zaq hk]
 have hBW:But pb w W:=by
  rw [hW]
  exact ((h1.new (p:=⟨w.heap.size,0,none⟩) (zn _) _).new (p:=⟨w.heap.size,1,none⟩) (zn _) _).new (p:=⟨w.heap.size,2,none⟩) (zn _) _
 have hPW:PI W pb v ts k1:=by
  rw [hW]
  exact ((hP.far (p:=⟨w.heap.size,0,none⟩) hp _).far (p:=⟨w.heap.size,1,none⟩) hp _).far (p:=⟨w.heap.size,2,none⟩) hp _
 rw [← hW]
 have hnew:=za W (.cells cs 63)
 rw [hWs] at hnew
 have hsz:(W.alloc (.cells cs 63)).heap.size=w'.heap.size+1:=by simp [hWs]
 have hFX:=hF (W.alloc (.cells cs 63)) (fun b hb1 hb2=>by rw [Below.heap_alloc _ _ _ (by omega),hWf b (by omega)]) hnew hsz
 refine ⟨hBW.alloc _,hPW.on ((Below.refl _ _).alloc (zn _) _),_,_,rfl,?_⟩
 exact FoD.keep hFX (fun b y=>⟨by have:=y.1;omega,y.2⟩) (fun _ _=>rfl)
theorem Tr.to {w w' X:World}{A:Option Addr}{c:Nat}{f:Fo}(h:Tr w w' A c f)(hX:∀ b,w.heap.size<b→b<w'.heap.size→X.heap[b]?=w'.heap[b]?)(hs:X.heap.size=w'.heap.size+1):FoD X (fun b=>w.heap.size<b∧b<X.heap.size) (.slice A (flen f) c) f :=
 FoD.keep h (fun b y=>⟨y.1,by have:=y.2;omega⟩) (fun b y=>hX b y.1 y.2)
theorem Z1u {ts:List Tok}{k:Nat}{t:Bytes}(h:nxt ts k≠t):(txt ts k).head?≠some t:=by
 by_cases hk:k<ts.length
 · rw [Z12 hk];simpa using h
 · rw [Z9h ts k (by omega)];simp
theorem Z2n {ts:List Tok}{k:Nat}{t:Bytes}(h:nxt ts k=t)(ht:t≠[]):k<ts.length:=by
 by_cases hk:k<ts.length
 · exact hk
 · rw [Z50 ts k hk] at h;exact absurd h.symm ht
theorem op3_no {t:Bytes}(h1:t≠[60])(h2:t≠[61]):Px.opAt 3 t=0:=by simp [Px.opAt,h1,h2]
theorem Zas (pb:Nat)(v:Value)(ts:List Tok)(k:Nat)(hn:nxt ts k=kNot)(hc:∀ k',k<k'→k'≤ts.length→RC 3 257 pb v ts k'):RC 3 257 pb v ts k:=by
 have hlt:=Z2n hn (by decide)
 obtain ⟨o,hr,ho,hcall⟩:=hc (k+1) (by omega) (by omega)
 have htx:txt ts k=kNot::txt ts (k+1):=by rw [Z12 hlt,hn]
 cases o with
 | no k2 =>
  refine ⟨.no k2,by rw [htx];exact Zge hr,⟨by have:=ho.1;omega,ho.2⟩,fun w h=>?_⟩
  have F1:=zh (Fx.new h.lt)
  have P1:=zh (h.on ((Below.refl _ _).alloc (zn _) (.cells #[.int .i64 0,.int .i64 0,.slice none 0 0] 63)))
  have HC:=zh hcall;have HN:=zh hn;clear h hcall hc hn htx hr;go_enter Tryz.func257,Tryz.ntmps257
  go_wp2_with fail;refine (Z26 _ pb v ts k P1.out hlt kNot HN.out).mono ?_
  rintro e w1 ⟨rfl,p2,b2⟩;have F2:=zh (F1.out.but b2)
  have P2:=zh p2;clear p2 b2 P1 F1;go_wp2_with fail;refine (HC.out _ P2.out).mono ?_
  rintro e w2 ⟨b3,rfl⟩;exact ⟨rfl,F2.out.1.trans b3,rfl⟩
 | ok x k2 =>
  refine ⟨.ok (oneE 15 x) k2,by rw [htx];exact Zm2 hr,⟨by have:=ho.1;omega,ho.2⟩,fun w h=>?_⟩
  have F1:=zh (Fx.new h.lt)
  have P1:=zh (h.on ((Below.refl _ _).alloc (zn _) (.cells #[.int .i64 0,.int .i64 0,.slice none 0 0] 63)))
  have HC:=zh hcall;have HN:=zh hn;have hlw:=h.lt
  clear h hcall hc hn htx hr;go_enter Tryz.func257,Tryz.ntmps257
  go_wp2_with fail;refine (Z26 _ pb v ts k P1.out hlt kNot HN.out).mono ?_
  rintro e w1 ⟨rfl,p2,b2⟩;have F2:=zh (F1.out.but b2)
  have P2:=zh p2;clear p2 b2 P1 F1;go_wp2_with fail;refine (HC.out _ P2.out).mono ?_
  rintro e w2 ⟨b3,p3,A,c,rfl,hF⟩;have T3:=zh (Tr.of hF F2.out.lt)
  have F3:=zh (F2.out.but b3)
  have P3:=zh p3;obtain ⟨s0,s1,s2,s3,s4,s5⟩:=F3.out.six
  have hl2:=F3.out.lt
  clear b3 p3 hF F2 P2;go_wp2_with fail;refine bodyPost_ret (v:=.agg #[.int .i64 15,.int .i64 0,.slice (some ⟨w2.heap.size,0,none⟩) 1 1]) (by simp [results,Tryz.results257,go_sem,s0,s1,s2,hl2]) rfl ?_
  exact Z7k (x:=oneE 15 x) F3.out P3.out (fun X h1 h2 h3=>FoD.one (D:=fun b=>w.heap.size<b∧b<X.heap.size) ⟨hl2,by omega⟩ h2 (T3.out.to h1 h3) 1)
end
end Go.Proofs.YtnepkoepbapgeaaGreatDoor
