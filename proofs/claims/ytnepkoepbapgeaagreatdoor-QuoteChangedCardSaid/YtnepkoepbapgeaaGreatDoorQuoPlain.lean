/-
  Several texts in one: ParRm, QuoOpr, QuoVal0, QuoPlain.
-/
import Derived.Test.YtnepkoepbapgeaaGreatDoorParHd0
import Derived.Test.YtnepkoepbapgeaaGreatDoorLexPlain8
import Derived.Deep.AppendLies
import Derived.Test.YtnepkoepbapgeaaGreatDoorParW1
import Derived.Test.YtnepkoepbapgeaaGreatDoorPrtMem
import Derived.Test.YtnepkoepbapgeaaGreatDoorPrtTwo
import Derived.Test.YtnepkoepbapgeaaGreatDoorParMem
namespace Go.Proofs.YtnepkoepbapgeaaGreatDoor
set_option maxRecDepth 100000
section
open Go.RowKit Lx Px
def Rr.rt (r:Rr):Rt:=⟨r.id,r.lv,r.kd,r.fr,r.un,r.ls,r.mo,r.ar,pctN r.kp,pctD r.kp,r.wh.1.1,r.wh.1.2,r.wh.2,r.pr.1.1,r.pr.1.2,r.pr.2⟩
def Z48 (r:Rt)(wv pv:Value):List Value:=[.int .i64 r.id,.int .i64 r.lv,.int .i64 r.kd,.int .i64 r.fr,.int .i64 r.un,.int .i64 r.ls,.int .i64 r.mo,.int .i64 r.ar,.int .i64 r.kn,.int .i64 r.kq,.int .i64 r.wo,.int .i64 r.wn,wv,.int .i64 r.po,.int .i64 r.pn,pv]
structure Rm where
 r:Rt
 wv:Value
 pv:Value
def Rm.cells (m:Rm):List Value:=Z48 m.r m.wv m.pv
theorem Rm.cells_len (m:Rm):m.cells.length=16:=rfl
def Z3t (ms:List Rm):List Value:=ms.flatMap Rm.cells
theorem Zbb (ms:List Rm)(m:Rm):Z3t (ms++[m])=Z3t ms++m.cells:=by simp [Z3t]
theorem Zcn (ms:List Rm)(k j:Nat)(h:k<ms.length)(hj:j<16):(Z3t ms)[k*16+j]?=ms[k].cells[j]?:=by
 induction ms generalizing k with
 | nil=>simp at h
 | cons m ms ih =>
  have hc:Z3t (m::ms)=m.cells++Z3t ms:=by simp [Z3t]
  rw [hc]
  cases k with
  | zero=>simp only [Nat.zero_mul,Nat.zero_add,List.getElem_cons_zero];rw [List.getElem?_append_left (by rw [Rm.cells_len];omega)]
  | succ k =>
   rw [List.getElem?_append_right (by rw [Rm.cells_len];omega)]
   have:=ih k (by simpa using h)
   simp only [Rm.cells_len,List.getElem_cons_succ]
   rw [← this];congr 1;omega
def RtAt (w:World)(B:Nat)(p:Addr)(r:Rt):Prop :=
 p.spot=none∧∃ wv pv,(∀ j u,(Z48 r wv pv)[j]?=some u→w.cell? ⟨p.block,p.off+j,none⟩=some u)∧FoV w B wv r.wl∧FoV w B pv r.pl
def RtsV (w:World)(B:Nat)(v:Value)(rs:List Rt):Prop :=
 ∃ A c,v=.slice A rs.length c∧∀ i (h:i<rs.length),∃ ad,A=some ad∧ad.block<B∧RtAt w B (ad.add (i*16)) rs[i]
theorem RtAt.keep {w w':World}{B:Nat}{p:Addr}{r:Rt}(h:RtAt w B p r)(hb:Below B w w')(hp:p.block<B):RtAt w' B p r:=by
 obtain ⟨hs,wv,pv,hc,h1,h2⟩:=h
 exact ⟨hs,wv,pv,fun j u hj=>(hb.cell (p:=⟨p.block,p.off+j,none⟩) hp).trans (hc j u hj),h1.on hb,h2.on hb⟩
theorem RtAt.up {w:World}{B B':Nat}{p:Addr}{r:Rt}(h:RtAt w B p r)(hb:B≤B'):RtAt w B' p r:=by
 obtain ⟨hs,wv,pv,hc,h1,h2⟩:=h
 exact ⟨hs,wv,pv,hc,h1.up hb,h2.up hb⟩
theorem RtsV.on {w w':World}{B:Nat}{v:Value}{rs:List Rt}(h:RtsV w B v rs)(hb:Below B w w'):RtsV w' B v rs:=by
 obtain ⟨A,c,e,hA⟩:=h
 refine ⟨A,c,e,fun i hi=>?_⟩
 obtain ⟨ad,e1,hl,hr⟩:=hA i hi
 exact ⟨ad,e1,hl,hr.keep hb (by rw [Zae];exact hl)⟩
theorem RtsV.up {w:World}{B B':Nat}{v:Value}{rs:List Rt}(h:RtsV w B v rs)(hb:B≤B'):RtsV w B' v rs:=by
 obtain ⟨A,c,e,hA⟩:=h
 refine ⟨A,c,e,fun i hi=>?_⟩
 obtain ⟨ad,e1,hl,hr⟩:=hA i hi
 exact ⟨ad,e1,by omega,hr.up hb⟩
theorem RtsV.nil (w:World)(B:Nat):RtsV w B (.slice none 0 0) []:=⟨none,0,rfl,fun i h=>absurd h (by simp)⟩
def OwnD (w:World)(lo:Nat)(v:Value)(b:Nat):Prop:=lo≤b∧b<w.heap.size∧some b≠v.ownBlock
def OwnR (w:World)(lo:Nat)(v:Value)(rs:List Rt):Prop :=
 ∃ ms:List Rm,ms.map (·.r)=rs∧w.ownsRow lo 65 16 v ms.length (Z3t ms)∧∀ m∈ms,FoD w (OwnD w lo v) m.wv m.r.wl∧FoD w (OwnD w lo v) m.pv m.r.pl
theorem OwnR.nil (w:World)(lo:Nat):OwnR w lo (.slice none 0 0) []:=⟨[],rfl,World.ownsRow_nil _ _ _ _,fun m h=>absurd h (by simp)⟩
theorem Z2e {w w':World}{lo size n:Nat}{e:TypeId}{v:Value}{xs:List Value}(h:w.ownsRow lo e size v n xs)(hb:∀ k,lo≤k→k<w.heap.size→w'.heap[k]?=w.heap[k]?):w'.ownsRow lo e size v n xs:=by
 refine ⟨h.1,?_⟩
 rcases h.2 with hn | ⟨g,cap,cur,rfl,hg,hgg,rest⟩
 · exact .inl hn
 · exact .inr ⟨g,cap,cur,rfl,hg,(hb g hg (zs hgg)).trans hgg,rest⟩
theorem OwnR.keep {w w':World}{lo:Nat}{v:Value}{rs:List Rt}(h:OwnR w lo v rs)(hs:w.heap.size≤w'.heap.size)(hb:∀ k,lo≤k→k<w.heap.size→w'.heap[k]?=w.heap[k]?):OwnR w' lo v rs:=by
 obtain ⟨ms,e,ho,hf⟩:=h
 refine ⟨ms,e,⟨ho.1,?_⟩,fun m hm=>⟨(hf m hm).1.keep (fun b x=>⟨x.1,by have:=x.2.1;omega,x.2.2⟩) (fun b x=>hb b x.1 x.2.1),(hf m hm).2.keep (fun b x=>⟨x.1,by have:=x.2.1;omega,x.2.2⟩) (fun b x=>hb b x.1 x.2.1)⟩⟩
 rcases ho.2 with hn | ⟨g,cap,cur,rfl,hg,hgg,rest⟩
 · exact .inl hn
 · exact .inr ⟨g,cap,cur,rfl,hg,(hb g hg (zs hgg)).trans hgg,rest⟩
theorem OwnR.but {w w':World}{lo pb:Nat}{v:Value}{rs:List Rt}(h:OwnR w lo v rs)(hb:But pb w w')(hp:pb<lo):OwnR w' lo v rs:=h.keep hb.size (fun k h1 h2=>hb.block k h2 (by omega))
theorem OwnR.form {w:World}{lo:Nat}{v:Value}{rs:List Rt}(h:OwnR w lo v rs):∃ A c,v=.slice A rs.length c:=by
 obtain ⟨ms,e,ho,_⟩:=h
 have hl:rs.length=ms.length:=by rw [← e,List.length_map]
 rw [hl]
 rcases ho.2 with ⟨hv,h0⟩ | ⟨g,cap,cur,hv,_⟩
 · exact ⟨none,0,by rw [hv,h0]⟩
 · exact ⟨_,_,hv⟩
theorem OwnR.snoc {w w1 w2:World}{lo:Nat}{v v':Value}{ms:List Rm}{m:Rm}{c g:Nat}
 (hm:∀ x∈ms,FoD w (OwnD w lo v) x.wv x.r.wl∧FoD w (OwnD w lo v) x.pv x.r.pl) (hlo:∀ k,v.ownBlock=some k→lo≤k∧k<w.heap.size)
 (h1:FoD w1 (fun b=>w.heap.size≤b∧b<w1.heap.size) m.wv m.r.wl) (h2:FoD w1 (fun b=>w.heap.size≤b∧b<w1.heap.size) m.pv m.r.pl)
 (hw:∀ k,lo≤k→k<w.heap.size→w1.heap[k]?=w.heap[k]?) (hs:w.heap.size≤w1.heap.size) (hl:lo≤w.heap.size)
 (hown:w2.ownsRow lo 65 16 v' c (Z3t ms++m.cells)) (hc:c=ms.length+1) (hgrow:w1.grownBy w2 v.ownBlock) (hv':v'.ownBlock=some g) (hg:v.ownBlock=some g∨g=w1.heap.size) :
 OwnR w2 lo v' ((ms++[m]).map (·.r)):=by
 refine ⟨ms++[m],rfl,?_,?_⟩
 · rw [List.length_append,List.length_singleton,← hc,Zbb];exact hown
 · have hne:∀ b,lo≤b→b<w1.heap.size→some b≠v.ownBlock→some b≠v'.ownBlock:=by
    intro b hb1 hb2 hn e
    rw [hv'] at e
    injection e with e
    rcases hg with hg | hg
    · exact hn (by rw [hg,e])
    · omega
   intro x hx
   rw [List.mem_append,List.mem_singleton] at hx
   rcases hx with hx | rfl
   · obtain ⟨f1,f2⟩:=hm x hx
     refine ⟨f1.keep (fun b y=>⟨y.1,?_,?_⟩) (fun b y=>?_),f2.keep (fun b y=>⟨y.1,?_,?_⟩) (fun b y=>?_)⟩
     all_goals first
      | (have:=y.2.1;have:=hgrow.size;omega)
      | exact hne b y.1 (by have:=y.2.1;omega) y.2.2
      | (rw [hgrow.block b (by have:=y.2.1;omega) y.2.2,hw b y.1 y.2.1])
   · have hnew:∀ b,w.heap.size≤b→some b≠v.ownBlock:=by
      intro b hb e
      have:=(hlo b e.symm).2
      omega
     refine ⟨h1.keep (fun b y=>⟨?_,?_,?_⟩) (fun b y=>?_),h2.keep (fun b y=>⟨?_,?_,?_⟩) (fun b y=>?_)⟩
     all_goals first
      | (have:=y.1;omega)
      | (have:=y.2;have:=hgrow.size;omega)
      | exact hne b (by have:=y.1;omega) y.2 (hnew b y.1)
      | exact hgrow.block b y.2 (hnew b y.1)
theorem OwnR.v {w:World}{lo:Nat}{v:Value}{rs:List Rt}(h:OwnR w lo v rs):RtsV w w.heap.size v rs:=by
 obtain ⟨ms,rfl,ho,hf⟩:=h
 rcases ho.2 with ⟨hv,h0⟩ | ⟨g,cap,cur,hv,_,hg,_⟩
 · have:ms=[]:=List.length_eq_zero_iff.1 h0
   subst this;subst hv;exact RtsV.nil _ _
 · refine ⟨some ⟨g,0,none⟩,cap,by rw [hv,List.length_map],fun i hi=>⟨⟨g,0,none⟩,rfl,(zs hg),?_⟩⟩
   have hi':i<ms.length:=by simpa using hi
   obtain ⟨f1,f2⟩:=hf ms[i] (List.getElem_mem hi')
   rw [Z5h]
   refine ⟨rfl,ms[i].wv,ms[i].pv,?_,?_,?_⟩
   · intro j u hj
     subst hv;have hj16:j<16:=by
      rcases Nat.lt_or_ge j 16 with h | h
      · exact h
      · rw [List.getElem?_eq_none (by show 16≤j;exact h)] at hj;cases hj
     show w.cell? ⟨g,i*16+j,none⟩=some u
     rw [ho.cellAt (i*16+j) (by omega),Zcn ms i j hi' hj16,← hj]
     simp only [List.getElem_map]
     rfl
   · simp only [List.getElem_map];exact f1.v (fun b x=>x.2.1)
   · simp only [List.getElem_map];exact f2.v (fun b x=>x.2.1)
theorem Zdx {w:World}{b:Nat}{cs:Array Value}{t:TypeId}{fr:Nat × Nat}(h:w.heap[b]?=some (.cells cs t fr))(l:List Value)(hl:l=cs.toList):∀ j u,l[j]?=some u→w.cell? ((⟨b,0,none⟩:Addr).add j)=some u:=by
 subst hl;exact World.news_of_block h
theorem Tryz.infoRate:(Tryz.prog.info? 65).map (fun i=>(i.zero,i.size,i.bytes))=some (some (.agg #[.int .i64 0,.int .i64 0,.int .i64 0,.int .i64 0,.int .i64 0,.int .i64 0,.int .i64 0,.int .i64 0,.int .i64 0,.int .i64 0,.int .i64 0,.int .i64 0,.slice none 0 0,.int .i64 0,.int .i64 0,.slice none 0 0]),16,160):=by kernel_rfl
end
section
open Go.ChangeShapes Go.WideShapes Go.ChangeAt Go.RowKit Go.Deep Lx Px
theorem ZnC {B B':Nat}{w:World}(h:Tabs B w)(h1:B≤B')(h2:B'≤w.heap.size):Tabs B' w:=⟨Zm7 h h1,by have:=h.2.1;omega,h2,h.2.2.2⟩
theorem Z1y {w w':World}(h:Tabs w.heap.size w)(hb:Below w.heap.size w w'):Tabs w'.heap.size w':=ZnC (h.on hb) hb.size (zn _)
theorem Zbc {p:Addr}{k j:Nat}(h:(p.add k).spot=none):p.add (k+j)=⟨(p.add k).block,(p.add k).off+j,none⟩:=by
 unfold Addr.add at h ⊢
 by_cases hk:k=0
 · subst hk
   rw [if_pos rfl] at h ⊢
   by_cases hj:j=0
   · subst hj;rw [if_pos rfl];cases p;cases h;rfl
   · rw [if_neg (by omega)];simp
 · rw [if_neg (by omega),if_neg hk]
   simp only [Nat.add_assoc]
theorem Zhz {w:World}{p:Addr}{v:Value}(h:w.cell? p=some v):p.spot=none:=by
 unfold World.cell? at h
 split at h
 · split at h
   · cases h
   · rename_i hs
     cases hp:p.spot with
     | none=>rfl
     | some x=>rw [hp] at hs;simp at hs
 · cases h
theorem Zcp {H:Type}{enc:TypeId × Value→H}{W:World}{n:Nat}{cs:List Value}{y:DataW H × List MemPlace}(h:DataW.trod enc Tryz.prog W 0 (fun _=>true) true n 65 cs=some y) :
 ∃ (r:Rt) (WA PA:Option Addr) (wc pc:Nat),cs=Z48 r (.slice WA (flen r.wl) wc) (.slice PA (flen r.pl) pc)∧FoV W W.heap.size (.slice WA (flen r.wl) wc) r.wl∧FoV W W.heap.size (.slice PA (flen r.pl) pc) r.pl:=by
 obtain ⟨xs,n',hn',_,hl,hxl,hf⟩:=DataW.trod_struct Tryz.underlying65 h
 rw [Tryz.cellsRate] at hl
 obtain ⟨c0,c1,c2,c3,c4,c5,c6,c7,c8,c9,c10,c11,c12,c13,c14,c15,rfl⟩:∃ c0 c1 c2 c3 c4 c5 c6 c7 c8 c9 c10 c11 c12 c13 c14 c15,cs=[c0,c1,c2,c3,c4,c5,c6,c7,c8,c9,c10,c11,c12,c13,c14,c15]:=by
  match cs,hl with
  | [c0,c1,c2,c3,c4,c5,c6,c7,c8,c9,c10,c11,c12,c13,c14,c15],_=>exact ⟨c0,c1,c2,c3,c4,c5,c6,c7,c8,c9,c10,c11,c12,c13,c14,c15,rfl⟩
 obtain ⟨x0,x1,x2,x3,x4,x5,x6,x7,x8,x9,rfl⟩:∃ x0 x1 x2 x3 x4 x5 x6 x7 x8 x9,xs=[x0,x1,x2,x3,x4,x5,x6,x7,x8,x9]:=by
  have hx3:xs.length=10:=hxl
  match xs,hx3 with
  | [x0,x1,x2,x3,x4,x5,x6,x7,x8,x9],_=>exact ⟨x0,x1,x2,x3,x4,x5,x6,x7,x8,x9,rfl⟩
 have g0:DataW.trod enc Tryz.prog W 0 (fun _=>true) true n' 3 [c0]=some x0:=hf 0 _ rfl
 have g1:DataW.trod enc Tryz.prog W 0 (fun _=>true) true n' 3 [c1]=some x1:=hf 1 _ rfl
 have g2:DataW.trod enc Tryz.prog W 0 (fun _=>true) true n' 3 [c2]=some x2:=hf 2 _ rfl
 have g3:DataW.trod enc Tryz.prog W 0 (fun _=>true) true n' 58 [c3,c4]=some x3:=hf 3 _ rfl
 have g4:DataW.trod enc Tryz.prog W 0 (fun _=>true) true n' 3 [c5]=some x4:=hf 4 _ rfl
 have g5:DataW.trod enc Tryz.prog W 0 (fun _=>true) true n' 3 [c6]=some x5:=hf 5 _ rfl
 have g6:DataW.trod enc Tryz.prog W 0 (fun _=>true) true n' 3 [c7]=some x6:=hf 6 _ rfl
 have g7:DataW.trod enc Tryz.prog W 0 (fun _=>true) true n' 60 [c8,c9]=some x7:=hf 7 _ rfl
 have g8:DataW.trod enc Tryz.prog W 0 (fun _=>true) true n' 63 [c10,c11,c12]=some x8:=hf 8 _ rfl
 have g9:DataW.trod enc Tryz.prog W 0 (fun _=>true) true n' 63 [c13,c14,c15]=some x9:=hf 9 _ rfl
 obtain ⟨k0,e0,_,_⟩:=DataW.trod_int Tryz.underlying3 g0
 obtain ⟨k1,e1,_,_⟩:=DataW.trod_int Tryz.underlying3 g1
 obtain ⟨k2,e2,_,_⟩:=DataW.trod_int Tryz.underlying3 g2
 obtain ⟨k5,e5,_,_⟩:=DataW.trod_int Tryz.underlying3 g4
 obtain ⟨k6,e6,_,_⟩:=DataW.trod_int Tryz.underlying3 g5
 obtain ⟨k7,e7,_,_⟩:=DataW.trod_int Tryz.underlying3 g6
 obtain ⟨k3,k4,e3,e4⟩:=Zd8 Tryz.underlying58 ⟨rfl,rfl⟩ ⟨rfl,rfl⟩ (show DataW.trod enc Tryz.prog W 0 (fun _=>true) true n' 58 [c3,c4]=some x3 from g3)
 obtain ⟨k8,k9,e8,e9⟩:=Zd8 Tryz.underlying60 ⟨rfl,rfl⟩ ⟨rfl,rfl⟩ (show DataW.trod enc Tryz.prog W 0 (fun _=>true) true n' 60 [c8,c9]=some x7 from g7)
 obtain ⟨wo,wn,wv,n8,y8,e10,_,t8⟩:=Z7f (show DataW.trod enc Tryz.prog W 0 (fun _=>true) true n' 63 [c10,c11,c12]=some x8 from g8)
 obtain ⟨po,pn,pv,n9,y9,e13,_,t9⟩:=Z7f (show DataW.trod enc Tryz.prog W 0 (fun _=>true) true n' 63 [c13,c14,c15]=some x9 from g9)
 obtain ⟨wl,hwl,_⟩:=Z6p n8 wv y8 t8
 obtain ⟨pl,hpl,_⟩:=Z6p n9 pv y9 t9
 have hwl':=hwl
 have hpl':=hpl
 obtain ⟨WA,wc,rfl,_⟩:=hwl'
 obtain ⟨PA,pc,rfl,_⟩:=hpl'
 simp only [List.cons.injEq,and_true] at e0 e1 e2 e5 e6 e7 e10 e13
 obtain ⟨rfl,rfl,rfl⟩:=e10
 obtain ⟨rfl,rfl,rfl⟩:=e13
 subst e0 e1 e2 e3 e4 e5 e6 e7 e8 e9;refine ⟨⟨k0,k1,k2,k3,k4,k5,k6,k7,k8,k9,wo,wn,wl,po,pn,pl⟩,WA,PA,wc,pc,rfl,hwl,hpl⟩
theorem ZnD {r:Rt}(h:r.can=true):r.text.length≤10100:=by
 simp only [Rt.can,Bool.and_eq_true,Rt.nums,List.all_cons,List.all_nil,Bool.and_true,numB,decide_eq_true_eq,beq_iff_eq] at h
 obtain ⟨⟨⟨⟨n1,n2,n3,n4,n5,n6,n7,n8⟩,_,_⟩,n9⟩,hw,hp⟩:=h
 obtain ⟨f1,o1,d1⟩:=Z3q hw
 obtain ⟨f2,o2,d2⟩:=Z3q hp
 have l1:=Z5m r.wo r.wn r.wl f1 o1
 have l2:=Z5m r.po r.pn r.pl f2 o2
 have m1:=Z1i r.id n1.1 (Int.le_trans n1.2 (by omega))
 have m2:=Z1i r.lv n2.1 (Int.le_trans n2.2 (by omega))
 have m3:=Z1i r.kd n3.1 (Int.le_trans n3.2 (by omega))
 have m4:=Z1i r.fr n4.1 (Int.le_trans n4.2 (by omega))
 have m5:=Z1i r.un n5.1 (Int.le_trans n5.2 (by omega))
 have m6:=Z1i r.ls n6.1 (Int.le_trans n6.2 (by omega))
 have m7:=Z1i r.mo n7.1 (Int.le_trans n7.2 (by omega))
 have m8:=Z1i r.ar n8.1 (Int.le_trans n8.2 (by omega))
 have m9:=Z1i r.pct n9.1 (Int.le_trans n9.2 (by omega))
 simp only [Rt.text,Rt.items,Z2a,Z6y,List.length_append,List.length_cons,List.length_nil]
 omega
end
section
open Lx Px
namespace Qx
inductive V where
 | ok (n d:Int)
 | no (e:Int)
 deriving DecidableEq
def redN (n d:Int):Int:=n.tdiv (Nat.gcd n.natAbs d.natAbs:Nat)
def redD (n d:Int):Int:=d.tdiv (Nat.gcd n.natAbs d.natAbs:Nat)
def ratV (n d:Int):V:=if 1000000000<(redN n d).natAbs∨1000000<redD n d then .no 3 else .ok (redN n d) (redD n d)
def Z2F (n d:Int):V:=if d<0 then ratV (-n) (-d) else ratV n d
def addV (a b c d:Int):V:=ratV (a*d+c*b) (b*d)
def subV (a b c d:Int):V:=ratV (a*d - c*b) (b*d)
def mulV (a b c d:Int):V:=ratV (a*c) (b*d)
def divV (a b c d:Int):V:=if c=0 then .no 22 else Z2F (a*d) (b*c)
def cmpI (a b c d:Int):Int:=if a*d<c*b then -1 else if c*b<a*d then 1 else 0
def truV (b:Bool):V:=if b then .ok 1 1 else .ok 0 1
def appV (op a b c d:Int):V :=
 if op=4 then addV a b c d
 else if op=5 then subV a b c d
 else if op=6 then mulV a b c d
 else if op=7 then divV a b c d
 else if op=8 then (if cmpI a b c d<0 then .ok a b else .ok c d)
 else if op=9 then (if 0<cmpI a b c d then .ok a b else .ok c d)
 else if op=11 then truV (decide (cmpI a b c d<0))
 else if op=12 then truV (decide (cmpI a b c d=0))
 else if op=13 then truV (decide (a=1)&&decide (c=1))
 else truV (decide (a=1) || decide (c=1))
structure Vs where
 a:Int
 b:Int
 c:Int
 d:Int
def Vs.at (v:Vs)(n:Int):Int:=if n=1 then v.a else if n=2 then v.b else if n=3 then v.c else v.d
def opV (v:Vs)(op n:Int)(x y z:V):V :=
 if op=1∨op=2 then Z2F n 1
 else if op=3 then Z2F (v.at n) 1
 else match x with
  | .no e=>.no e
  | .ok a b =>
   if op=15 then truV (decide (a=0))
   else if op=10 then (if a=1 then y else z)
   else match y with
    | .no e=>.no e
    | .ok c d=>appV op a b c d
def valF (v:Vs):Fo→Nat→V
 | .nil,_=>.no 22
 | .node _ _ a l _,0=>opV v a.1 a.2 (valF v l 0) (valF v l 1) (valF v l 2)
 | .node _ _ _ _ r,k+1=>valF v r k
def valE (v:Vs)(a:Int × Int)(l:Fo):V:=opV v a.1 a.2 (valF v l 0) (valF v l 1) (valF v l 2)
theorem Zkd (v:Vs):∀ (f:Fo) (k:Nat),k<flen f→valF v f k=valE v (getF f k).1 (getF f k).2:=by
 intro f
 induction f with
 | nil=>intro k h;simp [flen] at h
 | node b o a l r _ ihr =>
  intro k h
  cases k with
  | zero=>rfl
  | succ k=>exact ihr k (by simp [flen] at h;omega)
def opT (op:Int)(x y z:Int):Int :=
 if op=1∨op=3 then 1
 else if op=2 then 2
 else if op=4∨op=5∨op=8∨op=9 then (if x=y∧x≠3 then x else 0)
 else if op=6 then (if x=1∧y=1 then 1 else if x=2∧y=1∨x=1∧y=2 then 2 else 0)
 else if op=7 then (if y=1∧x≠3 then x else 0)
 else if op=11∨op=12 then (if x=y∧x≠3 then 3 else 0)
 else if op=13∨op=14 then (if x=3∧y=3 then 3 else 0)
 else if op=15 then (if x=3 then 3 else 0)
 else if op=10 then (if x=3∧y=z then y else 0)
 else 0
def allT:Fo→Bool
 | .nil=>true
 | .node _ _ a l r=>allT l&&allT r&&decide (opT a.1 (typK l 0) (typK l 1) (typK l 2)≠0)
where
 typK:Fo→Nat→Int
 | .nil,_=>0
 | .node _ _ a l _,0=>opT a.1 (typK l 0) (typK l 1) (typK l 2)
 | .node _ _ _ _ r,k+1=>typK r k
def typE (a:Int × Int)(l:Fo):Int:=if allT l then opT a.1 (allT.typK l 0) (allT.typK l 1) (allT.typK l 2) else 0
end Qx
end
section
open Lx Px
namespace Qx
def rndE (n d:Int):Int:=if d<2*(n % d)∨2*(n % d)=d∧(n / d) % 2=1 then n / d+1 else n / d
def Z3D (r:Rt):Bool :=
 decide (1≤r.id)&&decide (r.id≤1000000)&&decide (0≤r.lv)&&decide (r.lv≤100)&&decide (1≤r.kd)&&decide (r.kd≤20)&&decide (1≤r.ar)&&decide (r.ar≤127)
 && decide (0≤r.fr)&&decide (r.fr<r.un)&&decide (r.un≤366)&&ratB r.kn r.kq&&decide (0≤r.kn)&&decide (r.kn≤r.kq)
 && decide (1≤r.ls)&&decide (r.ls≤r.mo)&&decide (r.mo≤60)&&Z0d r.wo r.wn r.wl&&Z0d r.po r.pn r.pl
def Z11 (r:Rt):Int:=if Z3D r then (if typE (r.wo,r.wn) r.wl=3∧typE (r.po,r.pn) r.pl=2 then 0 else 20) else 1
def useL (seen:List Int):List Rt→Bool
 | []=>true
 | r::l=>Z11 r==0&&!seen.contains r.id&&useL (r.id::seen) l
def useB (l:List Rt):Bool:=decide (l.length≤100)&&useL [] l
structure Ask where
 kind:Int
 fr:Int
 un:Int
 pers:Int
 deriving DecidableEq
def Ask.okB (a:Ask):Bool:=decide (0≤a.fr)&&decide (a.fr<a.un)&&decide (a.un≤366)&&decide (a.un - a.fr≤60)&&decide (1≤a.kind)&&decide (a.kind≤20)&&decide (1≤a.pers)&&decide (a.pers≤8)
def wday (n:Int):Int:=(n+3) % 7
def Z1d (a:Ask)(night:Int):Vs:=⟨a.un - a.fr,a.pers,night - a.fr,wday night⟩
def bitB (arr:Int)(day:Nat):Bool:=decide (arr / 2 ^ day % 2=1)
def ZhA (r:Rt)(a:Ask)(night:Int):Bool :=
 decide (r.kd=a.kind)&&decide (r.fr≤night)&&decide (night<r.un)&&decide (r.ls≤a.un - a.fr)&&decide (a.un - a.fr≤r.mo)&&bitB r.ar (wday a.fr).toNat
def apR (r:Rt)(a:Ask)(night:Int):Int :=
 if ZhA r a night then (match valE (Z1d a night) (r.wo,r.wn) r.wl with
  | .ok n _=>if n=1 then 1 else 0
  | .no e=>-e) else 0
def Z49 (r:Rt):Option Rt→Bool
 | none=>true
 | some b=>decide (b.lv<r.lv) || decide (r.lv=b.lv)&&decide (r.id<b.id)
def Z3u (a:Ask)(night:Int):Option Rt→List Rt→Except Int (Option Rt)
 | o,[]=>.ok o
 | o,r::l=>if apR r a night<0 then .error (-(apR r a night)) else Z3u a night (if apR r a night=1∧Z49 r o=true then some r else o) l
inductive N where
 | ok (c:Int) (r:Rt)
 | no (e:Int)
def Z0v (l:List Rt)(a:Ask)(night:Int):N :=
 match Z3u a night none l with
 | .error e=>.no e
 | .ok none=>.no 4
 | .ok (some r)=>match valE (Z1d a night) (r.po,r.pn) r.pl with
  | .no e=>.no e
  | .ok n d=>if rndE n d<0 then .no 22 else .ok (rndE n d) r
def Z9D (n:Int)(r:Rt):Int:=rndE (n*r.kn) r.kq
def Z0a (l:List Rt)(a:Ask):Nat→Int→Except Int (List Int × Int)
 | 0,_=>.ok ([],0)
 | k+1,night=>match Z0v l a night with
  | .no e=>.error e
  | .ok c r=>match Z0a l a k (night+1) with
   | .error e=>.error e
   | .ok (cs,kp)=>.ok (c::cs,Z9D c r+kp)
def Z0g (l:List Rt)(a:Ask):Except Int (List Int × Int) :=
 if useB l&&a.okB then (match Z0a l a (a.un - a.fr).toNat a.fr with
  | .error e=>.error e
  | .ok (cs,kp)=>if 1000000000<cs.sum then .error 3 else .ok (cs,kp)) else .error 1
end Qx
end
end Go.Proofs.YtnepkoepbapgeaaGreatDoor
