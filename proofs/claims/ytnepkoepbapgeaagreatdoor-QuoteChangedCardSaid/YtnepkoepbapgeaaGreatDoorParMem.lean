/-
  Several texts in one: LexMem, ParMem.
-/
import Derived.Test.YtnepkoepbapgeaaGreatDoorLexW5
import Derived.Laws.OwnMore
import Derived.Test.YtnepkoepbapgeaaGreatDoorPrtRead
import Derived.Lib.Atoi
import Derived.Lib.Replace
import Derived.Test.YtnepkoepbapgeaaGreatDoorPrtW4
namespace Go.Proofs.YtnepkoepbapgeaaGreatDoor
section
open Go.RowKit Lx
def Z2q (t:Tok):List Value:=[.int .i64 t.1,.int .i64 t.2.1,.string (mk t.2.2)]
def cellsOf (ts:List Tok):List Value:=ts.flatMap Z2q
theorem Zad (ts:List Tok)(t:Tok):cellsOf (ts++[t])=cellsOf ts++Z2q t:=by simp [cellsOf]
theorem ZbH (ts:List Tok)(k j:Nat)(h:k<ts.length)(hj:j<3):(cellsOf ts)[k*3+j]?=(Z2q ts[k])[j]?:=by
 induction ts generalizing k with
 | nil=>simp at h
 | cons t ts ih =>
  have hc:cellsOf (t::ts)=Z2q t++cellsOf ts:=by simp [cellsOf]
  rw [hc]
  cases k with
  | zero=>simp only [Nat.zero_mul,Nat.zero_add,List.getElem_cons_zero];rw [List.getElem?_append_left (by simp [Z2q];omega)]
  | succ k =>
   rw [List.getElem?_append_right (by simp [Z2q];omega)]
   have:=ih k (by simpa using h)
   simp only [Z2q,List.length_cons,List.length_nil,List.getElem_cons_succ] at this ⊢
   rw [← this];congr 1;omega
def Zj5 (w:World)(p:Addr)(t:Tok):Prop :=
 w.cell? p=some (.int .i64 t.1)∧w.cell? ⟨p.block,p.off+1,none⟩=some (.int .i64 t.2.1)∧w.cell? ⟨p.block,p.off+2,none⟩=some (.string (mk t.2.2))
theorem Zae (a:Addr)(n:Nat):(a.add n).block=a.block:=by unfold Addr.add;split <;> rfl
def Sl (w:World)(B:Nat)(v:Value)(ts:List Tok):Prop :=
 ∃ A c,v=.slice A ts.length c∧∀ k,(h:k<ts.length)→∃ ad:Addr,A=some ad∧ad.block<B∧Zj5 w (ad.add (k*3)) ts[k]
theorem Sl.nil (w:World)(B:Nat):Sl w B (.slice none 0 0) []:=⟨none,0,rfl,fun k h=>absurd h (by simp)⟩
theorem Zj5.keep {w w':World}{p:Addr}{t:Tok}(h:Zj5 w p t)(hk:∀ q:Addr,q.block=p.block→w'.cell? q=w.cell? q):Zj5 w' p t :=
 ⟨(hk p rfl).trans h.1,(hk ⟨p.block,p.off+1,none⟩ rfl).trans h.2.1,(hk ⟨p.block,p.off+2,none⟩ rfl).trans h.2.2⟩
theorem Sl.below {w w':World}{B:Nat}{v:Value}{ts:List Tok}(h:Sl w B v ts)(hb:Below B w w'):Sl w' B v ts:=by
 obtain ⟨A,c,hv,hk⟩:=h
 refine ⟨A,c,hv,fun k h=>?_⟩
 obtain ⟨ad,e,hlt,ht⟩:=hk k h
 exact ⟨ad,e,hlt,ht.keep fun q hq=>hb.cell (by rw [hq,Zae];exact hlt)⟩
theorem Sl.mono {w:World}{B B':Nat}{v:Value}{ts:List Tok}(h:Sl w B v ts)(hb:B≤B'):Sl w B' v ts:=by
 obtain ⟨A,c,hv,hk⟩:=h
 exact ⟨A,c,hv,fun k h=>let ⟨ad,e,hlt,ht⟩:=hk k h;⟨ad,e,by omega,ht⟩⟩
theorem Sl.of_own {w:World}{base:Nat}{e:TypeId}{v:Value}{ts:List Tok}(h:w.ownsRow base e 3 v ts.length (cellsOf ts)):Sl w w.heap.size v ts:=by
 rcases h.2 with ⟨hv,h0⟩ | ⟨g,cap,cur,hv,_,hg,_,_,_,_⟩
 · have:ts=[]:=List.length_eq_zero_iff.1 h0
   subst this;exact ⟨none,0,hv,fun k h=>absurd h (by simp)⟩
 · refine ⟨some ⟨g,0,none⟩,cap,hv,fun k hk=>⟨⟨g,0,none⟩,rfl,?_,?_⟩⟩
   · exact (zs hg)
   · subst hv
     have hcell:∀ j,j<3→w.cell? ⟨g,k*3+j,none⟩=(Z2q ts[k])[j]?:=fun j hj=>by
      rw [h.cellAt (k*3+j) (by omega),ZbH ts k j hk hj]
     have ha:((⟨g,0,none⟩:Addr).add (k*3))=⟨g,k*3,none⟩:=by unfold Addr.add;split <;> simp_all
     rw [ha]
     exact ⟨hcell 0 (by omega),hcell 1 (by omega),hcell 2 (by omega)⟩
end
section
namespace Px
open Lx
def Ev (E:Nat→Option Res)(r:Res):Prop:=∃ f0,∀ f,f0≤f→E f=some r
theorem Zgd (r:Res):Ev (fun _=>some r) r:=⟨0,fun _ _=>rfl⟩
theorem Ev_rd {n:Nat}{acc:Option Ex}{ts:List Bytes}{r:Res}(h:Rd n acc ts r):Ev (fun f=>rd f n acc ts) r:=by
 obtain ⟨f,hf⟩:=h
 exact ⟨f,fun g hg=>Z5k hf hg⟩
theorem Z2x {n:Nat}{acc:Option Ex}{ts s:List Bytes}{e:Ex}{K:Nat→Ex→List Bytes→Option Res}{r:Res}(h:Rd n acc ts (.ok e s))(hk:Ev (fun f=>K f e s) r):Ev (fun f=>bnd (rd f n acc ts) (K f)) r:=by
 obtain ⟨f,hf⟩:=Ev_rd h
 obtain ⟨g,hg⟩:=hk
 refine ⟨max f g,fun x hx=>?_⟩
 have h1:rd x n acc ts=some (.ok e s):=hf x (by omega)
 show bnd (rd x n acc ts) (K x)=some r
 rw [h1]
 exact hg x (by omega)
theorem Z13 {n:Nat}{acc:Option Ex}{ts s:List Bytes}{K:Nat→Ex→List Bytes→Option Res}(h:Rd n acc ts (.no s)):Ev (fun f=>bnd (rd f n acc ts) (K f)) (.no s):=by
 obtain ⟨f,hf⟩:=Ev_rd h
 refine ⟨f,fun x hx=>?_⟩
 have h1:rd x n acc ts=some (.no s):=hf x hx
 show bnd (rd x n acc ts) (K x)=_
 rw [h1]
 rfl
theorem Z25 {t:Bytes}{ts:List Bytes}{K:Nat→List Bytes→Option Res}{r:Res}(hk:Ev (fun f=>K f ts) r):Ev (fun f=>mst t (t::ts) (K f)) r:=by
 obtain ⟨g,hg⟩:=hk
 exact ⟨g,fun x hx=>by simp only [mst,if_true];exact hg x hx⟩
theorem Z2y {t:Bytes}{ts:List Bytes}{K:Nat→List Bytes→Option Res}(h:ts.head?≠some t):Ev (fun f=>mst t ts (K f)) (.no ts):=by
 refine ⟨0,fun x _=>?_⟩
 cases ts with
 | nil=>rfl
 | cons u r =>
  have:¬ u=t:=by simpa using h
  simp only [mst,if_neg this]
theorem Z6n {n:Nat}{acc:Option Ex}{ts:List Bytes}{r:Res}{E:Nat→Option Res}(he:∀ f,Z1v (rd f) n acc ts=E f)(h:Ev E r):Rd n acc ts r:=by
 obtain ⟨g,hg⟩:=h
 exact ⟨g+1,(he g).trans (hg g (zn _))⟩
theorem Z5f {ts:List Bytes}{r:Res}(h:Ev (fun f=>bnd (rd f 0 none ts) fun a r=>mst kThen r fun r=>bnd (rd f 0 none r) fun b r=>mst kElse r fun r=>bnd (rd f 0 none r) fun c r=>some (.ok (triE 10 a b c) r)) r):Rd 0 none (kIf::ts) r:=by
 refine Z6n (fun f=>?_) h
 simp only [Z1v,List.head?_cons,List.tail_cons,if_true]
theorem Zei {n:Nat}(h0:n≠0)(h3:n≠3)(h5:n≤5){ts s:List Bytes}(h1:Rd (n+1) none ts (.no s)):Rd n none ts (.no s):=by
 refine Z6n (fun f=>?_) (Z13 h1 (K:=fun f e r=>rd f n (some e) r))
 simp only [Z1v]
 rw [if_neg h0,if_neg h3,if_pos h5]
theorem Z8j {n:Nat}{e:Ex}{u:Bytes}{ts s:List Bytes}(ho:opAt n u≠0)(h1:Rd (n+1) none ts (.no s)):Rd n (some e) (u::ts) (.no s):=by
 refine Z6n (fun f=>?_) (Z13 h1 (K:=fun f b r'=>rd f n (some (Z1C (opAt n u) e b)) r'))
 simp only [Z1v]
 rw [if_neg ho]
theorem Zge {ts s:List Bytes}(h1:Rd 3 none ts (.no s)):Rd 3 none (kNot::ts) (.no s):=by
 refine Z6n (fun f=>?_) (Z13 h1 (K:=fun _ e r=>some (.ok (oneE 15 e) r)))
 simp only [Z1v,List.head?_cons,List.tail_cons,if_true]
 rw [if_neg (by decide)]
theorem Zgf {ts s:List Bytes}(h:ts.head?≠some kNot)(h1:Rd 4 none ts (.no s)):Rd 3 none ts (.no s):=by
 refine Z6n (fun f=>?_) (Z13 h1 (K:=fun f e r=>match r with
  | []=>some (.ok e [])
  | u::r'=>if opAt 3 u=0 then some (.ok e (u::r')) else bnd (rd f 4 none r') fun b r''=>some (.ok (Z1C (opAt 3 u) e b) r'')))
 simp only [Z1v,if_true]
 rw [if_neg (by decide),if_neg h]
 rfl
theorem Zaf {ts r s:List Bytes}{u:Bytes}{e:Ex}(h:ts.head?≠some kNot)(h1:Rd 4 none ts (.ok e (u::r)))(ho:opAt 3 u≠0)(h2:Rd 4 none r (.no s)):Rd 3 none ts (.no s):=by
 refine Z6n (fun f=>?_) (Z2x h1 (K:=fun f e r=>match r with
  | []=>some (.ok e [])
  | u::r'=>if opAt 3 u=0 then some (.ok e (u::r')) else bnd (rd f 4 none r') fun b r''=>some (.ok (Z1C (opAt 3 u) e b) r'')) ?_)
 · simp only [Z1v,if_true]
   rw [if_neg (by decide),if_neg h]
   rfl
 · simp only [if_neg ho]
   exact Z13 h2
theorem Zc0:Rd 6 none [] (.no []):=⟨1,rfl⟩
theorem Z2v {t:Bytes}{ts:List Bytes}{r:Res}(h2:Z07 t≠2)(h3:Z07 t≠3)(hv:¬ Z2C t > 0)(hb:Z14 t > 0)
 (h:Ev (fun f=>mst [40] ts fun r=>bnd (rd f 0 none r) fun a r=>mst [44] r fun r=>bnd (rd f 0 none r) fun b r=>mst [41] r fun r=>some (.ok (Z1C (Z14 t) a b) r)) r):Rd 6 none (t::ts) r:=by
 refine Z6n (fun f=>?_) h
 simp only [Z1v]
 rw [if_neg (by decide),if_neg (by decide),if_neg (by decide)]
 simp only [if_neg h2,if_neg h3,if_neg hv,if_pos hb]
theorem Z5g {t:Bytes}{ts:List Bytes}{r:Res}(h2:Z07 t≠2)(h3:Z07 t≠3)(hv:¬ Z2C t > 0)(hb:¬ Z14 t > 0)
 (h:Ev (fun f=>mst [40] (t::ts) fun r=>bnd (rd f 0 none r) fun e r=>mst [41] r fun r=>some (.ok e r)) r):Rd 6 none (t::ts) r:=by
 refine Z6n (fun f=>?_) h
 simp only [Z1v]
 rw [if_neg (by decide),if_neg (by decide),if_neg (by decide)]
 simp only [if_neg h2,if_neg h3,if_neg hv,if_neg hb]
theorem Zmt {t:Bytes}(r:List Bytes)(h2:Z07 t≠2)(h3:Z07 t≠3)(hv:Z2C t > 0):Rd 6 none (t::r) (.ok ((3,Z2C t),.nil) r):=⟨1,by
 simp only [Z1w,Z1v]
 rw [if_neg (by decide),if_neg (by decide),if_neg (by decide)]
 rw [if_neg h2,if_neg h3,if_pos hv]⟩
end Px
end
section
namespace Px
open Lx
theorem idx46:∀ s:Bytes,(Go.Lib.index s [46] = -1∧s.filter (· != 46)=s)∨∃ a b,s=a++46::b∧Go.Lib.index s [46]=a.length∧a.filter (· != 46)=a:=by
 intro s
 induction s with
 | nil=>exact .inl ⟨rfl,rfl⟩
 | cons c s ih =>
  by_cases h:c=46
  · subst h
    exact .inr ⟨[],s,rfl,by simp [Go.Lib.index],rfl⟩
  · have hp:([46]:Bytes).isPrefixOf (c::s)=false:=by
     simp [List.isPrefixOf,Ne.symm h]
    have hc:(c != 46)=true:=by simpa using h
    rcases ih with ⟨h1,h2⟩ | ⟨a,b,e,h1,h2⟩
    · refine .inl ⟨?_,by simp [hc,h2]⟩
      rw [Go.Lib.index,hp,h1];rfl
    · refine .inr ⟨c::a,b,by rw [e];rfl,?_,by simp [hc,h2]⟩
      rw [Go.Lib.index,hp,h1]
      have:((a.length:Int) == -1)=false:=by rw [beq_eq_false_iff_ne];omega
      simp [this]
theorem repl46:∀ (f:Nat) (s:Bytes),s.length<f→Go.Lib.replaceK [46] [] (Go.Lib.countFrom [46] f s) s=s.filter (· != 46):=by
 intro f
 induction f with
 | zero=>intro s h;omega
 | succ f ih =>
  intro s h
  rcases idx46 s with ⟨h1,h2⟩ | ⟨a,b,e,h1,h2⟩
  · rw [Go.Lib.countFrom,h1,h2];rfl
  · have hm:(Go.Lib.index s [46] == -1)=false:=by rw [h1,beq_eq_false_iff_ne];omega
    have ht:(Go.Lib.index s [46]).toNat=a.length:=by rw [h1];omega
    have hd:s.drop (a.length+1)=b:=by rw [e];simp
    have htk:s.take a.length=a:=by rw [e];simp
    have hb:b.length<f:=by rw [e] at h;simp at h;omega
    rw [Go.Lib.countFrom,hm,ht]
    simp only [List.length_singleton,Bool.false_eq_true,if_false]
    rw [hd,Nat.add_comm,Go.Lib.replaceK,hm,ht]
    simp only [List.length_singleton,Bool.false_eq_true,if_false]
    rw [hd,htk,ih b hb,e]
    simp [h2]
theorem Zag (s:Bytes):Go.Lib.replaceAll s [46] []=s.filter (· != 46):=by
 unfold Go.Lib.replaceAll Go.Lib.replace Go.Lib.replaceNum
 rw [if_neg (by decide),if_pos (.inl (by omega))]
 exact repl46 (s.length+1) s (by omega)
theorem Zc1:∀ (l:Bytes) (acc:Nat),l.all (inR 48 57)=true→∃ m:Nat,Go.Lib.decFrom acc l=some m∧(m:Int)=l.foldl (fun n c=>10*n+((c.toNat:Int) - 48)) (acc:Int):=by
 intro l
 induction l with
 | nil=>intro acc _;exact ⟨acc,rfl,rfl⟩
 | cons c l ih =>
  intro acc h
  simp only [List.all_cons,Bool.and_eq_true] at h
  have hc:48≤c.toNat∧c.toNat≤57:=by
   have:=h.1
   simp only [inR,Bool.and_eq_true,decide_eq_true_eq] at this
   omega
  obtain ⟨m,h1,h2⟩:=ih (acc*10+(c.toNat - 48)) h.2
  refine ⟨m,?_,?_⟩
  · rw [Go.Lib.decFrom,Go.Lib.digitVal,if_pos hc]
    exact h1
  · rw [h2,List.foldl_cons]
    congr 1
    omega
theorem Zd6 (l:Bytes)(h:l.all (inR 48 57)=true)(hne:l≠[]):Go.Lib.atoi l=some (val l):=by
 obtain ⟨m,h1,h2⟩:=Zc1 l 0 h
 cases l with
 | nil=>exact absurd rfl hne
 | cons c r =>
  simp only [List.all_cons,Bool.and_eq_true] at h
  have h45:(c==45)=false:=by
   rw [beq_eq_false_iff_ne];rintro rfl;exact absurd h.1 (by decide)
  have h43:(c==43)=false:=by
   rw [beq_eq_false_iff_ne];rintro rfl;exact absurd h.1 (by decide)
  rw [Go.Lib.atoi,h45,h43]
  simp only [Go.Lib.decNat,List.isEmpty_cons,Bool.false_eq_true,if_false,h1,Option.map_some]
  rw [h2]
  rfl
theorem Zj6 (t:Bytes)(h:Z07 t=2∨Z07 t=3):Go.Lib.atoi (t.filter (· != 46))=some (dval t)∧(t.filter (· != 46)).length≤18∧t.length≤100:=by
 have key:Z27 t=true∨Z89 t=true:=by
  unfold Z07 at h
  split at h
  · omega
  · split at h
    · left;assumption
    · split at h
      · right;assumption
      · split at h <;> omega
 rcases key with hn | hm
 · simp only [Z27,allR,Bool.and_eq_true,Bool.not_eq_true',List.isEmpty_eq_false_iff,decide_eq_true_eq] at hn
   have hf:t.filter (· != 46)=t:=by
    rw [List.filter_eq_self]
    intro c hc
    have:=Z3E hn.1.1.2 hc
    simp only [bne_iff_ne]
    rintro rfl
    exact absurd this (by decide)
   unfold dval
   rw [hf]
   exact ⟨Zd6 t hn.1.1.2 hn.1.1.1,by omega,by omega⟩
 · simp only [Z89,Z27,allR,Bool.and_eq_true,Bool.not_eq_true',List.isEmpty_eq_false_iff,decide_eq_true_eq] at hm
   have hs:=Zbw t hm.1.1.1.1
   have nd:∀ l:Bytes,l.all (inR 48 57)=true→l.filter (· != 46)=l:=by
    intro l hl
    rw [List.filter_eq_self]
    intro c hc
    have:=Z3E hl hc
    simp only [bne_iff_ne]
    rintro rfl
    exact absurd this (by decide)
   have hf:t.filter (· != 46)=Z9p t++frac t:=by
    conv=>lhs;rw [hs]
    rw [List.filter_append,nd _ hm.1.1.1.2.1.1.2,List.filter_cons]
    simp [nd _ hm.1.2.2]
   have hw:(Z9p t).length≤9:=hm.1.1.1.2.1.2
   have hl:t.length=(Z9p t).length+1+(frac t).length:=by
    have:=congrArg List.length hs
    simp at this
    omega
   have hfr:(frac t).length=2:=hm.1.1.2
   unfold dval
   rw [hf]
   refine ⟨Zd6 _ ?_ ?_,by simp;omega,by omega⟩
   · rw [List.all_append,hm.1.1.1.2.1.1.2,hm.1.2.2];rfl
   · intro e
     exact hm.1.1.1.2.1.1.1 (List.append_eq_nil_iff.1 e).1
end Px
end
section
open Go.RowKit Lx Px
structure But (pb:Nat) (w w':World):Prop where
 os:w'.os=w.os
 tape:w'.tape=w.tape
 output:w'.output=w.output
 size:w.heap.size≤w'.heap.size
 block:∀ k,k<w.heap.size→k≠pb→w'.heap[k]?=w.heap[k]?
theorem But.refl (pb:Nat)(w:World):But pb w w:=⟨rfl,rfl,rfl,zn _,fun _ _ _=>rfl⟩
theorem But.trans {pb:Nat}{a b c:World}(h:But pb a b)(k:But pb b c):But pb a c :=
 ⟨k.os.trans h.os,k.tape.trans h.tape,k.output.trans h.output,Nat.le_trans h.size k.size,fun i hi hn=>(k.block i (by have:=h.size;omega) hn).trans (h.block i hi hn)⟩
theorem But.of_below {pb:Nat}{w w':World}(h:Below w.heap.size w w'):But pb w w':=⟨h.os,h.tape,h.output,h.size,fun k hk _=>h.block k hk⟩
theorem But.below {pb:Nat}{w w':World}(h:But pb w w')(hp:pb≤w.heap.size):Below pb w w':=⟨h.os,h.tape,h.output,h.size,fun k hk=>h.block k (by omega) (by omega)⟩
theorem But.cell {pb:Nat}{w w':World}(h:But pb w w'){p:Addr}(hp:p.block<w.heap.size)(hn:p.block≠pb):w'.cell? p=w.cell? p:=World.cell?_of_block (w:=w) (h.block p.block hp hn)
theorem But.drew {pb:Nat}{w w':World}(h:But pb w w'):But pb w w'.drew:=⟨h.os,h.tape,h.output,h.size,h.block⟩
theorem But.alloc {pb:Nat}{w w':World}(h:But pb w w')(o:Obj):But pb w (w'.alloc o) :=
 h.trans ⟨rfl,rfl,rfl,by simp,fun k hk _=>Below.heap_alloc _ _ _ hk⟩
theorem But.set {pb:Nat}{w w':World}(h:But pb w w'){p:Addr}(hp:p.block=pb)(v:Value):But pb w (w'.setCell p v) :=
 h.trans ⟨rfl,rfl,rfl,by simp [World.setCell],fun k _ hn=>Below.heap_setCell _ _ _ _ (by rw [hp];exact hn)⟩
theorem But.on {pb:Nat}{a w w':World}(h:But pb a w)(hb:Below w.heap.size w w'):But pb a w':=h.trans (But.of_below hb)
def txt (ts:List Tok)(k:Nat):List Bytes:=(ts.drop k).map (·.2.2)
theorem Z9h (ts:List Tok)(k:Nat)(h:ts.length≤k):txt ts k=[]:=by simp [txt,List.drop_eq_nil_of_le h]
theorem txt_at (ts:List Tok)(k:Nat)(h:k<ts.length):txt ts k=ts[k].2.2::txt ts (k+1):=by
 unfold txt
 rw [List.drop_eq_getElem_cons h]
 rfl
def Knd (ts:List Tok):Prop:=∀ t∈ts,t.1=Z07 t.2.2∧Z07 t.2.2≠0
def nxt (ts:List Tok)(k:Nat):Bytes:=if h:k<ts.length then ts[k].2.2 else []
theorem nxt_at (ts:List Tok)(k:Nat)(h:k<ts.length):nxt ts k=ts[k].2.2:=by unfold nxt;rw [dif_pos h]
theorem Z50 (ts:List Tok)(k:Nat)(h:¬ k<ts.length):nxt ts k=[]:=by unfold nxt;rw [dif_neg h]
def Z3d (ts:List Tok)(k:Nat):Int:=match ts[min k (ts.length - 1)]? with
 | some t=>t.2.1
 | none=>1
def Mx (w:World)(B:Nat):Prop:=∃ m:Int,w.cell? ⟨2,0,none⟩=some (.int .i64 m)∧2<B
theorem Mx.on {w w':World}{B:Nat}(h:Mx w B)(hb:Below B w w'):Mx w' B:=by
 obtain ⟨m,h1,h2⟩:=h
 exact ⟨m,(hb.cell (p:=⟨2,0,none⟩) h2).trans h1,h2⟩
def PI (w:World)(pb:Nat)(v:Value)(ts:List Tok)(k:Nat):Prop :=
 w.heap[pb]?=some (.cells #[v,.int .i64 k] 174 (0,0))∧Sl w pb v ts∧k≤ts.length∧ts.length≤1000000∧Knd ts∧Mx w pb
theorem PI.lt {w:World}{pb k:Nat}{v:Value}{ts:List Tok}(h:PI w pb v ts k):pb<w.heap.size:=(zs h.1)
theorem PI.on {w w':World}{pb k:Nat}{v:Value}{ts:List Tok}(h:PI w pb v ts k)(hb:Below w.heap.size w w'):PI w' pb v ts k :=
 have hb':=hb.mono (show pb≤w.heap.size by have:=h.lt;omega)
 ⟨(hb.block _ h.lt).trans h.1,h.2.1.below hb',h.2.2.1,h.2.2.2.1,h.2.2.2.2.1,h.2.2.2.2.2.on hb'⟩
theorem PI.cell0 {w:World}{pb k:Nat}{v:Value}{ts:List Tok}(h:PI w pb v ts k):w.cell? ⟨pb,0,none⟩=some v:=by rw [zc h.1];rfl
theorem PI.cell1 {w:World}{pb k:Nat}{v:Value}{ts:List Tok}(h:PI w pb v ts k):w.cell? ⟨pb,1,none⟩=some (.int .i64 k):=by rw [zc h.1];rfl
theorem PI.drew {w:World}{pb k:Nat}{v:Value}{ts:List Tok}(h:PI w pb v ts k):PI w.drew pb v ts k:=h.on ((Below.refl _ _).drew)
theorem PI.set {w:World}{pb k:Nat}{v:Value}{ts:List Tok}(h:PI w pb v ts k)(k':Nat)(hk:k'≤ts.length):PI (w.setCell ⟨pb,1,none⟩ (.int .i64 k')) pb v ts k':=by
 have hb':Below pb w (w.setCell ⟨pb,1,none⟩ (.int .i64 k')):=(Below.refl _ _).setCell (p:=⟨pb,1,none⟩) (zn _) _
 refine ⟨?_,h.2.1.below hb',hk,h.2.2.2.1,h.2.2.2.2.1,h.2.2.2.2.2.on hb'⟩
 have hl:=h.lt
 have h1:=h.1
 simp only [World.setCell,Array.getElem?_modify,if_true,h1,Option.map_some]
 simp
theorem PI.tok {w:World}{pb k:Nat}{v:Value}{ts:List Tok}(h:PI w pb v ts k){j:Nat}(hj:j<ts.length):∃ (p:Addr) (c:Nat),v=.slice (some p) ts.length c∧p.block<pb∧w.cell? (p.add (j*3))=some (.int .i64 ts[j].1) ∧
 w.cell? ⟨(p.add (j*3)).block,(p.add (j*3)).off+1,none⟩=some (.int .i64 ts[j].2.1)∧w.cell? ⟨(p.add (j*3)).block,(p.add (j*3)).off+2,none⟩=some (.string (mk ts[j].2.2)):=by
 obtain ⟨A,c,e,hk⟩:=h.2.1
 obtain ⟨ad,e2,hlt,t0,t1,t2⟩:=hk j hj
 subst e2;exact ⟨ad,c,e,hlt,t0,t1,t2⟩
theorem PI.slice {w:World}{pb k:Nat}{v:Value}{ts:List Tok}(h:PI w pb v ts k):∃ A c,v=.slice A ts.length c:=by
 obtain ⟨A,c,e,_⟩:=h.2.1
 exact ⟨A,c,e⟩
theorem PI.far {w:World}{pb k:Nat}{v:Value}{ts:List Tok}(h:PI w pb v ts k){p:Addr}(hp:pb<p.block)(x:Value):PI (w.setCell p x) pb v ts k:=by
 have hb':Below (pb+1) w (w.setCell p x):=(Below.refl _ _).setCell (p:=p) (by omega) _
 exact ⟨(hb'.block _ (by omega)).trans h.1,h.2.1.below (hb'.mono (by omega)),h.2.2.1,h.2.2.2.1,h.2.2.2.2.1,h.2.2.2.2.2.on (hb'.mono (by omega))⟩
theorem But.new {pb:Nat}{w w':World}(h:But pb w w'){p:Addr}(hp:w.heap.size≤p.block)(v:Value):But pb w (w'.setCell p v) :=
 ⟨h.os,h.tape,h.output,by simp [World.setCell];exact h.size,fun k hk hn=>(Below.heap_setCell _ _ _ _ (by omega)).trans (h.block k hk hn)⟩
def Z88 (w:World)(D:Nat→Prop):Fo→Option Addr→Nat→Prop
 | .nil,_,_=>True
 | .node _ _ a l r,A,k =>
  (∃ (ad:Addr) (A':Option Addr) (c:Nat),A=some ad∧D ad.block∧w.cell? (ad.add (k*3))=some (.int .i64 a.1)∧w.cell? ⟨(ad.add (k*3)).block,(ad.add (k*3)).off+1,none⟩=some (.int .i64 a.2) ∧
   w.cell? ⟨(ad.add (k*3)).block,(ad.add (k*3)).off+2,none⟩=some (.slice A' (flen l) c)∧Z88 w D l A' 0)∧Z88 w D r A (k+1)
theorem Z88.keep {w w':World}{D E:Nat→Prop}(hD:∀ b,D b→E b)(hc:∀ b,D b→w'.heap[b]?=w.heap[b]?):∀ (f:Fo) (A:Option Addr) (k:Nat),Z88 w D f A k→Z88 w' E f A k:=by
 intro f
 induction f with
 | nil=>intro A k _;trivial
 | node b o a l r ihl ihr =>
  intro A k h
  obtain ⟨⟨ad,A',c,e,hlt,h0,h1,h2,h3⟩,h4⟩:=h
  have hb:D (ad.add (k*3)).block:=by rw [Z19];exact hlt
  have hh:=hc _ hb
  exact ⟨⟨ad,A',c,e,hD _ hlt,(World.cell?_of_block (w:=w) hh).trans h0,(World.cell?_of_block (w:=w) (a:=⟨(ad.add (k*3)).block,(ad.add (k*3)).off+1,none⟩) hh).trans h1,(World.cell?_of_block (w:=w) (a:=⟨(ad.add (k*3)).block,(ad.add (k*3)).off+2,none⟩) hh).trans h2,ihl A' 0 h3⟩,ihr A (k+1) h4⟩
theorem Z88.at {w:World}{D:Nat→Prop}{B:Nat}(hD:∀ b,D b→b<B):∀ (f:Fo) (A:Option Addr) (k:Nat),Z88 w D f A k→FoAt w B f A k:=by
 intro f
 induction f with
 | nil=>intro A k _;trivial
 | node b o a l r ihl ihr =>
  intro A k h
  obtain ⟨⟨ad,A',c,e,hlt,h0,h1,h2,h3⟩,h4⟩:=h
  exact ⟨⟨ad,A',c,e,hD _ hlt,h0,h1,h2,ihl A' 0 h3⟩,ihr A (k+1) h4⟩
def FoD (w:World)(D:Nat→Prop)(v:Value)(f:Fo):Prop:=∃ A c,v=.slice A (flen f) c∧Z88 w D f A 0
theorem FoD.keep {w w':World}{D E:Nat→Prop}{v:Value}{f:Fo}(h:FoD w D v f)(hD:∀ b,D b→E b)(hc:∀ b,D b→w'.heap[b]?=w.heap[b]?):FoD w' E v f:=by
 obtain ⟨A,c,e,hA⟩:=h
 exact ⟨A,c,e,Z88.keep hD hc f A 0 hA⟩
theorem FoD.v {w:World}{D:Nat→Prop}{v:Value}{f:Fo}(h:FoD w D v f){B:Nat}(hD:∀ b,D b→b<B):FoV w B v f:=by
 obtain ⟨A,c,e,hA⟩:=h
 exact ⟨A,c,e,Z88.at hD f A 0 hA⟩
theorem FoD.nil (w:World)(D:Nat→Prop):FoD w D (.slice none 0 0) .nil:=⟨none,0,rfl,trivial⟩
theorem Z5h (g k:Nat):((⟨g,0,none⟩:Addr).add k)=⟨g,k,none⟩:=by unfold Addr.add;split <;> simp_all
theorem FoD.one {w:World}{D:Nat→Prop}{g:Nat}{a:Int × Int}{A:Option Addr}{c:Nat}{l:Fo}(hg:D g)(hw:w.heap[g]?=some (.cells #[.int .i64 a.1,.int .i64 a.2,.slice A (flen l) c] 63 (0,0)))(h:FoD w D (.slice A (flen l) c) l)(n:Nat) :
 FoD w D (.slice (some ⟨g,0,none⟩) 1 n) (.node 0 0 a l .nil):=by
 obtain ⟨A',c',e,hA⟩:=h
 injection e with e1 _ e3
 subst e1 e3;refine ⟨some ⟨g,0,none⟩,n,rfl,⟨⟨g,0,none⟩,A,c,rfl,hg,?_,?_,?_,hA⟩,trivial⟩ <;> (simp only [Z5h];rw [zc hw];rfl)
theorem FoD.two {w:World}{D:Nat→Prop}{g:Nat}{a a2:Int × Int}{A A2:Option Addr}{c c2:Nat}{l l2:Fo}(hg:D g)
 (hw:w.heap[g]?=some (.cells #[.int .i64 a.1,.int .i64 a.2,.slice A (flen l) c,.int .i64 a2.1,.int .i64 a2.2,.slice A2 (flen l2) c2] 63 (0,0))) (h:FoD w D (.slice A (flen l) c) l) (h2:FoD w D (.slice A2 (flen l2) c2) l2) (n:Nat) :
 FoD w D (.slice (some ⟨g,0,none⟩) 2 n) (.node 0 0 a l (.node 0 0 a2 l2 .nil)):=by
 obtain ⟨A',c',e,hA⟩:=h
 injection e with e1 _ e3
 subst e1 e3;obtain ⟨A',c',e,hA2⟩:=h2
 injection e with e1 _ e3
 subst e1 e3;refine ⟨some ⟨g,0,none⟩,n,rfl,⟨⟨g,0,none⟩,A,c,rfl,hg,?_,?_,?_,hA⟩,⟨⟨g,0,none⟩,A2,c2,rfl,hg,?_,?_,?_,hA2⟩,trivial⟩ <;> (simp only [Z5h];rw [zc hw];rfl)
theorem FoD.three {w:World}{D:Nat→Prop}{g:Nat}{a a2 a3:Int × Int}{A A2 A3:Option Addr}{c c2 c3:Nat}{l l2 l3:Fo}(hg:D g)
 (hw:w.heap[g]?=some (.cells #[.int .i64 a.1,.int .i64 a.2,.slice A (flen l) c,.int .i64 a2.1,.int .i64 a2.2,.slice A2 (flen l2) c2,.int .i64 a3.1,.int .i64 a3.2,.slice A3 (flen l3) c3] 63 (0,0)))
 (h:FoD w D (.slice A (flen l) c) l) (h2:FoD w D (.slice A2 (flen l2) c2) l2) (h3:FoD w D (.slice A3 (flen l3) c3) l3) (n:Nat) :
 FoD w D (.slice (some ⟨g,0,none⟩) 3 n) (.node 0 0 a l (.node 0 0 a2 l2 (.node 0 0 a3 l3 .nil))):=by
 obtain ⟨A',c',e,hA⟩:=h
 injection e with e1 _ e3
 subst e1 e3;obtain ⟨A',c',e,hA2⟩:=h2
 injection e with e1 _ e3
 subst e1 e3;obtain ⟨A',c',e,hA3⟩:=h3
 injection e with e1 _ e3
 subst e1 e3;refine ⟨some ⟨g,0,none⟩,n,rfl,⟨⟨g,0,none⟩,A,c,rfl,hg,?_,?_,?_,hA⟩,⟨⟨g,0,none⟩,A2,c2,rfl,hg,?_,?_,?_,hA2⟩,⟨⟨g,0,none⟩,A3,c3,rfl,hg,?_,?_,?_,hA3⟩,trivial⟩ <;> (simp only [Z5h];rw [zc hw];rfl)
theorem Zgg (ts:List Tok)(k:Nat):(txt ts k).length=ts.length - k:=by simp [txt]
theorem Zgh {ts:List Tok}{i j:Nat}(hi:i≤ts.length)(hj:j≤ts.length)(h:txt ts i=txt ts j):i=j:=by
 have:=congrArg List.length h
 rw [Zgg,Zgg] at this
 omega
def esS:List (Bytes × Int)→Nat→List MapEntry
 | [],_=>[]
 | x::r,i=>{ key:=.string (mk x.1),val:=.int .i64 x.2,born:=i }::esS r (i+1)
def SMap (w:World)(r:Nat)(L:List (Bytes × Int)):Prop:=w.heap[r]?=some (.map (esS L 0).toArray L.length)
def Z3B (L:List (Bytes × Int))(t:Bytes):Option Int:=(L.find? (fun x=>x.1==t)).map (·.2)
theorem Zc2 (a b:Bytes):Instr.sameNow .string (.string (mk a)) (.string (mk b))=some (b==a):=by
 obtain ⟨r,h1,h2⟩:=MapKept.sameNow_of_keys (d:=.string) (a:=.string (mk a)) (b:=.string (mk b)) trivial trivial
 rw [h1]
 congr 1
 by_cases h:a=b
 · subst h
   rw [h2.2 rfl]
   exact (beq_self_eq_true _).symm
 · have:r=false:=by
    cases r with
    | false=>rfl
    | true =>
     have:=h2.1 rfl
     injection this with this
     exact absurd (mk_inj this) h
   rw [this]
   exact (beq_eq_false_iff_ne.2 (Ne.symm h)).symm
theorem Z7e (t:Bytes):∀ (L:List (Bytes × Int)) (i j:Nat),Instr.findNow .string (.string (mk t)) (esS L i) j=some ((L.findIdx? (fun x=>x.1==t)).bind fun m=>(Z3B L t).map fun v=>(j+m,.int .i64 v)):=by
 intro L
 induction L with
 | nil=>intro i j;rfl
 | cons x r ih =>
  intro i j
  simp only [esS,Instr.findNow,Zc2]
  cases hx:x.1==t with
  | true=>simp [List.findIdx?_cons,Z3B,hx]
  | false =>
   dsimp only
   rw [ih]
   simp only [List.findIdx?_cons,hx,Z3B,List.find?_cons]
   cases List.findIdx? (fun x=>x.1==t) r with
   | none=>rfl
   | some m =>
    simp
    rw [show j+1+m=j+(m+1) by omega]
theorem Zah {t:Bytes}{L:List (Bytes × Int)}{v:Int}(h:Z3B L t=some v):∃ i,Instr.findNow .string (.string (mk t)) (esS L 0) 0=some (some (i,.int .i64 v)):=by
 rw [Z7e,h]
 cases hf:L.findIdx? (fun x=>x.1==t) with
 | some m=>exact ⟨0+m,rfl⟩
 | none =>
  exfalso
  rw [List.findIdx?_eq_none_iff] at hf
  unfold Z3B at h
  rw [Option.map_eq_some_iff] at h
  obtain ⟨x,h1,_⟩:=h
  have h2:=List.find?_some h1
  have h3:=hf x (List.mem_of_find?_eq_some h1)
  rw [h2] at h3
  cases h3
theorem Z8k {t:Bytes}{L:List (Bytes × Int)}(h:Z3B L t=none)(i j:Nat):Instr.findNow .string (.string (mk t)) (esS L i) j=some none:=by
 rw [Z7e,h]
 cases L.findIdx? (fun x=>x.1==t) <;> rfl
section
variable {P:Program} {w:World} {ty k e:TypeId} {r:Nat} {L:List (Bytes × Int)} {t:Bytes}
theorem Z3n (ht:P.underlying ty=some (.map k e))(hk:P.underlying k=some .string)(hr:SMap w r L){v:Int}(h:Z3B L t=some v)(c:Bool) :
 (Instr.lookup ty (.map (some r)) (.string (mk t)) c).run P w=.ok (if c then .tuple #[.int .i64 v,.bool true] else .int .i64 v) w:=by
 obtain ⟨i,hf⟩:=Zah h
 have hr':w.heap[r]?=some (.map (esS L 0).toArray L.length):=hr
 have hck:(Instr.checkKey (esS L 0).toArray.isEmpty (9999+1) k (.string (mk t))).run P w=.ok () w:=Go.MapKept.run_checkKey hk (by simp [MapKept.IsKey]) _ 9999
 simp only [Instr.lookup,Instr.findKey,Sem.run_bind,Sem.run_pure,run_underlying ht,run_underlying hk,Go.MapKept.run_getObj_map hr',hck,hf,Result.andThen_ok]
theorem Z3p (ht:P.underlying ty=some (.map k e))(hk:P.underlying k=some .string)(hr:SMap w r L)(h:Z3B L t=none)(hz:(zeroValue e).run P w=.ok (.int .i64 0) w)(c:Bool) :
 (Instr.lookup ty (.map (some r)) (.string (mk t)) c).run P w=.ok (if c then .tuple #[.int .i64 0,.bool false] else .int .i64 0) w:=by
 have hf:=Z8k h 0 0
 have hr':w.heap[r]?=some (.map (esS L 0).toArray L.length):=hr
 have hck:(Instr.checkKey (esS L 0).toArray.isEmpty (9999+1) k (.string (mk t))).run P w=.ok () w:=Go.MapKept.run_checkKey hk (by simp [MapKept.IsKey]) _ 9999
 simp only [Instr.lookup,Instr.findKey,Sem.run_bind,Sem.run_pure,run_underlying ht,run_underlying hk,Go.MapKept.run_getObj_map hr',hck,hf,hz,Result.andThen_ok]
theorem Z0s (ht:P.underlying ty=some (.map k e))(hk:P.underlying k=some .string)(hr:SMap w r L)(h:Z3B L t=none)(v:Int) :
 (Instr.mapUpdate ty (.map (some r)) (.string (mk t)) (.int .i64 v)).run P w=.ok () (w.putObj r (.map (esS (L++[(t,v)]) 0).toArray (L++[(t,v)]).length)):=by
 have hf:=Z8k h 0 0
 have hr':w.heap[r]?=some (.map (esS L 0).toArray L.length):=hr
 have hck:(Instr.checkKey false (9999+1) k (.string (mk t))).run P w=.ok () w:=Go.MapKept.run_checkKey hk (by simp [MapKept.IsKey]) false 9999
 have hes:∀ (L:List (Bytes × Int)) (i:Nat),esS (L++[(t,v)]) i=esS L i++[{ key:=.string (mk t),val:=.int .i64 v,born:=i+L.length }]:=by
  intro L
  induction L with
  | nil=>intro i;rfl
  | cons x r ih=>intro i;simp only [List.cons_append,esS,ih,List.length_cons];rw [show i+1+r.length=i+(r.length+1) by omega]
 simp only [Instr.mapUpdate,Instr.findKey,Sem.run_bind,Sem.run_pure,run_underlying ht,run_underlying hk,Go.MapKept.run_getObj_map hr',hck,hf,Result.andThen_ok]
 rw [Go.MapKept.run_setObj_map _ hr',hes]
 simp [World.putObj]
end
theorem SMap.on {w w':World}{r:Nat}{L:List (Bytes × Int)}(h:SMap w r L)(hb:w'.heap[r]?=w.heap[r]?):SMap w' r L:=hb.trans h
theorem SMap.lt {w:World}{r:Nat}{L:List (Bytes × Int)}(h:SMap w r L):r<w.heap.size:=(zs h)
theorem SMap.new (w:World):SMap (w.alloc (.map #[] 0)) w.heap.size []:=za w (.map #[] 0)
def Zai (n:Nat):List (Bytes × Int) :=
 if n=1 then [([111,114],14)] else if n=2 then [([97,110,100],13)] else if n=4 then [([43],4),([45],5)] else if n=5 then [([42],6),([47],7)] else []
theorem Zd7 (n:Nat)(hn:lft n)(t:Bytes):Z3B (Zai n) t=if Px.opAt n t=0 then none else some (Px.opAt n t):=by
 unfold lft at hn
 rcases hn with rfl | rfl | rfl | rfl
 · simp only [Zai,Px.opAt,Z3B,if_true]
   by_cases h:t=[111,114]
   · simp [h]
   · simp [h,Ne.symm h]
 · simp only [Zai,Px.opAt,Z3B,if_true]
   by_cases h:t=[97,110,100]
   · simp [h]
   · simp [h,Ne.symm h]
 · simp only [Zai,Px.opAt,Z3B,if_true]
   by_cases h:t=[43]
   · simp [h]
   · by_cases h2:t=[45]
     · simp [h2]
     · simp [h,h2,Ne.symm h,Ne.symm h2]
 · simp only [Zai,Px.opAt,Z3B,if_true]
   by_cases h:t=[42]
   · simp [h]
   · by_cases h2:t=[47]
     · simp [h2]
     · simp [h,h2,Ne.symm h,Ne.symm h2]
end
end Go.Proofs.YtnepkoepbapgeaaGreatDoor
