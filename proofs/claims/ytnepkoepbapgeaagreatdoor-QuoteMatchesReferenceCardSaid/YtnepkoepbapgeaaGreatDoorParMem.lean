import Derived.Test.YtnepkoepbapgeaaGreatDoorLexW5
import Derived.Laws.OwnMore
import Derived.Test.YtnepkoepbapgeaaGreatDoorPrtRead
import Derived.Lib.Atoi
import Derived.Lib.Replace
namespace Go.Proofs.YtnepkoepbapgeaaGreatDoor
open Value (int slice)
open IntKind (i64)
section
open Go.RowKit Lx
def Z35 (t:Tok):List Value:=[int i64 t.1,int i64 t.2.1,.string (mk t.2.2)]
def cellsOf (ts:List Tok):List Value:=ts.flatMap Z35
theorem Zbg (ts:List Tok)(t:Tok):cellsOf (ts++[t])=cellsOf ts++Z35 t:=by simp [cellsOf]
theorem Zde (ts:List Tok)(k j:Nat)(h:k<ts.length)(C:j<3):(cellsOf ts)[k*3+j]?=(Z35 ts[k])[j]?:=by
 induction ts generalizing k with
 | nil=>simp at h
 | cons t ts ih =>
  have B:cellsOf (t::ts)=Z35 t++cellsOf ts:=by simp [cellsOf]
  rw [B];cases k with
  | zero=>simp only [Nat.zero_mul,Nat.zero_add,List.getElem_cons_zero];rw [List.getElem?_append_left (by simp [Z35];omega)]
  | succ k =>
   rw [List.getElem?_append_right (by simp [Z35];omega)];have:=ih k (by simpa using h);simp only [Z35,zw,zx,List.getElem_cons_succ] at this |-
   rw [<- this];congr 1;omega
def Zmg (w:World)(p:Addr)(t:Tok):Prop := w.cell? p=some (int i64 t.1)/\w.cell? ⟨p.block,p.off+1,none⟩=some (int i64 t.2.1)/\w.cell? ⟨p.block,p.off+2,none⟩=some (.string (mk t.2.2))
theorem Zbh (a:Addr)(n:Nat):(a.add n).block=a.block:=by unfold Addr.add;split <;> rfl
def Sl (w:World)(B:Nat)(v:Value)(ts:List Tok):Prop := ∃ A c,v=slice A ts.length c/\∀ k,(h:k<ts.length)->∃ ad:Addr,A=some ad/\ad.block<B/\Zmg w (ad.add (k*3)) ts[k]
theorem Sl.nil (w:World)(B:Nat):Sl w B (slice none 0 0) []:=⟨none,0,rfl,λk h=>absurd h (by simp)⟩
theorem Zmg.keep {w w':World}{p:Addr}{t:Tok}(h:Zmg w p t)(hk:∀ q:Addr,q.block=p.block->w'.cell? q=w.cell? q):Zmg w' p t := ⟨(hk p rfl).trans h.1,(hk ⟨p.block,p.off+1,none⟩ rfl).trans h.2.1,(hk ⟨p.block,p.off+2,none⟩ rfl).trans h.2.2⟩
theorem Sl.below {w w':World}{B:Nat}{v:Value}{ts:List Tok}(h:Sl w B v ts)(hb:Below B w w'):Sl w' B v ts:=by
 obtain ⟨A,c,F,hk⟩:=h;refine ⟨A,c,F,λk h=>?_⟩;obtain ⟨ad,e,C,D⟩:=hk k h;exact ⟨ad,e,C,D.keep λq hq=>hb.cell (by rw [hq,Zbh];exact C)⟩
theorem Sl.mono {w:World}{B C:Nat}{v:Value}{ts:List Tok}(h:Sl w B v ts)(hb:B<=C):Sl w C v ts:=by
 obtain ⟨A,c,D,hk⟩:=h;exact ⟨A,c,D,λk h=>let ⟨ad,e,hlt,ht⟩:=hk k h;⟨ad,e,by omega,ht⟩⟩
theorem Sl.of_own {w:World}{base:Nat}{e:TypeId}{v:Value}{ts:List Tok}(h:w.ownsRow base e 3 v ts.length (cellsOf ts)):Sl w w.heap.size v ts:=by
 rcases h.2 with ⟨B,G⟩ | ⟨g,cap,H,B,_,D,_,_,_,_⟩
 · have:ts=[]:=List.length_eq_zero_iff.1 G;subst this;exact ⟨none,0,B,λk h=>absurd h (by simp)⟩
 · refine ⟨some ⟨g,0,none⟩,cap,B,λk hk=>⟨⟨g,0,none⟩,rfl,?_,?_⟩⟩
   · exact (zs D)
   · subst B;have C:∀ j,j<3->w.cell? ⟨g,k*3+j,none⟩=(Z35 ts[k])[j]?:=λj hj=>by rw [h.cellAt (k*3+j) (by omega),Zde ts k j hk hj]
     have F:((⟨g,0,none⟩:Addr).add (k*3))=⟨g,k*3,none⟩:=by unfold Addr.add;split <;> simp_all
     rw [F];exact ⟨C 0 (by omega),C 1 (by omega),C 2 (by omega)⟩
end
section
namespace Px
open Lx
def Ev (E:Nat->Option Res)(r:Res):Prop:=∃ f0,∀ f,f0<=f->E f=some r
theorem Zif (r:Res):Ev (λ_=>some r) r:=⟨0,λ_ _=>rfl⟩
theorem Ev_rd {n:Nat}{acc:Option Ex}{ts:List Bytes}{r:Res}(h:Rd n acc ts r):Ev (λf=>rd f n acc ts) r:=by
 obtain ⟨f,B⟩:=h;exact ⟨f,λg hg=>Z6a B hg⟩
theorem Z3g {n:Nat}{acc:Option Ex}{ts s:List Bytes}{e:Ex}{K:Nat->Ex->List Bytes->Option Res}{r:Res}(h:Rd n acc ts (.ok e s))(hk:Ev (λf=>K f e s) r):Ev (λf=>bnd (rd f n acc ts) (K f)) r:=by
 obtain ⟨f,C⟩:=Ev_rd h;obtain ⟨g,B⟩:=hk;refine ⟨max f g,λx hx=>?_⟩;have D:rd x n acc ts=some (.ok e s):=C x (by omega);show bnd (rd x n acc ts) (K x)=some r;rw [D];exact B x (by omega)
theorem Z1g {n:Nat}{acc:Option Ex}{ts s:List Bytes}{K:Nat->Ex->List Bytes->Option Res}(h:Rd n acc ts (.no s)):Ev (λf=>bnd (rd f n acc ts) (K f)) (.no s):=by
 obtain ⟨f,B⟩:=Ev_rd h;refine ⟨f,λx hx=>?_⟩;have C:rd x n acc ts=some (.no s):=B x hx;show bnd (rd x n acc ts) (K x)=_;rw [C];rfl
theorem Z2x {t:Bytes}{ts:List Bytes}{K:Nat->List Bytes->Option Res}{r:Res}(hk:Ev (λf=>K f ts) r):Ev (λf=>mst t (t::ts) (K f)) r:=by
 obtain ⟨g,B⟩:=hk;exact ⟨g,λx hx=>by simp only [mst,if_true];exact B x hx⟩
theorem Z3h {t:Bytes}{ts:List Bytes}{K:Nat->List Bytes->Option Res}(h:ts.head?≠some t):Ev (λf=>mst t ts (K f)) (.no ts):=by
 refine ⟨0,λx _=>?_⟩;cases ts with
 | nil=>rfl
 | cons u r =>
  have:¬ u=t:=by simpa using h
  simp only [mst,zf this]
theorem Z7r {n:Nat}{acc:Option Ex}{ts:List Bytes}{r:Res}{E:Nat->Option Res}(he:∀ f,Z24 (rd f) n acc ts=E f)(h:Ev E r):Rd n acc ts r:=by
 obtain ⟨g,B⟩:=h;exact ⟨g+1,(he g).trans (B g (zn _))⟩
theorem Z65 {ts:List Bytes}{r:Res}(h:Ev (λf=>bnd (rd f 0 none ts) λa r=>mst kThen r λr=>bnd (rd f 0 none r) λb r=>mst kElse r λr=>bnd (rd f 0 none r) λc r=>some (.ok (triE 10 a b c) r)) r):Rd 0 none (kIf::ts) r:=by
 refine Z7r (λf=>?_) h;simp only [Z24,List.head?_cons,List.tail_cons,if_true]
theorem Zgf {n:Nat}(F:n≠0)(B:n≠3)(C:n<=5){ts s:List Bytes}(D:Rd (n+1) none ts (.no s)):Rd n none ts (.no s):=by
 refine Z7r (λf=>?_) (Z1g D (K:=λf e r=>rd f n (some e) r));simp only [Z24];rw [zf F,zf B,zp C]
theorem Z9i {n:Nat}{e:Ex}{u:Bytes}{ts s:List Bytes}(C:opAt n u≠0)(B:Rd (n+1) none ts (.no s)):Rd n (some e) (u::ts) (.no s):=by
 refine Z7r (λf=>?_) (Z1g B (K:=λf b r'=>rd f n (some (Z2f (opAt n u) e b)) r'));simp only [Z24];rw [zf C]
theorem Zig {ts s:List Bytes}(B:Rd 3 none ts (.no s)):Rd 3 none (kNot::ts) (.no s):=by
 refine Z7r (λf=>?_) (Z1g B (K:=λ_ e r=>some (.ok (oneE 15 e) r)));simp only [Z24,List.head?_cons,List.tail_cons,if_true];rw [zf (by decide)]
theorem Zih {ts s:List Bytes}(h:ts.head?≠some kNot)(B:Rd 4 none ts (.no s)):Rd 3 none ts (.no s):=by
 refine Z7r (λf=>?_) (Z1g B (K:=λf e r=>match r with
  | []=>some (.ok e [])
  | u::r'=>if opAt 3 u=0 then some (.ok e (u::r')) else bnd (rd f 4 none r') λb r''=>some (.ok (Z2f (opAt 3 u) e b) r'')))
 simp only [Z24,if_true];rw [zf (by decide),zf h];rfl
theorem Zbi {ts r s:List Bytes}{u:Bytes}{e:Ex}(h:ts.head?≠some kNot)(C:Rd 4 none ts (.ok e (u::r)))(D:opAt 3 u≠0)(B:Rd 4 none r (.no s)):Rd 3 none ts (.no s):=by
 refine Z7r (λf=>?_) (Z3g C (K:=λf e r=>match r with
  | []=>some (.ok e [])
  | u::r'=>if opAt 3 u=0 then some (.ok e (u::r')) else bnd (rd f 4 none r') λb r''=>some (.ok (Z2f (opAt 3 u) e b) r'')) ?_)
 · simp only [Z24,if_true];rw [zf (by decide),zf h];rfl
 · simp only [zf D];exact Z1g B
theorem Zdf:Rd 6 none [] (.no []):=⟨1,rfl⟩
theorem Z3b {t:Bytes}{ts:List Bytes}{r:Res}(C:Z0b t≠2)(B:Z0b t≠3)(D:¬ Z3q t > 0)(hb:Z1h t > 0) (h:Ev (λf=>mst [40] ts λr=>bnd (rd f 0 none r) λa r=>mst [44] r λr=>bnd (rd f 0 none r) λb r=>mst [41] r λr=>some (.ok (Z2f (Z1h t) a b) r)) r):Rd 6 none (t::ts) r:=by
 refine Z7r (λf=>?_) h;simp only [Z24];rw [zf (by decide),zf (by decide),zf (by decide)];simp only [zf C,zf B,zf D,zp hb]
theorem Z66 {t:Bytes}{ts:List Bytes}{r:Res}(C:Z0b t≠2)(B:Z0b t≠3)(D:¬ Z3q t > 0)(hb:¬ Z1h t > 0) (h:Ev (λf=>mst [40] (t::ts) λr=>bnd (rd f 0 none r) λe r=>mst [41] r λr=>some (.ok e r)) r):Rd 6 none (t::ts) r:=by
 refine Z7r (λf=>?_) h;simp only [Z24];rw [zf (by decide),zf (by decide),zf (by decide)];simp only [zf C,zf B,zf D,zf hb]
theorem Zq5 {t:Bytes}(r:List Bytes)(C:Z0b t≠2)(B:Z0b t≠3)(D:Z3q t > 0):Rd 6 none (t::r) (.ok ((3,Z3q t),.nil) r):=⟨1,by
 simp only [Z25,Z24];rw [zf (by decide),zf (by decide),zf (by decide)];rw [zf C,zf B,zp D]⟩
end Px
end
section
namespace Px
open Lx
theorem idx46:∀ s:Bytes,(Go.Lib.index s [46] = -1/\s.filter (· != 46)=s)\/∃ a b,s=a++46::b/\Go.Lib.index s [46]=a.length/\a.filter (· != 46)=a:=by
 intro s;induction s with
 | nil=>exact .inl ⟨rfl,rfl⟩
 | cons c s ih =>
  by_cases h:c=46
  · subst h;exact .inr ⟨[],s,rfl,by simp [Go.Lib.index],rfl⟩
  · have F:([46]:Bytes).isPrefixOf (c::s)=false:=by simp [List.isPrefixOf,Ne.symm h]
    have D:(c != 46)=true:=by simpa using h
    rcases ih with ⟨C,B⟩ | ⟨a,b,e,C,B⟩
    · refine .inl ⟨?_,by simp [D,B]⟩;rw [Go.Lib.index,F,C];rfl
    · refine .inr ⟨c::a,b,by rw [e];rfl,?_,by simp [D,B]⟩;rw [Go.Lib.index,F,C];have:((a.length:Int) == -1)=false:=by rw [beq_eq_false_iff_ne];omega
      simp [this]
theorem repl46:∀ (f:Nat) (s:Bytes),s.length<f->Go.Lib.replaceK [46] [] (Go.Lib.countFrom [46] f s) s=s.filter (· != 46):=by
 intro f;induction f with
 | zero=>intro s h;omega
 | succ f ih =>
  intro s h;rcases idx46 s with ⟨B,C⟩ | ⟨a,b,e,B,C⟩
  · rw [Go.Lib.countFrom,B,C];rfl
  · have F:(Go.Lib.index s [46] == -1)=false:=by rw [B,beq_eq_false_iff_ne];omega
    have G:(Go.Lib.index s [46]).toNat=a.length:=by rw [B];omega
    have D:s.drop (a.length+1)=b:=by rw [e];simp
    have H:s.take a.length=a:=by rw [e];simp
    have hb:b.length<f:=by rw [e] at h;simp at h;omega
    rw [Go.Lib.countFrom,F,G];simp only [List.length_singleton,Bool.false_eq_true,if_false];rw [D,Nat.add_comm,Go.Lib.replaceK,F,G];simp only [List.length_singleton,Bool.false_eq_true,if_false];rw [D,H,ih b hb,e];simp [C]
theorem Zbj (s:Bytes):Go.Lib.replaceAll s [46] []=s.filter (· != 46):=by
 unfold Go.Lib.replaceAll Go.Lib.replace Go.Lib.replaceNum;rw [zf (by decide),zp (.inl (by omega))];exact repl46 (s.length+1) s (by omega)
theorem Zdg:∀ (l:Bytes) (acc:Nat),l.all (inR 48 57)=true->∃ m:Nat,Go.Lib.decFrom acc l=some m/\(m:Int)=l.foldl (λn c=>10*n+((c.toNat:Int) - 48)) (acc:Int):=by
 intro l;induction l with
 | nil=>intro acc _;exact ⟨acc,rfl,rfl⟩
 | cons c l ih =>
  intro acc h;simp only [List.all_cons,zd] at h;have B:48<=c.toNat/\c.toNat<=57:=by have:=h.1;simp only [inR,zd,decide_eq_true_eq] at this;omega
  obtain ⟨m,D,C⟩:=ih (acc*10+(c.toNat - 48)) h.2;refine ⟨m,?_,?_⟩
  · rw [Go.Lib.decFrom,Go.Lib.digitVal,zp B];exact D
  · rw [C,List.foldl_cons];congr 1;omega
theorem Zev (l:Bytes)(h:l.all (inR 48 57)=true)(G:l≠[]):Go.Lib.atoi l=some (val l):=by
 obtain ⟨m,B,C⟩:=Zdg l 0 h;cases l with
 | nil=>exact absurd rfl G
 | cons c r =>
  simp only [List.all_cons,zd] at h;have F:(c==45)=false:=by rw [beq_eq_false_iff_ne];rintro rfl;exact absurd h.1 (by decide)
  have D:(c==43)=false:=by rw [beq_eq_false_iff_ne];rintro rfl;exact absurd h.1 (by decide)
  rw [Go.Lib.atoi,F,D];simp only [Go.Lib.decNat,List.isEmpty_cons,Bool.false_eq_true,if_false,B,Option.map_some];rw [C];rfl
theorem Zmh (t:Bytes)(h:Z0b t=2\/Z0b t=3):Go.Lib.atoi (t.filter (· != 46))=some (dval t)/\(t.filter (· != 46)).length<=18/\t.length<=100:=by
 have key:Z2z t=true\/Z9c t=true:=by
  unfold Z0b at h;split at h
  · omega
  · split at h
    · left;assumption
    · split at h
      · right;assumption
      · split at h <;> omega
 rcases key with C | B
 · simp only [Z2z,allR,zd,Bool.not_eq_true',List.isEmpty_eq_false_iff,decide_eq_true_eq] at C;have F:t.filter (· != 46)=t:=by rw [List.filter_eq_self];intro c D;have:=Z4u C.1.1.2 D;simp only [bne_iff_ne];rintro rfl;exact absurd this (by decide)
   unfold dval;rw [F];exact ⟨Zev t C.1.1.2 C.1.1.1,by omega,by omega⟩
 · simp only [Z9c,Z2z,allR,zd,Bool.not_eq_true',List.isEmpty_eq_false_iff,decide_eq_true_eq] at B;have G:=Zd7 t B.1.1.1.1;have H:∀ l:Bytes,l.all (inR 48 57)=true->l.filter (· != 46)=l:=by intro l I;rw [List.filter_eq_self];intro c D;have:=Z4u I D;simp only [bne_iff_ne];rintro rfl;exact absurd this (by decide)
   have F:t.filter (· != 46)=Zar t++frac t:=by
    conv=>lhs;rw [G]
    rw [List.filter_append,H _ B.1.1.1.2.1.1.2,List.filter_cons];simp [H _ B.1.2.2]
   have hw:(Zar t).length<=9:=B.1.1.1.2.1.2;have I:t.length=(Zar t).length+1+(frac t).length:=by have:=congrArg List.length G;simp at this;omega
   have J:(frac t).length=2:=B.1.1.2;unfold dval;rw [F];refine ⟨Zev _ ?_ ?_,by simp;omega,by omega⟩
   · rw [List.all_append,B.1.1.1.2.1.1.2,B.1.2.2];rfl
   · intro e;exact B.1.1.1.2.1.1.1 (List.append_eq_nil_iff.1 e).1
end Px
end
section
open Go.RowKit Lx Px
structure But (pb:Nat) (w w':World):Prop where
 os:w'.os=w.os
 tape:w'.tape=w.tape
 output:w'.output=w.output
 size:w.heap.size<=w'.heap.size
 block:∀ k,k<w.heap.size->k≠pb->w'.heap[k]?=w.heap[k]?
theorem But.refl (pb:Nat)(w:World):But pb w w:=⟨rfl,rfl,rfl,zn _,λ_ _ _=>rfl⟩
theorem But.trans {pb:Nat}{a b c:World}(h:But pb a b)(k:But pb b c):But pb a c := ⟨k.os.trans h.os,k.tape.trans h.tape,k.output.trans h.output,Nat.le_trans h.size k.size,λi hi hn=>(k.block i (by have:=h.size;omega) hn).trans (h.block i hi hn)⟩
theorem But.of_below {pb:Nat}{w w':World}(h:Below w.heap.size w w'):But pb w w':=⟨h.os,h.tape,h.output,h.size,λk hk _=>h.block k hk⟩
theorem But.below {pb:Nat}{w w':World}(h:But pb w w')(B:pb<=w.heap.size):Below pb w w':=⟨h.os,h.tape,h.output,h.size,λk hk=>h.block k (by omega) (by omega)⟩
theorem But.cell {pb:Nat}{w w':World}(h:But pb w w'){p:Addr}(C:p.block<w.heap.size)(B:p.block≠pb):w'.cell? p=w.cell? p:=World.cell?_of_block (w:=w) (h.block p.block C B)
theorem But.drew {pb:Nat}{w w':World}(h:But pb w w'):But pb w w'.drew:=⟨h.os,h.tape,h.output,h.size,h.block⟩
theorem But.alloc {pb:Nat}{w w':World}(h:But pb w w')(o:Obj):But pb w (w'.alloc o) := h.trans ⟨rfl,rfl,rfl,by simp,λk hk _=>Below.heap_alloc _ _ _ hk⟩
theorem But.set {pb:Nat}{w w':World}(h:But pb w w'){p:Addr}(B:p.block=pb)(v:Value):But pb w (w'.setCell p v) := h.trans ⟨rfl,rfl,rfl,by simp [World.setCell],λk _ hn=>zg _ _ _ _ (by rw [B];exact hn)⟩
theorem But.on {pb:Nat}{a w w':World}(h:But pb a w)(hb:Below w.heap.size w w'):But pb a w':=h.trans (But.of_below hb)
def txt (ts:List Tok)(k:Nat):List Bytes:=(ts.drop k).map (·.2.2)
theorem Zai (ts:List Tok)(k:Nat)(h:ts.length<=k):txt ts k=[]:=by simp [txt,List.drop_eq_nil_of_le h]
theorem txt_at (ts:List Tok)(k:Nat)(h:k<ts.length):txt ts k=ts[k].2.2::txt ts (k+1):=by
 unfold txt;rw [List.drop_eq_getElem_cons h];rfl
def Knd (ts:List Tok):Prop:=∀ t∈ts,t.1=Z0b t.2.2/\Z0b t.2.2≠0
def nxt (ts:List Tok)(k:Nat):Bytes:=if h:k<ts.length then ts[k].2.2 else []
theorem nxt_at (ts:List Tok)(k:Nat)(h:k<ts.length):nxt ts k=ts[k].2.2:=by unfold nxt;rw [dif_pos h]
theorem Z5A (ts:List Tok)(k:Nat)(h:¬ k<ts.length):nxt ts k=[]:=by unfold nxt;rw [dif_neg h]
def Z3E (ts:List Tok)(k:Nat):Int:=match ts[min k (ts.length - 1)]? with
 | some t=>t.2.1
 | none=>1
def Mx (w:World)(B:Nat):Prop:=∃ m:Int,w.cell? ⟨2,0,none⟩=some (int i64 m)/\2<B
theorem Mx.on {w w':World}{B:Nat}(h:Mx w B)(hb:Below B w w'):Mx w' B:=by
 obtain ⟨m,D,C⟩:=h;exact ⟨m,(hb.cell (p:=⟨2,0,none⟩) C).trans D,C⟩
def PI (w:World)(pb:Nat)(v:Value)(ts:List Tok)(k:Nat):Prop := w.heap[pb]?=some (.cells #[v,int i64 k] 174 (0,0))/\Sl w pb v ts/\k<=ts.length/\ts.length<=1000000/\Knd ts/\Mx w pb
theorem PI.lt {w:World}{pb k:Nat}{v:Value}{ts:List Tok}(h:PI w pb v ts k):pb<w.heap.size:=(zs h.1)
theorem PI.on {w w':World}{pb k:Nat}{v:Value}{ts:List Tok}(h:PI w pb v ts k)(hb:Below w.heap.size w w'):PI w' pb v ts k :=
 have B:=hb.mono (show pb<=w.heap.size by have:=h.lt;omega)
 ⟨(hb.block _ h.lt).trans h.1,h.2.1.below B,h.2.2.1,h.2.2.2.1,h.2.2.2.2.1,h.2.2.2.2.2.on B⟩
theorem PI.cell0 {w:World}{pb k:Nat}{v:Value}{ts:List Tok}(h:PI w pb v ts k):w.cell? ⟨pb,0,none⟩=some v:=by rw [zc h.1];rfl
theorem PI.cell1 {w:World}{pb k:Nat}{v:Value}{ts:List Tok}(h:PI w pb v ts k):w.cell? ⟨pb,1,none⟩=some (int i64 k):=by rw [zc h.1];rfl
theorem PI.drew {w:World}{pb k:Nat}{v:Value}{ts:List Tok}(h:PI w pb v ts k):PI w.drew pb v ts k:=h.on ((zr _ _).drew)
theorem PI.set {w:World}{pb k:Nat}{v:Value}{ts:List Tok}(h:PI w pb v ts k)(B:Nat)(hk:B<=ts.length):PI (w.setCell ⟨pb,1,none⟩ (int i64 B)) pb v ts B:=by
 have C:Below pb w (w.setCell ⟨pb,1,none⟩ (int i64 B)):=(zr _ _).setCell (p:=⟨pb,1,none⟩) (zn _) _;refine ⟨?_,h.2.1.below C,hk,h.2.2.2.1,h.2.2.2.2.1,h.2.2.2.2.2.on C⟩;have F:=h.lt;have D:=h.1;simp only [World.setCell,zM,if_true,D,Option.map_some];simp
theorem PI.tok {w:World}{pb k:Nat}{v:Value}{ts:List Tok}(h:PI w pb v ts k){j:Nat}(H:j<ts.length):∃ (p:Addr) (c:Nat),v=slice (some p) ts.length c/\p.block<pb/\w.cell? (p.add (j*3))=some (int i64 ts[j].1) /\ w.cell? ⟨(p.add (j*3)).block,(p.add (j*3)).off+1,none⟩=some (int i64 ts[j].2.1)/\w.cell? ⟨(p.add (j*3)).block,(p.add (j*3)).off+2,none⟩=some (.string (mk ts[j].2.2)):=by
 obtain ⟨A,c,e,hk⟩:=h.2.1;obtain ⟨ad,G,F,B,D,C⟩:=hk j H;subst G;exact ⟨ad,c,e,F,B,D,C⟩
theorem PI.slice {w:World}{pb k:Nat}{v:Value}{ts:List Tok}(h:PI w pb v ts k):∃ A c,v=slice A ts.length c:=by
 obtain ⟨A,c,e,_⟩:=h.2.1;exact ⟨A,c,e⟩
theorem PI.far {w:World}{pb k:Nat}{v:Value}{ts:List Tok}(h:PI w pb v ts k){p:Addr}(C:pb<p.block)(x:Value):PI (w.setCell p x) pb v ts k:=by
 have B:Below (pb+1) w (w.setCell p x):=(zr _ _).setCell (p:=p) (by omega) _;exact ⟨(B.block _ (by omega)).trans h.1,h.2.1.below (B.mono (by omega)),h.2.2.1,h.2.2.2.1,h.2.2.2.2.1,h.2.2.2.2.2.on (B.mono (by omega))⟩
theorem But.new {pb:Nat}{w w':World}(h:But pb w w'){p:Addr}(B:w.heap.size<=p.block)(v:Value):But pb w (w'.setCell p v) := ⟨h.os,h.tape,h.output,by simp [World.setCell];exact h.size,λk hk hn=>(zg _ _ _ _ (by omega)).trans (h.block k hk hn)⟩
def Z9b (w:World)(D:Nat->Prop):Fo->Option Addr->Nat->Prop
 | .nil,_,_=>True
 | .node _ _ a l r,A,k =>(∃ (ad:Addr) (A':Option Addr) (c:Nat),A=some ad/\D ad.block/\w.cell? (ad.add (k*3))=some (int i64 a.1)/\w.cell? ⟨(ad.add (k*3)).block,(ad.add (k*3)).off+1,none⟩=some (int i64 a.2) /\ w.cell? ⟨(ad.add (k*3)).block,(ad.add (k*3)).off+2,none⟩=some (slice A' (flen l) c)/\Z9b w D l A' 0)/\Z9b w D r A (k+1)
theorem Z9b.keep {w w':World}{D E:Nat->Prop}(H:∀ b,D b->E b)(G:∀ b,D b->w'.heap[b]?=w.heap[b]?):∀ (f:Fo) (A:Option Addr) (k:Nat),Z9b w D f A k->Z9b w' E f A k:=by
 intro f;induction f with
 | nil=>intro A k _;trivial
 | node b o a l r ihl ihr =>
  intro A k h;obtain ⟨⟨ad,F,c,e,C,M,I,L,J⟩,N⟩:=h;have hb:D (ad.add (k*3)).block:=by rw [Z1d];exact C
  have B:=G _ hb;exact ⟨⟨ad,F,c,e,H _ C,(World.cell?_of_block (w:=w) B).trans M,(World.cell?_of_block (w:=w) (a:=⟨(ad.add (k*3)).block,(ad.add (k*3)).off+1,none⟩) B).trans I,(World.cell?_of_block (w:=w) (a:=⟨(ad.add (k*3)).block,(ad.add (k*3)).off+2,none⟩) B).trans L,ihl F 0 J⟩,ihr A (k+1) N⟩
theorem Z9b.at {w:World}{D:Nat->Prop}{B:Nat}(F:∀ b,D b->b<B):∀ (f:Fo) (A:Option Addr) (k:Nat),Z9b w D f A k->FoAt w B f A k:=by
 intro f;induction f with
 | nil=>intro A k _;trivial
 | node b o a l r ihl ihr =>intro A k h;obtain ⟨⟨ad,C,c,e,J,L,G,I,H⟩,M⟩:=h;exact ⟨⟨ad,C,c,e,F _ J,L,G,I,ihl C 0 H⟩,ihr A (k+1) M⟩
def FoD (w:World)(D:Nat->Prop)(v:Value)(f:Fo):Prop:=∃ A c,v=slice A (flen f) c/\Z9b w D f A 0
theorem FoD.keep {w w':World}{D E:Nat->Prop}{v:Value}{f:Fo}(h:FoD w D v f)(C:∀ b,D b->E b)(B:∀ b,D b->w'.heap[b]?=w.heap[b]?):FoD w' E v f:=by
 obtain ⟨A,c,e,F⟩:=h;exact ⟨A,c,e,Z9b.keep C B f A 0 F⟩
theorem FoD.v {w:World}{D:Nat->Prop}{v:Value}{f:Fo}(h:FoD w D v f){B:Nat}(C:∀ b,D b->b<B):FoV w B v f:=by
 obtain ⟨A,c,e,F⟩:=h;exact ⟨A,c,e,Z9b.at C f A 0 F⟩
theorem FoD.nil (w:World)(D:Nat->Prop):FoD w D (slice none 0 0) .nil:=⟨none,0,rfl,trivial⟩
theorem Z67 (g k:Nat):((⟨g,0,none⟩:Addr).add k)=⟨g,k,none⟩:=by unfold Addr.add;split <;> simp_all
theorem FoD.one {w:World}{D:Nat->Prop}{g:Nat}{a:Int × Int}{A:Option Addr}{c:Nat}{l:Fo}(B:D g)(hw:w.heap[g]?=some (.cells #[int i64 a.1,int i64 a.2,slice A (flen l) c] 63 (0,0)))(h:FoD w D (slice A (flen l) c) l)(n:Nat) : FoD w D (slice (some ⟨g,0,none⟩) 1 n) (.node 0 0 a l .nil):=by
 obtain ⟨F,c',e,C⟩:=h;injection e with e1 _ e3
 subst e1 e3;refine ⟨some ⟨g,0,none⟩,n,rfl,⟨⟨g,0,none⟩,A,c,rfl,B,?_,?_,?_,C⟩,trivial⟩ <;> (simp only [Z67];rw [zc hw];rfl)
theorem FoD.two {w:World}{D:Nat->Prop}{g:Nat}{a F:Int × Int}{A C:Option Addr}{c c2:Nat}{l B:Fo}(G:D g) (hw:w.heap[g]?=some (.cells #[int i64 a.1,int i64 a.2,slice A (flen l) c,int i64 F.1,int i64 F.2,slice C (flen B) c2] 63 (0,0))) (h:FoD w D (slice A (flen l) c) l) (H:FoD w D (slice C (flen B) c2) B) (n:Nat) : FoD w D (slice (some ⟨g,0,none⟩) 2 n) (.node 0 0 a l (.node 0 0 F B .nil)):=by
 obtain ⟨I,c',e,J⟩:=h;injection e with e1 _ e3
 subst e1 e3;obtain ⟨I,c',e,L⟩:=H;injection e with e1 _ e3
 subst e1 e3;refine ⟨some ⟨g,0,none⟩,n,rfl,⟨⟨g,0,none⟩,A,c,rfl,G,?_,?_,?_,J⟩,⟨⟨g,0,none⟩,C,c2,rfl,G,?_,?_,?_,L⟩,trivial⟩ <;> (simp only [Z67];rw [zc hw];rfl)
theorem FoD.three {w:World}{D:Nat->Prop}{g:Nat}{a H I:Int × Int}{A G C:Option Addr}{c c2 c3:Nat}{l B l3:Fo}(F:D g) (hw:w.heap[g]?=some (.cells #[int i64 a.1,int i64 a.2,slice A (flen l) c,int i64 H.1,int i64 H.2,slice G (flen B) c2,int i64 I.1,int i64 I.2,slice C (flen l3) c3] 63 (0,0))) (h:FoD w D (slice A (flen l) c) l) (N:FoD w D (slice G (flen B) c2) B) (M:FoD w D (slice C (flen l3) c3) l3) (n:Nat) : FoD w D (slice (some ⟨g,0,none⟩) 3 n) (.node 0 0 a l (.node 0 0 H B (.node 0 0 I l3 .nil))):=by
 obtain ⟨J,c',e,O⟩:=h;injection e with e1 _ e3
 subst e1 e3;obtain ⟨J,c',e,R⟩:=N;injection e with e1 _ e3
 subst e1 e3;obtain ⟨J,c',e,L⟩:=M;injection e with e1 _ e3
 subst e1 e3;refine ⟨some ⟨g,0,none⟩,n,rfl,⟨⟨g,0,none⟩,A,c,rfl,F,?_,?_,?_,O⟩,⟨⟨g,0,none⟩,G,c2,rfl,F,?_,?_,?_,R⟩,⟨⟨g,0,none⟩,C,c3,rfl,F,?_,?_,?_,L⟩,trivial⟩ <;> (simp only [Z67];rw [zc hw];rfl)
theorem Zii (ts:List Tok)(k:Nat):(txt ts k).length=ts.length - k:=by simp [txt]
theorem Zij {ts:List Tok}{i j:Nat}(B:i<=ts.length)(C:j<=ts.length)(h:txt ts i=txt ts j):i=j:=by
 have:=congrArg List.length h;rw [Zii,Zii] at this;omega
def esS:List (Bytes × Int)->Nat->List MapEntry
 | [],_=>[]
 | x::r,i=>{ key:=.string (mk x.1),val:=int i64 x.2,born:=i }::esS r (i+1)
def SMap (w:World)(r:Nat)(L:List (Bytes × Int)):Prop:=w.heap[r]?=some (.map (esS L 0).toArray L.length)
def Z4r (L:List (Bytes × Int))(t:Bytes):Option Int:=(L.find? (λx=>x.1==t)).map (·.2)
theorem Zdh (a b:Bytes):Instr.sameNow .string (.string (mk a)) (.string (mk b))=some (b==a):=by
 obtain ⟨r,C,B⟩:=MapKept.sameNow_of_keys (d:=.string) (a:=.string (mk a)) (b:=.string (mk b)) trivial trivial;rw [C];congr 1;by_cases h:a=b
 · subst h;rw [B.2 rfl];exact (beq_self_eq_true _).symm
 · have:r=false:=by
    cases r with
    | false=>rfl
    | true =>
     have:=B.1 rfl;injection this with this
     exact absurd (mk_inj this) h
   rw [this];exact (beq_eq_false_iff_ne.2 (Ne.symm h)).symm
theorem Z8h (t:Bytes):∀ (L:List (Bytes × Int)) (i j:Nat),Instr.findNow .string (.string (mk t)) (esS L i) j=some ((L.findIdx? (λx=>x.1==t)).bind λm=>(Z4r L t).map λv=>(j+m,int i64 v)):=by
 intro L;induction L with
 | nil=>intro i j;rfl
 | cons x r ih =>
  intro i j;simp only [esS,Instr.findNow,Zdh];cases hx:x.1==t with
  | true=>simp [List.findIdx?_cons,Z4r,hx]
  | false =>
   dsimp only;rw [ih];simp only [List.findIdx?_cons,hx,Z4r,List.find?_cons];cases List.findIdx? (λx=>x.1==t) r with
   | none=>rfl
   | some m =>simp;rw [show j+1+m=j+(m+1) by omega]
theorem Zbk {t:Bytes}{L:List (Bytes × Int)}{v:Int}(h:Z4r L t=some v):∃ i,Instr.findNow .string (.string (mk t)) (esS L 0) 0=some (some (i,int i64 v)):=by
 rw [Z8h,h];cases hf:L.findIdx? (λx=>x.1==t) with
 | some m=>exact ⟨0+m,rfl⟩
 | none =>exfalso;rw [List.findIdx?_eq_none_iff] at hf;unfold Z4r at h;rw [Option.map_eq_some_iff] at h;obtain ⟨x,C,_⟩:=h;have D:=List.find?_some C;have B:=hf x (List.mem_of_find?_eq_some C);rw [D] at B;cases B
theorem Z9j {t:Bytes}{L:List (Bytes × Int)}(h:Z4r L t=none)(i j:Nat):Instr.findNow .string (.string (mk t)) (esS L i) j=some none:=by
 rw [Z8h,h];cases L.findIdx? (λx=>x.1==t) <;> rfl
section
variable {P:Program} {w:World} {ty k e:TypeId} {r:Nat} {L:List (Bytes × Int)} {t:Bytes}
theorem Z4a (D:P.underlying ty=some (.map k e))(hk:P.underlying k=some .string)(F:SMap w r L){v:Int}(h:Z4r L t=some v)(c:Bool) : (Instr.lookup ty (.map (some r)) (.string (mk t)) c).run P w=.ok (if c then .tuple #[int i64 v,.bool true] else int i64 v) w:=by
 obtain ⟨i,C⟩:=Zbk h;have G:w.heap[r]?=some (.map (esS L 0).toArray L.length):=F;have B:(Instr.checkKey (esS L 0).toArray.isEmpty (9999+1) k (.string (mk t))).run P w=.ok () w:=Go.MapKept.run_checkKey hk (by simp [MapKept.IsKey]) _ 9999;simp only [Instr.lookup,Instr.findKey,Sem.run_bind,Sem.run_pure,zy D,zy hk,Go.MapKept.run_getObj_map G,B,C,Result.andThen_ok]
theorem Z4b (F:P.underlying ty=some (.map k e))(hk:P.underlying k=some .string)(G:SMap w r L)(h:Z4r L t=none)(D:(zeroValue e).run P w=.ok (int i64 0) w)(c:Bool) : (Instr.lookup ty (.map (some r)) (.string (mk t)) c).run P w=.ok (if c then .tuple #[int i64 0,.bool false] else int i64 0) w:=by
 have C:=Z9j h 0 0;have H:w.heap[r]?=some (.map (esS L 0).toArray L.length):=G;have B:(Instr.checkKey (esS L 0).toArray.isEmpty (9999+1) k (.string (mk t))).run P w=.ok () w:=Go.MapKept.run_checkKey hk (by simp [MapKept.IsKey]) _ 9999;simp only [Instr.lookup,Instr.findKey,Sem.run_bind,Sem.run_pure,zy F,zy hk,Go.MapKept.run_getObj_map H,B,C,D,Result.andThen_ok]
theorem Z0C (G:P.underlying ty=some (.map k e))(hk:P.underlying k=some .string)(H:SMap w r L)(h:Z4r L t=none)(v:Int) : (Instr.mapUpdate ty (.map (some r)) (.string (mk t)) (int i64 v)).run P w=.ok () (w.putObj r (.map (esS (L++[(t,v)]) 0).toArray (L++[(t,v)]).length)):=by
 have F:=Z9j h 0 0;have B:w.heap[r]?=some (.map (esS L 0).toArray L.length):=H;have D:(Instr.checkKey false (9999+1) k (.string (mk t))).run P w=.ok () w:=Go.MapKept.run_checkKey hk (by simp [MapKept.IsKey]) false 9999;have C:∀ (L:List (Bytes × Int)) (i:Nat),esS (L++[(t,v)]) i=esS L i++[{ key:=.string (mk t),val:=int i64 v,born:=i+L.length }]:=by
  intro L;induction L with
  | nil=>intro i;rfl
  | cons x r ih=>intro i;simp only [zc2,esS,ih,zw];rw [show i+1+r.length=i+(r.length+1) by omega]
 simp only [Instr.mapUpdate,Instr.findKey,Sem.run_bind,Sem.run_pure,zy G,zy hk,Go.MapKept.run_getObj_map B,D,F,Result.andThen_ok];rw [Go.MapKept.run_setObj_map _ B,C];simp [World.putObj]
end
theorem SMap.on {w w':World}{r:Nat}{L:List (Bytes × Int)}(h:SMap w r L)(hb:w'.heap[r]?=w.heap[r]?):SMap w' r L:=hb.trans h
theorem SMap.lt {w:World}{r:Nat}{L:List (Bytes × Int)}(h:SMap w r L):r<w.heap.size:=(zs h)
theorem SMap.new (w:World):SMap (w.alloc (.map #[] 0)) w.heap.size []:=za w (.map #[] 0)
def Zbm (n:Nat):List (Bytes × Int) :=
 if n=1 then [([111,114],14)] else if n=2 then [([97,110,100],13)] else if n=4 then [([43],4),([45],5)] else if n=5 then [([42],6),([47],7)] else []
theorem Zew (n:Nat)(B:lft n)(t:Bytes):Z4r (Zbm n) t=if Px.opAt n t=0 then none else some (Px.opAt n t):=by
 unfold lft at B;rcases B with rfl | rfl | rfl | rfl
 · simp only [Zbm,Px.opAt,Z4r,if_true];by_cases h:t=[111,114]
   · simp [h]
   · simp [h,Ne.symm h]
 · simp only [Zbm,Px.opAt,Z4r,if_true];by_cases h:t=[97,110,100]
   · simp [h]
   · simp [h,Ne.symm h]
 · simp only [Zbm,Px.opAt,Z4r,if_true];by_cases h:t=[43]
   · simp [h]
   · by_cases h2:t=[45]
     · simp [h2]
     · simp [h,h2,Ne.symm h,Ne.symm h2]
 · simp only [Zbm,Px.opAt,Z4r,if_true];by_cases h:t=[42]
   · simp [h]
   · by_cases h2:t=[47]
     · simp [h2]
     · simp [h,h2,Ne.symm h,Ne.symm h2]
end
end Go.Proofs.YtnepkoepbapgeaaGreatDoor
