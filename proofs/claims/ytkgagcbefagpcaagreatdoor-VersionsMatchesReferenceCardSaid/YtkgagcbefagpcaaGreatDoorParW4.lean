import Derived.Test.YtkgagcbefagpcaaGreatDoorLexW5
import Derived.Lib.SmallJoins
import Derived.LaidMore
import Derived.Stop.Joined
import Derived.HandedShaped
import Derived.Lay
import Derived.RegionDies
namespace Go.Proofs.YtkgagcbefagpcaaGreatDoor
open _root_.Go.Proofs.Tryz
open Value (int slice)
open IntKind (i64)
set_option maxHeartbeats 4000000
set_option maxRecDepth 100000
section
open Go.RowKit Lx
def Z37 (t:Tok):List Value:=[vI t.1,vI t.2.1,.string (mk t.2.2)]
def cellsOf (ts:List Tok):List Value:=ts.flatMap Z37
theorem ZbB (ts:List Tok)(t:Tok):cellsOf (ts++[t])=cellsOf ts++Z37 t:=by simp [cellsOf]
theorem ZdB (ts:List Tok)(k j:Nat)(h:k<ts.length)(C:j<3):(cellsOf ts)[k*3+j]?=(Z37 ts[k])[j]?:=by
 induction ts generalizing k with
 | nil=>simp at h
 | cons t ts ih =>
  have B:cellsOf (t::ts)=Z37 t++cellsOf ts:=by simp [cellsOf]
  rw [B];cases k with
  | zero=>simp only [Nat.zero_mul,Nat.zero_add,List.getElem_cons_zero];rw [List.getElem?_append_left (by simp [Z37];omega)]
  | succ k =>
   rw [List.getElem?_append_right (by simp [Z37];omega)];have:=ih k (by simpa using h);simp only [Z37,zw,zx,List.getElem_cons_succ] at this |-
   rw [<- this];congr 1;omega
def Zny (w:World)(p:Addr)(t:Tok):Prop := w.cell? p=some (vI t.1)/\w.cell? ⟨p.block,p.off+1,none⟩=some (vI t.2.1)/\w.cell? ⟨p.block,p.off+2,none⟩=some (.string (mk t.2.2))
theorem Z4B (a:Addr)(n:Nat):(a.add n).block=a.block:=by unfold Addr.add;split <;> rfl
def Sl (w:World)(B:Nat)(v:Value)(ts:List Tok):Prop := ∃ A c,v=slice A ts.length c/\∀ k,(h:k<ts.length)->∃ ad:Addr,A=some ad/\ad.block<B/\Zny w (ad.add (k*3)) ts[k]
theorem Sl.nil (w:World)(B:Nat):Sl w B (slice none 0 0) []:=⟨none,0,rfl,λk h=>absurd h (by simp)⟩
theorem Zny.keep {w w':World}{p:Addr}{t:Tok}(h:Zny w p t)(hk:∀ q:Addr,q.block=p.block->w'.cell? q=w.cell? q):Zny w' p t := ⟨(hk p rfl).trans h.1,(hk ⟨p.block,p.off+1,none⟩ rfl).trans h.2.1,(hk ⟨p.block,p.off+2,none⟩ rfl).trans h.2.2⟩
theorem Sl.below {w w':World}{B:Nat}{v:Value}{ts:List Tok}(h:Sl w B v ts)(hb:Below B w w'):Sl w' B v ts:=by
 obtain ⟨A,c,D,hk⟩:=h;refine ⟨A,c,D,λk h=>?_⟩;obtain ⟨ad,e,C,F⟩:=hk k h;exact ⟨ad,e,C,F.keep λq hq=>hb.cell (by rw [hq,Z4B];exact C)⟩
theorem Sl.mono {w:World}{B C:Nat}{v:Value}{ts:List Tok}(h:Sl w B v ts)(hb:B<=C):Sl w C v ts:=by
 obtain ⟨A,c,D,hk⟩:=h;exact ⟨A,c,D,λk h=>let ⟨ad,e,hlt,ht⟩:=hk k h;⟨ad,e,by omega,ht⟩⟩
theorem Sl.of_own {w:World}{base:Nat}{e:TypeId}{v:Value}{ts:List Tok}(h:w.ownsRow base e 3 v ts.length (cellsOf ts)):Sl w w.heap.size v ts:=by
 rcases h.2 with ⟨B,D⟩ | ⟨g,cap,H,B,_,F,_,_,_,_⟩
 . have:ts=[]:=List.length_eq_zero_iff.1 D;subst this;exact ⟨none,0,B,λk h=>absurd h (by simp)⟩
 . refine ⟨some ⟨g,0,none⟩,cap,B,λk hk=>⟨⟨g,0,none⟩,rfl,?_,?_⟩⟩
   . exact (zF2.1 F).1
   . subst B;have C:∀ j,j<3->w.cell? ⟨g,k*3+j,none⟩=(Z37 ts[k])[j]?:=λj hj=>by rw [h.cellAt (k*3+j) (by omega),ZdB ts k j hk hj]
     have G:((⟨g,0,none⟩:Addr).add (k*3))=⟨g,k*3,none⟩:=by unfold Addr.add;split <;> simp_all
     rw [G];exact ⟨C 0 (by omega),C 1 (by omega),C 2 (by omega)⟩
end
section
namespace Px
open Lx
def Ev (E:Nat->Option Res)(r:Res):Prop:=∃ f0,∀ f,f0<=f->E f=some r
theorem Zjp (r:Res):Ev (λ_=>some r) r:=⟨0,λ_ _=>rfl⟩
theorem Ev_rd {n:Nat}{acc:Option Ex}{ts:List Bytes}{r:Res}(h:Rd n acc ts r):Ev (λf=>rd f n acc ts) r:=by
 obtain ⟨f,B⟩:=h;exact ⟨f,λg hg=>Z85 B hg⟩
theorem Z3j {n:Nat}{acc:Option Ex}{ts s:List Bytes}{e:Ex}{K:Nat->Ex->List Bytes->Option Res}{r:Res}(h:Rd n acc ts (.ok e s))(hk:Ev (λf=>K f e s) r):Ev (λf=>bnd (rd f n acc ts) (K f)) r:=by
 obtain ⟨f,C⟩:=Ev_rd h;obtain ⟨g,B⟩:=hk;refine ⟨max f g,λx hx=>?_⟩;have D:rd x n acc ts=some (.ok e s):=C x (by omega);show bnd (rd x n acc ts) (K x)=some r;rw [D];exact B x (by omega)
theorem Z1k {n:Nat}{acc:Option Ex}{ts s:List Bytes}{K:Nat->Ex->List Bytes->Option Res}(h:Rd n acc ts (.no s)):Ev (λf=>bnd (rd f n acc ts) (K f)) (.no s):=by
 obtain ⟨f,B⟩:=Ev_rd h;refine ⟨f,λx hx=>?_⟩;have C:rd x n acc ts=some (.no s):=B x hx;show bnd (rd x n acc ts) (K x)=_;rw [C];rfl
theorem Z2w {t:Bytes}{ts:List Bytes}{K:Nat->List Bytes->Option Res}{r:Res}(hk:Ev (λf=>K f ts) r):Ev (λf=>mst t (t::ts) (K f)) r:=by
 obtain ⟨g,B⟩:=hk;exact ⟨g,λx hx=>by simp only [mst,if_true];exact B x hx⟩
theorem Z3k {t:Bytes}{ts:List Bytes}{K:Nat->List Bytes->Option Res}(h:ts.head?≠some t):Ev (λf=>mst t ts (K f)) (.no ts):=by
 refine ⟨0,λx _=>?_⟩;cases ts with
 | nil=>rfl
 | cons u r =>
  have:¬ u=t:=by simpa using h
  simp only [mst,zf this]
theorem Z7C {n:Nat}{acc:Option Ex}{ts:List Bytes}{r:Res}{E:Nat->Option Res}(he:∀ f,Z2v (rd f) n acc ts=E f)(h:Ev E r):Rd n acc ts r:=by
 obtain ⟨g,B⟩:=h;exact ⟨g+1,(he g).trans (B g (zn _))⟩
theorem Z6c {ts:List Bytes}{r:Res}(h:Ev (λf=>bnd (rd f 0 none ts) λa r=>mst kThen r λr=>bnd (rd f 0 none r) λb r=>mst kElse r λr=>bnd (rd f 0 none r) λc r=>some (.ok (triE 10 a b c) r)) r):Rd 0 none (kIf::ts) r:=by
 refine Z7C (λf=>?_) h;simp only [Z2v,List.head?_cons,List.tail_cons,if_true]
theorem Zhd {n:Nat}(C:n≠0)(B:n≠3)(D:n<=5){ts s:List Bytes}(F:Rd (n+1) none ts (.no s)):Rd n none ts (.no s):=by
 refine Z7C (λf=>?_) (Z1k F (K:=λf e r=>rd f n (some e) r));simp only [Z2v];rw [zf C,zf B,zp D]
theorem Z9E {n:Nat}{e:Ex}{u:Bytes}{ts s:List Bytes}(B:opAt n u≠0)(C:Rd (n+1) none ts (.no s)):Rd n (some e) (u::ts) (.no s):=by
 refine Z7C (λf=>?_) (Z1k C (K:=λf b r'=>rd f n (some (Z3D (opAt n u) e b)) r'));simp only [Z2v];rw [zf B]
theorem Zjq {ts s:List Bytes}(B:Rd 3 none ts (.no s)):Rd 3 none (kNot::ts) (.no s):=by
 refine Z7C (λf=>?_) (Z1k B (K:=λ_ e r=>some (.ok (oneE 15 e) r)));simp only [Z2v,List.head?_cons,List.tail_cons,if_true];rw [zf (by decide)]
theorem Zjr {ts s:List Bytes}(h:ts.head?≠some kNot)(B:Rd 4 none ts (.no s)):Rd 3 none ts (.no s):=by
 refine Z7C (λf=>?_) (Z1k B (K:=λf e r=>match r with
  | []=>some (.ok e [])
  | u::r'=>if opAt 3 u=0 then some (.ok e (u::r')) else bnd (rd f 4 none r') λb r''=>some (.ok (Z3D (opAt 3 u) e b) r'')))
 simp only [Z2v,if_true];rw [zf (by decide),zf h];rfl
theorem ZbC {ts r s:List Bytes}{u:Bytes}{e:Ex}(h:ts.head?≠some kNot)(C:Rd 4 none ts (.ok e (u::r)))(B:opAt 3 u≠0)(D:Rd 4 none r (.no s)):Rd 3 none ts (.no s):=by
 refine Z7C (λf=>?_) (Z3j C (K:=λf e r=>match r with
  | []=>some (.ok e [])
  | u::r'=>if opAt 3 u=0 then some (.ok e (u::r')) else bnd (rd f 4 none r') λb r''=>some (.ok (Z3D (opAt 3 u) e b) r'')) ?_)
 . simp only [Z2v,if_true];rw [zf (by decide),zf h];rfl
 . simp only [zf B];exact Z1k D
theorem ZdC:Rd 6 none [] (.no []):=⟨1,rfl⟩
theorem Z3c {t:Bytes}{ts:List Bytes}{r:Res}(D:Z0e t≠2)(C:Z0e t≠3)(B:¬ Z4x t > 0)(hb:Z2c t > 0) (h:Ev (λf=>mst [40] ts λr=>bnd (rd f 0 none r) λa r=>mst [44] r λr=>bnd (rd f 0 none r) λb r=>mst [41] r λr=>some (.ok (Z3D (Z2c t) a b) r)) r):Rd 6 none (t::ts) r:=by
 refine Z7C (λf=>?_) h;simp only [Z2v];rw [zf (by decide),zf (by decide),zf (by decide)];simp only [zf D,zf C,zf B,zp hb]
theorem Z6d {t:Bytes}{ts:List Bytes}{r:Res}(D:Z0e t≠2)(C:Z0e t≠3)(B:¬ Z4x t > 0)(hb:¬ Z2c t > 0) (h:Ev (λf=>mst [40] (t::ts) λr=>bnd (rd f 0 none r) λe r=>mst [41] r λr=>some (.ok e r)) r):Rd 6 none (t::ts) r:=by
 refine Z7C (λf=>?_) h;simp only [Z2v];rw [zf (by decide),zf (by decide),zf (by decide)];simp only [zf D,zf C,zf B,zf hb]
theorem Zrq {t:Bytes}(r:List Bytes)(D:Z0e t≠2)(C:Z0e t≠3)(B:Z4x t > 0):Rd 6 none (t::r) (.ok ((3,Z4x t),.nil) r):=⟨1,by
 simp only [Z3i,Z2v];rw [zf (by decide),zf (by decide),zf (by decide)];rw [zf D,zf C,zp B]⟩
end Px
end
section
namespace Px
open Lx
theorem idx46:∀ s:Bytes,(Go.Lib.index s [46] = -1/\s.filter (· != 46)=s)\/∃ a b,s=a++46::b/\Go.Lib.index s [46]=a.length/\a.filter (· != 46)=a:=by
 intro s;induction s with
 | nil=>exact .inl ⟨rfl,rfl⟩
 | cons c s ih =>
  by_cases h:c=46
  . subst h;exact .inr ⟨[],s,rfl,by simp [Go.Lib.index],rfl⟩
  . have F:([46]:Bytes).isPrefixOf (c::s)=false:=by simp [List.isPrefixOf,Ne.symm h]
    have D:(c != 46)=true:=by simpa using h
    rcases ih with ⟨B,C⟩ | ⟨a,b,e,B,C⟩
    . refine .inl ⟨?_,by simp [D,C]⟩;rw [Go.Lib.index,F,B];rfl
    . refine .inr ⟨c::a,b,by rw [e];rfl,?_,by simp [D,C]⟩;rw [Go.Lib.index,F,B];have:((a.length:Int) == -1)=false:=by rw [beq_eq_false_iff_ne];omega
      simp [this]
theorem repl46:∀ (f:Nat) (s:Bytes),s.length<f->Go.Lib.replaceK [46] [] (Go.Lib.countFrom [46] f s) s=s.filter (· != 46):=by
 intro f;induction f with
 | zero=>intro s h;omega
 | succ f ih =>
  intro s h;rcases idx46 s with ⟨B,C⟩ | ⟨a,b,e,B,C⟩
  . rw [Go.Lib.countFrom,B,C];rfl
  . have F:(Go.Lib.index s [46] == -1)=false:=by rw [B,beq_eq_false_iff_ne];omega
    have G:(Go.Lib.index s [46]).toNat=a.length:=by rw [B];omega
    have D:s.drop (a.length+1)=b:=by rw [e];simp
    have H:s.take a.length=a:=by rw [e];simp
    have hb:b.length<f:=by rw [e] at h;simp at h;omega
    rw [Go.Lib.countFrom,F,G];simp only [List.length_singleton,Bool.false_eq_true,if_false];rw [D,Nat.add_comm,Go.Lib.replaceK,F,G];simp only [List.length_singleton,Bool.false_eq_true,if_false];rw [D,H,ih b hb,e];simp [C]
theorem ZbD (s:Bytes):Go.Lib.replaceAll s [46] []=s.filter (· != 46):=by
 unfold Go.Lib.replaceAll Go.Lib.replace Go.Lib.replaceNum;rw [zf (by decide),zp (.inl (by omega))];exact repl46 (s.length+1) s (by omega)
theorem ZdD:∀ (l:Bytes) (acc:Nat),l.all (inR 48 57)=true->∃ m:Nat,Go.Lib.decFrom acc l=some m/\(m:Int)=l.foldl (λn c=>10*n+((c.toNat:Int) - 48)) (acc:Int):=by
 intro l;induction l with
 | nil=>intro acc _;exact ⟨acc,rfl,rfl⟩
 | cons c l ih =>
  intro acc h;simp only [List.all_cons,zd] at h;have C:48<=c.toNat/\c.toNat<=57:=by have:=h.1;simp only [inR,zd,decide_eq_true_eq] at this;omega
  obtain ⟨m,D,B⟩:=ih (acc*10+(c.toNat - 48)) h.2;refine ⟨m,?_,?_⟩
  . rw [Go.Lib.decFrom,Go.Lib.digitVal,zp C];exact D
  . rw [B,List.foldl_cons];congr 1;omega
theorem Zfb (l:Bytes)(h:l.all (inR 48 57)=true)(C:l≠[]):Go.Lib.atoi l=some (val l):=by
 obtain ⟨m,G,B⟩:=ZdD l 0 h;cases l with
 | nil=>exact absurd rfl C
 | cons c r =>
  simp only [List.all_cons,zd] at h;have F:(c==45)=false:=by rw [beq_eq_false_iff_ne];rintro rfl;exact absurd h.1 (by decide)
  have D:(c==43)=false:=by rw [beq_eq_false_iff_ne];rintro rfl;exact absurd h.1 (by decide)
  rw [Go.Lib.atoi,F,D];simp only [Go.Lib.decNat,List.isEmpty_cons,Bool.false_eq_true,if_false,G,Option.map_some];rw [B];rfl
theorem Znz (t:Bytes)(h:Z0e t=2\/Z0e t=3):Go.Lib.atoi (t.filter (· != 46))=some (dval t)/\(t.filter (· != 46)).length<=18/\t.length<=100:=by
 have key:Z3E t=true\/Zcg t=true:=by
  unfold Z0e at h;split at h
  . omega
  . split at h
    . left;assumption
    . split at h
      . right;assumption
      . split at h <;> omega
 rcases key with C | B
 . simp only [Z3E,allR,zd,Bool.not_eq_true',List.isEmpty_eq_false_iff,decide_eq_true_eq] at C;have D:t.filter (· != 46)=t:=by rw [List.filter_eq_self];intro c F;have:=Zdw C.1.1.2 F;simp only [bne_iff_ne];rintro rfl;exact absurd this (by decide)
   unfold dval;rw [D];exact ⟨Zfb t C.1.1.2 C.1.1.1,by omega,by omega⟩
 . simp only [Zcg,Z3E,allR,zd,Bool.not_eq_true',List.isEmpty_eq_false_iff,decide_eq_true_eq] at B;have G:=Zdv t B.1.1.1.1;have I:∀ l:Bytes,l.all (inR 48 57)=true->l.filter (· != 46)=l:=by intro l H;rw [List.filter_eq_self];intro c F;have:=Zdw H F;simp only [bne_iff_ne];rintro rfl;exact absurd this (by decide)
   have D:t.filter (· != 46)=Ze5 t++frac t:=by
    conv=>lhs;rw [G]
    rw [List.filter_append,I _ B.1.1.1.2.1.1.2,List.filter_cons];simp [I _ B.1.2.2]
   have hw:(Ze5 t).length<=9:=B.1.1.1.2.1.2;have H:t.length=(Ze5 t).length+1+(frac t).length:=by have:=congrArg List.length G;simp at this;omega
   have J:(frac t).length=2:=B.1.1.2;unfold dval;rw [D];refine ⟨Zfb _ ?_ ?_,by simp;omega,by omega⟩
   . rw [List.all_append,B.1.1.1.2.1.1.2,B.1.2.2];rfl
   . intro e;exact B.1.1.1.2.1.1.1 (List.append_eq_nil_iff.1 e).1
end Px
end
section
open Go.RowKit Lx Px
structure But (pb:Nat) (w w':World):Prop where
 os:w'.os=w.os
 tape:w'.tape=w.tape
 output:w'.output=w.output
 size:w.heap.size<=w'.heap.size
 block:∀ k,k<w.heap.size->k≠pb->w'.heap[k]?=w.heap[k]?
theorem But.refl (pb:Nat)(w:World):But pb w w:=⟨rfl,rfl,rfl,zn _,λ_ _ _=>rfl⟩
theorem But.trans {pb:Nat}{a b c:World}(h:But pb a b)(k:But pb b c):But pb a c := ⟨k.os.trans h.os,k.tape.trans h.tape,k.output.trans h.output,zt h.size k.size,λi hi hn=>(k.block i (by have:=h.size;omega) hn).trans (h.block i hi hn)⟩
theorem But.of_below {pb:Nat}{w w':World}(h:Below w.heap.size w w'):But pb w w':=⟨h.os,h.tape,h.output,h.size,λk hk _=>h.block k hk⟩
theorem But.below {pb:Nat}{w w':World}(h:But pb w w')(B:pb<=w.heap.size):Below pb w w':=⟨h.os,h.tape,h.output,h.size,λk hk=>h.block k (by omega) (by omega)⟩
theorem But.cell {pb:Nat}{w w':World}(h:But pb w w'){p:Addr}(B:p.block<w.heap.size)(C:p.block≠pb):w'.cell? p=w.cell? p:=World.cell?_of_block (w:=w) (h.block p.block B C)
theorem But.drew {pb:Nat}{w w':World}(h:But pb w w'):But pb w w'.drew:=⟨h.os,h.tape,h.output,h.size,h.block⟩
theorem But.alloc {pb:Nat}{w w':World}(h:But pb w w')(o:Obj):But pb w (w'.alloc o) := h.trans ⟨rfl,rfl,rfl,by simp,λk hk _=>Below.heap_alloc _ _ _ hk⟩
theorem But.set {pb:Nat}{w w':World}(h:But pb w w'){p:Addr}(B:p.block=pb)(v:Value):But pb w (w'.setCell p v) := h.trans ⟨rfl,rfl,rfl,by simp [World.setCell],λk _ hn=>zg _ _ _ _ (by rw [B];exact hn)⟩
theorem But.on {pb:Nat}{a w w':World}(h:But pb a w)(hb:Below w.heap.size w w'):But pb a w':=h.trans (But.of_below hb)
def txt (ts:List Tok)(k:Nat):List Bytes:=(ts.drop k).map (·.2.2)
theorem ZaC (ts:List Tok)(k:Nat)(h:ts.length<=k):txt ts k=[]:=by simp [txt,List.drop_eq_nil_of_le h]
theorem txt_at (ts:List Tok)(k:Nat)(h:k<ts.length):txt ts k=ts[k].2.2::txt ts (k+1):=by
 unfold txt;rw [List.drop_eq_getElem_cons h];rfl
def Knd (ts:List Tok):Prop:=∀ t∈ts,t.1=Z0e t.2.2/\Z0e t.2.2≠0
def nxt (ts:List Tok)(k:Nat):Bytes:=if h:k<ts.length then ts[k].2.2 else []
theorem nxt_at (ts:List Tok)(k:Nat)(h:k<ts.length):nxt ts k=ts[k].2.2:=by unfold nxt;rw [dif_pos h]
theorem Z5F (ts:List Tok)(k:Nat)(h:¬ k<ts.length):nxt ts k=[]:=by unfold nxt;rw [dif_neg h]
def Z3H (ts:List Tok)(k:Nat):Int:=match ts[min k (ts.length - 1)]? with
 | some t=>t.2.1
 | none=>1
def Mx (w:World)(B:Nat):Prop:=∃ m:Int,w.cell? ⟨1,0,none⟩=some (vI m)/\1<B
theorem Mx.on {w w':World}{B:Nat}(h:Mx w B)(hb:Below B w w'):Mx w' B:=by
 obtain ⟨m,D,C⟩:=h;exact ⟨m,(hb.cell (p:=⟨1,0,none⟩) C).trans D,C⟩
def PI (w:World)(pb:Nat)(v:Value)(ts:List Tok)(k:Nat):Prop := w.heap[pb]?=some (.cells #[v,vI k] 131 (0,0))/\Sl w pb v ts/\k<=ts.length/\ts.length<=1000000/\Knd ts/\Mx w pb
theorem PI.lt {w:World}{pb k:Nat}{v:Value}{ts:List Tok}(h:PI w pb v ts k):pb<w.heap.size:=(zF2.1 h.1).1
theorem PI.on {w w':World}{pb k:Nat}{v:Value}{ts:List Tok}(h:PI w pb v ts k)(hb:Below w.heap.size w w'):PI w' pb v ts k :=
 have B:=hb.mono (show pb<=w.heap.size by have:=h.lt;omega)
 ⟨(hb.block _ h.lt).trans h.1,h.2.1.below B,h.2.2.1,h.2.2.2.1,h.2.2.2.2.1,h.2.2.2.2.2.on B⟩
theorem PI.cell0 {w:World}{pb k:Nat}{v:Value}{ts:List Tok}(h:PI w pb v ts k):w.cell? ⟨pb,0,none⟩=some v:=by rw [zH h.1];rfl
theorem PI.cell1 {w:World}{pb k:Nat}{v:Value}{ts:List Tok}(h:PI w pb v ts k):w.cell? ⟨pb,1,none⟩=some (vI k):=by rw [zH h.1];rfl
theorem PI.drew {w:World}{pb k:Nat}{v:Value}{ts:List Tok}(h:PI w pb v ts k):PI w.drew pb v ts k:=h.on ((zr _ _).drew)
theorem PI.set {w:World}{pb k:Nat}{v:Value}{ts:List Tok}(h:PI w pb v ts k)(B:Nat)(hk:B<=ts.length):PI (w.setCell ⟨pb,1,none⟩ (vI B)) pb v ts B:=by
 have C:Below pb w (w.setCell ⟨pb,1,none⟩ (vI B)):=(zr _ _).setCell (p:=⟨pb,1,none⟩) (zn _) _;refine ⟨?_,h.2.1.below C,hk,h.2.2.2.1,h.2.2.2.2.1,h.2.2.2.2.2.on C⟩;have F:=h.lt;have D:=h.1;simp only [World.setCell,zM,if_true,D,Option.map_some];simp
theorem PI.tok {w:World}{pb k:Nat}{v:Value}{ts:List Tok}(h:PI w pb v ts k){j:Nat}(F:j<ts.length):∃ (p:Addr) (c:Nat),v=slice (some p) ts.length c/\p.block<pb/\w.cell? (p.add (j*3))=some (vI ts[j].1) /\ w.cell? ⟨(p.add (j*3)).block,(p.add (j*3)).off+1,none⟩=some (vI ts[j].2.1)/\w.cell? ⟨(p.add (j*3)).block,(p.add (j*3)).off+2,none⟩=some (.string (mk ts[j].2.2)):=by
 obtain ⟨A,c,e,hk⟩:=h.2.1;obtain ⟨ad,B,D,C,G,H⟩:=hk j F;subst B;exact ⟨ad,c,e,D,C,G,H⟩
theorem PI.slice {w:World}{pb k:Nat}{v:Value}{ts:List Tok}(h:PI w pb v ts k):∃ A c,v=slice A ts.length c:=by
 obtain ⟨A,c,e,_⟩:=h.2.1;exact ⟨A,c,e⟩
theorem PI.far {w:World}{pb k:Nat}{v:Value}{ts:List Tok}(h:PI w pb v ts k){p:Addr}(C:pb<p.block)(x:Value):PI (w.setCell p x) pb v ts k:=by
 have B:Below (pb+1) w (w.setCell p x):=(zr _ _).setCell (p:=p) (by omega) _;exact ⟨(B.block _ (by omega)).trans h.1,h.2.1.below (B.mono (by omega)),h.2.2.1,h.2.2.2.1,h.2.2.2.2.1,h.2.2.2.2.2.on (B.mono (by omega))⟩
theorem But.new {pb:Nat}{w w':World}(h:But pb w w'){p:Addr}(B:w.heap.size<=p.block)(v:Value):But pb w (w'.setCell p v) := ⟨h.os,h.tape,h.output,by simp [World.setCell];exact h.size,λk hk hn=>(zg _ _ _ _ (by omega)).trans (h.block k hk hn)⟩
def Z9v (w:World)(D:Nat->Prop):Fo->Option Addr->Nat->Prop
 | .nil,_,_=>True
 | .node _ _ a l r,A,k =>(∃ (ad:Addr) (A':Option Addr) (c:Nat),A=some ad/\D ad.block/\w.cell? (ad.add (k*3))=some (vI a.1)/\w.cell? ⟨(ad.add (k*3)).block,(ad.add (k*3)).off+1,none⟩=some (vI a.2) /\ w.cell? ⟨(ad.add (k*3)).block,(ad.add (k*3)).off+2,none⟩=some (slice A' (flen l) c)/\Z9v w D l A' 0)/\Z9v w D r A (k+1)
theorem Z9v.keep {w w':World}{D E:Nat->Prop}(H:∀ b,D b->E b)(J:∀ b,D b->w'.heap[b]?=w.heap[b]?):∀ (f:Fo) (A:Option Addr) (k:Nat),Z9v w D f A k->Z9v w' E f A k:=by
 intro f;induction f with
 | nil=>intro A k _;trivial
 | node b o a l r ihl ihr =>
  intro A k h;obtain ⟨⟨ad,C,c,e,F,G,N,I,M⟩,L⟩:=h;have hb:D (ad.add (k*3)).block:=by rw [Z10];exact F
  have B:=J _ hb;exact ⟨⟨ad,C,c,e,H _ F,(World.cell?_of_block (w:=w) B).trans G,(World.cell?_of_block (w:=w) (a:=⟨(ad.add (k*3)).block,(ad.add (k*3)).off+1,none⟩) B).trans N,(World.cell?_of_block (w:=w) (a:=⟨(ad.add (k*3)).block,(ad.add (k*3)).off+2,none⟩) B).trans I,ihl C 0 M⟩,ihr A (k+1) L⟩
theorem Z9v.at {w:World}{D:Nat->Prop}{B:Nat}(G:∀ b,D b->b<B):∀ (f:Fo) (A:Option Addr) (k:Nat),Z9v w D f A k->FoAt w B f A k:=by
 intro f;induction f with
 | nil=>intro A k _;trivial
 | node b o a l r ihl ihr =>intro A k h;obtain ⟨⟨ad,C,c,e,I,F,M,H,L⟩,J⟩:=h;exact ⟨⟨ad,C,c,e,G _ I,F,M,H,ihl C 0 L⟩,ihr A (k+1) J⟩
def FoD (w:World)(D:Nat->Prop)(v:Value)(f:Fo):Prop:=∃ A c,v=slice A (flen f) c/\Z9v w D f A 0
theorem FoD.keep {w w':World}{D E:Nat->Prop}{v:Value}{f:Fo}(h:FoD w D v f)(F:∀ b,D b->E b)(B:∀ b,D b->w'.heap[b]?=w.heap[b]?):FoD w' E v f:=by
 obtain ⟨A,c,e,C⟩:=h;exact ⟨A,c,e,Z9v.keep F B f A 0 C⟩
theorem FoD.v {w:World}{D:Nat->Prop}{v:Value}{f:Fo}(h:FoD w D v f){B:Nat}(F:∀ b,D b->b<B):FoV w B v f:=by
 obtain ⟨A,c,e,C⟩:=h;exact ⟨A,c,e,Z9v.at F f A 0 C⟩
theorem FoD.nil (w:World)(D:Nat->Prop):FoD w D (slice none 0 0) .nil:=⟨none,0,rfl,trivial⟩
theorem Z6e (g k:Nat):((⟨g,0,none⟩:Addr).add k)=⟨g,k,none⟩:=by unfold Addr.add;split <;> simp_all
theorem FoD.one {w:World}{D:Nat->Prop}{g:Nat}{a:Int × Int}{A:Option Addr}{c:Nat}{l:Fo}(B:D g)(hw:w.heap[g]?=some (.cells #[vI a.1,vI a.2,slice A (flen l) c] 79 (0,0)))(h:FoD w D (slice A (flen l) c) l)(n:Nat) : FoD w D (slice (some ⟨g,0,none⟩) 1 n) (.node 0 0 a l .nil):=by
 obtain ⟨F,c',e,C⟩:=h;injection e with e1 _ e3
 subst e1 e3;refine ⟨some ⟨g,0,none⟩,n,rfl,⟨⟨g,0,none⟩,A,c,rfl,B,?_,?_,?_,C⟩,trivial⟩ <;> (simp only [Z6e];rw [zH hw];rfl)
theorem FoD.two {w:World}{D:Nat->Prop}{g:Nat}{a C:Int × Int}{A F:Option Addr}{c c2:Nat}{l B:Fo}(G:D g) (hw:w.heap[g]?=some (.cells #[vI a.1,vI a.2,slice A (flen l) c,vI C.1,vI C.2,slice F (flen B) c2] 79 (0,0))) (h:FoD w D (slice A (flen l) c) l) (I:FoD w D (slice F (flen B) c2) B) (n:Nat) : FoD w D (slice (some ⟨g,0,none⟩) 2 n) (.node 0 0 a l (.node 0 0 C B .nil)):=by
 obtain ⟨H,c',e,J⟩:=h;injection e with e1 _ e3
 subst e1 e3;obtain ⟨H,c',e,L⟩:=I;injection e with e1 _ e3
 subst e1 e3;refine ⟨some ⟨g,0,none⟩,n,rfl,⟨⟨g,0,none⟩,A,c,rfl,G,?_,?_,?_,J⟩,⟨⟨g,0,none⟩,F,c2,rfl,G,?_,?_,?_,L⟩,trivial⟩ <;> (simp only [Z6e];rw [zH hw];rfl)
theorem FoD.three {w:World}{D:Nat->Prop}{g:Nat}{a F I:Int × Int}{A G H:Option Addr}{c c2 c3:Nat}{l B l3:Fo}(C:D g) (hw:w.heap[g]?=some (.cells #[vI a.1,vI a.2,slice A (flen l) c,vI F.1,vI F.2,slice G (flen B) c2,vI I.1,vI I.2,slice H (flen l3) c3] 79 (0,0))) (h:FoD w D (slice A (flen l) c) l) (L:FoD w D (slice G (flen B) c2) B) (O:FoD w D (slice H (flen l3) c3) l3) (n:Nat) : FoD w D (slice (some ⟨g,0,none⟩) 3 n) (.node 0 0 a l (.node 0 0 F B (.node 0 0 I l3 .nil))):=by
 obtain ⟨J,c',e,N⟩:=h;injection e with e1 _ e3
 subst e1 e3;obtain ⟨J,c',e,R⟩:=L;injection e with e1 _ e3
 subst e1 e3;obtain ⟨J,c',e,M⟩:=O;injection e with e1 _ e3
 subst e1 e3;refine ⟨some ⟨g,0,none⟩,n,rfl,⟨⟨g,0,none⟩,A,c,rfl,C,?_,?_,?_,N⟩,⟨⟨g,0,none⟩,G,c2,rfl,C,?_,?_,?_,R⟩,⟨⟨g,0,none⟩,H,c3,rfl,C,?_,?_,?_,M⟩,trivial⟩ <;> (simp only [Z6e];rw [zH hw];rfl)
theorem Zjs (ts:List Tok)(k:Nat):(txt ts k).length=ts.length - k:=by simp [txt]
theorem Zjt {ts:List Tok}{i j:Nat}(C:i<=ts.length)(B:j<=ts.length)(h:txt ts i=txt ts j):i=j:=by
 have:=congrArg List.length h;rw [Zjs,Zjs] at this;omega
def esS:List (Bytes × Int)->Nat->List MapEntry
 | [],_=>[]
 | x::r,i=>{ key:=.string (mk x.1),val:=vI x.2,born:=i }::esS r (i+1)
def SMap (w:World)(r:Nat)(L:List (Bytes × Int)):Prop:=w.heap[r]?=some (.map (esS L 0).toArray L.length)
def Z4y (L:List (Bytes × Int))(t:Bytes):Option Int:=(L.find? (λx=>x.1==t)).map (·.2)
theorem ZdE (a b:Bytes):Instr.sameNow .string (.string (mk a)) (.string (mk b))=some (b==a):=by
 obtain ⟨r,C,B⟩:=MapKept.sameNow_of_keys (d:=.string) (a:=.string (mk a)) (b:=.string (mk b)) trivial trivial;rw [C];congr 1;by_cases h:a=b
 . subst h;rw [B.2 rfl];exact (beq_self_eq_true _).symm
 . have:r=false:=by
    cases r with
    | false=>rfl
    | true =>
     have:=B.1 rfl;injection this with this
     exact absurd (mk_inj this) h
   rw [this];exact (beq_eq_false_iff_ne.2 (Ne.symm h)).symm
theorem Z8C (t:Bytes):∀ (L:List (Bytes × Int)) (i j:Nat),Instr.findNow .string (.string (mk t)) (esS L i) j=some ((L.findIdx? (λx=>x.1==t)).bind λm=>(Z4y L t).map λv=>(j+m,vI v)):=by
 intro L;induction L with
 | nil=>intro i j;rfl
 | cons x r ih =>
  intro i j;simp only [esS,Instr.findNow,ZdE];cases hx:x.1==t with
  | true=>simp [List.findIdx?_cons,Z4y,hx]
  | false =>
   dsimp only;rw [ih];simp only [List.findIdx?_cons,hx,Z4y,List.find?_cons];cases List.findIdx? (λx=>x.1==t) r with
   | none=>rfl
   | some m =>simp;rw [show j+1+m=j+(m+1) by omega]
theorem ZbE {t:Bytes}{L:List (Bytes × Int)}{v:Int}(h:Z4y L t=some v):∃ i,Instr.findNow .string (.string (mk t)) (esS L 0) 0=some (some (i,vI v)):=by
 rw [Z8C,h];cases hf:L.findIdx? (λx=>x.1==t) with
 | some m=>exact ⟨0+m,rfl⟩
 | none =>exfalso;rw [List.findIdx?_eq_none_iff] at hf;unfold Z4y at h;rw [Option.map_eq_some_iff] at h;obtain ⟨x,C,_⟩:=h;have D:=List.find?_some C;have B:=hf x (List.mem_of_find?_eq_some C);rw [D] at B;cases B
theorem Z9F {t:Bytes}{L:List (Bytes × Int)}(h:Z4y L t=none)(i j:Nat):Instr.findNow .string (.string (mk t)) (esS L i) j=some none:=by
 rw [Z8C,h];cases L.findIdx? (λx=>x.1==t) <;> rfl
section
variable {P:Program} {w:World} {ty k e:TypeId} {r:Nat} {L:List (Bytes × Int)} {t:Bytes}
theorem Z4d (F:P.underlying ty=some (.map k e))(hk:P.underlying k=some .string)(D:SMap w r L){v:Int}(h:Z4y L t=some v)(c:Bool) : (Instr.lookup ty (.map (some r)) (.string (mk t)) c).run P w=.ok (if c then .tuple #[vI v,.bool true] else vI v) w:=by
 obtain ⟨i,C⟩:=ZbE h;have B:w.heap[r]?=some (.map (esS L 0).toArray L.length):=D;have G:(Instr.checkKey (esS L 0).toArray.isEmpty (9999+1) k (.string (mk t))).run P w=.ok () w:=Go.MapKept.run_checkKey hk (by simp [MapKept.IsKey]) _ 9999;simp only [Instr.lookup,Instr.findKey,Sem.run_bind,Sem.run_pure,zy F,zy hk,Go.MapKept.run_getObj_map B,G,C,Result.andThen_ok]
theorem Z4e (G:P.underlying ty=some (.map k e))(hk:P.underlying k=some .string)(D:SMap w r L)(h:Z4y L t=none)(F:(zeroValue e).run P w=.ok (vI 0) w)(c:Bool) : (Instr.lookup ty (.map (some r)) (.string (mk t)) c).run P w=.ok (if c then .tuple #[vI 0,.bool false] else vI 0) w:=by
 have C:=Z9F h 0 0;have B:w.heap[r]?=some (.map (esS L 0).toArray L.length):=D;have H:(Instr.checkKey (esS L 0).toArray.isEmpty (9999+1) k (.string (mk t))).run P w=.ok () w:=Go.MapKept.run_checkKey hk (by simp [MapKept.IsKey]) _ 9999;simp only [Instr.lookup,Instr.findKey,Sem.run_bind,Sem.run_pure,zy G,zy hk,Go.MapKept.run_getObj_map B,H,C,F,Result.andThen_ok]
theorem Z0z (G:P.underlying ty=some (.map k e))(hk:P.underlying k=some .string)(F:SMap w r L)(h:Z4y L t=none)(v:Int) : (Instr.mapUpdate ty (.map (some r)) (.string (mk t)) (vI v)).run P w=.ok () (w.putObj r (.map (esS (L++[(t,v)]) 0).toArray (L++[(t,v)]).length)):=by
 have C:=Z9F h 0 0;have B:w.heap[r]?=some (.map (esS L 0).toArray L.length):=F;have H:(Instr.checkKey false (9999+1) k (.string (mk t))).run P w=.ok () w:=Go.MapKept.run_checkKey hk (by simp [MapKept.IsKey]) false 9999;have D:∀ (L:List (Bytes × Int)) (i:Nat),esS (L++[(t,v)]) i=esS L i++[{ key:=.string (mk t),val:=vI v,born:=i+L.length }]:=by
  intro L;induction L with
  | nil=>intro i;rfl
  | cons x r ih=>intro i;simp only [zc2,esS,ih,zw];rw [show i+1+r.length=i+(r.length+1) by omega]
 simp only [Instr.mapUpdate,Instr.findKey,Sem.run_bind,Sem.run_pure,zy G,zy hk,Go.MapKept.run_getObj_map B,H,C,Result.andThen_ok];rw [Go.MapKept.run_setObj_map _ B,D];simp [World.putObj]
end
theorem SMap.on {w w':World}{r:Nat}{L:List (Bytes × Int)}(h:SMap w r L)(hb:w'.heap[r]?=w.heap[r]?):SMap w' r L:=hb.trans h
theorem SMap.lt {w:World}{r:Nat}{L:List (Bytes × Int)}(h:SMap w r L):r<w.heap.size:=(zF2.1 h).1
theorem SMap.new (w:World):SMap (w.alloc (.map #[] 0)) w.heap.size []:=za w (.map #[] 0)
def ZbF (n:Nat):List (Bytes × Int) :=
 if n=1 then [([111,114],14)] else if n=2 then [([97,110,100],13)] else if n=4 then [([43],4),([45],5)] else if n=5 then [([42],6),([47],7)] else []
theorem Zfc (n:Nat)(B:lft n)(t:Bytes):Z4y (ZbF n) t=if Px.opAt n t=0 then none else some (Px.opAt n t):=by
 unfold lft at B;rcases B with rfl | rfl | rfl | rfl
 . simp only [ZbF,Px.opAt,Z4y,if_true];by_cases h:t=[111,114]
   . simp [h]
   . simp [h,Ne.symm h]
 . simp only [ZbF,Px.opAt,Z4y,if_true];by_cases h:t=[97,110,100]
   . simp [h]
   . simp [h,Ne.symm h]
 . simp only [ZbF,Px.opAt,Z4y,if_true];by_cases h:t=[43]
   . simp [h]
   . by_cases h2:t=[45]
     . simp [h2]
     . simp [h,h2,Ne.symm h,Ne.symm h2]
 . simp only [ZbF,Px.opAt,Z4y,if_true];by_cases h:t=[42]
   . simp [h]
   . by_cases h2:t=[47]
     . simp [h2]
     . simp [h,h2,Ne.symm h,Ne.symm h2]
end
section
open Go.ChangeShapes Go.WideShapes Go.ChangeAt Go.RowKit Go.Deep Lx Px
theorem Tryz.cellsExpr:Tryz.prog.cellsOf 79=3:=by kernel_rfl
theorem ZbG (a:Addr)(n j:Nat)(B:j≠0):a.add (n+j)=⟨(a.add n).block,(a.add n).off+j,none⟩:=by
 unfold Addr.add;rw [zf (by omega)];by_cases h:n=0
 . subst h;simp
 . rw [zf h];simp [Nat.add_assoc]
def FoEl (w:World)(B:Nat)(ad:Addr)(k:Nat)(a:Int × Int)(l:Fo):Prop := ∃ (A':Option Addr) (c:Nat),ad.block<B/\w.cell? (ad.add (k*3))=some (vI a.1)/\w.cell? ⟨(ad.add (k*3)).block,(ad.add (k*3)).off+1,none⟩=some (vI a.2) /\ w.cell? ⟨(ad.add (k*3)).block,(ad.add (k*3)).off+2,none⟩=some (slice A' (flen l) c)/\FoAt w B l A' 0
theorem Zju {w:World}{B:Nat}{ad:Addr}:∀ (j i:Nat),(∀ k,i<=k->k<i+j->∃ a l,FoEl w B ad k a l)->∃ f:Fo,flen f=j/\FoAt w B f (some ad) i:=by
 intro j;induction j with
 | zero=>intro i _;exact ⟨.nil,rfl,trivial⟩
 | succ j ih =>intro i h;obtain ⟨a,l,G,c,D,L,F,J,I⟩:=h i (zn _) (by omega);obtain ⟨f,H,C⟩:=ih (i+1) (λk hk hk2=>h k (by omega) (by omega));exact ⟨.node 0 0 a l f,by simp [flen,H],⟨⟨ad,G,c,rfl,D,L,F,J,I⟩,C⟩⟩
theorem Z8D {w:World}{p:Addr}{v:Value}(h:w.cell? p=some v):p.block<w.heap.size:=by
 rcases Nat.lt_or_ge p.block w.heap.size with B | B
 . exact B
 . unfold World.cell? at h;simp [Array.getElem?_eq_none B] at h
theorem Z8E {H:Type}{enc:TypeId × Value->H}{W:World}{n:Nat}{cs:List Value}{y:DataW H × List MemPlace}(h:DataW.trod enc prog W 0 (λ_=>true) true n 79 cs=some y) : ∃ (op k:Int) (v:Value) (B:Nat) (y2:DataW H × List MemPlace),cs=[vI op,vI k,v]/\n=B+1/\DataW.trod enc prog W 0 (λ_=>true) true B 77 [v]=some y2:=by
 obtain ⟨I,B,O,_,M,T,G⟩:=DataW.trod_struct underlying79 h;rw [Tryz.cellsExpr] at M;obtain ⟨c0,c1,c2,rfl⟩:∃ c0 c1 c2,cs=[c0,c1,c2]:=by
  match cs,M with
  | [c0,c1,c2],_=>exact ⟨c0,c1,c2,rfl⟩
 obtain ⟨D,F,C,rfl⟩:∃ D F C,I=[D,F,C]:=by
  have X:I.length=3:=T
  match I,X with
  | [D,F,C],_=>exact ⟨D,F,C,rfl⟩
 have R:DataW.trod enc prog W 0 (λ_=>true) true B 3 [c0]=some D:=G 0 _ rfl;have N:DataW.trod enc prog W 0 (λ_=>true) true B 3 [c1]=some F:=G 1 _ rfl;have U:DataW.trod enc prog W 0 (λ_=>true) true B 77 [c2]=some C:=G 2 _ rfl;obtain ⟨S,L,_,_⟩:=DataW.trod_int underlying3 R;obtain ⟨V,J,_,_⟩:=DataW.trod_int underlying3 N;simp only [List.cons.injEq,and_true] at L J;subst L J;exact ⟨S,V,c2,B,C,rfl,O,U⟩
theorem Z7D {H:Type}{enc:TypeId × Value->H}{W:World}:∀ (D:Nat) (v:Value) (x:DataW H × List MemPlace),DataW.trod enc prog W 0 (λ_=>true) true D 77 [v]=some x->∃ l:Fo,FoV W W.heap.size v l/\flen l<=maxLen:=by
 intro D;induction D using Nat.strongRecOn with
 | ind D ih =>
  intro v x h;rcases DataW.trod_slice underlying77 h with ⟨C,_⟩ | ⟨a,M,cap,bc,rest,n,bd,J,ba,hb,hl,hm,bb,g,y,hns⟩
  . simp at C;subst C;exact ⟨.nil,⟨none,0,rfl,trivial⟩,by simp [flen]⟩
  . simp at J;subst J;obtain ⟨f,d,N⟩:=Zju (w:=W) (B:=W.heap.size) (ad:=a) M 0 (λk _ hk=>by
     have q:k<M:=by omega
     have he:=g k q;rw [zv (by omega),Option.bind_eq_some_iff] at he;obtain ⟨r,I,Y⟩:=he;obtain ⟨op,m,V,R,j,rfl,A,S⟩:=Z8E Y;obtain ⟨l,⟨U,c',rfl,X⟩,_⟩:=ih R (by omega) V j S;rw [Tryz.cellsExpr] at I;obtain ⟨_,_,F⟩:=World.cells?_some I;have C:=F 0 (by omega);have L:=F 1 (by omega);have G:=F 2 (by omega);have Z:(a.add (k*3)).add 0=a.add (k*3):=by rw [Go.Deep.add_add];rfl
     have O:(a.add (k*3)).add 1=⟨(a.add (k*3)).block,(a.add (k*3)).off+1,none⟩:=by rw [Go.Deep.add_add];exact ZbG a (k*3) 1 (by decide)
     have T:(a.add (k*3)).add 2=⟨(a.add (k*3)).block,(a.add (k*3)).off+2,none⟩:=by rw [Go.Deep.add_add];exact ZbG a (k*3) 2 (by decide)
     rw [Z] at C;rw [O] at L;rw [T] at G;refine ⟨(op,m),l,U,c',?_,C,L,G,X⟩;have:=Z8D C;rw [Z10] at this;exact this)
    exact ⟨f,⟨some a,cap,by rw [d],N⟩,by omega⟩
theorem Tryz.cellsRate:Tryz.prog.cellsOf 81=16:=by kernel_rfl
theorem Zfd {H:Type}{enc:TypeId × Value->H}{W:World}{n:Nat}{t:TypeId}{G D:Field}{c0 c1:Value}{y:DataW H × List MemPlace}(X:Tryz.prog.underlying t=some (.struct #[G,D]))(O:G.type=3/\G.offset=0)(S:D.type=3/\D.offset=1) (h:DataW.trod enc prog W 0 (λ_=>true) true n t [c0,c1]=some y):∃ a b:Int,c0=vI a/\c1=vI b:=by
 obtain ⟨I,J,Z,_,d,Y,T⟩:=DataW.trod_struct X h;obtain ⟨B,C,rfl⟩:∃ B C,I=[B,C]:=by
  have V:I.length=2:=Y
  match I,V with
  | [B,C],_=>exact ⟨B,C,rfl⟩
 have F:Tryz.prog.cellsOf 3=1:=by kernel_rfl
 have R:=T 0 G rfl;have M:=T 1 D rfl;rw [O.1,O.2,F] at R;rw [S.1,S.2,F] at M;obtain ⟨U,N,_,_⟩:=DataW.trod_int underlying3 (show DataW.trod enc prog W 0 (λ_=>true) true J 3 [c0]=some B from R);obtain ⟨F,L,_,_⟩:=DataW.trod_int underlying3 (show DataW.trod enc prog W 0 (λ_=>true) true J 3 [c1]=some C from M);simp only [List.cons.injEq,and_true] at N L;exact ⟨U,F,N,L⟩
end
section
open Go.ChangeShapes Go.WideShapes Go.ChangeAt Go.RowKit Go.Deep Lx Px
theorem Tryz.gPow:Tryz.prog.globalNamed "internal/strconv.uint64pow10" = some 2:=by kernel_rfl
theorem Tryz.gNames:Tryz.prog.globalNamed "innkeeper/printer.names" = some 0:=by kernel_rfl
theorem Z3m {H:Type}{enc:TypeId × Value->H}{w:World}{base:Nat}{D:Nat->Bool}{G:Bool}{F:Nat}{c:Value}{y:DataW H × List MemPlace} (h:DataW.trod enc prog w base D G F 9 [c]=some y):∃ s:ByteArray,c=.string s/\y=(.lit (.string s.data.toList),[]):=by
 obtain ⟨s,B,C,_⟩:=DataW.trod_string underlying9 h;simp only [List.cons.injEq,and_true] at B;exact ⟨s,B,C⟩
theorem Z40 {s:ByteArray}{l:List UInt8}(h:s.data.toList=l):s=mk l:=by rw [<- Zb3 s];exact congrArg mk h
theorem Tryz.cellsNames:Tryz.prog.cellsOf 225=5:=by kernel_rfl
theorem Tryz.cellsStr:Tryz.prog.cellsOf 9=1:=by kernel_rfl
theorem ZaD {H:Type}{enc:TypeId × Value->H}{w:World}{base:Nat}{O:Nat->Bool}{S:Bool}{B:Nat}{l:List Value}{p:List MemPlace} (h:DataW.trod enc prog w base O S B 225 l=some (Rows.laid_innkeeper_printer_names,p)):l=[.string (mk []),.string (mk (Z5A 1)),.string (mk (Z5A 2)),.string (mk (Z5A 3)),.string (mk (Z5A 4))]:=by
 cases B with
 | zero=>simp [DataW.trod] at h
 | succ B =>
  simp only [DataW.trod,underlying225,Tryz.cellsNames,Tryz.cellsStr] at h;split at h
  . rename_i N;obtain ⟨c0,c1,c2,c3,c4,rfl⟩:∃ c0 c1 c2 c3 c4,l=[c0,c1,c2,c3,c4]:=by
     match l,N with
     | [a,b,c,d,e],_=>exact ⟨a,b,c,d,e,rfl⟩
    have e:List.range 5=[0,1,2,3,4]:=rfl;rw [e] at h;simp only [Option.map_eq_some_iff,List.mapM_cons,List.mapM_nil,Option.bind_eq_bind,Option.bind_eq_some_iff,Option.pure_def,Option.some.injEq] at h;obtain ⟨j,⟨r,L,_,⟨Y,M,_,⟨y,F,_,⟨X,R,_,⟨Z,U,_,rfl,rfl⟩,rfl⟩,rfl⟩,rfl⟩,rfl⟩,C⟩:=h;obtain ⟨V,rfl,rfl⟩:=Z3m L;obtain ⟨q,rfl,rfl⟩:=Z3m M;obtain ⟨g,rfl,rfl⟩:=Z3m F;obtain ⟨f,rfl,rfl⟩:=Z3m R;obtain ⟨m,rfl,rfl⟩:=Z3m U;simp only [Rows.laid_innkeeper_printer_names,List.map_cons,List.map_nil,Prod.mk.injEq,DataW.agg.injEq,List.cons.injEq,DataW.lit.injEq,Lit.string.injEq,and_true] at C;obtain ⟨⟨I,G,D,J,T⟩,_⟩:=C;rw [Z40 I,Z40 G,Z40 D,Z40 J,Z40 T];rfl
  . cases h
end
section
open Go.ChangeShapes Go.WideShapes Go.ChangeAt Go.RowKit Go.Deep Lx Px
theorem ZbH {W:World}(h:W.ShapedOpen prog):Mx W W.heap.size:=by
 obtain ⟨m,B⟩:=Tryz.laysM155.s1_3 W h;exact ⟨m,B,World.block_lt_of_cell? _ _ B⟩
theorem Z78 {H:Type}{enc:TypeId × Value->H}{a:Assume}{C:Checked}{os:Os}{f:FuncId}{B:Func}{s:ChangeSpec}{L:List PathCond}{F N O M:Bool}{X:World->Array Value->Prop} (Z:∀ (w w':World) (args:Array Value),w.heap=w'.heap->X w args->X w' args) (own:ownKnob C.prog.godebug=none) (Y:os.Started) (noInit:C.prog.inits.idxOf? f=none) (r:C.prog.funcs[f]?=some B) (y:∃ (w:World) (D:Tape) (i:Input),w.os=os/\(w.forCall D i).Shaped C.prog/\i.vars=[]/\Input.okWide C.prog (w.forCall D i) .any w.heap.size f i /\ ((s.pre enc C.prog B L F (w.forCall D i).memory i.args/\X (w.forCall D i).memory i.args)/\sizedMet enc C.prog B (OpenSpec.ofChange s) F (w.forCall D i).memory i.args)/\a.holds C.prog (lone (Frame.enter C.prog f i.args .normal) [] (w.forCall D i))) (d:∀ (W:World) (base:Nat) (args:Array Value) (G I:List (DataW H)) (J:List MemPlace), (∀ (j:Nat) t v,B.params[j]?=some t->args[j]?=some v->Value.okWide C.prog W .any base t v) -> DataW.Whole enc C.prog B.params.toList s.vars F W args.toList G I J -> L.all (PathCond.test C.prog ⟨B.params.toList,G,s.plain.varTypes C.prog,I⟩)=true -> (DataW.weightsEach C.prog (B.params.toList++s.plain.varTypes C.prog) (G++I)).all (·<=reachBytes)=true->X W args->W.ShapedOpen C.prog -> a.holds C.prog (lone (Frame.enter C.prog f args .normal) [] W) -> Calls C.prog f args W λe W'=>∃ v,e=.returned v/\s.post enc C.prog B F N O M W args v W') : ReturnsInHanded a C os f .any (λw args=>(s.pre enc C.prog B L F w args/\X w args)/\sizedMet enc C.prog B (OpenSpec.ofChange s) F w args) (s.post enc C.prog B F N O M):=by
 refine returnsInHanded_of_calls own Y noInit y ?_;intro w D i _ m _ T ba R;obtain ⟨_,_,_,A,U,_,_,_,_,S⟩:=T;have e:A=B:=Option.some.inj (U.symm.trans r);subst e;obtain ⟨⟨⟨G,I,J,hw,V⟩,g⟩,l⟩:=ba;have q:=DataW.Whole.of_heap (w':=w.forCall D i) (by rfl) hw;refine (d (w.forCall D i) w.heap.size i.args G I J S q V (l.weights hw) (Z _ _ _ (by rfl) g) m R).mono λe W' ⟨v,he,hp⟩=>?_;subst he;exact ChangeSpec.post_blind hp
end
section
open Go.ChangeShapes Go.WideShapes Go.ChangeAt Go.RowKit Go.Deep Lx Px
def Z8F:List (String × DataW Unit):=[("math/bits.deBruijn32tab", Rows.laid_math_bits_deBruijn32tab),("math/bits.deBruijn64tab", Rows.laid_math_bits_deBruijn64tab),("internal/strconv.uint64pow10", Rows.laid_internal_strconv_uint64pow10),("unicode/utf8.acceptRanges", Rows.laid_unicode_utf8_acceptRanges),("strconv.ErrRange", Rows.laid_strconv_ErrRange),("strconv.ErrSyntax", Rows.laid_strconv_ErrSyntax),("innkeeper/printer.names", Rows.laid_innkeeper_printer_names),("unicode/utf8.first", Rows.laid_unicode_utf8_first)]
theorem Zhe (os:Os)(args:Array Value):laidMetH prog Z8F ((World.laidAll prog os Z8F).forCall (λ_ _=>0) ⟨#[],args,[]⟩).memory:=by
 rw [MakeChecks.laidMetH_plain _ _ _ (by kernel_rfl)];exact laidMet_laidAll _ (by kernel_rfl) (by kernel_rfl)
theorem Zjv {W:World}(h:laidMetH prog Z8F W):Tabs W.heap.size W:=by
 rw [MakeChecks.laidMetH_plain _ _ _ (by kernel_rfl)] at h;obtain ⟨ps,⟨g0,t0,cs0,f0,p0,q0,hg0,ht0,hv0,hd0,⟨g1,t1,cs1,f1,p1,q1,hg1,ht1,hv1,hd1,⟨g2,t2,cs2,f2,p2,q2,hg2,ht2,hv2,hd2,⟨g3,t3,cs3,f3,p3,q3,hg3,ht3,hv3,hd3,⟨g4,t4,cs4,f4,p4,q4,hg4,ht4,hv4,hd4,⟨g5,t5,cs5,f5,p5,q5,hg5,ht5,hv5,hd5,⟨g6,t6,cs6,f6,p6,q6,hg6,ht6,hv6,hd6,⟨g7,t7,cs7,f7,p7,q7,hg7,ht7,hv7,hd7,_,_⟩,_⟩,_⟩,_⟩,_⟩,_⟩,_⟩,_⟩,_,_⟩:=h;have hT2:(Tryz.prog.globals[2]?).map (·.type)=some 265:=by kernel_rfl
 have hT6:(Tryz.prog.globals[0]?).map (·.type)=some 225:=by kernel_rfl
 obtain rfl:=Option.some.inj (Tryz.gPow.symm.trans hg2);obtain rfl:=Option.some.inj (Tryz.gNames.symm.trans hg6);obtain rfl:=Option.some.inj (hT2.symm.trans ht2);obtain rfl:=Option.some.inj (hT6.symm.trans ht6);have htab:Lib.TabIs prog W "internal/strconv.uint64pow10" .u64 Lib.pow10Tab:=by have hd2':DataW.trod _ prog W 0 _ _ f2 265 cs2.toList=some (Lib.tabData .u64 Lib.pow10Tab,p2):=hd2;have:=Lib.cells_of_tab underlying265 underlying27 (by kernel_rfl) (by kernel_rfl) hd2';unfold Lib.TabIs;rw [hv2,<- this]
 have hnm:=ZaD hd6;have hlt:0<W.heap.size:=by
  have:=hv6;unfold World.var? at this;rw [Tryz.gNames] at this;simp only [Option.bind_some] at this;rcases Nat.lt_or_ge 0 W.heap.size with h1 | h1
  . exact h1
  . rw [Array.getElem?_eq_none h1] at this;cases this
 refine ⟨Lib.tabBelow_of_tabIs htab,hlt,zn _,?_⟩;intro k h1 h2;have hc:=World.var?_cell Tryz.gNames hv6 k;rw [<- Array.getElem?_toList,hnm] at hc;rcases (show k=1\/k=2\/k=3\/k=4 by omega) with rfl | rfl | rfl | rfl
 all_goals exact hc
end
section
open Go.RowKit Lx Px
def kdAt (ts:List Tok)(k:Nat):Int:=if h:k<ts.length then ts[k].1 else 0
def lnAt (ts:List Tok)(k:Nat):Int:=if h:k<ts.length then ts[k].2.1 else 0
def tokV (ts:List Tok)(k:Nat):Value:=.agg #[vI (kdAt ts k),vI (lnAt ts k),.string (mk (nxt ts k))]
def RBox (w:World)(cs:Array Value)(ty:TypeId)(wx:World):Prop:=wx.heap[w.heap.size]?=some (.cells cs ty (0,0))
theorem RBox.on {w B C:World}{cs:Array Value}{ty:TypeId}(h:RBox w cs ty B)(hb:Below B.heap.size B C):RBox w cs ty C:=(hb.block _ (zF2.1 h).1).trans h
theorem RBox.lt {w B:World}{cs:Array Value}{ty:TypeId}(h:RBox w cs ty B):w.heap.size<B.heap.size:=(zF2.1 h).1
theorem RBox.cell {w B:World}{cs:Array Value}{ty:TypeId}(h:RBox w cs ty B)(i:Nat)(v:Value)(C:cs[i]?=some v):B.cell? ⟨w.heap.size,i,none⟩=some v:=by rw [zH h,C]
theorem RBox.free {w B:World}{cs:Array Value}{ty:TypeId}(h:RBox w cs ty B)(i:Nat):B.frozen? ⟨w.heap.size,i,none⟩=false:=by
 have C:B.heap[w.heap.size]?=some (.cells cs ty (0,0)):=h;simp [World.frozen?,C]
theorem Z5G (w:World)(n:Nat):Below w.heap.size w (w.drewN n):=Z04 (zr _ _) n
theorem Z2q (w:World)(pb:Nat)(v:Value)(ts:List Tok)(k:Nat)(h:PI w pb v ts k) : Calls prog 86 #[.pointer (some ⟨pb,0,none⟩)] w λe w'=>e=.returned (tokV ts k)/\Below w.heap.size w w':=by
 have m:=h.lt;have r:=h.2.2.1;have j:=h.2.2.2.1;have D:Below w.heap.size w (w.alloc (.cells #[vI 0,vI 0,.string ⟨#[]⟩] 126)):=(zr _ _).alloc (zn _) _;have L:RBox w #[vI 0,vI 0,.string ⟨#[]⟩] 126 (w.alloc (.cells #[vI 0,vI 0,.string ⟨#[]⟩] 126)):=za w _;have B:=h.on D;have c1:=B.cell1;by_cases hk:k<ts.length
 . have F:tokV ts k=.agg #[vI ts[k].1,vI ts[k].2.1,.string (mk ts[k].2.2)]:=by simp [tokV,kdAt,lnAt,nxt,hk]
   rw [F];obtain ⟨A,c,rfl⟩:=B.slice;have c0:=B.cell0;have d:((k:Int)==(ts.length:Int))=false:=by rw [beq_eq_false_iff_ne];omega
   obtain ⟨H,N,M⟩:=zh3 D B L;clear D h B F L;go_enter func86,ntmps86;go_wp2_with fail;go_quiet (fail);go_wp2_with fail;generalize w.alloc (.cells #[vI 0,vI 0,.string ⟨#[]⟩] 126)=J at *
   have G:=N.o.on (Z5G J nq);have S:=Z04 H.o nq;have O:=M.o.on (Z5G J nq);clear c0 c1 N H M;generalize J.drewN nq=R at *
   obtain ⟨p,c',e,y,Z,Y,X⟩:=G.tok hk;injection e with I _ e3
   subst I e3;have c0:=G.cell0;have c1:=G.cell1;go_still_tail 10,(by kernel_rfl)
   change wpList _ _ _ _ _ R.drew;have C:=O.on (zr _ _).drew;have V:=S.drew;clear c0 c1 Z Y X G S O;generalize R.drew=q at *
   have U:=C.cell 0 _ rfl;have I:=C.cell 1 _ rfl;have T:=C.cell 2 _ rfl;have l:=C.free 0;have g:=C.free 1;have f2:=C.free 2;go_wp2_with fail;refine bodyPost_ret (by simp [results,results86,go_sem,U,I,T]) rfl ⟨rfl,?_⟩;exact ((V.setCell (p:=⟨w.heap.size,0,none⟩) (zn _) _).setCell (p:=⟨w.heap.size,1,none⟩) (zn _) _).setCell (p:=⟨w.heap.size,2,none⟩) (zn _) _
 . have f:k=ts.length:=by omega
   subst f;obtain ⟨A,c,rfl⟩:=B.slice;have c0:=B.cell0;have d:((ts.length:Int)==(ts.length:Int))=true:=by simp
   have H:=zh D;have F:tokV ts ts.length=.agg #[vI 0,vI 0,.string ⟨#[]⟩]:=by simp [tokV,kdAt,lnAt,nxt,mk]
   rw [F];clear D h B F L;go_enter func86,ntmps86;go_wp2_with fail;go_quiet (fail);go_wp2_with fail;refine bodyPost_ret (by simp [results,results86,go_sem]) rfl ⟨rfl,?_⟩;exact (((Z04 H.o nq).setCell (p:=⟨w.heap.size,0,none⟩) (zn _) _).setCell (p:=⟨w.heap.size,1,none⟩) (zn _) _).setCell (p:=⟨w.heap.size,2,none⟩) (zn _) _
theorem Z8b (a b:Int)(s:ByteArray)(w:World):(Instr.field 126 (.agg #[vI a,vI b,.string s]) 2).run prog w=.ok (.string s) w:=by kernel_rfl
theorem Zfe (a b:Int)(s:ByteArray)(w:World):(Instr.field 126 (.agg #[vI a,vI b,.string s]) 1).run prog w=.ok (vI b) w:=by kernel_rfl
theorem str_ne {a b:Bytes}(h:a≠b):((mk a).toList==(mk b).toList)=false:=by
 have e:∀ l:Bytes,(mk l).toList=l:=λl=>by rw [ByteArray.toList_eq];rfl
 rw [e,e];exact beq_eq_false_iff_ne.2 h
theorem str_eq (a:Bytes):((mk a).toList != (mk a).toList)=false:=by simp
theorem PI.free {w:World}{pb k:Nat}{v:Value}{ts:List Tok}(h:PI w pb v ts k)(i:Nat):w.frozen? ⟨pb,i,none⟩=false:=by
 simp [World.frozen?,h.1]
theorem Z2x (w:World)(pb:Nat)(v:Value)(ts:List Tok)(k:Nat)(h:PI w pb v ts k)(hk:k<ts.length)(s:Bytes)(C:nxt ts k=s) : Calls prog 158 #[.pointer (some ⟨pb,0,none⟩),.string (mk s)] w λe w'=>e=.returned (.bool true)/\PI w' pb v ts (k+1)/\But pb w w':=by
 have M:=h.2.2.2.1;have d:=str_eq s;have N:=Z8b;have H:=zh h;have G:=zh C;clear h C;go_enter func158,ntmps158;go_wp2_with fail;refine (Z2q _ pb v ts k H.o).mono ?_;rintro e L ⟨rfl,hb⟩;have B:=H.o.on hb;have D:But pb w L:=But.of_below hb;have F:tokV ts k=.agg #[vI (kdAt ts k),vI (lnAt ts k),.string (mk s)]:=by rw [tokV,G.o]
 rw [F];have c1:=B.cell1;have O:=B.free 1;have J:=zh B;have I:=zh D;clear B D F hb H G;go_wp2_with fail;go_ret;refine ⟨rfl,?_,I.o.set rfl _⟩;have:=J.o.set (k+1) (by omega);rw [show (((k+1:Nat)):Int)=(k:Int)+1 by omega] at this;exact this
theorem Z1y (w:World)(pb:Nat)(v:Value)(ts:List Tok)(k:Nat)(h:PI w pb v ts k)(s:Bytes)(B:nxt ts k≠s) : Calls prog 158 #[.pointer (some ⟨pb,0,none⟩),.string (mk s)] w λe w'=>e=.returned (.bool false)/\Below w.heap.size w w':=by
 have d:=str_ne B;have C:=Z8b;have H:=zh h;clear h B;go_enter func158,ntmps158;go_wp2_with fail;refine (Z2q _ pb v ts k H.o).mono ?_;rintro e D ⟨rfl,hb⟩;rw [tokV];go_wp2_with fail;go_ret;exact ⟨rfl,hb⟩
def Zc0 (ts:List Tok)(k:Nat):PanicEntry:={ v:=.iface 134 (.agg #[vI 8,vI (Z3H ts k)]),recovered:=false }
theorem Zff (w:World)(pb:Nat)(v:Value)(ts:List Tok)(k:Nat)(h:PI w pb v ts k) : Calls prog 159 #[.pointer (some ⟨pb,0,none⟩)] w λe w'=>e=.panicked [Zc0 ts k]/\Below w.heap.size w w':=by
 have H:=h.2.2.1;have G:=h.2.2.2.1;by_cases h0:0<ts.length
 . have C:min k (ts.length - 1)<ts.length:=by omega
   obtain ⟨p,c,rfl,M,L,J,N⟩:=h.tok C;have B:Z3H ts k=ts[min k (ts.length - 1)].2.1:=by unfold Z3H;rw [zv C]
   have O:min (k:Int) ((ts.length:Int) - 1)=((min k (ts.length - 1):Nat):Int):=by omega
   have c0:=h.cell0;have c1:=h.cell1;have I:IntKind.i64.wrap ((ts.length:Int) - 1)=(ts.length:Int) - 1:=zi _ (by omega);have d:decide ((0:Int)<ts.length)=true:=by simpa using h0
   rw [Zc0,B];go_enter func159,ntmps159;go_wp2_with fail;go_quiet (fail);go_wp2_with fail;exact ⟨rfl,rfl,Z5G w nq⟩
 . have F:ts.length=0:=by omega
   have D:ts=[]:=List.length_eq_zero_iff.1 F;subst D;obtain ⟨A,c,rfl⟩:=h.slice;have c0:=h.cell0;have c1:=h.cell1;have B:Z3H [] k=1:=by simp [Z3H]
   rw [Zc0,B];go_enter func159,ntmps159;go_wp2_with fail;exact ⟨rfl,rfl,zr _ _⟩
theorem Z1q (w:World)(pb:Nat)(v:Value)(ts:List Tok)(k:Nat)(h:PI w pb v ts k)(hk:k<ts.length)(s:Bytes)(B:nxt ts k=s) : Calls prog 115 #[.pointer (some ⟨pb,0,none⟩),.string (mk s)] w λe w'=>e=.returned (.tuple #[])/\PI w' pb v ts (k+1)/\But pb w w':=by
 have H:=zh h;have I:=zh B;clear h B;go_enter func115,ntmps115;go_wp2_with fail;refine (Z2x _ pb v ts k H.o hk s I.o).mono ?_;rintro e J ⟨rfl,D,C⟩;have F:=zh D;have G:=zh C;clear D C;go_wp2_with fail;exact ⟨rfl,_,results_none rfl _ _ _,rfl,F.o,G.o⟩
theorem Z2H (w:World)(pb:Nat)(v:Value)(ts:List Tok)(k:Nat)(h:PI w pb v ts k)(s:Bytes)(C:nxt ts k≠s) : Calls prog 115 #[.pointer (some ⟨pb,0,none⟩),.string (mk s)] w λe w'=>e=.panicked [Zc0 ts k]/\Below w.heap.size w w':=by
 have H:=zh h;have I:=zh C;clear h C;go_enter func115,ntmps115;go_wp2_with fail;refine (Z1y _ pb v ts k H.o s I.o).mono ?_;rintro e L ⟨rfl,B⟩;have D:=zh (H.o.on B);have F:=zh B;clear B;go_wp2_with fail;refine (Zff _ pb v ts k D.o).mono ?_;rintro e J ⟨rfl,G⟩;exact ⟨rfl,rfl,Z00 F.o G⟩
theorem Zfg {ts:List Tok}(B:Knd ts){k:Nat}(hk:k<ts.length):kdAt ts k=Z0e (nxt ts k):=by
 have:=(B ts[k] (List.getElem_mem hk)).1;simp [kdAt,nxt,hk,this]
theorem Z8G (w:World)(pb:Nat)(v:Value)(ts:List Tok)(k:Nat)(h:PI w pb v ts k)(hk:k<ts.length)(B:Int)(L:Z0e (nxt ts k)=B)(U:B=2\/B=3) : Calls prog 155 #[.pointer (some ⟨pb,0,none⟩),vI B] w λe w'=>e=.returned (vI (dval (nxt ts k)))/\PI w' pb v ts (k+1)/\But pb w w':=by
 have bb:=h.2.2.2.1;have q:kdAt ts k=B:=by rw [Zfg h.2.2.2.2.1 hk,L]
 obtain ⟨J,G,g⟩:=Znz (nxt ts k) (by rw [L];exact U);obtain ⟨t,O⟩:∃ t,nxt ts k=t:=⟨_,rfl⟩
 have Y:tokV ts k=.agg #[vI B,vI (lnAt ts k),.string (mk t)]:=by rw [tokV,q,O]
 rw [O] at J G g |-
 obtain ⟨u,N⟩:∃ u,t.filter (· != 46)=u:=⟨_,rfl⟩
 rw [N] at J G;have j:∀ (W:World) (m:Int),W.cell? ⟨1,0,none⟩=some (vI m)->Calls prog 196 #[.string (mk t),.string ⟨#[46]⟩,.string ⟨#[]⟩] W λe w'=>e=.returned (.string (mk u))/\Below W.heap.size W w':=by intro W m I;have:=Tryz.strings_ReplaceAll (mk t) ⟨#[46]⟩ ⟨#[]⟩ m W (by rw [Z06];omega) I (by decide) (by rw [Z06,show (⟨#[]⟩:ByteArray).size=0 from rfl];omega);rw [show (⟨(Lib.replaceAll (mk t).data.toList (⟨#[46]⟩:ByteArray).data.toList (⟨#[]⟩:ByteArray).data.toList).toArray⟩:ByteArray)=mk u by show mk (Lib.replaceAll t [46] [])=mk u;rw [ZbD,N]] at this;exact this
 have y:∀ W:World,Calls prog 195 #[.string (mk u)] W λe w'=>e=.returned (.tuple #[vI (dval t),.nilIface])/\∃ x,w'=Lib.bytesWorld W 5 x:=λW=>Tryz.strconv_Atoi (mk u) (dval t) (by rw [Z06];exact G) J W;obtain ⟨HR,HA,H,Z⟩:=zh4 j y h Y;have d:(B==B)=true:=by simp
 clear h L U q J G g O Y N j y;go_enter func155,ntmps155;go_wp2_with fail;refine (Z2q _ pb v ts k H.o).mono ?_;rintro e M ⟨rfl,hb⟩;rw [Z.o];have D:=H.o.on hb;have r:But pb w M:=But.of_below hb;have c1:=D.cell1;have A:=D.free 1;have ba:=D.lt;have l:=zh D;have V:=zh r;clear D r hb H Z;go_wp2_with fail;have F:=(l.o.set (k+1) (by omega)).on ((zr _ _).alloc (zn _) (.cells #[vI B,vI (lnAt ts k),.string (mk t)] 126));have T:But pb w ((M.setCell ⟨pb,1,none⟩ (vI ((k+1:Nat):Int))).alloc (.cells #[vI B,vI (lnAt ts k),.string (mk t)] 126)):=(V.o.set rfl _).alloc _;rw [show (((k+1:Nat)):Int)=(k:Int)+1 by omega] at F T;generalize (M.setCell ⟨pb,1,none⟩ (vI ((k:Int)+1))).alloc (.cells #[vI B,vI (lnAt ts k),.string (mk t)] 126)=W2 at *
 obtain ⟨m,I,_⟩:=F.2.2.2.2.2;refine (HR.o W2 m I).mono ?_;rintro e C ⟨rfl,S⟩;have X:=zh (F.on S);have f:=zh (T.on S);clear F T S l V c1 A ba I;go_wp2_with fail;refine (HA.o C).mono ?_;rintro e w4 ⟨rfl,x,rfl⟩;have R:Below C.heap.size C (Lib.bytesWorld C 5 x):=⟨rfl,rfl,rfl,by rw [Lib.bytesWorld_size];omega,λk hk=>Lib.bytesWorld_at_old _ _ _ k hk⟩
 have H4:=zh (X.o.on R);have B4:=zh (f.o.on R);clear R X f;generalize Lib.bytesWorld C 5 x=w4 at *
 go_wp2_with fail;go_ret;exact ⟨rfl,H4.o,B4.o⟩
theorem ZnA (w:World)(pb:Nat)(v:Value)(ts:List Tok)(k:Nat)(h:PI w pb v ts k)(C:Int)(D:kdAt ts k≠C) : Calls prog 155 #[.pointer (some ⟨pb,0,none⟩),vI C] w λe w'=>e=.panicked [Zc0 ts k]/\Below w.heap.size w w':=by
 have d:(kdAt ts k==C)=false:=beq_eq_false_iff_ne.2 D;have H:=zh h;clear h D;go_enter func155,ntmps155;go_wp2_with fail;refine (Z2q _ pb v ts k H.o).mono ?_;rintro e B ⟨rfl,hb⟩;rw [tokV];have J:=zh (H.o.on hb);have I:=zh hb;clear hb H;go_wp2_with fail;have F:Below B.heap.size B (B.alloc (.cells #[vI (kdAt ts k),vI (lnAt ts k),.string (mk (nxt ts k))] 126)):=(zr _ _).alloc (zn _) _;refine (Zff _ pb v ts k (J.o.on F)).mono ?_;rintro e L ⟨rfl,G⟩;exact ⟨rfl,rfl,Z00 (Z00 I.o F) G⟩
end
section
open Go.RowKit Lx Px
inductive Out where
 | ok (e:Ex) (k:Nat)
 | no (k:Nat)
def Out.res (ts:List Tok):Out->Res
 | .ok e k=>.ok e (txt ts k)
 | .no k=>.no (txt ts k)
def okK (ts:List Tok)(k:Nat):Out->Prop
 | .ok _ k'=>k<k'/\k'<=ts.length
 | .no k'=>k<=k'/\k'<=ts.length
def RP (pb:Nat)(v:Value)(ts:List Tok)(o:Out)(w:World)(e:Ending)(w':World):Prop :=
 match o with
 | .ok x k'=>But pb w w'/\PI w' pb v ts k'/\∃ A c,e=.returned (.agg #[vI x.1.1,vI x.1.2,slice A (flen x.2) c])/\FoD w' (λb=>w.heap.size<=b/\b<w'.heap.size) (slice A (flen x.2) c) x.2
 | .no k'=>But pb w w'/\e=.panicked [Zc0 ts k']
def RC (n:Nat)(g:FuncId)(pb:Nat)(v:Value)(ts:List Tok)(k:Nat):Prop := ∃ o:Out,Rd n none (txt ts k) (o.res ts)/\okK ts k o/\∀ w,PI w pb v ts k->Calls prog g #[.pointer (some ⟨pb,0,none⟩)] w (RP pb v ts o w)
theorem Zjw {ts:List Tok}{o:Out}{e:Ex}{k C:Nat}(h:o.res ts=.ok e (txt ts k))(hk:k<=ts.length)(B:okK ts C o):o=.ok e k:=by
 cases o with
 | ok e' k' =>simp only [Out.res,Res.ok.injEq] at h;rw [h.1,Zjt B.2 hk h.2]
 | no k'=>simp [Out.res] at h
theorem Zjx {ts:List Tok}{o:Out}{k C:Nat}(h:o.res ts=.no (txt ts k))(hk:k<=ts.length)(B:okK ts C o):o=.no k:=by
 cases o with
 | ok e' k'=>simp [Out.res] at h
 | no k' =>simp only [Out.res,Res.no.injEq] at h;rw [Zjt B.2 hk h]
theorem Z1i {ts:List Tok}{k:Nat}(h:k<ts.length):txt ts k=nxt ts k::txt ts (k+1):=by rw [txt_at ts k h,nxt_at ts k h]
theorem Zfh (n:Nat):Px.opAt n []=0:=by
 unfold Px.opAt
 repeat' split
 all_goals first | rfl | (exfalso;rename_i h;revert h;decide)
theorem ZaE {ts:List Tok}{n k:Nat}(e:Ex)(h:Px.opAt n (nxt ts k)=0):Rd n (some e) (txt ts k) (.ok e (txt ts k)):=by
 refine Zdx n e _ λu r hu=>?_;by_cases hk:k<ts.length
 . rw [Z1i hk] at hu;injection hu with hu _
   rw [<- hu];exact h
 . rw [ZaC ts k (by omega)] at hu;cases hu
theorem op_lt {ts:List Tok}{n k:Nat}(h:Px.opAt n (nxt ts k)≠0):k<ts.length:=by
 by_cases hk:k<ts.length
 . exact hk
 . rw [Z5F ts k hk,Zfh] at h;exact absurd rfl h
theorem Zfi (ts:List Tok)(n:Nat):∀ (d k:Nat) (e:Ex),ts.length - k<=d->k<=ts.length->(∀ k',k<k'->k'<=ts.length->∃ o:Out,Rd (n+1) none (txt ts k') (o.res ts)/\okK ts k' o) -> ∃ o:Out,Rd n (some e) (txt ts k) (o.res ts)/\(match o with | .ok _ k'=>k<=k'/\k'<=ts.length | .no k'=>k<=k'/\k'<=ts.length):=by
 intro d;induction d with
 | zero =>intro k e I hk _;refine ⟨.ok e k,ZaE e ?_,zn _,hk⟩;rw [Z5F ts k (by omega),Zfh]
 | succ d ih =>
  intro k e I hk D;by_cases h:Px.opAt n (nxt ts k)=0
  . exact ⟨.ok e k,ZaE e h,zn _,hk⟩
  . have F:=op_lt h;obtain ⟨o,H,B⟩:=D (k+1) (by omega) (by omega);cases o with
    | no k'=>exact ⟨.no k',by rw [Z1i F];exact Z9E h H,by have:=B.1;omega,B.2⟩
    | ok b k' =>
     have M:=B.1;have L:=B.2;obtain ⟨G,J,C⟩:=ih k' (Z3D (Px.opAt n (nxt ts k)) e b) (by omega) (by omega) (λx hx hx'=>D x (by omega) hx');refine ⟨G,by rw [Z1i F];exact Zjc h H J,?_⟩;cases G with
     | ok e2 k2=>exact ⟨by have:=C.1;omega,C.2⟩
     | no k2=>exact ⟨by have:=C.1;omega,C.2⟩
def Zc1 (pb:Nat)(w:World):Nat:=match w.cell? ⟨pb,1,none⟩ with
 | some (.int _ x)=>x.toNat
 | _=>0
theorem Z5c {w:World}{pb k:Nat}{v:Value}{ts:List Tok}(h:PI w pb v ts k):Zc1 pb w=k:=by simp [Zc1,h.cell1]
def Z5H (w:World)(pb:Nat)(n:Nat)(r b7:Nat)(e1:Ex)(A:Option Addr)(c:Nat)(wr:World):Prop := But pb w wr/\RBox w #[vI 0,vI 0,slice none 0 0] 79 wr/\wr.heap[b7]?=some (.cells #[vI e1.1.1,vI e1.1.2,slice A (flen e1.2) c] 79 (0,0)) /\ FoD wr (λb=>w.heap.size<b/\b≠b7/\b<wr.heap.size) (slice A (flen e1.2) c) e1.2/\SMap wr r (ZbF n)
theorem Z5H.but {w:World}{pb:Nat}{n:Nat}{r B:Nat}{D:Ex}{A:Option Addr}{c:Nat}{wr F:World}(h:Z5H w pb n r B D A c wr)(hb:But pb wr F)(N:pb<w.heap.size)(I:B≠pb)(M:r≠pb):Z5H w pb n r B D A c F:=by
 obtain ⟨J,H,G,L,C⟩:=h;exact ⟨J.trans hb,(hb.block _ H.lt (by omega)).trans H,(hb.block _ (zF2.1 G).1 I).trans G,L.keep (λb x=>⟨x.1,x.2.1,by have:=hb.size;have:=x.2.2;omega⟩) (λb x=>hb.block b x.2.2 (by have:=x.1;omega)),C.on (hb.block _ C.lt M)⟩
theorem Z5H.cell {w:World}{pb:Nat}{n:Nat}{r B:Nat}{C:Ex}{A:Option Addr}{c:Nat}{wr:World}(h:Z5H w pb n r B C A c wr) : wr.cell? ⟨B,0,none⟩=some (vI C.1.1)/\wr.cell? ⟨B,1,none⟩=some (vI C.1.2)/\wr.cell? ⟨B,2,none⟩=some (slice A (flen C.2) c):=by
 refine ⟨?_,?_,?_⟩ <;> (rw [zH h.2.2.1];rfl)
theorem Z5H.six {w:World}{pb:Nat}{n:Nat}{r B:Nat}{C:Ex}{A:Option Addr}{c:Nat}{wr:World}(h:Z5H w pb n r B C A c wr) : wr.cell? ⟨B,0,none⟩=some (vI C.1.1)/\wr.cell? ⟨B,1,none⟩=some (vI C.1.2)/\wr.cell? ⟨B,2,none⟩=some (slice A (flen C.2) c)/\wr.frozen? ⟨B,0,none⟩=false/\wr.frozen? ⟨B,1,none⟩=false/\wr.frozen? ⟨B,2,none⟩=false:=by
 refine ⟨h.cell.1,h.cell.2.1,h.cell.2.2,?_,?_,?_⟩ <;> simp [World.frozen?,h.2.2.1]
theorem Zjy {w:World}{b:Nat}{x y z B C D:Value}{ty:TypeId}(h:w.heap[b]?=some (.cells #[x,y,z] ty (0,0))):(((w.setCell ⟨b,0,none⟩ B).setCell ⟨b,1,none⟩ C).setCell ⟨b,2,none⟩ D).heap[b]?=some (.cells #[B,C,D] ty (0,0)):=by
 simp [World.setCell,zM,h]
theorem Zc2 {w:World}{b k:Nat}(hk:k≠b)(B C D:Value):(((w.setCell ⟨b,0,none⟩ B).setCell ⟨b,1,none⟩ C).setCell ⟨b,2,none⟩ D).heap[k]?=w.heap[k]?:=by
 rw [zg _ _ _ _ hk,zg _ _ _ _ hk,zg _ _ _ _ hk]
theorem Zc3 (w:World)(b:Nat)(B C D:Value):(((w.setCell ⟨b,0,none⟩ B).setCell ⟨b,1,none⟩ C).setCell ⟨b,2,none⟩ D).heap.size=w.heap.size:=by simp [World.setCell]
theorem Z5H.next {w:World}{pb:Nat}{n:Nat}{r F lo:Nat}{C B:Ex}{G H:Option Addr}{c1 c2:Nat}{w':World}{op:Int}(h:Z5H w pb n r F C G c1 w')(q:r<w.heap.size)(A:w.heap.size<F)(y:F<lo)(V:FoD w' (λb=>lo<=b/\b<w'.heap.size) (slice H (flen B.2) c2) B.2) : Z5H w pb n r F (Z3D op C B) (some ⟨w'.heap.size,0,none⟩) 2 ((((w'.setCell ⟨F,0,none⟩ (vI op)).setCell ⟨F,1,none⟩ (vI 0)).setCell ⟨F,2,none⟩ (slice (some ⟨w'.heap.size,0,none⟩) 2 2)).alloc (.cells #[vI C.1.1,vI C.1.2,slice G (flen C.2) c1,vI B.1.1,vI B.1.2,slice H (flen B.2) c2] 79)):=by
 obtain ⟨Y,S,T,j,N⟩:=h;have m:F<w'.heap.size:=(zF2.1 T).1;obtain ⟨W,J⟩:∃ W,W=((w'.setCell ⟨F,0,none⟩ (vI op)).setCell ⟨F,1,none⟩ (vI 0)).setCell ⟨F,2,none⟩ (slice (some ⟨w'.heap.size,0,none⟩) 2 2):=⟨_,rfl⟩
 have U:W.heap.size=w'.heap.size:=by rw [J,Zc3]
 have L:∀ k,k≠F->W.heap[k]?=w'.heap[k]?:=λk hk=>by rw [J,Zc2 hk]
 have Z:W.heap[F]?=some (.cells #[vI op,vI 0,slice (some ⟨w'.heap.size,0,none⟩) 2 2] 79 (0,0)):=by rw [J,Zjy T]
 have d:But pb w W:=by rw [J];exact ((Y.new (p:=⟨F,0,none⟩) (by show w.heap.size<=F;omega) _).new (p:=⟨F,1,none⟩) (by show w.heap.size<=F;omega) _).new (p:=⟨F,2,none⟩) (by show w.heap.size<=F;omega) _
 rw [<- J];have R:=za W (.cells #[vI C.1.1,vI C.1.2,slice G (flen C.2) c1,vI B.1.1,vI B.1.2,slice H (flen B.2) c2] 79);rw [U] at R;have I:∀ k,k<w'.heap.size->(W.alloc (.cells #[vI C.1.1,vI C.1.2,slice G (flen C.2) c1,vI B.1.1,vI B.1.2,slice H (flen B.2) c2] 79)).heap[k]?=W.heap[k]?:=λk hk=>Below.heap_alloc _ _ _ (by omega);have M:(W.alloc (.cells #[vI C.1.1,vI C.1.2,slice G (flen C.2) c1,vI B.1.1,vI B.1.2,slice H (flen B.2) c2] 79)).heap.size=w'.heap.size+1:=by simp [U]
 have g:But pb w (W.alloc (.cells #[vI C.1.1,vI C.1.2,slice G (flen C.2) c1,vI B.1.1,vI B.1.2,slice H (flen B.2) c2] 79)):=d.alloc _;generalize W.alloc (.cells #[vI C.1.1,vI C.1.2,slice G (flen C.2) c1,vI B.1.1,vI B.1.2,slice H (flen B.2) c2] 79)=X at *
 have O:w.heap.size<w'.heap.size:=RBox.lt S;refine ⟨g,?_,?_,?_,?_⟩
 . show X.heap[w.heap.size]?=_;rw [I _ O,L _ (by omega)];exact S
 . rw [I _ m];exact Z
 . have f:FoD X (λb=>w.heap.size<b/\b≠F/\b<X.heap.size) (slice G (flen C.2) c1) C.2:=j.keep (λb x=>⟨x.1,x.2.1,by rw [M];have:=x.2.2;omega⟩) (λb x=>by rw [I b x.2.2,L b x.2.1]);have l:FoD X (λb=>w.heap.size<b/\b≠F/\b<X.heap.size) (slice H (flen B.2) c2) B.2:=V.keep (λb x=>⟨by have:=x.1;omega,by have:=x.1;omega,by rw [M];have:=x.2;omega⟩) (λb x=>by rw [I b x.2,L b (by have:=x.1;omega)]);exact FoD.two (D:=λb=>w.heap.size<b/\b≠F/\b<X.heap.size) ⟨O,by omega,by rw [M];omega⟩ R f l 2
 . show X.heap[r]?=_;rw [I r N.lt,L r (by omega)];exact N
theorem Z5y {w w5:World}{pb:Nat}{v:Value}{ts:List Tok}{G:Nat}{x:Ex}{A:Option Addr}{c:Nat}{D:Nat->Prop}(C:pb<w.heap.size)(hb:But pb w w5)(I:PI w5 pb v ts G)(H:FoD w5 D (slice A (flen x.2) c) x.2)(B:∀ b,D b->w.heap.size<b/\b<w5.heap.size) : RP pb v ts (.ok x G) w (.returned (.agg #[vI x.1.1,vI x.1.2,slice A (flen x.2) c])) (((w5.setCell ⟨w.heap.size,0,none⟩ (vI x.1.1)).setCell ⟨w.heap.size,1,none⟩ (vI x.1.2)).setCell ⟨w.heap.size,2,none⟩ (slice A (flen x.2) c)):=by
 refine ⟨((hb.new (p:=⟨w.heap.size,0,none⟩) (zn _) _).new (p:=⟨w.heap.size,1,none⟩) (zn _) _).new (p:=⟨w.heap.size,2,none⟩) (zn _) _,((I.far (p:=⟨w.heap.size,0,none⟩) C _).far (p:=⟨w.heap.size,1,none⟩) C _).far (p:=⟨w.heap.size,2,none⟩) C _,A,c,rfl,?_⟩;refine H.keep (λb h=>⟨by have:=(B b h).1;omega,by have:=(B b h).2;simp [World.setCell];omega⟩) (λb h=>?_);have F:b≠w.heap.size:=by have:=(B b h).1;omega
 rw [zg _ _ _ _ F,zg _ _ _ _ F,zg _ _ _ _ F]
theorem ZaF (w:World):(zeroValue 3).run prog w=.ok (vI 0) w:=by kernel_rfl
theorem Z8c (n:Nat)(hn:lft n)(g:FuncId)(bO:∀ (w:World) (args:Array Value),(callFunc g args).run prog w=.ok (.enter g args) w)(pb:Nat)(v:Value)(ts:List Tok)(k:Nat)(hk:k<=ts.length)(V:∀ k',k<=k'->k'<=ts.length->RC (n+1) g pb v ts k') : ∃ o:Out,Rd n none (txt ts k) (o.res ts)/\okK ts k o/\∀ (w:World) (r:Nat),PI w pb v ts k->SMap w r (ZbF n)->r≠pb -> Calls prog 160 #[.pointer (some ⟨pb,0,none⟩),.func (.func g) #[.pointer (some ⟨pb,0,none⟩)] #[],.map (some r)] w (RP pb v ts o w):=by
 have N:n≠0/\n≠3/\n<=5:=by unfold lft at hn;omega
 obtain ⟨o0,y,L,l⟩:=V k (zn _) hk;cases o0 with
 | no k0 =>refine ⟨.no k0,Zhd N.1 N.2.1 N.2.2 y,L,?_⟩;intro w r h T I;have J:Below w.heap.size w (w.alloc (.cells #[vI 0,vI 0,slice none 0 0] 79)):=(zr _ _).alloc (zn _) _;have m:=zh (h.on J);have j:=zh l;have X:=zh J;clear h l V J;go_enter func160,ntmps160;go_wp2_with fail;refine (j.o _ m.o).mono ?_;rintro e D ⟨hb,rfl⟩;exact ⟨rfl,(But.of_below X.o).trans hb,rfl⟩
 | ok e0 k0 =>
  obtain ⟨o,bd,S⟩:=Zfi ts n (ts.length - k0) k0 e0 (zn _) L.2 (λk' h1 O=>by obtain ⟨o,h3,h4,_⟩:=V k' (by have:=L.1;omega) O;exact ⟨o,h3,h4⟩);have bb:okK ts k o:=by
   have:=L.1;cases o with
   | ok e' k'=>exact ⟨by have:=S.1;omega,S.2⟩
   | no k'=>exact ⟨by have:=S.1;omega,S.2⟩
  refine ⟨o,Zrj N.1 N.2.1 N.2.2 y bd,bb,?_⟩;intro w r h T I;have J:Below w.heap.size w (w.alloc (.cells #[vI 0,vI 0,slice none 0 0] 79)):=(zr _ _).alloc (zn _) _;have r1:RBox w #[vI 0,vI 0,slice none 0 0] 79 (w.alloc (.cells #[vI 0,vI 0,slice none 0 0] 79)):=za w _;have bD:=T.lt;have m:=zh (h.on J);have M:=h.lt;obtain ⟨j,X,R1⟩:=zh3 l J r1;have S1:=zh (T.on (J.block r T.lt));obtain ⟨HG,bh,bp⟩:=zh3 V bd bb;have bB:=L.1;have bQ:=L.2;clear h l V J r1 T bd bb S y L;go_enter func160,ntmps160;go_wp2_with fail;refine (j.o _ m.o).mono ?_;rintro e D ⟨hb,O,A,c,rfl,hF⟩;have q:RBox w #[vI 0,vI 0,slice none 0 0] 79 D:=(hb.block _ R1.o.lt (by omega)).trans R1.o;have U:SMap D r (ZbF n):=S1.o.on (hb.block r S1.o.lt I);have bv:But pb w D:=(But.of_below X.o).trans hb;have bs:FoD D (λb=>w.heap.size<b/\b<D.heap.size) (slice A (flen e0.2) c) e0.2:=hF.keep (λb hb=>⟨by have:=hb.1;simp at this;omega,hb.2⟩) (λ_ _=>rfl);have I3:Z5H w pb n r D.heap.size e0 A c (D.alloc (.cells #[vI e0.1.1,vI e0.1.2,slice A (flen e0.2) c] 79)):=by have ha:Below D.heap.size D (D.alloc (.cells #[vI e0.1.1,vI e0.1.2,slice A (flen e0.2) c] 79)):=(zr _ _).alloc (zn _) _;exact ⟨bv.on ha,q.on ha,za D _,bs.keep (λb hb=>⟨hb.1,by have:=hb.2;omega,by have:=hb.2;simp;omega⟩) (λb hb=>ha.block b hb.2),U.on (ha.block r U.lt)⟩
  have P3:PI (D.alloc (.cells #[vI e0.1.1,vI e0.1.2,slice A (flen e0.2) c] 79)) pb v ts k0:=O.on ((zr _ _).alloc (zn _) _);have I4:=zh I3;have P4:=zh P3;have bA:w.heap.size<D.heap.size:=q.lt;clear hb O hF q U bv bs I3 P3 m j X R1 S1;go_wp2_with fail;generalize D.heap.size=F at *
  go_loopw [] (λwr=>∃ (B:Nat) (C:Ex) (A:Option Addr) (c:Nat),k<B/\PI wr pb v ts B/\Z5H w pb n r F C A c wr/\Rd n (some C) (txt ts B) (o.res ts)) (λwr=>ts.length - Zc1 pb wr)
  case atStart=>exact ⟨k0,e0,A,c,bB,P4.o,I4.o,bh.o⟩
  case round =>
   obtain ⟨B,C,Y,c1,bK,d,hI,hR⟩:=hrel;obtain ⟨HP,HI,HR⟩:=zh3 d hI hR;have bz:=d.2.2.1;have bL:=d.2.2.2.1;have bP:=Z8b;clear d hI hR I4 P4 bh;go_wp2_with fail;refine (Z2q _ pb v ts B HP.o).mono ?_;rintro e w5 ⟨rfl,be⟩;rw [tokV];have R:=zh (HP.o.on be);have G:=zh (HI.o.but (But.of_below be) M (by omega) I);clear be HI;by_cases h0:Px.opAt n (nxt ts B)=0
   . have ba:(Instr.lookup 207 (.map (some r)) (.string (mk (nxt ts B))) true).run prog w5=.ok (.tuple #[vI 0,.bool false]) w5 := Z4e underlying207 underlying9 G.o.2.2.2.2 (by rw [Zfc n hn,zp h0]) (ZaF w5) true;obtain ⟨q0,q1,q2⟩:=G.o.cell;have z0:=G.o.2.1.cell 0 _ rfl;have z1:=G.o.2.1.cell 1 _ rfl;have z2:=G.o.2.1.cell 2 _ rfl;have y0:=G.o.2.1.free 0;have y1:=G.o.2.1.free 1;have y2:=G.o.2.1.free 2;have f:=zh h0;clear h0;go_wp2_with fail;have bc:=Zjw (Zbt HR.o (ZaE C f.o)) bz bp.o;subst bc;refine bodyPost_ret (v:=.agg #[vI C.1.1,vI C.1.2,slice Y (flen C.2) c1]) (by simp [results,results160,go_sem,z0,z1,z2]) rfl ?_;exact Z5y M G.o.1 R.o G.o.2.2.2.1 (λb h=>⟨h.1,h.2.2⟩)
   . have bk:=op_lt h0;have ba:(Instr.lookup 207 (.map (some r)) (.string (mk (nxt ts B))) true).run prog w5=.ok (.tuple #[vI (Px.opAt n (nxt ts B)),.bool true]) w5 := Z4d underlying207 underlying9 G.o.2.2.2.2 (by rw [Zfc n hn,zf h0]) true;obtain ⟨op,hop⟩:∃ op,op=Px.opAt n (nxt ts B):=⟨_,rfl⟩
     rw [<- hop] at ba;have p0:=R.o.cell1;have p1:=R.o.free 1;have f:=zh h0;have bG:=zh hop;clear h0 hop;obtain ⟨o2,bg,hk2,bt⟩:=HG.o (B+1) (by omega) (by omega);have bx:=zh bt;have bu:=zh bg;clear bt bg;go_upto_region 6 with fail;have P6:PI (w5.setCell ⟨pb,1,none⟩ (vI ((B:Int)+1))) pb v ts (B+1):=by have:=R.o.set (B+1) (by omega);rwa [show (((B+1:Nat)):Int)=(B:Int)+1 by omega] at this
     have I6:Z5H w pb n r F C Y c1 (w5.setCell ⟨pb,1,none⟩ (vI ((B:Int)+1))):=G.o.but ((But.refl _ _).set (p:=⟨pb,1,none⟩) rfl _) M (by omega) I;clear R G p0 p1 ba;generalize w5.setCell ⟨pb,1,none⟩ (vI ((B:Int)+1))=w6 at *
     have P7:=P6.drew;have H:Z5H w pb n r F C Y c1 w6.drew:=I6.but (But.refl _ _).drew M (by omega) I;obtain ⟨q0,q1,q2⟩:=H.cell;clear P6 I6;have bf:F≠pb:=by omega
     cases o2 with
     | no k2 =>
      have bc:=Zjx (Zbt HR.o (by rw [Z1i bk];exact Z9E f.o bu.o)) hk2.2 bp.o;subst bc;obtain ⟨s0,s1,U,s3,s4,s5⟩:=H.six;go_region_dies
      all_goals (refine (bx.o _ P7).mono ?_;rintro e w' ⟨hb,rfl⟩;exact ⟨rfl,H.1.trans hb,rfl⟩)
     | ok e2 k2 =>
      obtain ⟨s0,s1,U,s3,s4,s5⟩:=H.six;have bN:=hk2.1;have bF:=hk2.2;obtain ⟨o3,Z,bC⟩:=Zfi ts n (ts.length - k2) k2 (Z3D op C e2) (zn _) bF (λk' h1 O=>by obtain ⟨o,h3,h4,_⟩:=HG.o k' (by omega) O;exact ⟨o,h3,h4⟩);have br:Rd n (some (Z3D op C e2)) (txt ts k2) (o.res ts):=by have h5:=Zjc (e:=C) f.o bu.o (by rw [bG.o] at Z;exact Z);rw [<- Z1i bk] at h5;rw [Zbt HR.o h5];exact Z
      have bE:=zh br;clear br Z bC;go_region_with (first | (refine (bx.o _ P7).mono ?_;rintro e w' ⟨hb,bH,A2,c2,rfl,bI⟩;obtain ⟨x0,x1,x2,x3,x4,x5⟩:=(H.but hb M bf I).six;have bM:=(zF2.1 (H.but hb M bf I).2.2.1).1))
      all_goals
       have bj:PI ((((w'.setCell ⟨F,0,none⟩ (vI op)).setCell ⟨F,1,none⟩ (vI 0)).setCell ⟨F,2,none⟩ (slice (some ⟨w'.heap.size,0,none⟩) 2 2)).alloc (.cells #[vI C.1.1,vI C.1.2,slice Y (flen C.2) c1,vI e2.1.1,vI e2.1.2,slice A2 (flen e2.2) c2] 79)) pb v ts k2 := (((bH.far (p:=⟨F,0,none⟩) (by show pb<F;omega) _).far (p:=⟨F,1,none⟩) (by show pb<F;omega) _).far (p:=⟨F,2,none⟩) (by show pb<F;omega) _).on ((zr _ _).alloc (zn _) _);have bJ:=(H.but hb M bf I).next (op:=op) (lo:=w6.drew.heap.size) bD bA (zF2.1 H.2.2.1).1 bI;have bq:∃ (B:Nat) (C:Ex) (A:Option Addr) (c:Nat),k<B/\PI _ pb v ts B/\Z5H w pb n r F C A c _/\Rd n (some C) (txt ts B) (o.res ts):=⟨k2,Z3D op C e2,_,_,by omega,bj,bJ,bE.o⟩
       have bm:=Z5c bj;have bn:=Z5c HP.o;go_roundw
      case rel=>exact ⟨_,_,_,_,_,_,_,_,_,_,_,_,_,_,_,_,_,_,_,_,_,_,_,_,_,_,bq,rfl⟩
      case measure=>rw [bm,bn];omega
      case rel=>exact ⟨_,_,_,_,_,_,_,_,_,_,_,_,_,_,_,_,_,_,_,_,_,_,_,_,_,_,bq,rfl⟩
      case measure=>rw [bm,bn];omega
end
section
open Go.RowKit Lx Px
theorem Z0H {B:Nat}{a w:World}(h:Below B a w){r:Nat}(C:B<=r)(o:Obj):Below B a (w.putObj r o) := ⟨h.os,h.tape,h.output,by simp [World.putObj];exact h.size,λk hk=>(zQ (by omega)).trans (h.block k hk)⟩
theorem Z30 {w:World}{r:Nat}{o B:Obj}(h:w.heap[r]?=some o):(w.putObj r B).heap[r]?=some B:=by
 have:=(zF2.1 h).1;simp [World.putObj,this]
theorem Z9G (pb:Nat)(v:Value)(ts:List Tok)(k:Nat)(hk:k<=ts.length)(O:∀ k',k<=k'->k'<=ts.length->RC 6 288 pb v ts k'):RC 5 276 pb v ts k:=by
 obtain ⟨o,j,V,H⟩:=Z8c 5 (by unfold lft;omega) 288 (λ_ _=>rfl) pb v ts k hk O;refine ⟨o,j,V,λw h=>?_⟩;have bb:∀ (fn:Fn) (first cap:Array Value) (w:World),(Instr.makeFunc fn first cap).run prog w=.ok (.func fn first cap) w:=λ_ _ _ _=>rfl;have ba:=@run_makeMap prog;have X:=h.lt;have R:Below w.heap.size w (w.alloc (.cells #[vI 0,vI 0,slice none 0 0] 79)):=(zr _ _).alloc (zn _) _;have U:RBox w #[vI 0,vI 0,slice none 0 0] 79 (w.alloc (.cells #[vI 0,vI 0,slice none 0 0] 79)):=za w _;have S:=R.alloc (by simp) (.map #[] 0);have C:=SMap.new (w.alloc (.cells #[vI 0,vI 0,slice none 0 0] 79));have hR:(w.alloc (.cells #[vI 0,vI 0,slice none 0 0] 79)).heap.size=w.heap.size+1:=by simp
 rw [hR] at C;have u1:(Instr.mapUpdate 207 (.map (some (w.heap.size+1))) (.string ⟨#[42]⟩) (vI 6)).run prog ((w.alloc (.cells #[vI 0,vI 0,slice none 0 0] 79)).alloc (.map #[] 0))=.ok () (((w.alloc (.cells #[vI 0,vI 0,slice none 0 0] 79)).alloc (.map #[] 0)).putObj (w.heap.size+1) (.map (esS [([42],6)] 0).toArray 1)) := Z0z (t:=[42]) underlying207 underlying9 C (by decide) 6;have D:SMap (((w.alloc (.cells #[vI 0,vI 0,slice none 0 0] 79)).alloc (.map #[] 0)).putObj (w.heap.size+1) (.map (esS [([42],6)] 0).toArray 1)) (w.heap.size+1) [([42],6)]:=Z30 C;have J:Below w.heap.size w (((w.alloc (.cells #[vI 0,vI 0,slice none 0 0] 79)).alloc (.map #[] 0)).putObj (w.heap.size+1) (.map (esS [([42],6)] 0).toArray 1)):=Z0H S (by omega) _;have u2:(Instr.mapUpdate 207 (.map (some (w.heap.size+1))) (.string ⟨#[47]⟩) (vI 7)).run prog (((w.alloc (.cells #[vI 0,vI 0,slice none 0 0] 79)).alloc (.map #[] 0)).putObj (w.heap.size+1) (.map (esS [([42],6)] 0).toArray 1))=.ok () ((((w.alloc (.cells #[vI 0,vI 0,slice none 0 0] 79)).alloc (.map #[] 0)).putObj (w.heap.size+1) (.map (esS [([42],6)] 0).toArray 1)).putObj (w.heap.size+1) (.map (esS [([42],6),([47],7)] 0).toArray 2)) := Z0z (t:=[47]) underlying207 underlying9 D (by decide) 7;have F:SMap ((((w.alloc (.cells #[vI 0,vI 0,slice none 0 0] 79)).alloc (.map #[] 0)).putObj (w.heap.size+1) (.map (esS [([42],6)] 0).toArray 1)).putObj (w.heap.size+1) (.map (esS [([42],6),([47],7)] 0).toArray 2)) (w.heap.size+1) [([42],6),([47],7)]:=Z30 D;have b4:Below w.heap.size w ((((w.alloc (.cells #[vI 0,vI 0,slice none 0 0] 79)).alloc (.map #[] 0)).putObj (w.heap.size+1) (.map (esS [([42],6)] 0).toArray 1)).putObj (w.heap.size+1) (.map (esS [([42],6),([47],7)] 0).toArray 2)):=Z0H J (by omega) _;have L:RBox w #[vI 0,vI 0,slice none 0 0] 79 ((((w.alloc (.cells #[vI 0,vI 0,slice none 0 0] 79)).alloc (.map #[] 0)).putObj (w.heap.size+1) (.map (esS [([42],6)] 0).toArray 1)).putObj (w.heap.size+1) (.map (esS [([42],6),([47],7)] 0).toArray 2)):=by show ((((w.alloc (.cells #[vI 0,vI 0,slice none 0 0] 79)).alloc (.map #[] 0)).putObj (w.heap.size+1) (.map (esS [([42],6)] 0).toArray 1)).putObj (w.heap.size+1) (.map (esS [([42],6),([47],7)] 0).toArray 2)).heap[w.heap.size]?=_;rw [zQ (by omega),zQ (by omega),Below.heap_alloc _ _ _ (by simp)];exact U
 have I:PI ((((w.alloc (.cells #[vI 0,vI 0,slice none 0 0] 79)).alloc (.map #[] 0)).putObj (w.heap.size+1) (.map (esS [([42],6)] 0).toArray 1)).putObj (w.heap.size+1) (.map (esS [([42],6),([47],7)] 0).toArray 2)) pb v ts k:=by have hx:Below (pb+1) w ((((w.alloc (.cells #[vI 0,vI 0,slice none 0 0] 79)).alloc (.map #[] 0)).putObj (w.heap.size+1) (.map (esS [([42],6)] 0).toArray 1)).putObj (w.heap.size+1) (.map (esS [([42],6),([47],7)] 0).toArray 2)):=b4.mono (by omega);exact ⟨(hx.block _ (by omega)).trans h.1,h.2.1.below (hx.mono (by omega)),h.2.2.1,h.2.2.2.1,h.2.2.2.2.1,h.2.2.2.2.2.on (hx.mono (by omega))⟩
 have hs:w.heap.size+2=((((w.alloc (.cells #[vI 0,vI 0,slice none 0 0] 79)).alloc (.map #[] 0)).putObj (w.heap.size+1) (.map (esS [([42],6)] 0).toArray 1)).putObj (w.heap.size+1) (.map (esS [([42],6),([47],7)] 0).toArray 2)).heap.size:=by simp
 obtain ⟨T,q,N,y,f⟩:=zh5 b4 F L I H;clear H O h R U S C J D b4 F L I;go_enter func276,ntmps276;go_wp2_with fail;generalize ((((w.alloc (.cells #[vI 0,vI 0,slice none 0 0] 79)).alloc (.map #[] 0)).putObj (w.heap.size+1) (.map (esS [([42],6)] 0).toArray 1)).putObj (w.heap.size+1) (.map (esS [([42],6),([47],7)] 0).toArray 2))=m at *
 refine (f.o m (w.heap.size+1) y.o q.o (by omega)).mono ?_;cases o with
 | no k2 =>rintro e w' ⟨hb,rfl⟩;exact ⟨rfl,(But.of_below T.o).trans hb,rfl⟩
 | ok x k2 =>rintro e w' ⟨hb,M,A,c,rfl,G⟩;have B:RBox w #[vI 0,vI 0,slice none 0 0] 79 w':=(hb.block _ N.o.lt (by omega)).trans N.o;have d:=B.cell 0 _ rfl;have Z:=B.cell 1 _ rfl;have g:=B.cell 2 _ rfl;have y0:=B.free 0;have y1:=B.free 1;have y2:=B.free 2;obtain ⟨r,l,Y⟩:=zh3 M G hb;clear M G hb B;go_wp2_with fail;refine bodyPost_ret (v:=.agg #[vI x.1.1,vI x.1.2,slice A (flen x.2) c]) (by simp [results,results276,go_sem,d,Z,g]) rfl ?_;exact Z5y X ((But.of_below T.o).trans Y.o) r.o l.o (λb h=>⟨by have:=h.1;omega,h.2⟩)
theorem Zqu (pb:Nat)(v:Value)(ts:List Tok)(k:Nat)(hk:k<=ts.length)(O:∀ k',k<=k'->k'<=ts.length->RC 5 276 pb v ts k'):RC 4 247 pb v ts k:=by
 obtain ⟨o,j,V,H⟩:=Z8c 4 (by unfold lft;omega) 276 (λ_ _=>rfl) pb v ts k hk O;refine ⟨o,j,V,λw h=>?_⟩;have bb:∀ (fn:Fn) (first cap:Array Value) (w:World),(Instr.makeFunc fn first cap).run prog w=.ok (.func fn first cap) w:=λ_ _ _ _=>rfl;have ba:=@run_makeMap prog;have X:=h.lt;have R:Below w.heap.size w (w.alloc (.cells #[vI 0,vI 0,slice none 0 0] 79)):=(zr _ _).alloc (zn _) _;have U:RBox w #[vI 0,vI 0,slice none 0 0] 79 (w.alloc (.cells #[vI 0,vI 0,slice none 0 0] 79)):=za w _;have S:=R.alloc (by simp) (.map #[] 0);have C:=SMap.new (w.alloc (.cells #[vI 0,vI 0,slice none 0 0] 79));have hR:(w.alloc (.cells #[vI 0,vI 0,slice none 0 0] 79)).heap.size=w.heap.size+1:=by simp
 rw [hR] at C;have u1:(Instr.mapUpdate 207 (.map (some (w.heap.size+1))) (.string ⟨#[43]⟩) (vI 4)).run prog ((w.alloc (.cells #[vI 0,vI 0,slice none 0 0] 79)).alloc (.map #[] 0))=.ok () (((w.alloc (.cells #[vI 0,vI 0,slice none 0 0] 79)).alloc (.map #[] 0)).putObj (w.heap.size+1) (.map (esS [([43],4)] 0).toArray 1)) := Z0z (t:=[43]) underlying207 underlying9 C (by decide) 4;have D:SMap (((w.alloc (.cells #[vI 0,vI 0,slice none 0 0] 79)).alloc (.map #[] 0)).putObj (w.heap.size+1) (.map (esS [([43],4)] 0).toArray 1)) (w.heap.size+1) [([43],4)]:=Z30 C;have J:Below w.heap.size w (((w.alloc (.cells #[vI 0,vI 0,slice none 0 0] 79)).alloc (.map #[] 0)).putObj (w.heap.size+1) (.map (esS [([43],4)] 0).toArray 1)):=Z0H S (by omega) _;have u2:(Instr.mapUpdate 207 (.map (some (w.heap.size+1))) (.string ⟨#[45]⟩) (vI 5)).run prog (((w.alloc (.cells #[vI 0,vI 0,slice none 0 0] 79)).alloc (.map #[] 0)).putObj (w.heap.size+1) (.map (esS [([43],4)] 0).toArray 1))=.ok () ((((w.alloc (.cells #[vI 0,vI 0,slice none 0 0] 79)).alloc (.map #[] 0)).putObj (w.heap.size+1) (.map (esS [([43],4)] 0).toArray 1)).putObj (w.heap.size+1) (.map (esS [([43],4),([45],5)] 0).toArray 2)) := Z0z (t:=[45]) underlying207 underlying9 D (by decide) 5;have F:SMap ((((w.alloc (.cells #[vI 0,vI 0,slice none 0 0] 79)).alloc (.map #[] 0)).putObj (w.heap.size+1) (.map (esS [([43],4)] 0).toArray 1)).putObj (w.heap.size+1) (.map (esS [([43],4),([45],5)] 0).toArray 2)) (w.heap.size+1) [([43],4),([45],5)]:=Z30 D;have b4:Below w.heap.size w ((((w.alloc (.cells #[vI 0,vI 0,slice none 0 0] 79)).alloc (.map #[] 0)).putObj (w.heap.size+1) (.map (esS [([43],4)] 0).toArray 1)).putObj (w.heap.size+1) (.map (esS [([43],4),([45],5)] 0).toArray 2)):=Z0H J (by omega) _;have L:RBox w #[vI 0,vI 0,slice none 0 0] 79 ((((w.alloc (.cells #[vI 0,vI 0,slice none 0 0] 79)).alloc (.map #[] 0)).putObj (w.heap.size+1) (.map (esS [([43],4)] 0).toArray 1)).putObj (w.heap.size+1) (.map (esS [([43],4),([45],5)] 0).toArray 2)):=by show ((((w.alloc (.cells #[vI 0,vI 0,slice none 0 0] 79)).alloc (.map #[] 0)).putObj (w.heap.size+1) (.map (esS [([43],4)] 0).toArray 1)).putObj (w.heap.size+1) (.map (esS [([43],4),([45],5)] 0).toArray 2)).heap[w.heap.size]?=_;rw [zQ (by omega),zQ (by omega),Below.heap_alloc _ _ _ (by simp)];exact U
 have I:PI ((((w.alloc (.cells #[vI 0,vI 0,slice none 0 0] 79)).alloc (.map #[] 0)).putObj (w.heap.size+1) (.map (esS [([43],4)] 0).toArray 1)).putObj (w.heap.size+1) (.map (esS [([43],4),([45],5)] 0).toArray 2)) pb v ts k:=by have hx:Below (pb+1) w ((((w.alloc (.cells #[vI 0,vI 0,slice none 0 0] 79)).alloc (.map #[] 0)).putObj (w.heap.size+1) (.map (esS [([43],4)] 0).toArray 1)).putObj (w.heap.size+1) (.map (esS [([43],4),([45],5)] 0).toArray 2)):=b4.mono (by omega);exact ⟨(hx.block _ (by omega)).trans h.1,h.2.1.below (hx.mono (by omega)),h.2.2.1,h.2.2.2.1,h.2.2.2.2.1,h.2.2.2.2.2.on (hx.mono (by omega))⟩
 have hs:w.heap.size+2=((((w.alloc (.cells #[vI 0,vI 0,slice none 0 0] 79)).alloc (.map #[] 0)).putObj (w.heap.size+1) (.map (esS [([43],4)] 0).toArray 1)).putObj (w.heap.size+1) (.map (esS [([43],4),([45],5)] 0).toArray 2)).heap.size:=by simp
 obtain ⟨T,q,N,y,f⟩:=zh5 b4 F L I H;clear H O h R U S C J D b4 F L I;go_enter func247,ntmps247;go_wp2_with fail;generalize ((((w.alloc (.cells #[vI 0,vI 0,slice none 0 0] 79)).alloc (.map #[] 0)).putObj (w.heap.size+1) (.map (esS [([43],4)] 0).toArray 1)).putObj (w.heap.size+1) (.map (esS [([43],4),([45],5)] 0).toArray 2))=m at *
 refine (f.o m (w.heap.size+1) y.o q.o (by omega)).mono ?_;cases o with
 | no k2 =>rintro e w' ⟨hb,rfl⟩;exact ⟨rfl,(But.of_below T.o).trans hb,rfl⟩
 | ok x k2 =>rintro e w' ⟨hb,M,A,c,rfl,G⟩;have B:RBox w #[vI 0,vI 0,slice none 0 0] 79 w':=(hb.block _ N.o.lt (by omega)).trans N.o;have d:=B.cell 0 _ rfl;have Z:=B.cell 1 _ rfl;have g:=B.cell 2 _ rfl;have y0:=B.free 0;have y1:=B.free 1;have y2:=B.free 2;obtain ⟨r,l,Y⟩:=zh3 M G hb;clear M G hb B;go_wp2_with fail;refine bodyPost_ret (v:=.agg #[vI x.1.1,vI x.1.2,slice A (flen x.2) c]) (by simp [results,results247,go_sem,d,Z,g]) rfl ?_;exact Z5y X ((But.of_below T.o).trans Y.o) r.o l.o (λb h=>⟨by have:=h.1;omega,h.2⟩)
theorem Zqv (pb:Nat)(v:Value)(ts:List Tok)(k:Nat)(hk:k<=ts.length)(N:∀ k',k<=k'->k'<=ts.length->RC 3 197 pb v ts k'):RC 2 161 pb v ts k:=by
 obtain ⟨o,g,U,G⟩:=Z8c 2 (by unfold lft;omega) 197 (λ_ _=>rfl) pb v ts k hk N;refine ⟨o,g,U,λw h=>?_⟩;have bb:∀ (fn:Fn) (first cap:Array Value) (w:World),(Instr.makeFunc fn first cap).run prog w=.ok (.func fn first cap) w:=λ_ _ _ _=>rfl;have ba:=@run_makeMap prog;have V:=h.lt;have O:Below w.heap.size w (w.alloc (.cells #[vI 0,vI 0,slice none 0 0] 79)):=(zr _ _).alloc (zn _) _;have T:RBox w #[vI 0,vI 0,slice none 0 0] 79 (w.alloc (.cells #[vI 0,vI 0,slice none 0 0] 79)):=za w _;have R:=O.alloc (by simp) (.map #[] 0);have C:=SMap.new (w.alloc (.cells #[vI 0,vI 0,slice none 0 0] 79));have y:(w.alloc (.cells #[vI 0,vI 0,slice none 0 0] 79)).heap.size=w.heap.size+1:=by simp
 rw [y] at C;have u1:(Instr.mapUpdate 207 (.map (some (w.heap.size+1))) (.string ⟨#[97,110,100]⟩) (vI 13)).run prog ((w.alloc (.cells #[vI 0,vI 0,slice none 0 0] 79)).alloc (.map #[] 0))=.ok () (((w.alloc (.cells #[vI 0,vI 0,slice none 0 0] 79)).alloc (.map #[] 0)).putObj (w.heap.size+1) (.map (esS [([97,110,100],13)] 0).toArray 1)) := Z0z (t:=[97,110,100]) underlying207 underlying9 C (by decide) 13;have L:SMap (((w.alloc (.cells #[vI 0,vI 0,slice none 0 0] 79)).alloc (.map #[] 0)).putObj (w.heap.size+1) (.map (esS [([97,110,100],13)] 0).toArray 1)) (w.heap.size+1) [([97,110,100],13)]:=Z30 C;have D:Below w.heap.size w (((w.alloc (.cells #[vI 0,vI 0,slice none 0 0] 79)).alloc (.map #[] 0)).putObj (w.heap.size+1) (.map (esS [([97,110,100],13)] 0).toArray 1)):=Z0H R (by omega) _;have I:RBox w #[vI 0,vI 0,slice none 0 0] 79 (((w.alloc (.cells #[vI 0,vI 0,slice none 0 0] 79)).alloc (.map #[] 0)).putObj (w.heap.size+1) (.map (esS [([97,110,100],13)] 0).toArray 1)):=by show (((w.alloc (.cells #[vI 0,vI 0,slice none 0 0] 79)).alloc (.map #[] 0)).putObj (w.heap.size+1) (.map (esS [([97,110,100],13)] 0).toArray 1)).heap[w.heap.size]?=_;rw [zQ (by omega),Below.heap_alloc _ _ _ (by simp)];exact T
 have H:PI (((w.alloc (.cells #[vI 0,vI 0,slice none 0 0] 79)).alloc (.map #[] 0)).putObj (w.heap.size+1) (.map (esS [([97,110,100],13)] 0).toArray 1)) pb v ts k:=by have hx:Below (pb+1) w (((w.alloc (.cells #[vI 0,vI 0,slice none 0 0] 79)).alloc (.map #[] 0)).putObj (w.heap.size+1) (.map (esS [([97,110,100],13)] 0).toArray 1)):=D.mono (by omega);exact ⟨(hx.block _ (by omega)).trans h.1,h.2.1.below (hx.mono (by omega)),h.2.2.1,h.2.2.2.1,h.2.2.2.2.1,h.2.2.2.2.2.on (hx.mono (by omega))⟩
 have hs:w.heap.size+2=(((w.alloc (.cells #[vI 0,vI 0,slice none 0 0] 79)).alloc (.map #[] 0)).putObj (w.heap.size+1) (.map (esS [([97,110,100],13)] 0).toArray 1)).heap.size:=by simp
 obtain ⟨S,m,M,r,d⟩:=zh5 D L I H G;clear G N h O T R C D L I H;go_enter func161,ntmps161;go_wp2_with fail;generalize (((w.alloc (.cells #[vI 0,vI 0,slice none 0 0] 79)).alloc (.map #[] 0)).putObj (w.heap.size+1) (.map (esS [([97,110,100],13)] 0).toArray 1))=l at *
 refine (d.o l (w.heap.size+1) r.o m.o (by omega)).mono ?_;cases o with
 | no k2 =>rintro e w' ⟨hb,rfl⟩;exact ⟨rfl,(But.of_below S.o).trans hb,rfl⟩
 | ok x k2 =>rintro e w' ⟨hb,J,A,c,rfl,F⟩;have B:RBox w #[vI 0,vI 0,slice none 0 0] 79 w':=(hb.block _ M.o.lt (by omega)).trans M.o;have Z:=B.cell 0 _ rfl;have Y:=B.cell 1 _ rfl;have f:=B.cell 2 _ rfl;have y0:=B.free 0;have y1:=B.free 1;have y2:=B.free 2;obtain ⟨q,j,X⟩:=zh3 J F hb;clear J F hb B;go_wp2_with fail;refine bodyPost_ret (v:=.agg #[vI x.1.1,vI x.1.2,slice A (flen x.2) c]) (by simp [results,results161,go_sem,Z,Y,f]) rfl ?_;exact Z5y V ((But.of_below S.o).trans X.o) q.o j.o (λb h=>⟨by have:=h.1;omega,h.2⟩)
end
section
open Go.RowKit Lx Px
def Fx (w:World)(pb:Nat)(wx:World):Prop:=But pb w wx/\RBox w #[vI 0,vI 0,slice none 0 0] 79 wx/\pb<w.heap.size
theorem Fx.but {w:World}{pb:Nat}{B C:World}(h:Fx w pb B)(hb:But pb B C):Fx w pb C := ⟨h.1.trans hb,(hb.block _ h.2.1.lt (by have:=h.2.2;omega)).trans h.2.1,h.2.2⟩
theorem Fx.new {w:World}{pb:Nat}(h:pb<w.heap.size):Fx w pb (w.alloc (.cells #[vI 0,vI 0,slice none 0 0] 79)) := ⟨(But.refl _ _).alloc _,za w _,h⟩
theorem Fx.lt {w:World}{pb:Nat}{B:World}(h:Fx w pb B):w.heap.size<B.heap.size:=h.2.1.lt
theorem Fx.six {w:World}{pb:Nat}{B:World}(h:Fx w pb B):B.cell? ⟨w.heap.size,0,none⟩=some (vI 0)/\B.cell? ⟨w.heap.size,1,none⟩=some (vI 0)/\B.cell? ⟨w.heap.size,2,none⟩=some (slice none 0 0) /\ B.frozen? ⟨w.heap.size,0,none⟩=false/\B.frozen? ⟨w.heap.size,1,none⟩=false/\B.frozen? ⟨w.heap.size,2,none⟩=false := ⟨h.2.1.cell 0 _ rfl,h.2.1.cell 1 _ rfl,h.2.1.cell 2 _ rfl,h.2.1.free 0,h.2.1.free 1,h.2.1.free 2⟩
def Tr (w wx:World)(A:Option Addr)(c:Nat)(f:Fo):Prop:=FoD wx (λb=>w.heap.size<b/\b<wx.heap.size) (slice A (flen f) c) f
theorem Tr.but {w:World}{pb:Nat}{B C:World}{A:Option Addr}{c:Nat}{f:Fo}(h:Tr w B A c f)(hb:But pb B C)(D:pb<w.heap.size):Tr w C A c f := FoD.keep h (λb x=>⟨x.1,by have:=hb.size;have:=x.2;omega⟩) (λb x=>hb.block b x.2 (by have:=x.1;omega))
theorem Tr.of {w C B:World}{A:Option Addr}{c:Nat}{f:Fo}(h:FoD B (λb=>C.heap.size<=b/\b<B.heap.size) (slice A (flen f) c) f)(D:w.heap.size<C.heap.size):Tr w B A c f := FoD.keep h (λb x=>⟨by have:=x.1;omega,x.2⟩) (λ_ _=>rfl)
def Bx (w:World)(b:Nat)(x:Ex)(A:Option Addr)(c:Nat)(wx:World):Prop := wx.heap[b]?=some (.cells #[vI x.1.1,vI x.1.2,slice A (flen x.2) c] 79 (0,0))/\w.heap.size<b/\Tr w wx A c x.2
theorem Bx.but {w:World}{pb b:Nat}{x:Ex}{A:Option Addr}{c:Nat}{B C:World}(h:Bx w b x A c B)(hb:But pb B C)(D:pb<w.heap.size):Bx w b x A c C := ⟨(hb.block _ (zF2.1 h.1).1 (by have:=h.2.1;omega)).trans h.1,h.2.1,h.2.2.but hb D⟩
theorem Bx.three {w:World}{b:Nat}{x:Ex}{A:Option Addr}{c:Nat}{B:World}(h:Bx w b x A c B):B.cell? ⟨b,0,none⟩=some (vI x.1.1)/\B.cell? ⟨b,1,none⟩=some (vI x.1.2)/\B.cell? ⟨b,2,none⟩=some (slice A (flen x.2) c):=by
 refine ⟨?_,?_,?_⟩ <;> (rw [zH h.1];rfl)
theorem Bx.new {w B:World}{x:Ex}{A:Option Addr}{c:Nat}(h:Tr w B A c x.2)(C:w.heap.size<B.heap.size):Bx w B.heap.size x A c (B.alloc (.cells #[vI x.1.1,vI x.1.2,slice A (flen x.2) c] 79)) := ⟨za B _,C,FoD.keep h (λb y=>⟨y.1,by have:=y.2;simp;omega⟩) (λb y=>Below.heap_alloc _ _ _ y.2)⟩
theorem Z8H {w w':World}{pb:Nat}{v:Value}{ts:List Tok}{D:Nat}{x:Ex}{cs:Array Value}(h:Fx w pb w')(J:PI w' pb v ts D) (I:∀ X:World,(∀ b,w.heap.size<b->b<w'.heap.size->X.heap[b]?=w'.heap[b]?)->X.heap[w'.heap.size]?=some (.cells cs 79 (0,0))->X.heap.size=w'.heap.size+1->FoD X (λb=>w.heap.size<b/\b<X.heap.size) (slice (some ⟨w'.heap.size,0,none⟩) (flen x.2) (flen x.2)) x.2) : RP pb v ts (.ok x D) w (.returned (.agg #[vI x.1.1,vI x.1.2,slice (some ⟨w'.heap.size,0,none⟩) (flen x.2) (flen x.2)])) ((((w'.setCell ⟨w.heap.size,0,none⟩ (vI x.1.1)).setCell ⟨w.heap.size,1,none⟩ (vI x.1.2)).setCell ⟨w.heap.size,2,none⟩ (slice (some ⟨w'.heap.size,0,none⟩) (flen x.2) (flen x.2))).alloc (.cells cs 79)):=by
 obtain ⟨H,S,C⟩:=h;obtain ⟨W,B⟩:∃ W,W=((w'.setCell ⟨w.heap.size,0,none⟩ (vI x.1.1)).setCell ⟨w.heap.size,1,none⟩ (vI x.1.2)).setCell ⟨w.heap.size,2,none⟩ (slice (some ⟨w'.heap.size,0,none⟩) (flen x.2) (flen x.2)):=⟨_,rfl⟩
 have F:W.heap.size=w'.heap.size:=by rw [B,Zc3]
 have N:∀ k,k≠w.heap.size->W.heap[k]?=w'.heap[k]?:=λk hk=>by rw [B,Zc2 hk]
 have O:But pb w W:=by rw [B];exact ((H.new (p:=⟨w.heap.size,0,none⟩) (zn _) _).new (p:=⟨w.heap.size,1,none⟩) (zn _) _).new (p:=⟨w.heap.size,2,none⟩) (zn _) _
 have R:PI W pb v ts D:=by rw [B];exact ((J.far (p:=⟨w.heap.size,0,none⟩) C _).far (p:=⟨w.heap.size,1,none⟩) C _).far (p:=⟨w.heap.size,2,none⟩) C _
 rw [<- B];have G:=za W (.cells cs 79);rw [F] at G;have L:(W.alloc (.cells cs 79)).heap.size=w'.heap.size+1:=by simp [F]
 have M:=I (W.alloc (.cells cs 79)) (λb hb1 hb2=>by rw [Below.heap_alloc _ _ _ (by omega),N b (by omega)]) G L;refine ⟨O.alloc _,R.on ((zr _ _).alloc (zn _) _),_,_,rfl,?_⟩;exact FoD.keep M (λb y=>⟨by have:=y.1;omega,y.2⟩) (λ_ _=>rfl)
theorem Tr.to {w w' X:World}{A:Option Addr}{c:Nat}{f:Fo}(h:Tr w w' A c f)(B:∀ b,w.heap.size<b->b<w'.heap.size->X.heap[b]?=w'.heap[b]?)(C:X.heap.size=w'.heap.size+1):FoD X (λb=>w.heap.size<b/\b<X.heap.size) (slice A (flen f) c) f := FoD.keep h (λb y=>⟨y.1,by have:=y.2;omega⟩) (λb y=>B b y.1 y.2)
theorem Z21 {ts:List Tok}{k:Nat}{t:Bytes}(h:nxt ts k≠t):(txt ts k).head?≠some t:=by
 by_cases hk:k<ts.length
 . rw [Z1i hk];simpa using h
 . rw [ZaC ts k (by omega)];simp
theorem Z35 {ts:List Tok}{k:Nat}{t:Bytes}(h:nxt ts k=t)(B:t≠[]):k<ts.length:=by
 by_cases hk:k<ts.length
 . exact hk
 . rw [Z5F ts k hk] at h;exact absurd h.symm B
theorem op3_no {t:Bytes}(B:t≠[60])(C:t≠[61]):Px.opAt 3 t=0:=by simp [Px.opAt,B,C]
theorem Zc4 (pb:Nat)(v:Value)(ts:List Tok)(k:Nat)(B:nxt ts k=kNot)(S:∀ k',k<k'->k'<=ts.length->RC 3 197 pb v ts k'):RC 3 197 pb v ts k:=by
 have Y:=Z35 B (by decide);obtain ⟨o,N,J,L⟩:=S (k+1) (by omega) (by omega);have O:txt ts k=kNot::txt ts (k+1):=by rw [Z1i Y,B]
 cases o with
 | no k2 =>refine ⟨.no k2,by rw [O];exact Zjq N,⟨by have:=J.1;omega,J.2⟩,λw h=>?_⟩;have G:=zh (Fx.new h.lt);have F:=zh (h.on ((zr _ _).alloc (zn _) (.cells #[vI 0,vI 0,slice none 0 0] 79)));have U:=zh L;have T:=zh B;clear h L S B O N;go_enter func197,ntmps197;go_wp2_with fail;refine (Z2x _ pb v ts k F.o Y kNot T.o).mono ?_;rintro e l ⟨rfl,C,H⟩;have I:=zh (G.o.but H);have R:=zh C;clear C H F G;go_wp2_with fail;refine (U.o _ R.o).mono ?_;rintro e d ⟨M,rfl⟩;exact ⟨rfl,I.o.1.trans M,rfl⟩
 | ok x k2 =>refine ⟨.ok (oneE 15 x) k2,by rw [O];exact Rd_not N,⟨by have:=J.1;omega,J.2⟩,λw h=>?_⟩;have G:=zh (Fx.new h.lt);have F:=zh (h.on ((zr _ _).alloc (zn _) (.cells #[vI 0,vI 0,slice none 0 0] 79)));have U:=zh L;have T:=zh B;have hlw:=h.lt;clear h L S B O N;go_enter func197,ntmps197;go_wp2_with fail;refine (Z2x _ pb v ts k F.o Y kNot T.o).mono ?_;rintro e l ⟨rfl,C,H⟩;have I:=zh (G.o.but H);have R:=zh C;clear C H F G;go_wp2_with fail;refine (U.o _ R.o).mono ?_;rintro e d ⟨M,f,A,c,rfl,Z⟩;have T3:=zh (Tr.of Z I.o.lt);have V:=zh (I.o.but M);have j:=zh f;obtain ⟨q,m,r,s3,y,s5⟩:=V.o.six;have g:=V.o.lt;clear M f Z I R;go_wp2_with fail;refine bodyPost_ret (v:=.agg #[vI 15,vI 0,slice (some ⟨d.heap.size,0,none⟩) 1 1]) (by simp [results,results197,go_sem,q,m,r,g]) rfl ?_;exact Z8H (x:=oneE 15 x) V.o j.o (λX h1 h2 h3=>FoD.one (D:=λb=>w.heap.size<b/\b<X.heap.size) ⟨g,by omega⟩ h2 (T3.o.to h1 h3) 1)
end
