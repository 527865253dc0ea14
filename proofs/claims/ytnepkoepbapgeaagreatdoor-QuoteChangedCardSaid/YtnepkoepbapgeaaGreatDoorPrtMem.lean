/-
  Several texts in one: Row, LexPlain, PrtPlain, PrtMem.
-/
import Derived.RangeFuncRecord
import Derived.Lib.Builder
import Derived.Test.YtnepkoepbapgeaaGreatDoorRows
import Derived.ProofKit
import Derived.ShutString
import Derived.Deep.Slices
import Derived.Deep.Fields
import Derived.ChangeSame
import GoSem.Core.Value
import Derived.Deep.Trees
import Derived.RowKit
import Derived.WalkKit
import Derived.Lib.Hide
namespace Go.Proofs.YtnepkoepbapgeaaGreatDoor
open Go.RowKit in
theorem zh:type_of% @Lib.hid:=@Lib.hid
open Go.RowKit in
theorem zc:type_of% @Lib.cell_of_heap:=@Lib.cell_of_heap
open Go.RowKit in
theorem za:type_of% @World.alloc_heap_new:=@World.alloc_heap_new
open Go.RowKit in
theorem zn:type_of% @Nat.le_refl:=@Nat.le_refl
theorem zs {α:Type}{a:Array α}{i:Nat}{x:α}(h:a[i]?=some x):i<a.size:=(Array.getElem?_eq_some_iff.1 h).1
section
open Go.ChangeShapes Go.WideShapes Go.ChangeAt Go.RowKit Go.Deep
theorem Tryz.own:ownKnob Tryz.prog.godebug=none:=by kernel_rfl
theorem Tryz.laidOut:laidOutB Tryz.prog=true:=by kernel_rfl
section
variable {H:Type} {enc:TypeId × Value→H} {P:Program}
theorem Z4g {t:TypeId}(hl:laidOutB P=true)(hr:P.readableRec t=true)(hrow:t<P.types.size){W W':World}{v:Value}{d:DataW H}{ps:List MemPlace}
 (h:DataW.Trod enc P W 0 (fun _=>true) true t v d ps) (hb:Below W.heap.size W W') (hlt:∀ x∈ps,x.block<W.heap.size) (sp:Nat→Bool) (hsp:∀ x∈ps,sp x.block=true) :
 DataW.Trod enc P W' 0 sp true t v d ps :=
 WideElems.Trod_stays hl hr hrow h (fun x hx=>hb.same (hlt x hx)) hsp
theorem Z9n {f:Func}{s:ChangeSpec}{apart fresh handsOn again:Bool}{W W':World}{args:Array Value}{v:Value}{ds gs:List (DataW H)}{before pa pv:List MemPlace}
 (hW:DataW.Whole enc P f.params.toList s.vars apart W args.toList ds gs before)
 (hres:∀ (b:Nat) (sp:Nat→Bool) (hd:Bool),DataW.TrodAll enc P W' b sp hd f.resultTypes.toList (v.resultList f.resultTypes.size) (s.fn H (ds++gs)).results [])
 (hargs:∀ sp:Nat→Bool,(∀ p∈before,sp p.block=true)→DataW.TrodAll enc P W' 0 sp true f.params.toList args.toList (s.fn H (ds++gs)).args pa)
 (hvars:∀ sp:Nat→Bool,(∀ p∈before,sp p.block=true)→DataW.TrodVars enc P W' sp s.vars (s.fn H (ds++gs)).vars pv)
 (hps:before=pa++pv) (hb:Below W.heap.size W W')
 (hok:∀ (j:Nat) (t:TypeId) (r:Value),f.resultTypes[j]?=some t→(v.resultList f.resultTypes.size)[j]?=some r→Value.okWide P W' .any 0 t r) :
 s.post enc P f apart fresh handsOn again W args v W':=by
 have hlt:∀ p∈before,p.block<W.heap.size:=fun p hp=>hW.lt p hp
 have hold:∀ p∈before,(fun b=>decide (b<W.heap.size)) p.block=true:=fun p hp=>by simpa using hlt p hp
 refine ⟨ds,gs,before,[],pa,pv,hW,hres _ _ _,hargs _ hold,hvars _ hold,World.keptBut_mono (fun p hp=>⟨hp,?_⟩) (hb.frame (·∈before)),fun _=>?_⟩
 · rw [hps,List.mem_append] at hp
   exact Or.inr hp
 · obtain ⟨_,_,_,_,_,hz,hn⟩:=hW
   refine ⟨hok,_,_,([]++pa)++pv,⟨[]++pa,pv,trodAll_append (hargs _ (fun _ _=>rfl)) (hres _ _ _),hvars _ (fun _ _=>rfl),rfl,?_,?_⟩,?_⟩
   · intro b off hp
     have hin:MemPlace.cell b off∈before:=by rw [hps];simpa using hp
     rw [hb.frozen (hlt _ hin)]
     exact hz b off hin
   · intro ha
     have:=hn ha
     rw [hps] at this
     simpa using this
   · intro p hp _
     rw [hps]
     simpa using hp
variable {w:World} {base:Nat} {spare:Nat→Bool} {held:Bool}
end
theorem ZmB {α:Type}(Q:Nat→α→Prop)(n:Nat)(h:∀ i,i<n→∃ x,Q i x):∃ l:List α,l.length=n∧∀ i,(hi:i<l.length)→Q i l[i]:=by
 induction n with
 | zero=>exact ⟨[],rfl,fun i hi=>absurd hi (by simp)⟩
 | succ n ih =>
  obtain ⟨l,hl,hq⟩:=ih (fun i hi=>h i (by omega))
  obtain ⟨x,hx⟩:=h n (by omega)
  refine ⟨l++[x],by simp [hl],fun i hi=>?_⟩
  by_cases e:i<l.length
  · rw [List.getElem_append_left e];exact hq i e
  · have:i=l.length:=by simp at hi;omega
    subst this;rw [List.getElem_append_right (zn _)]
    simp only [Nat.sub_self,List.getElem_cons_zero]
    rw [hl];exact hx
end
section
namespace Lx
abbrev Bytes:=List UInt8
abbrev Tok:=Int × Int × Bytes
def mk (l:Bytes):ByteArray:=⟨l.toArray⟩
def bl (s:ByteArray):Bytes:=s.data.toList
theorem Z52 (l:Bytes):bl (mk l)=l:=rfl
theorem ZgB (s:ByteArray):mk (bl s)=s:=by cases s;rfl
theorem Z0D (l:Bytes):(mk l).size=l.length:=by simp [mk,ByteArray.size]
theorem Z01 (s:ByteArray):(bl s).length=s.size:=by simp [bl]
theorem mk_inj {a b:Bytes}(h:mk a=mk b):a=b:=by have:=congrArg bl h;simpa [Z52] using this
theorem Zdh (s:ByteArray)(k:Nat)(h:k<s.size):(bl s)[k]'(by rw [Z01];exact h)=s[k]:=rfl
theorem Z4h (s:ByteArray)(a b:Nat):bl (s.extract a b)=((bl s).drop a).take (b - a):=by
 simp [bl,ByteArray.data_extract,Array.toList_extract,List.extract_eq_take_drop]

def inR (lo hi:Int)(c:UInt8):Bool:=decide (lo≤(c.toNat:Int))&&decide ((c.toNat:Int)≤hi)
def Z0k (lo hi:Int)(l:Bytes):Nat:=(l.takeWhile (inR lo hi)).length
def allR (lo hi:Int)(l:Bytes):Bool:=!l.isEmpty&&l.all (inR lo hi)
def Z27 (l:Bytes):Bool:=allR 48 57 l&&decide (l.length≤9)&&(decide (l.length=1) || l.head? != some 48)
def val (l:Bytes):Int:=l.foldl (fun n c=>10*n+((c.toNat:Int) - 48)) 0
def Z9p (l:Bytes):Bytes:=l.takeWhile (· != 46)
def frac (l:Bytes):Bytes:=(l.dropWhile (· != 46)).tail
def Z89 (l:Bytes):Bool:=l.contains 46&&Z27 (Z9p l)&&decide ((frac l).length=2)&&allR 48 57 (frac l)&&decide (val (Z9p l++frac l)≤1000000000)
def ZgC:Bytes:=[123,125,40,41,59,44,43,45,42,47,60,61,37]
def Z8q (l:Bytes):Bool:=match l with
 | [c]=>ZgC.contains c
 | _=>false
def Z07 (l:Bytes):Int:=if allR 97 122 l then 1 else if Z27 l then 2 else if Z89 l then 3 else if Z8q l then 4 else 0
def tlen (l:Bytes):Nat :=
 if 0<Z0k 97 122 l then Z0k 97 122 l
 else if Z0k 48 57 l=0 then 1
 else if l[Z0k 48 57 l]?=some 46 then Z0k 48 57 l+1+Z0k 48 57 (l.drop (Z0k 48 57 l+1))
 else Z0k 48 57 l
def pcs:Nat→Int→Bytes→List (Int × Bytes)
 | 0,_,_=>[]
 | _+1,_,[]=>[]
 | f+1,ln,c::r =>
  if c=32 then pcs f ln r
  else if c=10 then pcs f (ln+1) r
  else if c=35 then pcs f ln (r.dropWhile (· != 10))
  else (ln,(c::r).take (tlen (c::r)))::pcs f ln ((c::r).drop (tlen (c::r)))
def pieces (s:Bytes):List (Int × Bytes):=pcs s.length 1 s
def coll:List Tok→List (Int × Bytes)→List Tok × Int × Int
 | acc,[]=>(acc,0,0)
 | acc,(ln,t)::ps =>
  if Z07 t=0 then ([],8,ln) else if acc.length=5000 then ([],2,ln) else coll (acc++[(Z07 t,ln,t)]) ps
def toks (s:Bytes):List Tok × Int × Int:=if 20000<s.length then ([],2,0) else coll [] (pieces s)

theorem Z2A (lo hi:Int)(l:Bytes):Z0k lo hi l≤l.length:=by
 unfold Z0k;induction l with
 | nil=>simp
 | cons a l ih=>simp only [List.takeWhile_cons];split <;> simp <;> omega
theorem Zc6 (lo hi:Int)(l:Bytes)(k:Nat)(hk:k≤l.length)(h:∀ j,(hj:j<k)→inR lo hi (l[j]'(by omega))=true)
 (hs:∀ hk':k<l.length,inR lo hi l[k]=false):Z0k lo hi l=k:=by
 unfold Z0k
 induction l generalizing k with
 | nil=>simp at hk;simp [hk]
 | cons a l ih =>
  cases k with
  | zero=>have:=hs (by simp);simp at this;simp [this]
  | succ k =>
   have h0:=h 0 (by omega);simp at h0
   simp only [List.takeWhile_cons,h0,if_true,List.length_cons]
   rw [ih k (by simpa using hk) (fun j hj=>by have:=h (j+1) (by omega);simpa using this) (fun hk'=>by have:=hs (by simpa using hk');simpa using this)]
theorem Z9q (l:Bytes):0<tlen l:=by
 unfold tlen;split
 · assumption
 · split
   · omega
   · split <;> omega
theorem ZmC (l:Bytes)(h:0<l.length):tlen l≤l.length:=by
 have h1:=Z2A 97 122 l
 have h2:=Z2A 48 57 l
 have h3:=Z2A 48 57 (l.drop (Z0k 48 57 l+1))
 unfold tlen;split
 · exact h1
 · split
   · omega
   · split
     · rename_i hd
       have:=(List.getElem?_eq_some_iff.1 hd).1
       simp only [List.length_drop] at h3
       omega
     · exact h2
theorem Z32 (p:UInt8→Bool)(l:Bytes):(l.dropWhile p).length≤l.length:=by
 induction l with
 | nil=>simp
 | cons a l ih=>simp only [List.dropWhile_cons];split <;> simp;omega
theorem Zje:∀ (f g:Nat) (ln:Int) (s:Bytes),s.length≤f→s.length≤g→pcs f ln s=pcs g ln s:=by
 intro f
 induction f with
 | zero =>
  intro g ln s hf _
  have:s=[]:=List.length_eq_zero_iff.1 (by omega)
  subst this;cases g <;> rfl
 | succ f ih =>
  intro g ln s hf hg
  cases s with
  | nil=>cases g <;> rfl
  | cons c r =>
   cases g with
   | zero=>simp at hg
   | succ g =>
    simp only [List.length_cons] at hf hg
    have hp:=Z9q (c::r)
    have hd:((c::r).drop (tlen (c::r))).length≤r.length:=by simp only [List.length_drop,List.length_cons];omega
    have hw:=Z32 (· != 10) r
    simp only [pcs]
    rw [ih g ln r (by omega) (by omega),ih g (ln+1) r (by omega) (by omega),ih g ln (r.dropWhile (· != 10)) (by omega) (by omega),ih g ln _ (by omega) (by omega)]
end Lx
end
section
namespace Px
open Lx
abbrev Fo:=Go.Deep.BT (Int × Int)
def flen:Fo→Nat
 | .nil=>0
 | .node _ _ _ _ r=>flen r+1
def Z05 (op n:Int)(k:Nat):Bool :=
 if op=1 then decide (k=0)&&decide (0≤n)&&decide (n≤999999999)
 else if op=2 then decide (k=0)&&decide (0≤n)&&decide (n≤1000000000)
 else if op=3 then decide (k=0)&&decide (1≤n)&&decide (n≤4)
 else if op=15 then decide (k=1)&&decide (n=0)
 else if op=10 then decide (k=3)&&decide (n=0)
 else decide (4≤op)&&decide (op≤14)&&decide (k=2)&&decide (n=0)
def Z1m:Fo→Int→Int→Bool × Int
 | .nil,_,left=>(true,left)
 | .node _ _ a l r,lv,left =>
  if lv=0∨left - 1<0∨Z05 a.1 a.2 (flen l)=false then (false,left - 1)
  else match Z1m l (lv - 1) (left - 1) with
   | (false,x)=>(false,x)
   | (true,x)=>Z1m r lv x
def Z0d (op n:Int)(kids:Fo):Bool:=(Z1m (.node 0 0 (op,n) kids .nil) 30 200).1
def Z03 (op:Int):Int :=
 if op=10 then 0 else if op=14 then 1 else if op=13 then 2 else if op=15 then 3 else if op=11∨op=12 then 4
 else if op=4∨op=5 then 5 else if op=6∨op=7 then 6 else 7
def Z08 (op:Int)(i:Nat):Int :=
 if Z03 op=0∨Z03 op=7 then 0 else if Z03 op=3 then 3 else if Z03 op=4 then 5 else Z03 op+i
def Z0y (op:Int):Bytes :=
 if op=10 then [105,102,32] else if op=15 then [110,111,116,32] else if op=8 then [109,105,110,40] else if op=9 then [109,97,120,40] else []
def Z3g (op:Int):Bytes:=if op=8∨op=9 then [41] else []
def Z53 (op:Int)(i:Nat):Bytes :=
 if op=10 then (if i=1 then [32,116,104,101,110,32] else [32,101,108,115,101,32])
 else if op=14 then [32,111,114,32] else if op=13 then [32,97,110,100,32] else if op=11 then [32,60,32] else if op=12 then [32,61,32]
 else if op=4 then [32,43,32] else if op=5 then [32,45,32] else if op=6 then [32,42,32] else if op=7 then [32,47,32] else [44,32]
def Z3z (n:Int):Bytes :=
 if n=1 then [110,105,103,104,116,115] else if n=2 then [112,101,114,115,111,110,115] else if n=3 then [110,105,103,104,116] else [119,101,101,107,100,97,121]
def Z28 (n:Nat):UInt8:=UInt8.ofNat (48+n % 10)
def decF:Nat→Nat→Bytes
 | 0,_=>[]
 | f+1,n=>if n<10 then [Z28 n] else decF f (n / 10)++[Z28 n]
def dec (n:Int):Bytes:=decF 20 n.toNat
def Z0u (n:Int):Bytes:=dec (n / 100)++[46,Z28 (n.toNat / 10),Z28 n.toNat]
def body (op n:Int)(ks:Bytes):Bytes :=
 if op=1 then dec n else if op=2 then Z0u n else if op=3 then Z3z n else Z0y op++ks++Z3g op
def brk (b:Bool)(t:Bytes):Bytes:=if b then [40]++t++[41] else t
def Z30:Fo→Int→Nat→Bytes
 | .nil,_,_=>[]
 | .node _ _ a l r,par,i =>
  (if 0<i then Z53 par i else [])++brk (decide (Z03 a.1<Z08 par i)) (body a.1 a.2 (Z30 l a.1 0))++Z30 r par (i+1)
def textE (op n:Int)(kids:Fo):Bytes:=body op n (Z30 kids op 0)
end Px
end
section
open Go.RowKit Lx Px
namespace Px
def Z29:Fo→Nat→Fo
 | f,0=>f
 | .nil,_+1=>.nil
 | .node _ _ _ _ r,k+1=>Z29 r k
def getF:Fo→Nat→(Int × Int) × Fo
 | .nil,_=>((0,0),.nil)
 | .node _ _ a l _,0=>(a,l)
 | .node _ _ _ _ r,k+1=>getF r k
theorem Z5i:∀ (f:Fo) (k:Nat),k<flen f→∃ b o,Z29 f k=.node b o (getF f k).1 (getF f k).2 (Z29 f (k+1)):=by
 intro f
 induction f with
 | nil=>intro k h;simp [flen] at h
 | node b o a l r _ ihr =>
  intro k h
  cases k with
  | zero=>exact ⟨b,o,by simp [Z29,getF]⟩
  | succ k =>
   obtain ⟨b',o',e⟩:=ihr k (by simp [flen] at h;omega)
   exact ⟨b',o',e⟩
theorem Z3H:∀ (f:Fo) (k:Nat),flen f≤k→Z29 f k=.nil:=by
 intro f
 induction f with
 | nil=>intro k _;cases k <;> rfl
 | node b o a l r _ ihr =>
  intro k h
  cases k with
  | zero=>simp [flen] at h
  | succ k=>exact ihr k (by simp [flen] at h;omega)
def fitE (a:Int × Int)(l:Fo)(lv left:Int):Bool × Int :=
 if lv=0∨left - 1<0∨Z05 a.1 a.2 (flen l)=false then (false,left - 1) else Z1m l (lv - 1) (left - 1)
theorem Z66 (b o:Nat)(a:Int × Int)(l r:Fo)(lv left:Int):Z1m (.node b o a l r) lv left=(match fitE a l lv left with | (false,x)=>(false,x) | (true,x)=>Z1m r lv x):=by
 rw [Z1m,fitE];split
 · rfl
 · rfl
end Px
def FoAt (w:World)(B:Nat):Fo→Option Addr→Nat→Prop
 | .nil,_,_=>True
 | .node _ _ a l r,A,k =>
  (∃ (ad:Addr) (A':Option Addr) (c:Nat),A=some ad∧ad.block<B∧w.cell? (ad.add (k*3))=some (.int .i64 a.1)∧w.cell? ⟨(ad.add (k*3)).block,(ad.add (k*3)).off+1,none⟩=some (.int .i64 a.2) ∧
   w.cell? ⟨(ad.add (k*3)).block,(ad.add (k*3)).off+2,none⟩=some (.slice A' (flen l) c)∧FoAt w B l A' 0)∧FoAt w B r A (k+1)
def FoV (w:World)(B:Nat)(v:Value)(f:Fo):Prop:=∃ A c,v=.slice A (flen f) c∧FoAt w B f A 0
theorem Z19 (a:Addr)(n:Nat):(a.add n).block=a.block:=by unfold Addr.add;split <;> rfl
theorem FoAt.keep {w w':World}{B:Nat}(hc:∀ p:Addr,p.block<B→w'.cell? p=w.cell? p):∀ (f:Fo) (A:Option Addr) (k:Nat),FoAt w B f A k→FoAt w' B f A k:=by
 intro f
 induction f with
 | nil=>intro A k _;trivial
 | node b o a l r ihl ihr =>
  intro A k h
  obtain ⟨⟨ad,A',c,e,hlt,h0,h1,h2,h3⟩,h4⟩:=h
  have hb:(ad.add (k*3)).block<B:=by rw [Z19];exact hlt
  exact ⟨⟨ad,A',c,e,hlt,(hc _ hb).trans h0,(hc ⟨(ad.add (k*3)).block,(ad.add (k*3)).off+1,none⟩ hb).trans h1,(hc ⟨(ad.add (k*3)).block,(ad.add (k*3)).off+2,none⟩ hb).trans h2,ihl A' 0 h3⟩,ihr A (k+1) h4⟩
theorem FoAt.get {w:World}{B:Nat}:∀ (f:Fo) (A:Option Addr) (i k:Nat),FoAt w B f A i→k<flen f →
 ∃ (ad:Addr) (A':Option Addr) (c:Nat),A=some ad∧ad.block<B∧w.cell? (ad.add ((i+k)*3))=some (.int .i64 (getF f k).1.1)∧w.cell? ⟨(ad.add ((i+k)*3)).block,(ad.add ((i+k)*3)).off+1,none⟩=some (.int .i64 (getF f k).1.2) ∧
  w.cell? ⟨(ad.add ((i+k)*3)).block,(ad.add ((i+k)*3)).off+2,none⟩=some (.slice A' (flen (getF f k).2) c)∧FoAt w B (getF f k).2 A' 0:=by
 intro f
 induction f with
 | nil=>intro A i k _ h;simp [flen] at h
 | node b o a l r _ ihr =>
  intro A i k h hk
  cases k with
  | zero=>exact h.1
  | succ k =>
   have:=ihr A (i+1) k h.2 (by simp [flen] at hk;omega)
   rw [show i+1+k=i+(k+1) from by omega] at this
   exact this
end
end Go.Proofs.YtnepkoepbapgeaaGreatDoor
