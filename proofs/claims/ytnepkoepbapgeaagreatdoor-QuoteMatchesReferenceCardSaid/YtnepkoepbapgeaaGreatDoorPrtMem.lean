import Derived.RangeFuncRecord
import Derived.Lib.Builder
import Derived.Test.YtnepkoepbapgeaaGreatDoorRows
import Derived.ProofKit
import Derived.ShutString
import Derived.Deep.Slices
import Derived.Deep.Fields
import Derived.ChangeSame
import GoSem.Core.Value
import Derived.Deep.Trees
import Derived.RowKit
import Derived.WalkKit
import Derived.Lib.Hide
namespace Go.Proofs.YtnepkoepbapgeaaGreatDoor
section
open Go.RowKit
theorem zQ : type_of% @World.putObj_heap_other := @World.putObj_heap_other
theorem zT : type_of% @List.take_succ_eq_append_getElem := @List.take_succ_eq_append_getElem
theorem zG : type_of% @World.grownBy_alloc := @World.grownBy_alloc
theorem zO : type_of% @Lib.frozen_of_heap := @Lib.frozen_of_heap
theorem zM : type_of% @Array.getElem?_modify := @Array.getElem?_modify
theorem zE2 : type_of% @Int.eq_ofNat_of_zero_le := @Int.eq_ofNat_of_zero_le
theorem zc2 : type_of% @List.cons_append := @List.cons_append
theorem zn2 : type_of% @List.nil_append := @List.nil_append
theorem zr : type_of% @Below.refl := @Below.refl
theorem zi : type_of% @IntWalk.i64_in := @IntWalk.i64_in
theorem zd : type_of% @Bool.and_eq_true := @Bool.and_eq_true
theorem zf : type_of% @if_neg := @if_neg
theorem zp : type_of% @if_pos := @if_pos
theorem zg : type_of% @Below.heap_setCell := @Below.heap_setCell
theorem zk : type_of% @World.size_alloc := @World.size_alloc
theorem zl : type_of% @Nat.le_of_lt := @Nat.le_of_lt
theorem zj : type_of% @List.length_append := @List.length_append
theorem zv : type_of% @List.getElem?_eq_getElem := @List.getElem?_eq_getElem
theorem zw : type_of% @List.length_cons := @List.length_cons
theorem zx : type_of% @List.length_nil := @List.length_nil
theorem zy : type_of% @run_underlying := @run_underlying
theorem zA : type_of% @Bool.eq_iff_iff := @Bool.eq_iff_iff
theorem zB : type_of% @Int.toNat_natCast := @Int.toNat_natCast
theorem zC : type_of% @List.mem_append := @List.mem_append
theorem zD : type_of% @List.mem_cons := @List.mem_cons
theorem zF : type_of% @AllReady.cons := @AllReady.cons
end
open Value (int slice)
open IntKind (i64)
open Go.RowKit in
theorem zh:type_of% @Lib.hid:=@Lib.hid
open Go.RowKit in
theorem zc:type_of% @Lib.cell_of_heap:=@Lib.cell_of_heap
open Go.RowKit in
theorem za:type_of% @World.alloc_heap_new:=@World.alloc_heap_new
open Go.RowKit in
theorem zn:type_of% @Nat.le_refl:=@Nat.le_refl
theorem zs {α:Type}{a:Array α}{i:Nat}{x:α}(h:a[i]?=some x):i<a.size:=(Array.getElem?_eq_some_iff.1 h).1
section
open Go.ChangeShapes Go.WideShapes Go.ChangeAt Go.RowKit Go.Deep
theorem Tryz.own:ownKnob Tryz.prog.godebug=none:=by kernel_rfl
theorem Tryz.laidOut:laidOutB Tryz.prog=true:=by kernel_rfl
section
variable {H:Type} {enc:TypeId × Value->H} {P:Program}
theorem Z4d {t:TypeId}(L:laidOutB P=true)(I:P.readableRec t=true)(F:t<P.types.size){W C:World}{v:Value}{d:DataW H}{B:List MemPlace} (h:DataW.Trod enc P W 0 (λ_=>true) true t v d B) (hb:Below W.heap.size W C) (G:∀ x∈B,x.block<W.heap.size) (D:Nat->Bool) (J:∀ x∈B,D x.block=true) : DataW.Trod enc P C 0 D true t v d B := WideElems.Trod_stays L I F h (λx hx=>hb.same (G x hx)) J
theorem Zap {f:Func}{s:ChangeSpec}{O l g Y:Bool}{W F:World}{args:Array Value}{v:Value}{G I:List (DataW H)}{C pa pv:List MemPlace} (L:DataW.Whole enc P f.params.toList s.vars O W args.toList G I C) (M:∀ (b:Nat) (D:Nat->Bool) (d:Bool),DataW.TrodAll enc P F b D d f.resultTypes.toList (v.resultList f.resultTypes.size) (s.fn H (G++I)).results []) (V:∀ D:Nat->Bool,(∀ p∈C,D p.block=true)->DataW.TrodAll enc P F 0 D true f.params.toList args.toList (s.fn H (G++I)).args pa) (R:∀ D:Nat->Bool,(∀ p∈C,D p.block=true)->DataW.TrodVars enc P F D s.vars (s.fn H (G++I)).vars pv) (J:C=pa++pv) (hb:Below W.heap.size W F) (Z:∀ (j:Nat) (t:TypeId) (r:Value),f.resultTypes[j]?=some t->(v.resultList f.resultTypes.size)[j]?=some r->Value.okWide P F .any 0 t r) : s.post enc P f O l g Y W args v F:=by
 have T:∀ p∈C,p.block<W.heap.size:=λp B=>L.lt p B;have N:∀ p∈C,(λb=>decide (b<W.heap.size)) p.block=true:=λp B=>by simpa using T p B
 refine ⟨G,I,C,[],pa,pv,L,M _ _ _,V _ N,R _ N,World.keptBut_mono (λp B=>⟨B,?_⟩) (hb.frame (·∈C)),λ_=>?_⟩
 · rw [J,zC] at B;exact Or.inr B
 · obtain ⟨_,_,_,_,_,m,q⟩:=L;refine ⟨Z,_,_,([]++pa)++pv,⟨[]++pa,pv,trodAll_append (V _ (λ_ _=>rfl)) (M _ _ _),R _ (λ_ _=>rfl),rfl,?_,?_⟩,?_⟩
   · intro b U B;have S:MemPlace.cell b U∈C:=by rw [J];simpa using B
     rw [hb.frozen (T _ S)];exact m b U S
   · intro X;have:=q X;rw [J] at this;simpa using this
   · intro p B _;rw [J];simpa using B
variable {w:World} {base:Nat} {spare:Nat->Bool} {held:Bool}
end
theorem ZiE {α:Type}(Q:Nat->α->Prop)(n:Nat)(h:∀ i,i<n->∃ x,Q i x):∃ l:List α,l.length=n/\∀ i,(hi:i<l.length)->Q i l[i]:=by
 induction n with
 | zero=>exact ⟨[],rfl,λi hi=>absurd hi (by simp)⟩
 | succ n ih =>
  obtain ⟨l,B,D⟩:=ih (λi hi=>h i (by omega));obtain ⟨x,C⟩:=h n (by omega);refine ⟨l++[x],by simp [B],λi hi=>?_⟩;by_cases e:i<l.length
  · rw [List.getElem_append_left e];exact D i e
  · have:i=l.length:=by simp at hi;omega
    subst this;rw [List.getElem_append_right (zn _)];simp only [Nat.sub_self,List.getElem_cons_zero];rw [B];exact C
end
section
namespace Lx
abbrev Bytes:=List UInt8
abbrev Tok:=Int × Int × Bytes
def mk (l:Bytes):ByteArray:=⟨l.toArray⟩
def bl (s:ByteArray):Bytes:=s.data.toList
theorem Z3m (l:Bytes):bl (mk l)=l:=rfl
theorem Zaq (s:ByteArray):mk (bl s)=s:=by cases s;rfl
theorem Z09 (l:Bytes):(mk l).size=l.length:=by simp [mk,ByteArray.size]
theorem Z02 (s:ByteArray):(bl s).length=s.size:=by simp [bl]
theorem mk_inj {a b:Bytes}(h:mk a=mk b):a=b:=by have:=congrArg bl h;simpa [Z3m] using this
theorem ZeG (s:ByteArray)(k:Nat)(h:k<s.size):(bl s)[k]'(by rw [Z02];exact h)=s[k]:=rfl
theorem Z5a (s:ByteArray)(a b:Nat):bl (s.extract a b)=((bl s).drop a).take (b - a):=by
 simp [bl,ByteArray.data_extract,Array.toList_extract,List.extract_eq_take_drop]
def inR (lo hi:Int)(c:UInt8):Bool:=decide (lo<=(c.toNat:Int))&&decide ((c.toNat:Int)<=hi)
def Z0v (lo hi:Int)(l:Bytes):Nat:=(l.takeWhile (inR lo hi)).length
def allR (lo hi:Int)(l:Bytes):Bool:=!l.isEmpty&&l.all (inR lo hi)
def Z2z (l:Bytes):Bool:=allR 48 57 l&&decide (l.length<=9)&&(decide (l.length=1) || l.head? != some 48)
def val (l:Bytes):Int:=l.foldl (λn c=>10*n+((c.toNat:Int) - 48)) 0
def Zar (l:Bytes):Bytes:=l.takeWhile (· != 46)
def frac (l:Bytes):Bytes:=(l.dropWhile (· != 46)).tail
def Z9c (l:Bytes):Bool:=l.contains 46&&Z2z (Zar l)&&decide ((frac l).length=2)&&allR 48 57 (frac l)&&decide (val (Zar l++frac l)<=1000000000)
def ZiF:Bytes:=[123,125,40,41,59,44,43,45,42,47,60,61,37]
def Z9p (l:Bytes):Bool:=match l with
 | [c]=>ZiF.contains c
 | _=>false
def Z0b (l:Bytes):Int:=if allR 97 122 l then 1 else if Z2z l then 2 else if Z9c l then 3 else if Z9p l then 4 else 0
def tlen (l:Bytes):Nat :=
 if 0<Z0v 97 122 l then Z0v 97 122 l
 else if Z0v 48 57 l=0 then 1
 else if l[Z0v 48 57 l]?=some 46 then Z0v 48 57 l+1+Z0v 48 57 (l.drop (Z0v 48 57 l+1))
 else Z0v 48 57 l
def pcs:Nat->Int->Bytes->List (Int × Bytes)
 | 0,_,_=>[]
 | _+1,_,[]=>[]
 | f+1,ln,c::r =>
  if c=32 then pcs f ln r
  else if c=10 then pcs f (ln+1) r
  else if c=35 then pcs f ln (r.dropWhile (· != 10))
  else (ln,(c::r).take (tlen (c::r)))::pcs f ln ((c::r).drop (tlen (c::r)))
def pieces (s:Bytes):List (Int × Bytes):=pcs s.length 1 s
def coll:List Tok->List (Int × Bytes)->List Tok × Int × Int
 | acc,[]=>(acc,0,0)
 | acc,(ln,t)::ps =>if Z0b t=0 then ([],8,ln) else if acc.length=5000 then ([],2,ln) else coll (acc++[(Z0b t,ln,t)]) ps
def toks (s:Bytes):List Tok × Int × Int:=if 20000<s.length then ([],2,0) else coll [] (pieces s)
theorem Z3n (lo B:Int)(l:Bytes):Z0v lo B l<=l.length:=by
 unfold Z0v;induction l with
 | nil=>simp
 | cons a l ih=>simp only [List.takeWhile_cons];split <;> simp <;> omega
theorem Zdm (lo B:Int)(l:Bytes)(k:Nat)(hk:k<=l.length)(h:∀ j,(F:j<k)->inR lo B (l[j]'(by omega))=true) (C:∀ hk':k<l.length,inR lo B l[k]=false):Z0v lo B l=k:=by
 unfold Z0v;induction l generalizing k with
 | nil=>simp at hk;simp [hk]
 | cons a l ih =>
  cases k with
  | zero=>have:=C (by simp);simp at this;simp [this]
  | succ k =>have D:=h 0 (by omega);simp at D;simp only [List.takeWhile_cons,D,if_true,zw];rw [ih k (by simpa using hk) (λj F=>by have:=h (j+1) (by omega);simpa using this) (λhk'=>by have:=C (by simpa using hk');simpa using this)]
theorem Zas (l:Bytes):0<tlen l:=by
 unfold tlen;split
 · assumption
 · split
   · omega
   · split <;> omega
theorem Zqd (l:Bytes)(h:0<l.length):tlen l<=l.length:=by
 have F:=Z3n 97 122 l;have D:=Z3n 48 57 l;have B:=Z3n 48 57 (l.drop (Z0v 48 57 l+1));unfold tlen;split
 · exact F
 · split
   · omega
   · split
     · rename_i C;have:=(List.getElem?_eq_some_iff.1 C).1;simp only [List.length_drop] at B;omega
     · exact D
theorem Z3x (p:UInt8->Bool)(l:Bytes):(l.dropWhile p).length<=l.length:=by
 induction l with
 | nil=>simp
 | cons a l ih=>simp only [List.dropWhile_cons];split <;> simp;omega
theorem Zmr:∀ (f g:Nat) (B:Int) (s:Bytes),s.length<=f->s.length<=g->pcs f B s=pcs g B s:=by
 intro f;induction f with
 | zero =>intro g B s D _;have:s=[]:=List.length_eq_zero_iff.1 (by omega);subst this;cases g <;> rfl
 | succ f ih =>
  intro g B s D C;cases s with
  | nil=>cases g <;> rfl
  | cons c r =>
   cases g with
   | zero=>simp at C
   | succ g =>
    simp only [zw] at D C;have G:=Zas (c::r);have F:((c::r).drop (tlen (c::r))).length<=r.length:=by simp only [List.length_drop,zw];omega
    have hw:=Z3x (· != 10) r;simp only [pcs];rw [ih g B r (by omega) (by omega),ih g (B+1) r (by omega) (by omega),ih g B (r.dropWhile (· != 10)) (by omega) (by omega),ih g B _ (by omega) (by omega)]
end Lx
end
section
namespace Px
open Lx
abbrev Fo:=Go.Deep.BT (Int × Int)
def flen:Fo->Nat
 | .nil=>0
 | .node _ _ _ _ r=>flen r+1
def Z05 (op n:Int)(k:Nat):Bool :=
 if op=1 then decide (k=0)&&decide (0<=n)&&decide (n<=999999999)
 else if op=2 then decide (k=0)&&decide (0<=n)&&decide (n<=1000000000)
 else if op=3 then decide (k=0)&&decide (1<=n)&&decide (n<=4)
 else if op=15 then decide (k=1)&&decide (n=0)
 else if op=10 then decide (k=3)&&decide (n=0)
 else decide (4<=op)&&decide (op<=14)&&decide (k=2)&&decide (n=0)
def Z1D:Fo->Int->Int->Bool × Int
 | .nil,_,left=>(true,left)
 | .node _ _ a l r,lv,left =>
  if lv=0\/left - 1<0\/Z05 a.1 a.2 (flen l)=false then (false,left - 1)
  else match Z1D l (lv - 1) (left - 1) with
   | (false,x)=>(false,x)
   | (true,x)=>Z1D r lv x
def Z0i (op n:Int)(kids:Fo):Bool:=(Z1D (.node 0 0 (op,n) kids .nil) 30 200).1
def Z04 (op:Int):Int :=
 if op=10 then 0 else if op=14 then 1 else if op=13 then 2 else if op=15 then 3 else if op=11\/op=12 then 4
 else if op=4\/op=5 then 5 else if op=6\/op=7 then 6 else 7
def Z07 (op:Int)(i:Nat):Int :=
 if Z04 op=0\/Z04 op=7 then 0 else if Z04 op=3 then 3 else if Z04 op=4 then 5 else Z04 op+i
def beginOf (op:Int):Bytes :=
 if op=10 then [105,102,32] else if op=15 then [110,111,116,32] else if op=8 then [109,105,110,40] else if op=9 then [109,97,120,40] else []
def endOf (op:Int):Bytes:=if op=8\/op=9 then [41] else []
def sepOf (op:Int)(i:Nat):Bytes :=
 if op=10 then (if i=1 then [32,116,104,101,110,32] else [32,101,108,115,101,32])
 else if op=14 then [32,111,114,32] else if op=13 then [32,97,110,100,32] else if op=11 then [32,60,32] else if op=12 then [32,61,32]
 else if op=4 then [32,43,32] else if op=5 then [32,45,32] else if op=6 then [32,42,32] else if op=7 then [32,47,32] else [44,32]
def Z4n (n:Int):Bytes :=
 if n=1 then [110,105,103,104,116,115] else if n=2 then [112,101,114,115,111,110,115] else if n=3 then [110,105,103,104,116] else [119,101,101,107,100,97,121]
def Z1n (n:Nat):UInt8:=UInt8.ofNat (48+n % 10)
def decF:Nat->Nat->Bytes
 | 0,_=>[]
 | f+1,n=>if n<10 then [Z1n n] else decF f (n / 10)++[Z1n n]
def dec (n:Int):Bytes:=decF 20 n.toNat
def Z0y (n:Int):Bytes:=dec (n / 100)++[46,Z1n (n.toNat / 10),Z1n n.toNat]
def body (op n:Int)(ks:Bytes):Bytes :=
 if op=1 then dec n else if op=2 then Z0y n else if op=3 then Z4n n else beginOf op++ks++endOf op
def brk (b:Bool)(t:Bytes):Bytes:=if b then [40]++t++[41] else t
def Z2e:Fo->Int->Nat->Bytes
 | .nil,_,_=>[]
 | .node _ _ a l r,par,i =>(if 0<i then sepOf par i else [])++brk (decide (Z04 a.1<Z07 par i)) (body a.1 a.2 (Z2e l a.1 0))++Z2e r par (i+1)
def textE (op n:Int)(kids:Fo):Bytes:=body op n (Z2e kids op 0)
end Px
end
section
open Go.RowKit Lx Px
namespace Px
def Z1x:Fo->Nat->Fo
 | f,0=>f
 | .nil,_+1=>.nil
 | .node _ _ _ _ r,k+1=>Z1x r k
def getF:Fo->Nat->(Int × Int) × Fo
 | .nil,_=>((0,0),.nil)
 | .node _ _ a l _,0=>(a,l)
 | .node _ _ _ _ r,k+1=>getF r k
theorem Z4y:∀ (f:Fo) (k:Nat),k<flen f->∃ b o,Z1x f k=.node b o (getF f k).1 (getF f k).2 (Z1x f (k+1)):=by
 intro f;induction f with
 | nil=>intro k h;simp [flen] at h
 | node b o a l r _ ihr =>
  intro k h;cases k with
  | zero=>exact ⟨b,o,by simp [Z1x,getF]⟩
  | succ k =>obtain ⟨C,B,e⟩:=ihr k (by simp [flen] at h;omega);exact ⟨C,B,e⟩
theorem Z3H:∀ (f:Fo) (k:Nat),flen f<=k->Z1x f k=.nil:=by
 intro f;induction f with
 | nil=>intro k _;cases k <;> rfl
 | node b o a l r _ ihr =>
  intro k h;cases k with
  | zero=>simp [flen] at h
  | succ k=>exact ihr k (by simp [flen] at h;omega)
def fitE (a:Int × Int)(l:Fo)(lv left:Int):Bool × Int :=
 if lv=0\/left - 1<0\/Z05 a.1 a.2 (flen l)=false then (false,left - 1) else Z1D l (lv - 1) (left - 1)
theorem Z73 (b o:Nat)(a:Int × Int)(l r:Fo)(B C:Int):Z1D (.node b o a l r) B C=(match fitE a l B C with | (false,x)=>(false,x) | (true,x)=>Z1D r B x):=by
 rw [Z1D,fitE];split
 · rfl
 · rfl
end Px
def FoAt (w:World)(B:Nat):Fo->Option Addr->Nat->Prop
 | .nil,_,_=>True
 | .node _ _ a l r,A,k =>(∃ (ad:Addr) (A':Option Addr) (c:Nat),A=some ad/\ad.block<B/\w.cell? (ad.add (k*3))=some (int i64 a.1)/\w.cell? ⟨(ad.add (k*3)).block,(ad.add (k*3)).off+1,none⟩=some (int i64 a.2) /\ w.cell? ⟨(ad.add (k*3)).block,(ad.add (k*3)).off+2,none⟩=some (slice A' (flen l) c)/\FoAt w B l A' 0)/\FoAt w B r A (k+1)
def FoV (w:World)(B:Nat)(v:Value)(f:Fo):Prop:=∃ A c,v=slice A (flen f) c/\FoAt w B f A 0
theorem Z1d (a:Addr)(n:Nat):(a.add n).block=a.block:=by unfold Addr.add;split <;> rfl
theorem FoAt.keep {w w':World}{B:Nat}(C:∀ p:Addr,p.block<B->w'.cell? p=w.cell? p):∀ (f:Fo) (A:Option Addr) (k:Nat),FoAt w B f A k->FoAt w' B f A k:=by
 intro f;induction f with
 | nil=>intro A k _;trivial
 | node b o a l r ihl ihr =>
  intro A k h;obtain ⟨⟨ad,F,c,e,D,J,G,I,H⟩,L⟩:=h;have hb:(ad.add (k*3)).block<B:=by rw [Z1d];exact D
  exact ⟨⟨ad,F,c,e,D,(C _ hb).trans J,(C ⟨(ad.add (k*3)).block,(ad.add (k*3)).off+1,none⟩ hb).trans G,(C ⟨(ad.add (k*3)).block,(ad.add (k*3)).off+2,none⟩ hb).trans I,ihl F 0 H⟩,ihr A (k+1) L⟩
theorem FoAt.get {w:World}{B:Nat}:∀ (f:Fo) (A:Option Addr) (i k:Nat),FoAt w B f A i->k<flen f -> ∃ (ad:Addr) (A':Option Addr) (c:Nat),A=some ad/\ad.block<B/\w.cell? (ad.add ((i+k)*3))=some (int i64 (getF f k).1.1)/\w.cell? ⟨(ad.add ((i+k)*3)).block,(ad.add ((i+k)*3)).off+1,none⟩=some (int i64 (getF f k).1.2) /\ w.cell? ⟨(ad.add ((i+k)*3)).block,(ad.add ((i+k)*3)).off+2,none⟩=some (slice A' (flen (getF f k).2) c)/\FoAt w B (getF f k).2 A' 0:=by
 intro f;induction f with
 | nil=>intro A i k _ h;simp [flen] at h
 | node b o a l r _ ihr =>
  intro A i k h hk;cases k with
  | zero=>exact h.1
  | succ k =>have:=ihr A (i+1) k h.2 (by simp [flen] at hk;omega);rw [show i+1+k=i+(k+1) from by omega] at this;exact this
end
end Go.Proofs.YtnepkoepbapgeaaGreatDoor
