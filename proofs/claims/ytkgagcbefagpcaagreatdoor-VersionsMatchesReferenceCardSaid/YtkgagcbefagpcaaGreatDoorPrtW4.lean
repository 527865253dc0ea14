import Derived.Test.YtkgagcbefagpcaaGreatDoorRows
import Derived.ProofKit
import Derived.ShutString
import Derived.Deep.Fields
import Derived.Deep.Trees
import Derived.Lib.Hide
import Derived.Test.YtkgagcbefagpcaaGreatDoorProg
import Derived.WalkSpells
import Derived.WalkLawsBesides
import Derived.RangeFuncBox
import Derived.BigQuiet
import Derived.Deep.RegionHeld3
namespace Go.Proofs.YtkgagcbefagpcaaGreatDoor
theorem zh3{pa pb pc:Prop}(a:pa)(b:pb)(c:pc):Go.RowKit.Hid pa/\Go.RowKit.Hid pb/\Go.RowKit.Hid pc:=⟨a,b,c⟩
theorem zh4{pa pb pc pd:Prop}(a:pa)(b:pb)(c:pc)(d:pd):Go.RowKit.Hid pa/\Go.RowKit.Hid pb/\Go.RowKit.Hid pc/\Go.RowKit.Hid pd:=⟨a,b,c,d⟩
theorem zh5{pa pb pc pd pe:Prop}(a:pa)(b:pb)(c:pc)(d:pd)(e:pe):Go.RowKit.Hid pa/\Go.RowKit.Hid pb/\Go.RowKit.Hid pc/\Go.RowKit.Hid pd/\Go.RowKit.Hid pe:=⟨a,b,c,d,e⟩
theorem zh6{pa pb pc pd pe pf:Prop}(a:pa)(b:pb)(c:pc)(d:pd)(e:pe)(f:pf):Go.RowKit.Hid pa/\Go.RowKit.Hid pb/\Go.RowKit.Hid pc/\Go.RowKit.Hid pd/\Go.RowKit.Hid pe/\Go.RowKit.Hid pf:=⟨a,b,c,d,e,f⟩
theorem zh7{pa pb pc pd pe pf pg:Prop}(a:pa)(b:pb)(c:pc)(d:pd)(e:pe)(f:pf)(g:pg):Go.RowKit.Hid pa/\Go.RowKit.Hid pb/\Go.RowKit.Hid pc/\Go.RowKit.Hid pd/\Go.RowKit.Hid pe/\Go.RowKit.Hid pf/\Go.RowKit.Hid pg:=⟨a,b,c,d,e,f,g⟩
theorem zh8{pa pb pc pd pe pf pg ph:Prop}(a:pa)(b:pb)(c:pc)(d:pd)(e:pe)(f:pf)(g:pg)(h:ph):Go.RowKit.Hid pa/\Go.RowKit.Hid pb/\Go.RowKit.Hid pc/\Go.RowKit.Hid pd/\Go.RowKit.Hid pe/\Go.RowKit.Hid pf/\Go.RowKit.Hid pg/\Go.RowKit.Hid ph:=⟨a,b,c,d,e,f,g,h⟩
theorem zh9{pa pb pc pd pe pf pg ph pi:Prop}(a:pa)(b:pb)(c:pc)(d:pd)(e:pe)(f:pf)(g:pg)(h:ph)(i:pi):Go.RowKit.Hid pa/\Go.RowKit.Hid pb/\Go.RowKit.Hid pc/\Go.RowKit.Hid pd/\Go.RowKit.Hid pe/\Go.RowKit.Hid pf/\Go.RowKit.Hid pg/\Go.RowKit.Hid ph/\Go.RowKit.Hid pi:=⟨a,b,c,d,e,f,g,h,i⟩
theorem zh10{pa pb pc pd pe pf pg ph pi pj:Prop}(a:pa)(b:pb)(c:pc)(d:pd)(e:pe)(f:pf)(g:pg)(h:ph)(i:pi)(j:pj):Go.RowKit.Hid pa/\Go.RowKit.Hid pb/\Go.RowKit.Hid pc/\Go.RowKit.Hid pd/\Go.RowKit.Hid pe/\Go.RowKit.Hid pf/\Go.RowKit.Hid pg/\Go.RowKit.Hid ph/\Go.RowKit.Hid pi/\Go.RowKit.Hid pj:=⟨a,b,c,d,e,f,g,h,i,j⟩
theorem zh11{pa pb pc pd pe pf pg ph pi pj pk:Prop}(a:pa)(b:pb)(c:pc)(d:pd)(e:pe)(f:pf)(g:pg)(h:ph)(i:pi)(j:pj)(k:pk):Go.RowKit.Hid pa/\Go.RowKit.Hid pb/\Go.RowKit.Hid pc/\Go.RowKit.Hid pd/\Go.RowKit.Hid pe/\Go.RowKit.Hid pf/\Go.RowKit.Hid pg/\Go.RowKit.Hid ph/\Go.RowKit.Hid pi/\Go.RowKit.Hid pj/\Go.RowKit.Hid pk:=⟨a,b,c,d,e,f,g,h,i,j,k⟩
theorem zh12{pa pb pc pd pe pf pg ph pi pj pk pl:Prop}(a:pa)(b:pb)(c:pc)(d:pd)(e:pe)(f:pf)(g:pg)(h:ph)(i:pi)(j:pj)(k:pk)(l:pl):Go.RowKit.Hid pa/\Go.RowKit.Hid pb/\Go.RowKit.Hid pc/\Go.RowKit.Hid pd/\Go.RowKit.Hid pe/\Go.RowKit.Hid pf/\Go.RowKit.Hid pg/\Go.RowKit.Hid ph/\Go.RowKit.Hid pi/\Go.RowKit.Hid pj/\Go.RowKit.Hid pk/\Go.RowKit.Hid pl:=⟨a,b,c,d,e,f,g,h,i,j,k,l⟩
theorem zh13{pa pb pc pd pe pf pg ph pi pj pk pl pm:Prop}(a:pa)(b:pb)(c:pc)(d:pd)(e:pe)(f:pf)(g:pg)(h:ph)(i:pi)(j:pj)(k:pk)(l:pl)(m:pm):Go.RowKit.Hid pa/\Go.RowKit.Hid pb/\Go.RowKit.Hid pc/\Go.RowKit.Hid pd/\Go.RowKit.Hid pe/\Go.RowKit.Hid pf/\Go.RowKit.Hid pg/\Go.RowKit.Hid ph/\Go.RowKit.Hid pi/\Go.RowKit.Hid pj/\Go.RowKit.Hid pk/\Go.RowKit.Hid pl/\Go.RowKit.Hid pm:=⟨a,b,c,d,e,f,g,h,i,j,k,l,m⟩
theorem zh14{pa pb pc pd pe pf pg ph pi pj pk pl pm pn:Prop}(a:pa)(b:pb)(c:pc)(d:pd)(e:pe)(f:pf)(g:pg)(h:ph)(i:pi)(j:pj)(k:pk)(l:pl)(m:pm)(n:pn):Go.RowKit.Hid pa/\Go.RowKit.Hid pb/\Go.RowKit.Hid pc/\Go.RowKit.Hid pd/\Go.RowKit.Hid pe/\Go.RowKit.Hid pf/\Go.RowKit.Hid pg/\Go.RowKit.Hid ph/\Go.RowKit.Hid pi/\Go.RowKit.Hid pj/\Go.RowKit.Hid pk/\Go.RowKit.Hid pl/\Go.RowKit.Hid pm/\Go.RowKit.Hid pn:=⟨a,b,c,d,e,f,g,h,i,j,k,l,m,n⟩
theorem zh15{pa pb pc pd pe pf pg ph pi pj pk pl pm pn po:Prop}(a:pa)(b:pb)(c:pc)(d:pd)(e:pe)(f:pf)(g:pg)(h:ph)(i:pi)(j:pj)(k:pk)(l:pl)(m:pm)(n:pn)(o:po):Go.RowKit.Hid pa/\Go.RowKit.Hid pb/\Go.RowKit.Hid pc/\Go.RowKit.Hid pd/\Go.RowKit.Hid pe/\Go.RowKit.Hid pf/\Go.RowKit.Hid pg/\Go.RowKit.Hid ph/\Go.RowKit.Hid pi/\Go.RowKit.Hid pj/\Go.RowKit.Hid pk/\Go.RowKit.Hid pl/\Go.RowKit.Hid pm/\Go.RowKit.Hid pn/\Go.RowKit.Hid po:=⟨a,b,c,d,e,f,g,h,i,j,k,l,m,n,o⟩
theorem zh16{pa pb pc pd pe pf pg ph pi pj pk pl pm pn po pp:Prop}(a:pa)(b:pb)(c:pc)(d:pd)(e:pe)(f:pf)(g:pg)(h:ph)(i:pi)(j:pj)(k:pk)(l:pl)(m:pm)(n:pn)(o:po)(p:pp):Go.RowKit.Hid pa/\Go.RowKit.Hid pb/\Go.RowKit.Hid pc/\Go.RowKit.Hid pd/\Go.RowKit.Hid pe/\Go.RowKit.Hid pf/\Go.RowKit.Hid pg/\Go.RowKit.Hid ph/\Go.RowKit.Hid pi/\Go.RowKit.Hid pj/\Go.RowKit.Hid pk/\Go.RowKit.Hid pl/\Go.RowKit.Hid pm/\Go.RowKit.Hid pn/\Go.RowKit.Hid po/\Go.RowKit.Hid pp:=⟨a,b,c,d,e,f,g,h,i,j,k,l,m,n,o,p⟩
@[match_pattern] abbrev vI(n:Int):Go.Value:=.int .i64 n
theorem _root_.Go.RowKit.Hid.o{p:Prop}(h:Go.RowKit.Hid p):p:=h
section
open Go.RowKit
theorem zF2 : type_of% @Array.getElem?_eq_some_iff := @Array.getElem?_eq_some_iff
theorem zh : type_of% @Lib.hid := @Lib.hid
theorem zH : type_of% @Lib.cell_of_heap := @Lib.cell_of_heap
theorem zn : type_of% @Nat.le_refl := @Nat.le_refl
theorem za : type_of% @World.alloc_heap_new := @World.alloc_heap_new
theorem zQ : type_of% @World.putObj_heap_other := @World.putObj_heap_other
theorem zT : type_of% @List.take_succ_eq_append_getElem := @List.take_succ_eq_append_getElem
theorem zG : type_of% @World.grownBy_alloc := @World.grownBy_alloc
theorem zO : type_of% @Lib.frozen_of_heap := @Lib.frozen_of_heap
theorem zM : type_of% @Array.getElem?_modify := @Array.getElem?_modify
theorem zE2 : type_of% @Int.eq_ofNat_of_zero_le := @Int.eq_ofNat_of_zero_le
theorem zc2 : type_of% @List.cons_append := @List.cons_append
theorem zn2 : type_of% @List.nil_append := @List.nil_append
theorem zr : type_of% @Below.refl := @Below.refl
theorem zi : type_of% @IntWalk.i64_in := @IntWalk.i64_in
theorem zd : type_of% @Bool.and_eq_true := @Bool.and_eq_true
theorem zf : type_of% @if_neg := @if_neg
theorem zp : type_of% @if_pos := @if_pos
theorem zg : type_of% @Below.heap_setCell := @Below.heap_setCell
theorem zk : type_of% @World.size_alloc := @World.size_alloc
theorem zl : type_of% @Nat.le_of_lt := @Nat.le_of_lt
theorem zt : type_of% @Nat.le_trans := @Nat.le_trans
theorem zj : type_of% @List.length_append := @List.length_append
theorem zv : type_of% @List.getElem?_eq_getElem := @List.getElem?_eq_getElem
theorem zw : type_of% @List.length_cons := @List.length_cons
theorem zx : type_of% @List.length_nil := @List.length_nil
theorem zy : type_of% @run_underlying := @run_underlying
theorem zA : type_of% @Bool.eq_iff_iff := @Bool.eq_iff_iff
theorem zB : type_of% @Int.toNat_natCast := @Int.toNat_natCast
theorem zC : type_of% @List.mem_append := @List.mem_append
theorem zD : type_of% @List.mem_cons := @List.mem_cons
theorem zF : type_of% @AllReady.cons := @AllReady.cons
end
open _root_.Go.Proofs.Tryz
open Value (int slice)
open IntKind (i64)
set_option maxRecDepth 100000
section
open Go.ChangeShapes Go.WideShapes Go.ChangeAt Go.RowKit Go.Deep
theorem Tryz.own:ownKnob Tryz.prog.godebug=none:=by kernel_rfl
theorem Tryz.laidOut:laidOutB prog=true:=by kernel_rfl
section
variable {H:Type} {enc:TypeId × Value->H} {P:Program}
theorem Z6j {t:TypeId}(F:laidOutB P=true)(L:P.readableRec t=true)(I:t<P.types.size){W C:World}{v:Value}{d:DataW H}{B:List MemPlace} (h:DataW.Trod enc P W 0 (λ_=>true) true t v d B) (hb:Below W.heap.size W C) (G:∀ x∈B,x.block<W.heap.size) (D:Nat->Bool) (J:∀ x∈B,D x.block=true) : DataW.Trod enc P C 0 D true t v d B := WideElems.Trod_stays F L I h (λx hx=>hb.same (G x hx)) J
theorem Zb2 {f:Func}{s:ChangeSpec}{S l q X:Bool}{W F:World}{args:Array Value}{v:Value}{G I:List (DataW H)}{C pa pv:List MemPlace} (L:DataW.Whole enc P f.params.toList s.vars S W args.toList G I C) (N:∀ (b:Nat) (D:Nat->Bool) (d:Bool),DataW.TrodAll enc P F b D d f.resultTypes.toList (v.resultList f.resultTypes.size) (s.fn H (G++I)).results []) (O:∀ D:Nat->Bool,(∀ p∈C,D p.block=true)->DataW.TrodAll enc P F 0 D true f.params.toList args.toList (s.fn H (G++I)).args pa) (V:∀ D:Nat->Bool,(∀ p∈C,D p.block=true)->DataW.TrodVars enc P F D s.vars (s.fn H (G++I)).vars pv) (J:C=pa++pv) (hb:Below W.heap.size W F) (Y:∀ (j:Nat) (t:TypeId) (r:Value),f.resultTypes[j]?=some t->(v.resultList f.resultTypes.size)[j]?=some r->Value.okWide P F .any 0 t r) : s.post enc P f S l q X W args v F:=by
 have T:∀ p∈C,p.block<W.heap.size:=λp B=>L.lt p B;have M:∀ p∈C,(λb=>decide (b<W.heap.size)) p.block=true:=λp B=>by simpa using T p B
 refine ⟨G,I,C,[],pa,pv,L,N _ _ _,O _ M,V _ M,World.keptBut_mono (λp B=>⟨B,?_⟩) (hb.frame (·∈C)),λ_=>?_⟩
 . rw [J,zC] at B;exact Or.inr B
 . obtain ⟨_,_,_,_,_,Z,g⟩:=L;refine ⟨Y,_,_,([]++pa)++pv,⟨[]++pa,pv,trodAll_append (O _ (λ_ _=>rfl)) (N _ _ _),V _ (λ_ _=>rfl),rfl,?_,?_⟩,?_⟩
   . intro b U B;have R:MemPlace.cell b U∈C:=by rw [J];simpa using B
     rw [hb.frozen (T _ R)];exact Z b U R
   . intro m;have:=g m;rw [J] at this;simpa using this
   . intro p B _;rw [J];simpa using B
variable {w:World} {base:Nat} {spare:Nat->Bool} {held:Bool}
end
theorem Z92 {α:Type}(Q:Nat->α->Prop)(n:Nat)(h:∀ i,i<n->∃ x,Q i x):∃ l:List α,l.length=n/\∀ i,(hi:i<l.length)->Q i l[i]:=by
 induction n with
 | zero=>exact ⟨[],rfl,λi hi=>absurd hi (by simp)⟩
 | succ n ih =>
  obtain ⟨l,B,C⟩:=ih (λi hi=>h i (by omega));obtain ⟨x,D⟩:=h n (by omega);refine ⟨l++[x],by simp [B],λi hi=>?_⟩;by_cases e:i<l.length
  . rw [List.getElem_append_left e];exact C i e
  . have:i=l.length:=by simp at hi;omega
    subst this;rw [List.getElem_append_right (zn _)];simp only [Nat.sub_self,List.getElem_cons_zero];rw [B];exact D
end
section
namespace Lx
abbrev Bytes:=List UInt8
abbrev Tok:=Int × Int × Bytes
def mk (l:Bytes):ByteArray:=⟨l.toArray⟩
def bl (s:ByteArray):Bytes:=s.data.toList
theorem Z3n (l:Bytes):bl (mk l)=l:=rfl
theorem Zb3 (s:ByteArray):mk (bl s)=s:=by cases s;rfl
theorem Z06 (l:Bytes):(mk l).size=l.length:=by simp [mk,ByteArray.size]
theorem Z02 (s:ByteArray):(bl s).length=s.size:=by simp [bl]
theorem mk_inj {a b:Bytes}(h:mk a=mk b):a=b:=by have:=congrArg bl h;simpa [Z3n] using this
theorem Zfu (s:ByteArray)(k:Nat)(h:k<s.size):(bl s)[k]'(by rw [Z02];exact h)=s[k]:=rfl
theorem Z5d (s:ByteArray)(a b:Nat):bl (s.extract a b)=((bl s).drop a).take (b - a):=by
 simp [bl,ByteArray.data_extract,Array.toList_extract,List.extract_eq_take_drop]
def inR (lo hi:Int)(c:UInt8):Bool:=decide (lo<=(c.toNat:Int))&&decide ((c.toNat:Int)<=hi)
def Z0E (lo hi:Int)(l:Bytes):Nat:=(l.takeWhile (inR lo hi)).length
def allR (lo hi:Int)(l:Bytes):Bool:=!l.isEmpty&&l.all (inR lo hi)
def Z3E (l:Bytes):Bool:=allR 48 57 l&&decide (l.length<=9)&&(decide (l.length=1) || l.head? != some 48)
def val (l:Bytes):Int:=l.foldl (λn c=>10*n+((c.toNat:Int) - 48)) 0
def Ze5 (l:Bytes):Bytes:=l.takeWhile (· != 46)
def frac (l:Bytes):Bytes:=(l.dropWhile (· != 46)).tail
def Zcg (l:Bytes):Bool:=l.contains 46&&Z3E (Ze5 l)&&decide ((frac l).length=2)&&allR 48 57 (frac l)&&decide (val (Ze5 l++frac l)<=1000000000)
def Zk1:Bytes:=[123,125,40,41,59,44,43,45,42,47,60,61,37]
def Z9H (l:Bytes):Bool:=match l with
 | [c]=>Zk1.contains c
 | _=>false
def Z0e (l:Bytes):Int:=if allR 97 122 l then 1 else if Z3E l then 2 else if Zcg l then 3 else if Z9H l then 4 else 0
def tlen (l:Bytes):Nat :=
 if 0<Z0E 97 122 l then Z0E 97 122 l
 else if Z0E 48 57 l=0 then 1
 else if l[Z0E 48 57 l]?=some 46 then Z0E 48 57 l+1+Z0E 48 57 (l.drop (Z0E 48 57 l+1))
 else Z0E 48 57 l
def pcs:Nat->Int->Bytes->List (Int × Bytes)
 | 0,_,_=>[]
 | _+1,_,[]=>[]
 | f+1,ln,c::r =>
  if c=32 then pcs f ln r
  else if c=10 then pcs f (ln+1) r
  else if c=35 then pcs f ln (r.dropWhile (· != 10))
  else (ln,(c::r).take (tlen (c::r)))::pcs f ln ((c::r).drop (tlen (c::r)))
def pieces (s:Bytes):List (Int × Bytes):=pcs s.length 1 s
def coll:List Tok->List (Int × Bytes)->List Tok × Int × Int
 | acc,[]=>(acc,0,0)
 | acc,(ln,t)::ps =>if Z0e t=0 then ([],8,ln) else if acc.length=5000 then ([],2,ln) else coll (acc++[(Z0e t,ln,t)]) ps
def toks (s:Bytes):List Tok × Int × Int:=if 20000<s.length then ([],2,0) else coll [] (pieces s)
theorem Z41 (lo B:Int)(l:Bytes):Z0E lo B l<=l.length:=by
 unfold Z0E;induction l with
 | nil=>simp
 | cons a l ih=>simp only [List.takeWhile_cons];split <;> simp <;> omega
theorem Ze6 (lo B:Int)(l:Bytes)(k:Nat)(hk:k<=l.length)(h:∀ j,(F:j<k)->inR lo B (l[j]'(by omega))=true) (C:∀ hk':k<l.length,inR lo B l[k]=false):Z0E lo B l=k:=by
 unfold Z0E;induction l generalizing k with
 | nil=>simp at hk;simp [hk]
 | cons a l ih =>
  cases k with
  | zero=>have:=C (by simp);simp at this;simp [this]
  | succ k =>have D:=h 0 (by omega);simp at D;simp only [List.takeWhile_cons,D,if_true,zw];rw [ih k (by simpa using hk) (λj F=>by have:=h (j+1) (by omega);simpa using this) (λhk'=>by have:=C (by simpa using hk');simpa using this)]
theorem Zb4 (l:Bytes):0<tlen l:=by
 unfold tlen;split
 . assumption
 . split
   . omega
   . split <;> omega
theorem Zry (l:Bytes)(h:0<l.length):tlen l<=l.length:=by
 have B:=Z41 97 122 l;have F:=Z41 48 57 l;have D:=Z41 48 57 (l.drop (Z0E 48 57 l+1));unfold tlen;split
 . exact B
 . split
   . omega
   . split
     . rename_i C;have:=(List.getElem?_eq_some_iff.1 C).1;simp only [List.length_drop] at D;omega
     . exact F
theorem Z3x (p:UInt8->Bool)(l:Bytes):(l.dropWhile p).length<=l.length:=by
 induction l with
 | nil=>simp
 | cons a l ih=>simp only [List.dropWhile_cons];split <;> simp;omega
theorem Zp3:∀ (f g:Nat) (B:Int) (s:Bytes),s.length<=f->s.length<=g->pcs f B s=pcs g B s:=by
 intro f;induction f with
 | zero =>intro g B s D _;have:s=[]:=List.length_eq_zero_iff.1 (by omega);subst this;cases g <;> rfl
 | succ f ih =>
  intro g B s D C;cases s with
  | nil=>cases g <;> rfl
  | cons c r =>
   cases g with
   | zero=>simp at C
   | succ g =>
    simp only [zw] at D C;have F:=Zb4 (c::r);have G:((c::r).drop (tlen (c::r))).length<=r.length:=by simp only [List.length_drop,zw];omega
    have hw:=Z3x (· != 10) r;simp only [pcs];rw [ih g B r (by omega) (by omega),ih g (B+1) r (by omega) (by omega),ih g B (r.dropWhile (· != 10)) (by omega) (by omega),ih g B _ (by omega) (by omega)]
end Lx
end
section
namespace Px
open Lx
abbrev Fo:=Go.Deep.BT (Int × Int)
def flen:Fo->Nat
 | .nil=>0
 | .node _ _ _ _ r=>flen r+1
def Z07 (op n:Int)(k:Nat):Bool :=
 if op=1 then decide (k=0)&&decide (0<=n)&&decide (n<=999999999)
 else if op=2 then decide (k=0)&&decide (0<=n)&&decide (n<=1000000000)
 else if op=3 then decide (k=0)&&decide (1<=n)&&decide (n<=4)
 else if op=15 then decide (k=1)&&decide (n=0)
 else if op=10 then decide (k=3)&&decide (n=0)
 else decide (4<=op)&&decide (op<=14)&&decide (k=2)&&decide (n=0)
def Z1D:Fo->Int->Int->Bool × Int
 | .nil,_,left=>(true,left)
 | .node _ _ a l r,lv,left =>
  if lv=0\/left - 1<0\/Z07 a.1 a.2 (flen l)=false then (false,left - 1)
  else match Z1D l (lv - 1) (left - 1) with
   | (false,x)=>(false,x)
   | (true,x)=>Z1D r lv x
def Z0f (op n:Int)(kids:Fo):Bool:=(Z1D (.node 0 0 (op,n) kids .nil) 30 200).1
def Z0b (op:Int):Int :=
 if op=10 then 0 else if op=14 then 1 else if op=13 then 2 else if op=15 then 3 else if op=11\/op=12 then 4
 else if op=4\/op=5 then 5 else if op=6\/op=7 then 6 else 7
def Z0s (op:Int)(i:Nat):Int :=
 if Z0b op=0\/Z0b op=7 then 0 else if Z0b op=3 then 3 else if Z0b op=4 then 5 else Z0b op+i
def beginOf (op:Int):Bytes :=
 if op=10 then [105,102,32] else if op=15 then [110,111,116,32] else if op=8 then [109,105,110,40] else if op=9 then [109,97,120,40] else []
def endOf (op:Int):Bytes:=if op=8\/op=9 then [41] else []
def sepOf (op:Int)(i:Nat):Bytes :=
 if op=10 then (if i=1 then [32,116,104,101,110,32] else [32,101,108,115,101,32])
 else if op=14 then [32,111,114,32] else if op=13 then [32,97,110,100,32] else if op=11 then [32,60,32] else if op=12 then [32,61,32]
 else if op=4 then [32,43,32] else if op=5 then [32,45,32] else if op=6 then [32,42,32] else if op=7 then [32,47,32] else [44,32]
def Z5A (n:Int):Bytes :=
 if n=1 then [110,105,103,104,116,115] else if n=2 then [112,101,114,115,111,110,115] else if n=3 then [110,105,103,104,116] else [119,101,101,107,100,97,121]
def Z5t (n:Nat):UInt8:=UInt8.ofNat (48+n % 10)
def decF:Nat->Nat->Bytes
 | 0,_=>[]
 | f+1,n=>if n<10 then [Z5t n] else decF f (n / 10)++[Z5t n]
def dec (n:Int):Bytes:=decF 20 n.toNat
def Z32 (n:Int):Bytes:=dec (n / 100)++[46,Z5t (n.toNat / 10),Z5t n.toNat]
def body (op n:Int)(ks:Bytes):Bytes :=
 if op=1 then dec n else if op=2 then Z32 n else if op=3 then Z5A n else beginOf op++ks++endOf op
def brk (b:Bool)(t:Bytes):Bytes:=if b then [40]++t++[41] else t
def Z2a:Fo->Int->Nat->Bytes
 | .nil,_,_=>[]
 | .node _ _ a l r,par,i =>(if 0<i then sepOf par i else [])++brk (decide (Z0b a.1<Z0s par i)) (body a.1 a.2 (Z2a l a.1 0))++Z2a r par (i+1)
def textE (op n:Int)(kids:Fo):Bytes:=body op n (Z2a kids op 0)
def Z42:Fo->Fo->Bool
 | .nil,.nil=>true
 | .node _ _ a l r,.node _ _ b l' r'=>a==b&&Z42 l l'&&Z42 r r'
 | _,_=>false
end Px
end
section
open Go.RowKit Lx Px
namespace Px
def Z1c:Fo->Nat->Fo
 | f,0=>f
 | .nil,_+1=>.nil
 | .node _ _ _ _ r,k+1=>Z1c r k
def getF:Fo->Nat->(Int × Int) × Fo
 | .nil,_=>((0,0),.nil)
 | .node _ _ a l _,0=>(a,l)
 | .node _ _ _ _ r,k+1=>getF r k
theorem Z3p:∀ (f:Fo) (k:Nat),k<flen f->∃ b o,Z1c f k=.node b o (getF f k).1 (getF f k).2 (Z1c f (k+1)):=by
 intro f;induction f with
 | nil=>intro k h;simp [flen] at h
 | node b o a l r _ ihr =>
  intro k h;cases k with
  | zero=>exact ⟨b,o,by simp [Z1c,getF]⟩
  | succ k =>obtain ⟨C,B,e⟩:=ihr k (by simp [flen] at h;omega);exact ⟨C,B,e⟩
theorem Z2A:∀ (f:Fo) (k:Nat),flen f<=k->Z1c f k=.nil:=by
 intro f;induction f with
 | nil=>intro k _;cases k <;> rfl
 | node b o a l r _ ihr =>
  intro k h;cases k with
  | zero=>simp [flen] at h
  | succ k=>exact ihr k (by simp [flen] at h;omega)
def fitE (a:Int × Int)(l:Fo)(lv left:Int):Bool × Int :=
 if lv=0\/left - 1<0\/Z07 a.1 a.2 (flen l)=false then (false,left - 1) else Z1D l (lv - 1) (left - 1)
theorem Z7c (b o:Nat)(a:Int × Int)(l r:Fo)(B C:Int):Z1D (.node b o a l r) B C=(match fitE a l B C with | (false,x)=>(false,x) | (true,x)=>Z1D r B x):=by
 rw [Z1D,fitE];split
 . rfl
 . rfl
end Px
def FoAt (w:World)(B:Nat):Fo->Option Addr->Nat->Prop
 | .nil,_,_=>True
 | .node _ _ a l r,A,k =>(∃ (ad:Addr) (A':Option Addr) (c:Nat),A=some ad/\ad.block<B/\w.cell? (ad.add (k*3))=some (vI a.1)/\w.cell? ⟨(ad.add (k*3)).block,(ad.add (k*3)).off+1,none⟩=some (vI a.2) /\ w.cell? ⟨(ad.add (k*3)).block,(ad.add (k*3)).off+2,none⟩=some (slice A' (flen l) c)/\FoAt w B l A' 0)/\FoAt w B r A (k+1)
def FoV (w:World)(B:Nat)(v:Value)(f:Fo):Prop:=∃ A c,v=slice A (flen f) c/\FoAt w B f A 0
theorem Z10 (a:Addr)(n:Nat):(a.add n).block=a.block:=by unfold Addr.add;split <;> rfl
theorem FoAt.keep {w w':World}{B:Nat}(C:∀ p:Addr,p.block<B->w'.cell? p=w.cell? p):∀ (f:Fo) (A:Option Addr) (k:Nat),FoAt w B f A k->FoAt w' B f A k:=by
 intro f;induction f with
 | nil=>intro A k _;trivial
 | node b o a l r ihl ihr =>
  intro A k h;obtain ⟨⟨ad,D,c,e,F,G,L,H,J⟩,I⟩:=h;have hb:(ad.add (k*3)).block<B:=by rw [Z10];exact F
  exact ⟨⟨ad,D,c,e,F,(C _ hb).trans G,(C ⟨(ad.add (k*3)).block,(ad.add (k*3)).off+1,none⟩ hb).trans L,(C ⟨(ad.add (k*3)).block,(ad.add (k*3)).off+2,none⟩ hb).trans H,ihl D 0 J⟩,ihr A (k+1) I⟩
theorem FoAt.get {w:World}{B:Nat}:∀ (f:Fo) (A:Option Addr) (i k:Nat),FoAt w B f A i->k<flen f -> ∃ (ad:Addr) (A':Option Addr) (c:Nat),A=some ad/\ad.block<B/\w.cell? (ad.add ((i+k)*3))=some (vI (getF f k).1.1)/\w.cell? ⟨(ad.add ((i+k)*3)).block,(ad.add ((i+k)*3)).off+1,none⟩=some (vI (getF f k).1.2) /\ w.cell? ⟨(ad.add ((i+k)*3)).block,(ad.add ((i+k)*3)).off+2,none⟩=some (slice A' (flen (getF f k).2) c)/\FoAt w B (getF f k).2 A' 0:=by
 intro f;induction f with
 | nil=>intro A i k _ h;simp [flen] at h
 | node b o a l r _ ihr =>
  intro A i k h hk;cases k with
  | zero=>exact h.1
  | succ k =>have:=ihr A (i+1) k h.2 (by simp [flen] at hk;omega);rw [show i+1+k=i+(k+1) from by omega] at this;exact this
end
section
open Go.RowKit Lx Px
theorem Z5e {a b:Bool}(h:a=b):Ending.returned (.bool a)=.returned (.bool b):=by rw [h]
theorem Z7d (w:World):Below w.heap.size w w:=zr w.heap.size w
theorem Za0 (op n:Int)(A:Option Addr)(k c:Nat)(w:World):Calls prog 198 #[.agg #[vI op,vI n,slice A k c]] w λe w'=>e=.returned (.bool (Z07 op n k))/\w'=w.alloc (.cells #[vI op,vI n,slice A k c] 79):=by
 go_enter func198,ntmps198;go_wp2
 all_goals go_ret
 all_goals refine ⟨Z5e ?_,by first | rfl | (subst_vars;rfl)⟩
 all_goals unfold Z07
 all_goals simp_all
 all_goals first | omega | (by_cases hn0:n=0 <;> simp [hn0] <;> omega)
end
section
open Go.RowKit Lx Px
def Zp4 (a:Int × Int)(l:Fo):Prop := ∀ (lv left:Int) (w:World) (v:Value) (B b:Nat),FoV w B v l->B<=b->Boxed w b 3 (vI left)->0<=lv->lv<=1000->0<=left->left<=1000 -> Calls prog 162 #[.agg #[vI a.1,vI a.2,v],vI lv,.pointer (some ⟨b,0,none⟩)] w λe w' =>
   e=.returned (.bool (fitE a l lv left).1)/\Boxed w' b 3 (vI (fitE a l lv left).2)/\w.grownBy w' (some b)
theorem Zfv {w w':World}{B:Option Nat}(F:w.grownBy w' B)(a:Addr)(D:a.block<w.heap.size)(C:some a.block≠B):w'.cell? a=w.cell? a:=by
 unfold World.cell?;rw [F.block _ D C]
theorem Z13 (w:World)(o:Obj)(p:Addr)(h:p.block<w.heap.size):(w.alloc o).cell? p=w.cell? p:=Zfv (zG w o none) p h (by simp)
theorem Z8e:∀ (f:Fo) (B C x:Int),Z1D f B C=(true,x)->0<=C->0<=x/\x<=C:=by
 intro f;induction f with
 | nil=>intro B C x h D;simp [Z1D] at h;omega
 | node b o a l r ihl ihr =>
  intro B C x h D;rw [Z1D] at h;split at h
  . simp at h
  . split at h
    . simp at h
    . rename_i y e;have F:=ihl (B - 1) (C - 1) y e (by omega);have G:=ihr B x;have H:=ihr B y x h F.1;omega
theorem Z5f {op n:Int}{k:Nat}(h:Z07 op n k=true):k<=3:=by
 unfold Z07 at h
 repeat' split at h
 all_goals simp at h
 all_goals omega
def FitL (l:Fo)(lv left:Int)(w:World)(b:Nat)(i:Value)(wr:World):Prop := ∃ (k:Nat) (x:Int),k<=flen l/\i=vI k/\0<=x/\x<=1000/\Boxed wr b 3 (vI x)/\w.grownBy wr (some b)/\Z1D (Z1c l k) lv x=Z1D l lv left
theorem Zfw (a:Int × Int)(l:Fo)(y:∀ k,k<flen l->Zp4 (getF l k).1 (getF l k).2):Zp4 a l:=by
 intro H C w v B b hv hB hb h0 h1 h2 h3;obtain ⟨A,c,rfl,hA⟩:=hv;obtain ⟨op,n⟩:=a;have bj:=hb.cell;have br:=hb.lt;have bh:=hb.frozen;have S:=hb.set (vI (C - 1));have R:=grownBy_setCell' w b (vI (C - 1));by_cases hz:H=0
 . subst hz;have D:fitE (op,n) l 0 C=(false,C - 1):=by simp [fitE]
   have J:=zh D;clear D;go_enter func162,ntmps162;go_wp2_with fail;go_ret;rw [J.o];exact ⟨rfl,S.alloc _,R.trans (zG _ _ _)⟩
 . have ez:(H==0)=false:=by simpa using hz
   by_cases hneg:C - 1<0
   . have D:fitE (op,n) l H C=(false,C - 1):=by simp [fitE,hneg]
     have J:=zh D;have en:decide (C - 1<0)=true:=by simpa using hneg
     clear D;go_enter func162,ntmps162;go_wp2_with fail;go_ret;rw [J.o];exact ⟨rfl,S.alloc _,R.trans (zG _ _ _)⟩
   . have en:decide (C - 1<0)=false:=by simpa using hneg
     cases hfo:Z07 op n (flen l) with
     | false =>
      have D:fitE (op,n) l H C=(false,C - 1):=by simp [fitE,hfo]
      have J:=zh D;have f:=zh hfo;clear D hfo;go_enter func162,ntmps162;go_wp2_with fail;refine (Za0 _ _ _ _ _ _).mono ?_;rintro e w1 ⟨rfl,rfl⟩;rw [f.o];go_wp2_with fail;go_ret;rw [J.o];exact ⟨rfl,(S.alloc _).alloc _,(R.trans (zG _ _ _)).trans (zG _ _ _)⟩
     | true =>
      have D:fitE (op,n) l H C=Z1D l (H - 1) (C - 1):=by simp [fitE,hfo,hz,hneg]
      have bp:=Z5f hfo;obtain ⟨J,f,HA,HI⟩:=zh4 D hfo hA y;clear D hfo hA y;go_enter func162,ntmps162;go_wp2_with fail;refine (Za0 _ _ _ _ _ _).mono ?_;rintro e w1 ⟨rfl,rfl⟩;rw [f.o];go_wp2_with fail;go_loopw [8,30] (λ_ i wr=>FitL l (H - 1) (C - 1) w b i wr) (λ_ i _=>flen l - (intOf i).toNat)
      case atStart=>exact ⟨0,C - 1,by omega,rfl,by omega,by omega,(S.alloc _).alloc _,(R.trans (zG _ _ _)).trans (zG _ _ _),by rw [Z1c]⟩
      case round =>
       clear bj bh S R;obtain ⟨k,x,hk,rfl,be,bf,g,T,hF⟩:=hrel;have X:=zh hF;clear hF;have bq:=T.size;by_cases hkl:k<flen l
       . have bd:∀ p:Addr,p.block<B->wr.cell? p=w.cell? p:=λp hp=>Zfv T p (by omega) (by simp;omega);obtain ⟨ad,L,c',rfl,bn,q,j,d,V⟩:=FoAt.get l A 0 k (FoAt.keep bd l A 0 HA.o) hkl;rw [Nat.zero_add] at q j d;obtain ⟨bb,oo,O⟩:=Z3p l k hkl;have U:=HI.o k hkl;obtain ⟨⟨bk,n'⟩,I,bc⟩:∃ a' I,getF l k=(a',I):=⟨_,_,rfl⟩
         rw [bc] at q j d V O U;dsimp only at q j d V O U;have F:=X.o;rw [O,Z7c] at F;obtain ⟨m,M,G⟩:∃ m M,fitE (bk,n') I (H - 1) x=(m,M):=⟨_,_,rfl⟩
         rw [G] at F;have Z:=λ(W:World) (h1:FoV W B (slice L (flen I) c') I) (h2:Boxed W b 3 (vI x))=>U (H - 1) x W (slice L (flen I) c') B b h1 hB h2 (by omega) (by omega) be bf;rw [G] at Z;have HC:=zh Z;have ba:=zh V;have bs:(ad.add (k*3)).block<wr.heap.size:=by rw [Z10];omega
         have HD:=zh O;clear Z V O U bc X bd;cases m with
         | false =>have N:=zh F;have HR:=zh G;clear F G;go_wp2_with fail;refine (HC.o _ ⟨L,c',rfl,FoAt.keep (λp hp=>by rw [Z13 _ _ _ (by omega)]) I L 0 ba.o⟩ (g.alloc _)).mono ?_;rintro e w9 ⟨rfl,Y,r⟩;go_wp2_with fail;go_ret;rw [J.o,<- N.o];exact ⟨rfl,Y,(T.trans (zG _ _ _)).trans r⟩
         | true =>
          have N:=zh F;have bm:0<=M/\M<=x:=by
           rw [fitE] at G;split at G
           . simp at G
           . have:=Z8e _ _ _ _ G (by omega);omega
          clear F G;go_wp2_with fail;refine (HC.o _ ⟨L,c',rfl,FoAt.keep (λp hp=>by rw [Z13 _ _ _ (by omega)]) I L 0 ba.o⟩ (g.alloc _)).mono ?_;rintro e w9 ⟨rfl,Y,r⟩;go_wp2_with fail;go_roundw
          case rel=>exact ⟨k+1,M,by omega,by go_num,by omega,by omega,Y,(T.trans (zG _ _ _)).trans r,N.o⟩
          case measure=>simp [intOf];omega
       . have bg:Z1c l k=.nil:=Z2A l k (by omega);have F:=X.o;rw [bg,Z1D] at F;have N:=zh F;clear F X;go_wp2_with fail;go_ret;rw [J.o,<- N.o];exact ⟨rfl,g,T⟩
theorem Zp5 (f:Fo):∀ k,k<flen f->Zp4 (getF f k).1 (getF f k).2:=by
 induction f with
 | nil=>intro k h;simp [flen] at h
 | node b o a l r ihl ihr =>
  intro k h;cases k with
  | zero=>exact Zfw a l ihl
  | succ k=>exact ihr k (by simp [flen] at h;omega)
theorem Zp6 (a:Int × Int)(l:Fo):Zp4 a l:=Zfw a l (Zp5 l)
theorem Zch (op n:Int)(l:Fo):Z0f op n l=(fitE (op,n) l 30 200).1:=by
 rw [Z0f,Z7c];cases fitE (op,n) l 30 200 with
 | mk b x=>cases b <;> rfl
theorem Ze7 {w B w':World}{b:Nat}(h:Below w.heap.size w B)(C:B.grownBy w' (some b))(hb:w.heap.size<=b):Below w.heap.size w w' := h.grown C h.size (λg e=>by injection e with e;omega)
theorem Z3q (op n:Int)(l:Fo)(v:Value)(w:World)(I:FoV w w.heap.size v l) : Calls prog 117 #[.agg #[vI op,vI n,v]] w λe w'=>e=.returned (.bool (Z0f op n l))/\Below w.heap.size w w':=by
 rw [Zch];obtain ⟨A,c,rfl,B⟩:=I;have J:=zh B;clear B;go_enter func117,ntmps117;go_wp2_with fail;have G:Boxed ((w.alloc (.cells #[vI op,vI n,slice A (flen l) c] 79)).alloc (.cells #[vI 200] 3)) (w.heap.size+1) 3 (vI 200):=by have:=Boxed.new (w.alloc (.cells #[vI op,vI n,slice A (flen l) c] 79)) 3 (vI 200);simpa using this
 have F:FoAt ((w.alloc (.cells #[vI op,vI n,slice A (flen l) c] 79)).alloc (.cells #[vI 200] 3)) w.heap.size l A 0 := FoAt.keep (λp hp=>by rw [Z13 _ _ _ (by simp;omega),Z13 _ _ _ hp]) l A 0 J.o;refine (Zp6 (op,n) l 30 200 _ (slice A (flen l) c) w.heap.size (w.heap.size+1) ⟨A,c,rfl,F⟩ (by omega) G (by omega) (by omega) (by omega) (by omega)).mono ?_;rintro e H ⟨rfl,_,C⟩;have D:Below w.heap.size w H:=Ze7 (((Z7d w).alloc (zn _) _).alloc (by simp) _) C (by omega);go_wp2_with fail;go_ret;exact ⟨rfl,D⟩
end
section
open Go.RowKit Lx Px
theorem Z8f (op n:Int)(A:Option Addr)(k c:Nat)(w:World):Calls prog 138 #[.agg #[vI op,vI n,slice A k c]] w λe w'=>e=.returned (.bool (Z07 op n k))/\w'=w.alloc (.cells #[vI op,vI n,slice A k c] 79):=by
 go_enter func138,ntmps138;go_wp2
 all_goals go_ret
 all_goals refine ⟨Z5e ?_,by first | rfl | (subst_vars;rfl)⟩
 all_goals unfold Z07
 all_goals simp_all
 all_goals first | omega | (by_cases hn0:n=0 <;> simp [hn0] <;> omega)
def Z7e (a:Int × Int)(l:Fo)(lv most:Int):Int:=match fitE a l lv most with | (true,x)=>x | (false,_)=>-1
def Zp7 (a:Int × Int)(l:Fo):Prop := ∀ (lv most:Int) (w:World) (v:Value) (B:Nat),FoV w B v l->B<=w.heap.size->0<=lv->lv<=1000->0<=most->most<=1000 -> Calls prog 102 #[.agg #[vI a.1,vI a.2,v],vI lv,vI most] w λe w' =>
   e=.returned (vI (Z7e a l lv most))/\Below w.heap.size w w'
theorem Z00 {w B C:World}(h:Below w.heap.size w B)(D:Below B.heap.size B C):Below w.heap.size w C:=h.trans (D.mono h.size)
def SizL (l:Fo)(lv left:Int)(w:World)(kv y i:Value)(wr:World):Prop := ∃ (k:Nat) (x:Int),k<=flen l/\i=vI k/\y=vI x/\0<=x/\x<=1000/\Below w.heap.size w wr/\w.heap.size<wr.heap.size/\wr.cell? ⟨w.heap.size,2,none⟩=some kv/\Z1D (Z1c l k) lv x=Z1D l lv left
theorem Za1 (a:Int × Int)(l:Fo)(q:∀ k,k<flen l->Zp7 (getF l k).1 (getF l k).2):Zp7 a l:=by
 intro C D w v B hv hB h0 h1 h2 h3;obtain ⟨A,c,rfl,hA⟩:=hv;obtain ⟨op,n⟩:=a;cases hfo:Z07 op n (flen l) with
 | false =>
  have F:Z7e (op,n) l C D = -1:=by simp [Z7e,fitE,hfo]
  have I:=zh F;have J:=zh hfo;clear F hfo;go_enter func102,ntmps102;go_wp2_with fail;refine (Z8f _ _ _ _ _ _).mono ?_;rintro e Y ⟨rfl,rfl⟩;rw [J.o];go_wp2_with fail;go_ret;rw [I.o];exact ⟨rfl,((Z7d w).alloc (zn _) _).alloc (by simp) _⟩
 | true =>
  have bn:=Z5f hfo;by_cases hz:C<1
  . have F:Z7e (op,n) l C D = -1:=by simp [Z7e,fitE,show C=0 from by omega]
    have I:=zh F;have J:=zh hfo;have d1:decide (C<1)=true:=by simpa using hz
    clear F hfo;go_enter func102,ntmps102;go_wp2_with fail;refine (Z8f _ _ _ _ _ _).mono ?_;rintro e Y ⟨rfl,rfl⟩;rw [J.o];go_wp2_with fail;go_ret;rw [I.o];exact ⟨rfl,((Z7d w).alloc (zn _) _).alloc (by simp) _⟩
  . have d1:decide (C<1)=false:=by simpa using hz
    by_cases hm:D<1
    . have F:Z7e (op,n) l C D = -1:=by simp [Z7e,fitE,show D - 1<0 from by omega]
      have I:=zh F;have J:=zh hfo;have d2:decide (D<1)=true:=by simpa using hm
      clear F hfo;go_enter func102,ntmps102;go_wp2_with fail;refine (Z8f _ _ _ _ _ _).mono ?_;rintro e Y ⟨rfl,rfl⟩;rw [J.o];go_wp2_with fail;go_ret;rw [I.o];exact ⟨rfl,((Z7d w).alloc (zn _) _).alloc (by simp) _⟩
    . have d2:decide (D<1)=false:=by simpa using hm
      have F:fitE (op,n) l C D=Z1D l (C - 1) (D - 1):=by simp [fitE,hfo,show ¬ C=0 from by omega,show ¬ D - 1<0 from by omega]
      obtain ⟨I,J,HA,HI⟩:=zh4 F hfo hA q;clear F hfo hA q;go_enter func102,ntmps102;go_wp2_with fail;refine (Z8f _ _ _ _ _ _).mono ?_;rintro e Y ⟨rfl,rfl⟩;rw [J.o];go_wp2_with fail;go_loopw [8,9] (λy i wr=>SizL l (C - 1) (D - 1) w (slice A (flen l) c) y i wr) (λ_ i _=>flen l - (intOf i).toNat)
      case atStart=>exact ⟨0,D - 1,by omega,rfl,rfl,by omega,by omega,((Z7d w).alloc (zn _) _).alloc (by simp) _,by simp;omega,by rw [Z13 _ _ _ (by simp)];simp,by rw [Z1c]⟩
      case round =>
       obtain ⟨k,x,hk,rfl,rfl,bd,be,S,bj,bg,m⟩:=hrel;have U:=zh m;clear m;by_cases hkl:k<flen l
       . have bc:∀ p:Addr,p.block<B->wr.cell? p=w.cell? p:=λp hp=>S.cell (by omega);obtain ⟨ad,r,c',rfl,bm,j,f,d,T⟩:=FoAt.get l A 0 k (FoAt.keep bc l A 0 HA.o) hkl;rw [Nat.zero_add] at j f d;obtain ⟨bb,oo,V⟩:=Z3p l k hkl;have R:=HI.o k hkl;obtain ⟨⟨bh,n'⟩,X,ba⟩:∃ a' X,getF l k=(a',X):=⟨_,_,rfl⟩
         rw [ba] at j f d T V R;dsimp only at j f d T V R;have G:=U.o;rw [V,Z7c] at G;obtain ⟨g,L,H⟩:∃ g L,fitE (bh,n') X (C - 1) x=(g,L):=⟨_,_,rfl⟩
         rw [H] at G;have N:=R (C - 1) x wr (slice r (flen X) c') B ⟨r,c',rfl,T⟩ (by omega) (by omega) (by omega) bd be;rw [Z7e,H] at N;clear V R ba U bc T;cases g with
         | false =>have Z:=zh N;have O:=zh G;clear G H N;go_wp2_with fail;refine Z.o.mono ?_;rintro e w9 ⟨rfl,M⟩;go_wp2_with fail;go_ret;rw [Z7e,I.o,<- O.o];exact ⟨rfl,Z00 S M⟩
         | true =>
          have Z:=zh N;have O:=zh G;have bk:0<=L/\L<=x:=by
           rw [fitE] at H;split at H
           . simp at H
           . have:=Z8e _ _ _ _ H (by omega);omega
          clear G H N;go_wp2_with fail;refine Z.o.mono ?_;rintro e w9 ⟨rfl,M⟩;have d9:decide (L<0)=false:=by simp;omega
          go_wp2_with fail;go_roundw
          case rel=>exact ⟨k+1,L,by omega,by go_num,rfl,by omega,by omega,Z00 S M,by have:=M.size;omega,(M.cell bj).trans bg,O.o⟩
          case measure=>simp [intOf];omega
       . have bf:Z1c l k=.nil:=Z2A l k (by omega);have G:=U.o;rw [bf,Z1D] at G;have O:=zh G;clear G U;go_wp2_with fail;go_ret;rw [Z7e,I.o,<- O.o];exact ⟨rfl,S⟩
theorem Zp8 (f:Fo):∀ k,k<flen f->Zp7 (getF f k).1 (getF f k).2:=by
 induction f with
 | nil=>intro k h;simp [flen] at h
 | node b o a l r ihl ihr =>
  intro k h;cases k with
  | zero=>exact Za1 a l ihl
  | succ k=>exact ihr k (by simp [flen] at h;omega)
theorem Zp9 (a:Int × Int)(l:Fo):Zp7 a l:=Za1 a l (Zp8 l)
theorem Zpa (op n:Int)(l:Fo):decide (0<=Z7e (op,n) l 30 200)=Z0f op n l:=by
 rw [Zch,Z7e];cases h:fitE (op,n) l 30 200 with
 | mk b x =>
  cases b with
  | false=>rfl
  | true =>
   rw [fitE] at h;split at h
   . simp at h
   . have:=Z8e _ _ _ _ h (by omega);simp;omega
theorem Z5g (op n:Int)(l:Fo)(v:Value)(w:World)(G:FoV w w.heap.size v l) : Calls prog 70 #[.agg #[vI op,vI n,v]] w λe w'=>e=.returned (.bool (Z0f op n l))/\Below w.heap.size w w':=by
 have B:=Zpa op n l;obtain ⟨z,C⟩:∃ z,Z7e (op,n) l 30 200=z:=⟨_,rfl⟩
 rw [C] at B;have F:=zh C;rw [<- B];clear B C;obtain ⟨A,c,rfl,D⟩:=G;have H:=zh D;clear D;go_enter func70,ntmps70;go_wp2_with fail;refine (Zp9 (op,n) l 30 200 _ (slice A (flen l) c) w.heap.size ⟨A,c,rfl,FoAt.keep (λp hp=>by first | rfl | exact Z13 _ _ _ hp) l A 0 H.o⟩ (by simp) (by omega) (by omega) (by omega) (by omega)).mono ?_;rintro e I ⟨rfl,hb⟩;rw [F.o];go_wp2_with fail;go_ret;exact ⟨rfl,Z00 ((Z7d w).alloc (zn _) _) hb⟩
end
section
open Go.RowKit
theorem Z0w {w:World}{r:Nat}{o:Obj}(h:w.heap[r]?=some o)(x:Obj):(w.alloc x).heap[r]?=some o:=((zG w x none).block r (zF2.1 h).1 (by simp)).trans h
theorem Z2f {P:Program}{w:World}{t k e:TypeId}{r:Nat}{B:Array MapEntry}{C:Nat}{n:Int}{v:Value}(G:P.underlying t=some (.map k e))(hk:P.underlying k=some (.int .i64)) (D:w.heap[r]?=some (.map B C)) (F:Instr.findNow (.int .i64) (vI n) B.toList 0=some none) : (Instr.mapUpdate t (.map (some r)) (vI n) v).run P w=.ok () (w.putObj r (.map (B.push { key:=vI n,val:=v,born:=C }) (C+1))):=by
 have H:(Instr.checkKey false (9999+1) k (vI n)).run P w=.ok () w:=Go.MapKept.run_checkKey hk (by simp [MapKept.IsKey]) false 9999;simp only [Instr.mapUpdate,Instr.findKey,Sem.run_bind,Sem.run_pure,zy G,zy hk,Go.MapKept.run_getObj_map D,H,F,Result.andThen_ok];rw [Go.MapKept.run_setObj_map _ D];rfl
theorem Z6k {P:Program}{w:World}{t k e:TypeId}{r:Nat}{B:Array MapEntry}{C:Nat}{n:Int}{i:Nat}{v:Value}(G:P.underlying t=some (.map k e))(hk:P.underlying k=some (.int .i64)) (F:w.heap[r]?=some (.map B C)) (D:Instr.findNow (.int .i64) (vI n) B.toList 0=some (some (i,v))) : (Instr.lookup t (.map (some r)) (vI n) true).run P w=.ok (.tuple #[v,.bool true]) w:=by
 have H:(Instr.checkKey B.isEmpty (9999+1) k (vI n)).run P w=.ok () w:=Go.MapKept.run_checkKey hk (by simp [MapKept.IsKey]) _ 9999;simp only [Instr.lookup,Instr.findKey,Sem.run_bind,Sem.run_pure,zy G,zy hk,Go.MapKept.run_getObj_map F,H,D,Result.andThen_ok];rfl
theorem Z93 {P:Program}{w:World}{t k e:TypeId}{r:Nat}{B:Array MapEntry}{C:Nat}{n:Int}{z:Value}(H:P.underlying t=some (.map k e))(hk:P.underlying k=some (.int .i64)) (F:w.heap[r]?=some (.map B C)) (D:Instr.findNow (.int .i64) (vI n) B.toList 0=some none) (G:(zeroValue e).run P w=.ok z w) : (Instr.lookup t (.map (some r)) (vI n) true).run P w=.ok (.tuple #[z,.bool false]) w:=by
 have I:(Instr.checkKey B.isEmpty (9999+1) k (vI n)).run P w=.ok () w:=Go.MapKept.run_checkKey hk (by simp [MapKept.IsKey]) _ 9999;simp only [Instr.lookup,Instr.findKey,Sem.run_bind,Sem.run_pure,zy H,zy hk,Go.MapKept.run_getObj_map F,I,D,G,Result.andThen_ok];rfl
theorem Z5u {P:Program}(w:World){F:Array Oper}{rest:List Oper}{o:Oper}{a:Act}{Q:Exit->Act->World->Prop} (H:o.guard=none) (m x v:Operand) (t:TypeId) (O:o.op=Op.mapUpdate t m x v) (k e:TypeId) (R:P.underlying t=some (.map k e)) (hk:P.underlying k=some (.int .i64)) (r:Nat) (B:Array MapEntry) (C:Nat) (M:a.eval m=.map (some r)) (D:w.heap[r]?=some (.map B C)) (n:Int) (val:Value) (N:a.eval x=vI n) (J:a.eval v=val) (I:Instr.findNow (.int .i64) (vI n) B.toList 0=some none) (S:∀ w',w'.heap[r]?=some (.map (B.push { key:=vI n,val:=val,born:=C }) (C+1))->w.grownBy w' (some r)->wpList P F Q rest (a.put o.dst undef) w') :
 wpList P F Q (o::rest) a w:=by
 refine wpList_plain H λK' hK'=>?_
 have G:=Z2f (v:=val) R hk D I
 have L:=(zF2.1 D).1
 unfold Oper.wp
 simp [execOp,O,M,N,J,G,Result.andThen]
 refine hK' _ _ (S _ ?_ ?_)
 . simp [World.putObj,L]
 . refine ⟨rfl,rfl,rfl,by simp [World.putObj],λi hi hne=>?_⟩
   exact zQ (by intro e;subst e;exact hne rfl)
end
section
open Go.RowKit Lx Px
namespace Px
def Z0k (op:Int):Nat:=if op=10 then 3 else if op=15 then 1 else 2
def sepL (op:Int):List Bytes:=if op=10 then [sepOf 10 1,sepOf 10 2] else if op=15 then [] else [sepOf op 1]
def Za2 (op:Int):List Int:=if op=10 then [0,0,0] else if op=15 then [3] else [Z0s op 0,Z0s op 1]
end Px
def esOf:List (Int × Value)->Nat->List MapEntry
 | [],_=>[]
 | p::r,i=>{ key:=vI p.1,val:=p.2,born:=i }::esOf r (i+1)
theorem Z94 (p:Int × Value):∀ (L:List (Int × Value)) (i:Nat),esOf (L++[p]) i=esOf L i++[{ key:=vI p.1,val:=p.2,born:=i+L.length }]:=by
 intro L;induction L with
 | nil=>intro i;rfl
 | cons q r ih=>intro i;simp only [zc2,esOf,ih,zw];rw [show i+1+r.length=i+(r.length+1) from by omega]
def Zci (w:World)(r:Nat)(op:Int)(v:Value):Prop := ∃ bs b2:Nat,v=.agg #[.string (mk (beginOf op)),(if op=15 then slice none 0 0 else slice (some ⟨bs,0,none⟩) (Z0k op - 1) (Z0k op - 1)),.string (mk (endOf op)),vI (Z0b op),slice (some ⟨b2,0,none⟩) (Z0k op) (Z0k op)] /\ (op≠15->bs≠r/\w.heap[bs]?=some (.cells ((sepL op).map λs=>.string (mk s)).toArray 9 (0,0))) /\ b2≠r/\w.heap[b2]?=some (.cells ((Za2 op).map (.int .i64)).toArray 3 (0,0))
def Z33 (w:World)(r:Nat)(L:List (Int × Value)):Prop:=w.heap[r]?=some (.map (esOf L 0).toArray L.length)/\∀ p∈L,Zci w r p.1 p.2
theorem Zci.grown {w w':World}{r:Nat}{op:Int}{v:Value}(h:Zci w r op v)(B:w.grownBy w' (some r)):Zci w' r op v:=by
 obtain ⟨G,C,J,L,D,I⟩:=h;refine ⟨G,C,J,λho=>?_,D,?_⟩
 . obtain ⟨F,H⟩:=L ho;exact ⟨F,(B.block G (zF2.1 H).1 (by simpa using F)).trans H⟩
 . exact (B.block C (zF2.1 I).1 (by simpa using D)).trans I
theorem Z2B (n:Int):∀ (L:List (Int × Value)) (i j:Nat),(∀ p∈L,p.1≠n)->Instr.findNow (.int .i64) (vI n) (esOf L i) j=some none:=by
 intro L;induction L with
 | nil=>intro i j _;rfl
 | cons q r ih =>
  intro i j h;have D:q.1≠n:=h q (by simp);have B:=ih (i+1) (j+1) (λp hp=>h p (by simp [hp]));have C:Instr.sameNow (.int .i64) (vI n) (vI q.1)=some false:=by simp [Instr.sameNow,Ne.symm D]
  simp only [esOf,Instr.findNow,C];exact B
theorem Z7f (n:Int)(v:Value):∀ (L L2:List (Int × Value)) (i j:Nat),(∀ p∈L,p.1≠n)->Instr.findNow (.int .i64) (vI n) (esOf (L++(n,v)::L2) i) j=some (some (j+L.length,v)):=by
 intro L;induction L with
 | nil=>intro L2 i j _;simp [esOf,Instr.findNow,Instr.sameNow]
 | cons q r ih =>
  intro L2 i j h;have D:q.1≠n:=h q (by simp);have B:=ih L2 (i+1) (j+1) (λp hp=>h p (by simp [hp]));have C:Instr.sameNow (.int .i64) (vI n) (vI q.1)=some false:=by simp [Instr.sameNow,Ne.symm D]
  simp only [zc2,esOf,Instr.findNow,C,B,zw];rw [show j+1+r.length=j+(r.length+1) from by omega]
theorem Z0F (w:World)(o B:Obj):((w.alloc o).alloc B).heap[w.heap.size]?=some o/\((w.alloc o).alloc B).heap[w.heap.size+1]?=some B := ⟨Z0w (za w o) B,by have:=za (w.alloc o) B;simpa using this⟩
theorem Zcj {w w':World}(h:w.grownBy w' none)(r:Nat):w.grownBy w' (some r):=by
 obtain ⟨G,B,F,D,C⟩:=h;exact ⟨G,B,F,D,λi hi _=>C i hi (by simp)⟩
theorem Z33.new (w:World):Z33 (w.alloc (.map #[] 0)) w.heap.size []:=⟨za w _,by simp⟩
theorem Z33.step {w C w':World}{r:Nat}{L:List (Int × Value)}{op:Int}{V:Value}(h:Z33 w r L)(hw:w.grownBy C none)(F:Zci C r op V) (G:w'.heap[r]?=some (.map ((esOf L 0).toArray.push { key:=vI op,val:=V,born:=L.length }) (L.length+1))) (D:C.grownBy w' (some r)):Z33 w' r (L++[(op,V)]):=by
 have H:r<w.heap.size:=(zF2.1 h.1).1;refine ⟨?_,?_⟩
 . rw [G,Z94];simp
 . intro p B;rcases zC.1 B with B | B
   . exact ((h.2 p B).grown (Zcj hw r)).grown D
   . simp at B;subst B;exact F.grown D
theorem Z33.lt {w:World}{r:Nat}{L:List (Int × Value)}(h:Z33 w r L):r<w.heap.size:=(zF2.1 h.1).1
theorem Z1e {o:Oper}{a:Act}{K:Act->World->Prop}{Q:Exit->Act->World->Prop}{w B:World}{r:Nat}{L:List (Int × Value)}{op:Int}{V:Value}(h:Z33 w r L)(hw:w.grownBy B none)(G:Zci B r op V) (I:∀ p∈L,p.1≠op) (J:∀ w',Z33 w' r (L++[(op,V)])->w.grownBy w' (some r)->Oper.upon prog o a K Q (.ok .skip w')) : Oper.upon prog o a K Q (((Instr.mapUpdate 222 (.map (some r)) (vI op) V).run prog B).andThen λ_ w'=>.ok .skip w'):=by
 have D:B.heap[r]?=some (.map (esOf L 0).toArray L.length):=(hw.block r h.lt (by simp)).trans h.1;have F:=Z2f (P:=prog) (v:=V) underlying222 underlying3 D (Z2B op L 0 0 I);rw [F];have H:=(zF2.1 D).1;have C:B.grownBy (B.putObj r (.map ((esOf L 0).toArray.push { key:=vI op,val:=V,born:=L.length }) (L.length+1))) (some r) := ⟨rfl,rfl,rfl,by simp [World.putObj],λi hi hne=>zQ (by intro e;subst e;exact hne rfl)⟩;refine J _ (h.step hw G ?_ C) ((Zcj hw r).trans C);simp [World.putObj,H]
theorem Z1n {w:World}{r:Nat}{op:Int}{C F k:Nat}{D B:ByteArray}{G:Int}{cs H:Array Value}(V:r<w.heap.size)(J:C=w.heap.size)(O:F=w.heap.size+1)(M:op≠15)(U:D=mk (beginOf op))(L:B=mk (endOf op))(T:G=Z0b op) (hk:k=Z0k op) (I:cs=((sepL op).map λs=>.string (mk s)).toArray) (R:H=((Za2 op).map (.int .i64)).toArray) : Zci ((w.alloc (.cells cs 9 (0,0))).alloc (.cells H 3 (0,0))) r op (.agg #[.string D,slice (some ⟨C,0,none⟩) (k - 1) (k - 1),.string B,vI G,slice (some ⟨F,0,none⟩) k k]):=by
 subst J O U L T hk I R;obtain ⟨N,S⟩:=Z0F w (.cells ((sepL op).map λs=>.string (mk s)).toArray 9 (0,0)) (.cells ((Za2 op).map (.int .i64)).toArray 3 (0,0));exact ⟨w.heap.size,w.heap.size+1,by rw [zf M],λ_=>⟨by omega,N⟩,by omega,S⟩
theorem Zk2 {w:World}{r:Nat}{B:Nat}(D:r<w.heap.size)(C:B=w.heap.size) : Zci (w.alloc (.cells #[vI 3] 3 (0,0))) r 15 (.agg #[.string ⟨#[110,111,116,32]⟩,slice none 0 0,.string ⟨#[]⟩,vI 3,slice (some ⟨B,0,none⟩) 1 1]):=by
 subst C;exact ⟨0,w.heap.size,rfl,λh=>absurd rfl h,by omega,za w _⟩
end
section
open Go.RowKit Lx Px
def Zk3 (w:World)(e:Ending)(w':World):Prop := ∃ (r:Nat) (v0 v1 v2 v3 v4 v5 v6 v7 v8 v9 v10 v11:Value),e=.returned (.map (some r))/\w.heap.size<=r/\Z33 w' r [(10,v0),(14,v1),(13,v2),(15,v3),(11,v4),(12,v5),(4,v6),(5,v7),(6,v8),(7,v9),(8,v10),(9,v11)]/\Below w.heap.size w w'
theorem Z1f {w C D:World}{B r:Nat}(h:Below B w C)(F:B<=C.heap.size)(G:C.grownBy D (some r))(H:B<=r):Below B w D := h.grown G F (λg e=>by injection e with e;omega)
set_option maxHeartbeats 4000000 in
theorem Zck (w:World):Calls prog 169 #[] w (Zk3 w):=by
 have bd:=@run_makeMap prog;have T:=Z33.new w;have U:Below w.heap.size w (w.alloc (.map #[] 0)):=(zr _ _).alloc (zn _) _;go_enter func169,ntmps169;go_wp2_with fail;refine Z1e T ((zG (w.alloc (.map #[] 0)) _ none).trans (zG _ _ none)) (Z1n (op:=10) (k:=Z0k 10) T.lt (by simp) (by simp) (by decide) rfl rfl rfl rfl rfl rfl) (by simp) ?_;intro w1 I m;have R:=Z1f U (by have:=U.size;omega) m (zn _);simp only [zn2] at I;clear T U m bd;go_wp2_with fail;refine Z1e I ((zG w1 _ none).trans (zG _ _ none)) (Z1n (op:=14) (k:=Z0k 14) I.lt (by simp) (by simp) (by decide) rfl rfl rfl rfl rfl rfl) (by simp) ?_;intro w2 B q2;have g:=Z1f R (by have:=R.size;omega) q2 (zn _);simp only [zn2,zc2] at B;clear I R q2;go_wp2_with fail;refine Z1e B ((zG w2 _ none).trans (zG _ _ none)) (Z1n (op:=13) (k:=Z0k 13) B.lt (by simp) (by simp) (by decide) rfl rfl rfl rfl rfl rfl) (by simp) ?_;intro w3 J q3;have f:=Z1f g (by have:=g.size;omega) q3 (zn _);simp only [zn2,zc2] at J;clear B g q3;go_wp2_with fail;refine Z1e J (zG w3 _ none) (Zk2 J.lt (by simp)) (by simp) ?_;intro w4 N l;have Y:=Z1f f (by have:=f.size;omega) l (zn _);simp only [zn2,zc2] at N;clear J f l;go_wp2_with fail;refine Z1e N ((zG w4 _ none).trans (zG _ _ none)) (Z1n (op:=11) (k:=Z0k 11) N.lt (by simp) (by simp) (by decide) rfl rfl rfl rfl rfl rfl) (by simp) ?_;intro w5 L q5;have Z:=Z1f Y (by have:=Y.size;omega) q5 (zn _);simp only [zn2,zc2] at L;clear N Y q5;go_wp2_with fail;refine Z1e L ((zG w5 _ none).trans (zG _ _ none)) (Z1n (op:=12) (k:=Z0k 12) L.lt (by simp) (by simp) (by decide) rfl rfl rfl rfl rfl rfl) (by simp) ?_;intro w6 F q6;have V:=Z1f Z (by have:=Z.size;omega) q6 (zn _);simp only [zn2,zc2] at F;clear L Z q6;go_wp2_with fail;refine Z1e F ((zG w6 _ none).trans (zG _ _ none)) (Z1n (op:=4) (k:=Z0k 4) F.lt (by simp) (by simp) (by decide) rfl rfl rfl rfl rfl rfl) (by simp) ?_;intro w7 M q7;have j:=Z1f V (by have:=V.size;omega) q7 (zn _);simp only [zn2,zc2] at M;clear F V q7;go_wp2_with fail;refine Z1e M ((zG w7 _ none).trans (zG _ _ none)) (Z1n (op:=5) (k:=Z0k 5) M.lt (by simp) (by simp) (by decide) rfl rfl rfl rfl rfl rfl) (by simp) ?_;intro w8 C q8;have d:=Z1f j (by have:=j.size;omega) q8 (zn _);simp only [zn2,zc2] at C;clear M j q8;go_wp2_with fail;refine Z1e C ((zG w8 _ none).trans (zG _ _ none)) (Z1n (op:=6) (k:=Z0k 6) C.lt (by simp) (by simp) (by decide) rfl rfl rfl rfl rfl rfl) (by simp) ?_;intro w9 D q
 have S:=Z1f d (by have:=d.size;omega) q (zn _);simp only [zn2,zc2] at D;clear C d q;go_wp2_with fail;refine Z1e D ((zG w9 _ none).trans (zG _ _ none)) (Z1n (op:=7) (k:=Z0k 7) D.lt (by simp) (by simp) (by decide) rfl rfl rfl rfl rfl rfl) (by simp) ?_;intro be H r;have O:=Z1f S (by have:=S.size;omega) r (zn _);simp only [zn2,zc2] at H;clear D S r;go_wp2_with fail;refine Z1e H ((zG be _ none).trans (zG _ _ none)) (Z1n (op:=8) (k:=Z0k 8) H.lt (by simp) (by simp) (by decide) rfl rfl rfl rfl rfl rfl) (by simp) ?_;intro bc G A;have X:=Z1f O (by have:=O.size;omega) A (zn _);simp only [zn2,zc2] at G;clear H O A;go_wp2_with fail;refine Z1e G ((zG bc _ none).trans (zG _ _ none)) (Z1n (op:=9) (k:=Z0k 9) G.lt (by simp) (by simp) (by decide) rfl rfl rfl rfl rfl rfl) (by simp) ?_;intro bf ba y;have bb:=Z1f X (by have:=X.size;omega) y (zn _);simp only [zn2,zc2] at ba;clear G X y;go_wp2_with fail;go_ret;exact ⟨_,_,_,_,_,_,_,_,_,_,_,_,_,rfl,zn _,ba,bb⟩
end
