/-
  Several texts in one: PrtTok, PrtRead.
-/
import Derived.Test.YtnepkoepbapgeaaGreatDoorPrtTwo
import Derived.Test.YtnepkoepbapgeaaGreatDoorLexPlain8
namespace Go.Proofs.YtnepkoepbapgeaaGreatDoor
section
namespace Px
open Lx
def tkBegin (op:Int):List Bytes :=
 if op=10 then [[105,102]] else if op=15 then [[110,111,116]] else if op=8 then [[109,105,110],[40]] else if op=9 then [[109,97,120],[40]] else []
def tkEnd (op:Int):List Bytes:=if op=8∨op=9 then [[41]] else []
def Z4w (op:Int)(i:Nat):Bytes :=
 if op=10 then (if i=1 then [116,104,101,110] else [101,108,115,101])
 else if op=14 then [111,114] else if op=13 then [97,110,100] else if op=11 then [60] else if op=12 then [61]
 else if op=4 then [43] else if op=5 then [45] else if op=6 then [42] else if op=7 then [47] else [44]
def tkBody (op n:Int)(ks:List Bytes):List Bytes :=
 if op=1 then [dec n] else if op=2 then [Z0u n] else if op=3 then [Z3z n] else tkBegin op++ks++tkEnd op
def Z54 (b:Bool)(t:List Bytes):List Bytes:=if b then [[40]]++t++[[41]] else t
def tkF:Fo→Int→Nat→List Bytes
 | .nil,_,_=>[]
 | .node _ _ a l r,par,i =>
  (if 0<i then [Z4w par i] else [])++Z54 (decide (Z03 a.1<Z08 par i)) (tkBody a.1 a.2 (tkF l a.1 0))++tkF r par (i+1)
def tkE (op n:Int)(kids:Fo):List Bytes:=tkBody op n (tkF kids op 0)
def stop (b:Bytes):Prop:=∀ c r,b=c::r→inR 97 122 c=false∧inR 48 57 c=false∧c≠46
theorem Z2B (n:Nat):(Z28 n).toNat=48+n % 10:=by
 unfold Z28
 rw [UInt8.toNat_ofNat']
 omega
theorem Z70 (n:Nat):inR 48 57 (Z28 n)=true:=by
 simp only [inR,Z2B,Bool.and_eq_true,decide_eq_true_eq]
 omega
theorem val_snoc (l:Bytes)(c:UInt8):val (l++[c])=10*val l+((c.toNat:Int) - 48):=by simp [val]
theorem ZgD:∀ (f n:Nat),n<10 ^ f→0<f→(decF f n).all (inR 48 57)=true∧val (decF f n)=n∧decF f n≠[]∧(decF f n).length≤f∧((decF f n).length=1∨(decF f n).head?≠some 48)∧(0<n→(decF f n).head?≠some 48):=by
 intro f
 induction f with
 | zero=>intro n _ h;omega
 | succ f ih =>
  intro n hn _
  rw [decF]
  by_cases h:n<10
  · rw [if_pos h]
    refine ⟨by simp [Z70],by simp [val,Z2B];omega,by simp,by simp,.inl rfl,?_⟩
    intro h0 e
    simp at e
    have:=congrArg UInt8.toNat e
    rw [Z2B] at this
    simp at this
    omega
  · rw [if_neg h]
    have hf:0<f:=by
     cases f with
     | zero=>simp at hn;omega
     | succ f=>omega
    obtain ⟨h1,h2,h3,h4,_,h6⟩:=ih (n / 10) (by rw [Nat.pow_succ] at hn;omega) hf
    have h7:((decF f (n / 10))++[Z28 n]).head?≠some 48:=by
     have:=h6 (by omega)
     cases hd:decF f (n / 10) with
     | nil=>exact absurd hd h3
     | cons c r=>rw [hd] at this;simpa using this
    refine ⟨by simp [h1,Z70],by rw [val_snoc,h2,Z2B];omega,by simp,by simp;omega,.inr h7,fun _=>h7⟩
theorem Z9s (n:Int)(h0:0≤n)(h1:n≤999999999):Z27 (dec n)=true∧val (dec n)=n∧(dec n).all (inR 48 57)=true∧dec n≠[]:=by
 have e:dec n=decF 9 n.toNat:=by unfold dec;rw [Zc9 20 n.toNat (by omega) (by omega),Zc9 9 n.toNat (by omega) (by omega)]
 obtain ⟨a1,a2,a3,a4,a5,_⟩:=ZgD 9 n.toNat (by omega) (by omega)
 rw [← e] at a1 a2 a3 a4 a5
 refine ⟨?_,by rw [a2];omega,a1,a3⟩
 simp only [Z27,allR,Bool.and_eq_true,Bool.not_eq_true',List.isEmpty_eq_false_iff,Bool.or_eq_true,decide_eq_true_eq,bne_iff_ne]
 exact ⟨⟨⟨a3,a1⟩,a4⟩,a5⟩
theorem Z7r {t:Bytes}{c:UInt8}(hc:c∈t)(h:inR 48 57 c=true):allR 97 122 t=false:=by
 cases h':allR 97 122 t with
 | false=>rfl
 | true =>
  simp only [allR,Bool.and_eq_true] at h'
  have:=Z3E h'.2 hc
  rw [Z6v h] at this
  cases this
theorem Zjh (n:Int)(h0:0≤n)(h1:n≤999999999):Z07 (dec n)=2:=by
 obtain ⟨a1,_,a3,a4⟩:=Z9s n h0 h1
 have:allR 97 122 (dec n)=false:=by
  cases hd:dec n with
  | nil=>exact absurd hd a4
  | cons c r=>rw [hd] at a3;exact Z7r (c:=c) (by simp) (Z3E a3 (by simp))
 rw [Z07,this,a1]
 rfl
theorem Z8r (n:Int)(h0:0≤n)(h1:n≤1000000000):Z07 (Z0u n)=3∧val ((Z0u n).filter (· != 46))=n:=by
 obtain ⟨a1,a2,a3,a4⟩:=Z9s (n / 100) (by omega) (by omega)
 have hs:=Zbx (dec (n / 100)) [Z28 (n.toNat / 10),Z28 n.toNat] a3
 have hv:val (dec (n / 100)++[Z28 (n.toNat / 10),Z28 n.toNat])=n:=by
  rw [show dec (n / 100)++[Z28 (n.toNat / 10),Z28 n.toNat]=(dec (n / 100)++[Z28 (n.toNat / 10)])++[Z28 n.toNat] by simp,val_snoc,val_snoc,a2,Z2B,Z2B]
  omega
 have hf:(Z0u n).filter (· != 46)=dec (n / 100)++[Z28 (n.toNat / 10),Z28 n.toNat]:=by
  have hd:∀ k,(Z28 k != 46)=true:=by
   intro k
   have:=Z2B k
   simp only [bne_iff_ne]
   intro e
   rw [e] at this
   simp at this
   omega
  have hall:(dec (n / 100)).filter (· != 46)=dec (n / 100):=by
   rw [List.filter_eq_self]
   intro c hc
   have:=Z3E a3 hc
   simp only [bne_iff_ne]
   rintro rfl
   exact absurd this (by decide)
  rw [Z0u,List.filter_append,hall]
  simp [hd]
 refine ⟨?_,by rw [hf,hv]⟩
 have h1:allR 97 122 (Z0u n)=false:=Z7r (c:=Z28 n.toNat) (by simp [Z0u]) (Z70 _)
 have h2:Z27 (Z0u n)=false:=by
  cases h':Z27 (Z0u n) with
  | false=>rfl
  | true =>
   simp only [Z27,allR,Bool.and_eq_true] at h'
   have:=Z3E h'.1.1.2 (show (46:UInt8)∈Z0u n by simp [Z0u])
   exact absurd this (by decide)
 have h3:Z89 (Z0u n)=true:=by
  have e:Z0u n=dec (n / 100)++46::[Z28 (n.toNat / 10),Z28 n.toNat]:=rfl
  rw [Z89,e,hs.1,hs.2,a1,hv]
  simp [allR,Z70]
  assumption
 rw [Z07,h1,h2,h3]
 rfl
end Px
end
section
namespace Px
open Lx
abbrev Ex:=(Int × Int) × Fo
inductive Res where
 | ok (e:Ex) (r:List Bytes)
 | no (r:List Bytes)
def kIf:Bytes:=[105,102]
def kThen:Bytes:=[116,104,101,110]
def kElse:Bytes:=[101,108,115,101]
def kNot:Bytes:=[110,111,116]
def opAt (n:Nat)(t:Bytes):Int :=
 if n=1 then (if t=[111,114] then 14 else 0)
 else if n=2 then (if t=[97,110,100] then 13 else 0)
 else if n=3 then (if t=[60] then 11 else if t=[61] then 12 else 0)
 else if n=4 then (if t=[43] then 4 else if t=[45] then 5 else 0)
 else if n=5 then (if t=[42] then 6 else if t=[47] then 7 else 0)
 else 0
def Z2C (t:Bytes):Int :=
 if t=[110,105,103,104,116,115] then 1 else if t=[112,101,114,115,111,110,115] then 2 else if t=[110,105,103,104,116] then 3 else if t=[119,101,101,107,100,97,121] then 4 else 0
def Z14 (t:Bytes):Int:=if t=[109,105,110] then 8 else if t=[109,97,120] then 9 else 0
def dval (t:Bytes):Int:=val (t.filter (· != 46))
def oneE (o:Int)(a:Ex):Ex:=((o,0),.node 0 0 a.1 a.2 .nil)
def Z1C (o:Int)(a b:Ex):Ex:=((o,0),.node 0 0 a.1 a.2 (.node 0 0 b.1 b.2 .nil))
def triE (o:Int)(a b c:Ex):Ex:=((o,0),.node 0 0 a.1 a.2 (.node 0 0 b.1 b.2 (.node 0 0 c.1 c.2 .nil)))
def bnd (x:Option Res)(k:Ex→List Bytes→Option Res):Option Res :=
 match x with
 | none=>none
 | some (.no r)=>some (.no r)
 | some (.ok e r)=>k e r
def mst (t:Bytes)(ts:List Bytes)(k:List Bytes→Option Res):Option Res :=
 match ts with
 | []=>some (.no [])
 | u::r=>if u=t then k r else some (.no ts)
def Z1v (rd:Nat→Option Ex→List Bytes→Option Res)(n:Nat)(acc:Option Ex)(ts:List Bytes):Option Res :=
 match acc with
 | some e =>
  match ts with
  | []=>some (.ok e [])
  | u::r=>if opAt n u=0 then some (.ok e (u::r)) else bnd (rd (n+1) none r) fun b r'=>rd n (some (Z1C (opAt n u) e b)) r'
 | none =>
  if n=0 then
   (if ts.head?=some kIf then
    bnd (rd 0 none ts.tail) fun a r=>mst kThen r fun r=>bnd (rd 0 none r) fun b r=>mst kElse r fun r=>bnd (rd 0 none r) fun c r=>some (.ok (triE 10 a b c) r)
   else rd 1 none ts)
  else if n=3 then
   (if ts.head?=some kNot then bnd (rd 3 none ts.tail) fun e r=>some (.ok (oneE 15 e) r)
   else bnd (rd 4 none ts) fun e r =>
    match r with
    | []=>some (.ok e [])
    | u::r'=>if opAt 3 u=0 then some (.ok e (u::r')) else bnd (rd 4 none r') fun b r''=>some (.ok (Z1C (opAt 3 u) e b) r''))
  else if n≤5 then bnd (rd (n+1) none ts) fun e r=>rd n (some e) r
  else match ts with
   | []=>some (.no [])
   | t::r =>
    if Z07 t=2 then some (.ok ((1,dval t),.nil) r)
    else if Z07 t=3 then some (.ok ((2,dval t),.nil) r)
    else if Z2C t > 0 then some (.ok ((3,Z2C t),.nil) r)
    else if Z14 t > 0 then
     mst [40] r fun r=>bnd (rd 0 none r) fun a r=>mst [44] r fun r=>bnd (rd 0 none r) fun b r=>mst [41] r fun r=>some (.ok (Z1C (Z14 t) a b) r)
    else mst [40] (t::r) fun r=>bnd (rd 0 none r) fun e r=>mst [41] r fun r=>some (.ok e r)
def rd:Nat→Nat→Option Ex→List Bytes→Option Res
 | 0=>fun _ _ _=>none
 | f+1=>Z1v (rd f)
theorem Z1w (f n:Nat)(acc:Option Ex)(ts:List Bytes):rd (f+1) n acc ts=Z1v (rd f) n acc ts:=rfl
def le (x y:Option Res):Prop:=∀ r,x=some r→y=some r
theorem le_refl (x:Option Res):le x x:=fun _ h=>h
theorem Z40 {x y:Option Res}{k k':Ex→List Bytes→Option Res}(h:le x y)(hk:∀ e r,le (k e r) (k' e r)):le (bnd x k) (bnd y k'):=by
 intro r
 cases x with
 | none=>intro e;cases e
 | some z=>rw [h z rfl];cases z with
  | no s=>exact id
  | ok e s=>exact hk e s r
theorem Zaz {t:Bytes}{ts:List Bytes}{k k':List Bytes→Option Res}(hk:∀ r,le (k r) (k' r)):le (mst t ts k) (mst t ts k'):=by
 intro r
 cases ts with
 | nil=>exact id
 | cons u s =>
  simp only [mst]
  split
  · exact hk s r
  · exact id
theorem ZmE {x y:Nat→Option Ex→List Bytes→Option Res}(h:∀ n acc ts,le (x n acc ts) (y n acc ts))(n:Nat)(acc:Option Ex)(ts:List Bytes):le (Z1v x n acc ts) (Z1v y n acc ts):=by
 cases acc with
 | some e =>
  cases ts with
  | nil=>exact le_refl _
  | cons u r =>
   simp only [Z1v]
   split
   · exact le_refl _
   · exact Z40 (h _ _ _) (fun b r'=>h _ _ _)
 | none =>
  simp only [Z1v]
  split
  · split
    · exact Z40 (h _ _ _) fun a r=>Zaz fun r=>Z40 (h _ _ _) fun b r=>Zaz fun r=>Z40 (h _ _ _) fun c r=>le_refl _
    · exact h _ _ _
  · split
    · split
      · exact Z40 (h _ _ _) fun a r=>le_refl _
      · refine Z40 (h _ _ _) fun a r=>?_
        cases r with
        | nil=>exact le_refl _
        | cons u r' =>
         dsimp only
         split
         · exact le_refl _
         · exact Z40 (h _ _ _) fun b r=>le_refl _
    · split
      · exact Z40 (h _ _ _) fun e r=>h _ _ _
      · cases ts with
        | nil=>exact le_refl _
        | cons t r =>
         dsimp only
         split
         · exact le_refl _
         · split
           · exact le_refl _
           · split
             · exact le_refl _
             · split
               · exact Zaz fun r=>Z40 (h _ _ _) fun a r=>Zaz fun r=>Z40 (h _ _ _) fun b r=>le_refl _
               · exact Zaz fun r=>Z40 (h _ _ _) fun e r=>le_refl _
theorem ZmF:∀ (f n:Nat) (acc:Option Ex) (ts:List Bytes),le (rd f n acc ts) (rd (f+1) n acc ts):=by
 intro f
 induction f with
 | zero=>intro n acc ts r h;cases h
 | succ f ih=>intro n acc ts;exact ZmE ih n acc ts
theorem ZmG {f n:Nat}{acc:Option Ex}{ts:List Bytes}{r:Res}(h:rd f n acc ts=some r):∀ k,rd (f+k) n acc ts=some r:=by
 intro k
 induction k with
 | zero=>exact h
 | succ k ih=>exact ZmF _ _ _ _ _ ih
theorem Z5k {f g n:Nat}{acc:Option Ex}{ts:List Bytes}{r:Res}(h:rd f n acc ts=some r)(hg:f≤g):rd g n acc ts=some r:=by
 have:=ZmG h (g - f)
 rwa [show f+(g - f)=g by omega] at this
def Rd (n:Nat)(acc:Option Ex)(ts:List Bytes)(r:Res):Prop:=∃ f,rd f n acc ts=some r
theorem ZaA {n:Nat}{acc:Option Ex}{ts:List Bytes}{r s:Res}(h:Rd n acc ts r)(h':Rd n acc ts s):r=s:=by
 obtain ⟨f,hf⟩:=h
 obtain ⟨g,hg⟩:=h'
 have h1:=Z5k hf (Nat.le_max_left f g)
 have h2:=Z5k hg (Nat.le_max_right f g)
 rw [h1] at h2
 injection h2
theorem Z7s (n:Nat)(e:Ex)(ts:List Bytes)(h:∀ u r,ts=u::r→opAt n u=0):Rd n (some e) ts (.ok e ts):=by
 refine ⟨1,?_⟩
 cases ts with
 | nil=>rfl
 | cons u r=>simp only [Z1w,Z1v];rw [if_pos (h u r rfl)]
theorem Zc7 {n:Nat}{e b:Ex}{u:Bytes}{ts r:List Bytes}{res:Res}(ho:opAt n u≠0)(h1:Rd (n+1) none ts (.ok b r))(h2:Rd n (some (Z1C (opAt n u) e b)) r res):Rd n (some e) (u::ts) res:=by
 obtain ⟨f,hf⟩:=h1
 obtain ⟨g,hg⟩:=h2
 refine ⟨max f g+1,?_⟩
 simp only [Z1w,Z1v]
 rw [if_neg ho,Z5k hf (Nat.le_max_left f g)]
 exact Z5k hg (Nat.le_max_right f g)
theorem ZgE {n:Nat}(h0:n≠0)(h3:n≠3)(h5:n≤5){e:Ex}{ts r:List Bytes}{res:Res}(h1:Rd (n+1) none ts (.ok e r))(h2:Rd n (some e) r res):Rd n none ts res:=by
 obtain ⟨f,hf⟩:=h1
 obtain ⟨g,hg⟩:=h2
 refine ⟨max f g+1,?_⟩
 simp only [Z1w,Z1v]
 rw [if_neg h0,if_neg h3,if_pos h5,Z5k hf (Nat.le_max_left f g)]
 exact Z5k hg (Nat.le_max_right f g)
theorem ZgF {ts:List Bytes}{res:Res}(h:ts.head?≠some kIf)(h1:Rd 1 none ts res):Rd 0 none ts res:=by
 obtain ⟨f,hf⟩:=h1
 exact ⟨f+1,by simp only [Z1w,Z1v,if_true];rw [if_neg h];exact hf⟩
theorem Rd_if {ts r1 r2 r3:List Bytes}{a b c:Ex}(h1:Rd 0 none ts (.ok a (kThen::r1)))(h2:Rd 0 none r1 (.ok b (kElse::r2)))(h3:Rd 0 none r2 (.ok c r3)):Rd 0 none (kIf::ts) (.ok (triE 10 a b c) r3):=by
 obtain ⟨f,hf⟩:=h1
 obtain ⟨g,hg⟩:=h2
 obtain ⟨h,hh⟩:=h3
 refine ⟨f+g+h+1,?_⟩
 simp only [Z1w,Z1v,List.head?_cons,List.tail_cons,if_true]
 rw [Z5k hf (show f≤f+g+h by omega)]
 simp only [bnd,mst,if_true]
 rw [Z5k hg (show g≤f+g+h by omega)]
 simp only [if_true]
 rw [Z5k hh (show h≤f+g+h by omega)]
theorem Zm2 {ts r:List Bytes}{e:Ex}(h1:Rd 3 none ts (.ok e r)):Rd 3 none (kNot::ts) (.ok (oneE 15 e) r):=by
 obtain ⟨f,hf⟩:=h1
 refine ⟨f+1,?_⟩
 simp only [Z1w,Z1v,List.head?_cons,List.tail_cons,if_true]
 rw [if_neg (by decide),hf]
 rfl
theorem Zm3 {ts r:List Bytes}{e:Ex}(h:ts.head?≠some kNot)(h1:Rd 4 none ts (.ok e r))(h2:∀ u r',r=u::r'→opAt 3 u=0):Rd 3 none ts (.ok e r):=by
 obtain ⟨f,hf⟩:=h1
 refine ⟨f+1,?_⟩
 simp only [Z1w,Z1v,if_true]
 rw [if_neg (by decide),if_neg h,hf]
 simp only [bnd]
 cases r with
 | nil=>rfl
 | cons u r'=>dsimp only;rw [if_pos (h2 u r' rfl)]
theorem ZgG {ts r s:List Bytes}{u:Bytes}{e b:Ex}(h:ts.head?≠some kNot)(h1:Rd 4 none ts (.ok e (u::r)))(ho:opAt 3 u≠0)(h2:Rd 4 none r (.ok b s)):Rd 3 none ts (.ok (Z1C (opAt 3 u) e b) s):=by
 obtain ⟨f,hf⟩:=h1
 obtain ⟨g,hg⟩:=h2
 refine ⟨max f g+1,?_⟩
 simp only [Z1w,Z1v,if_true]
 rw [if_neg (by decide),if_neg h,Z5k hf (Nat.le_max_left f g)]
 simp only [bnd]
 rw [if_neg ho,Z5k hg (Nat.le_max_right f g)]
theorem Zm4 {t:Bytes}(r:List Bytes)(h:Z07 t=2):Rd 6 none (t::r) (.ok ((1,dval t),.nil) r):=⟨1,by simp [Z1w,Z1v,h]⟩
theorem Zm5 {t:Bytes}(r:List Bytes)(h:Z07 t=3):Rd 6 none (t::r) (.ok ((2,dval t),.nil) r):=⟨1,by simp [Z1w,Z1v,h]⟩
theorem Rd_var {t:Bytes}(r:List Bytes)(h:Z07 t=1)(hv:Z2C t > 0):Rd 6 none (t::r) (.ok ((3,Z2C t),.nil) r):=⟨1,by simp [Z1w,Z1v,h,hv]⟩
theorem ZmH {t:Bytes}{r r1 r2:List Bytes}{a b:Ex}(h:Z07 t=1)(hv:¬ Z2C t > 0)(hb:Z14 t > 0)(h1:Rd 0 none r (.ok a ([44]::r1)))(h2:Rd 0 none r1 (.ok b ([41]::r2))) :
 Rd 6 none (t::[40]::r) (.ok (Z1C (Z14 t) a b) r2):=by
 obtain ⟨f,hf⟩:=h1
 obtain ⟨g,hg⟩:=h2
 refine ⟨max f g+1,?_⟩
 simp only [Z1w,Z1v]
 rw [if_neg (by decide),if_neg (by decide),if_neg (by decide)]
 rw [if_neg (by rw [h];decide),if_neg (by rw [h];decide),if_neg hv,if_pos hb]
 simp only [mst,if_true]
 rw [Z5k hf (Nat.le_max_left f g)]
 simp only [bnd,if_true]
 rw [Z5k hg (Nat.le_max_right f g)]
 simp only [if_true]
theorem Rd_brk {r r1:List Bytes}{e:Ex}(h1:Rd 0 none r (.ok e ([41]::r1))):Rd 6 none ([40]::r) (.ok e r1):=by
 obtain ⟨f,hf⟩:=h1
 refine ⟨f+1,?_⟩
 simp only [Z1w,Z1v]
 rw [if_neg (by decide),if_neg (by decide),if_neg (by decide)]
 rw [if_neg (by decide),if_neg (by decide),if_neg (by decide),if_neg (by decide)]
 simp only [mst,if_true]
 rw [hf]
 simp only [bnd,if_true]
def Z8s (n:Nat)(r:List Bytes):Prop:=∀ u s,r=u::s→∀ m,n≤m→1≤m→opAt m u=0
theorem Z8s.up {n m:Nat}{r:List Bytes}(h:Z8s n r)(hm:n≤m):Z8s m r:=fun u s e k hk h1=>h u s e k (by omega) h1
theorem Z1h {n:Nat}{u:Bytes}(s:List Bytes)(h:∀ m,n≤m→1≤m→opAt m u=0):Z8s n (u::s):=by
 intro v s' e
 injection e with e _
 subst e;exact h
def R (n:Nat)(t:List Bytes)(e:Ex):Prop:=∀ r,Z8s n r→Rd n none (t++r) (.ok e r)
def L (n:Nat)(t:List Bytes)(e:Ex):Prop:=∀ r res,Z8s (n+1) r→Rd n (some e) r res→Rd n none (t++r) res
def lft (n:Nat):Prop:=n=1∨n=2∨n=4∨n=5
theorem L_of_R {n:Nat}(hn:lft n){t:List Bytes}{e:Ex}(h:R (n+1) t e):L n t e:=by
 intro r res hr h2
 unfold lft at hn
 exact ZgE (by omega) (by omega) (by omega) (h r hr) h2
theorem Zm6 {n:Nat}(hn:1≤n){t:List Bytes}{e:Ex}(h:L n t e):R n t e:=by
 intro r hr
 exact h r _ (hr.up (by omega)) (Z7s n e r fun u s es=>hr u s es n (by omega) hn)
def Hd (j:Nat)(t:List Bytes):Prop:=∃ u s,t=u::s∧(1≤j→u≠kIf)∧(4≤j→u≠kNot)
theorem Hd.app {j:Nat}{t:List Bytes}(h:Hd j t)(s:List Bytes):Hd j (t++s):=by
 obtain ⟨u,v,rfl,h1,h2⟩:=h
 exact ⟨u,v++s,rfl,h1,h2⟩
theorem Hd.low {j k:Nat}{t:List Bytes}(h:Hd j t)(hk:k≤j):Hd k t:=by
 obtain ⟨u,v,rfl,h1,h2⟩:=h
 exact ⟨u,v,rfl,fun x=>h1 (by omega),fun x=>h2 (by omega)⟩
structure G (j:Nat) (t:List Bytes) (e:Ex):Prop where
 hd:Hd j t
 rr:∀ n,n≤j→R n t e
 ll:∀ n,n≤j→lft n→L n t e
theorem G.low {j k:Nat}{t:List Bytes}{e:Ex}(h:G j t e)(hk:k≤j):G k t e:=⟨h.hd.low hk,fun n hn=>h.rr n (by omega),fun n hn=>h.ll n (by omega)⟩
theorem down {n:Nat}(hn:n≤5){t:List Bytes}{e:Ex}(hd:Hd (n+1) t)(h:R (n+1) t e):R n t e∧(lft n→L n t e):=by
 by_cases hl:lft n
 · have:=L_of_R hl h
   exact ⟨Zm6 (by unfold lft at hl;omega) this,fun _=>this⟩
 · refine ⟨?_,fun x=>absurd x hl⟩
   obtain ⟨u,s,rfl,h1,h2⟩:=hd
   have:n=0∨n=3:=by unfold lft at hl;omega
   rcases this with rfl | rfl
   · intro r hr
     refine ZgF ?_ (h r (hr.up (by omega)))
     intro e
     exact h1 (by omega) (by simpa using e)
   · intro r hr
     refine Zm3 ?_ (h r (hr.up (by omega))) (fun v r' e=>hr v r' e 3 (by omega) (by omega))
     intro e
     exact h2 (by omega) (by simpa using e)
theorem G_of {j:Nat}(hj:j≤6){t:List Bytes}{e:Ex}(hd:Hd j t)(h:R j t e)(hl:lft j→L j t e):G j t e:=by
 have all:∀ k,k≤j→R (j - k) t e∧(lft (j - k)→L (j - k) t e):=by
  intro k
  induction k with
  | zero=>intro _;exact ⟨h,hl⟩
  | succ k ih =>
   intro hk
   have h1:=(ih (by omega)).1
   rw [show j - k=(j - (k+1))+1 by omega] at h1
   exact down (by omega) (hd.low (by omega)) h1
 exact ⟨hd,fun n hn=>by have:=(all (j - n) (by omega)).1;rwa [show j - (j - n)=n by omega] at this,fun n hn=>by have:=(all (j - n) (by omega)).2;rwa [show j - (j - n)=n by omega] at this⟩
theorem ZaB {t:List Bytes}{e:Ex}(hd:Hd 6 t)(h:∀ r,Rd 6 none (t++r) (.ok e r)):G 6 t e :=
 G_of (by omega) hd (fun r _=>h r) (fun x=>by unfold lft at x;omega)
theorem Zc8 {c:UInt8}{m:Nat}(h:c=40∨c=41∨c=44):opAt m [c]=0:=by
 rcases h with rfl | rfl | rfl <;> (unfold opAt;repeat' split) <;> first | rfl | (exfalso;rename_i h;revert h;decide)
theorem G_brk {t:List Bytes}{e:Ex}(h:G 0 t e):G 6 ([[40]]++t++[[41]]) e:=by
 refine ZaB ⟨[40],t++[[41]],rfl,fun _=>by decide,fun _=>by decide⟩ ?_
 intro r
 have:=h.rr 0 (by omega) ([41]::r) (Z1h _ fun m _ _=>Zc8 (.inr (.inl rfl)))
 simpa using Rd_brk this
theorem Z8t {n:Nat}(hn:lft n){t1 t2:List Bytes}{e1 e2:Ex}{u:Bytes}(ho:opAt n u≠0)(hu:∀ m,n+1≤m→1≤m→opAt m u=0)(h1:G n t1 e1)(h2:G (n+1) t2 e2):G n (t1++[u]++t2) (Z1C (opAt n u) e1 e2):=by
 have hL:L n (t1++[u]++t2) (Z1C (opAt n u) e1 e2):=by
  intro r res hr h3
  have:=h1.ll n (by omega) hn (u::(t2++r)) res (Z1h _ hu) (Zc7 ho (h2.rr (n+1) (by omega) r hr) h3)
  simpa using this
 exact G_of (by unfold lft at hn;omega) (by rw [List.append_assoc];exact h1.hd.app _) (Zm6 (by unfold lft at hn;omega) hL) (fun _=>hL)
theorem G_cmp {t1 t2:List Bytes}{e1 e2:Ex}{u:Bytes}(ho:opAt 3 u≠0)(hu:∀ m,4≤m→1≤m→opAt m u=0)(h1:G 4 t1 e1)(h2:G 4 t2 e2):G 3 (t1++[u]++t2) (Z1C (opAt 3 u) e1 e2):=by
 obtain ⟨x,y,hx,h3,h4⟩:=h1.hd
 refine G_of (by omega) (by rw [List.append_assoc];exact (h1.hd.low (by omega)).app _) ?_ (fun x=>by unfold lft at x;omega)
 intro r hr
 have e1:=h1.rr 4 (by omega) (u::(t2++r)) (Z1h _ hu)
 have e2:=h2.rr 4 (by omega) r (hr.up (by omega))
 have:=ZgG (by rw [hx];intro e;exact h4 (by omega) (by simpa using e)) e1 ho e2
 simpa using this
theorem G_not {t:List Bytes}{e:Ex}(h:G 3 t e):G 3 ([kNot]++t) (oneE 15 e):=by
 refine G_of (by omega) ⟨kNot,t,rfl,fun _=>by decide,fun x=>by omega⟩ ?_ (fun x=>by unfold lft at x;omega)
 intro r hr
 exact Zm2 (h.rr 3 (by omega) r hr)
theorem op_kw {u:Bytes}(h:u=kThen∨u=kElse)(m:Nat):opAt m u=0:=by
 rcases h with rfl | rfl <;> (unfold opAt;repeat' split) <;> first | rfl | (exfalso;rename_i h;revert h;decide)
theorem G_if {t1 t2 t3:List Bytes}{a b c:Ex}(h1:G 0 t1 a)(h2:G 0 t2 b)(h3:G 0 t3 c):G 0 ([kIf]++(t1++[kThen]++t2++[kElse]++t3)) (triE 10 a b c):=by
 refine G_of (by omega) ⟨kIf,_,rfl,fun x=>by omega,fun x=>by omega⟩ ?_ (fun x=>by unfold lft at x;omega)
 intro r hr
 have:=Rd_if (h1.rr 0 (by omega) (kThen::(t2++kElse::(t3++r))) (Z1h _ fun m _ _=>op_kw (.inl rfl) m)) (h2.rr 0 (by omega) (kElse::(t3++r)) (Z1h _ fun m _ _=>op_kw (.inr rfl) m)) (h3.rr 0 (by omega) r hr)
 simpa using this
theorem G_both {t:Bytes}{t1 t2:List Bytes}{a b:Ex}(h:Z07 t=1)(hv:¬ Z2C t > 0)(hb:Z14 t > 0)(hi:t≠kIf)(hn:t≠kNot)(h1:G 0 t1 a)(h2:G 0 t2 b) :
 G 6 ([t,[40]]++(t1++[[44]]++t2)++[[41]]) (Z1C (Z14 t) a b):=by
 refine ZaB ⟨t,_,rfl,fun _=>hi,fun _=>hn⟩ ?_
 intro r
 have:=ZmH h hv hb (h1.rr 0 (by omega) ([44]::(t2++[41]::r)) (Z1h _ fun m _ _=>Zc8 (.inr (.inr rfl)))) (h2.rr 0 (by omega) ([41]::r) (Z1h _ fun m _ _=>Zc8 (.inr (.inl rfl))))
 simpa using this
def nrm:Fo→Fo
 | .nil=>.nil
 | .node _ _ a l r=>.node 0 0 a (nrm l) (nrm r)
def lev (op:Int):Nat :=
 if op=10 then 0 else if op=14 then 1 else if op=13 then 2 else if op=15∨op=11∨op=12 then 3 else if op=4∨op=5 then 4 else if op=6∨op=7 then 5 else 6
def T (a:Int × Int)(l:Fo):Prop:=G (lev a.1) (tkE a.1 a.2 l) (a,nrm l)
def AllT:Fo→Prop
 | .nil=>True
 | .node _ _ a l r=>T a l∧AllT r
theorem part {a:Int × Int}{l:Fo}(h:T a l)(n:Nat)(hn:n≤6)(v:Int)(hv:v≤Z03 a.1→n≤lev a.1):G n (Z54 (decide (Z03 a.1<v)) (tkE a.1 a.2 l)) (a,nrm l):=by
 unfold Z54
 split
 · exact (G_brk (h.low (by omega))).low hn
 · rename_i x
   simp only [decide_eq_true_eq] at x
   exact h.low (hv (by omega))
theorem Z9t (op:Int):(1≤Z03 op→1≤lev op)∧(2≤Z03 op→2≤lev op)∧(3≤Z03 op→3≤lev op)∧(5≤Z03 op→4≤lev op)∧(6≤Z03 op→5≤lev op)∧(7≤Z03 op→6≤lev op):=by
 unfold Z03 lev
 repeat' split
 all_goals first | omega | (refine ⟨?_,?_,?_,?_,?_,?_⟩ <;> intro h <;> omega)
theorem Zji {l:Fo}(h:flen l=1):∃ x y a l1,l=.node x y a l1 .nil:=by
 match l,h with
 | .node x y a l1 .nil,_=>exact ⟨x,y,a,l1,rfl⟩
 | .node _ _ a l1 (.node _ _ _ _ _),h=>simp [flen] at h
theorem Zjj {l:Fo}(h:flen l=2):∃ x y a l1 x' y' b l2,l=.node x y a l1 (.node x' y' b l2 .nil):=by
 match l,h with
 | .node _ _ a l1 .nil,h=>simp [flen] at h
 | .node x y a l1 (.node x' y' b l2 .nil),_=>exact ⟨x,y,a,l1,x',y',b,l2,rfl⟩
 | .node _ _ a l1 (.node _ _ b l2 (.node _ _ _ _ _)),h=>simp [flen] at h
theorem Zet {l:Fo}(h:flen l=3):∃ x y a l1 x' y' b l2 x'' y'' c l3,l=.node x y a l1 (.node x' y' b l2 (.node x'' y'' c l3 .nil)):=by
 match l,h with
 | .node _ _ a l1 .nil,h=>simp [flen] at h
 | .node _ _ a l1 (.node _ _ b l2 .nil),h=>simp [flen] at h
 | .node x y a l1 (.node x' y' b l2 (.node x'' y'' c l3 .nil)),_=>exact ⟨x,y,a,l1,x',y',b,l2,x'',y'',c,l3,rfl⟩
 | .node _ _ a l1 (.node _ _ b l2 (.node _ _ c l3 (.node _ _ _ _ _))),h=>simp [flen] at h
theorem Z7t {l:Fo}(h:flen l=0):l=.nil:=by
 match l,h with
 | .nil,_=>rfl
 | .node _ _ _ _ _,h=>simp [flen] at h
theorem Zjk (n:Int)(h0:0≤n)(h1:n≤999999999):dval (dec n)=n:=by
 obtain ⟨_,a2,a3,_⟩:=Z9s n h0 h1
 unfold dval
 rw [List.filter_eq_self.2,a2]
 intro c hc
 have:=Z3E a3 hc
 simp only [bne_iff_ne]
 rintro rfl
 exact absurd this (by decide)
theorem Z2b (o:Int)(n m k:Nat)(a b:Int × Int)(l1 l2:Fo)(ha:T a l1)(hb:T b l2)(hm:m≤6)(hk:k≤6)
 (h1:Z08 o 0≤Z03 a.1→m≤lev a.1) (h2:Z08 o 1≤Z03 b.1→k≤lev b.1) (hl:lev o=n)
 (hx:∀ x y x' y',tkE o 0 (.node x y a l1 (.node x' y' b l2 .nil))=Z54 (decide (Z03 a.1<Z08 o 0)) (tkE a.1 a.2 l1)++[Z4w o 1]++Z54 (decide (Z03 b.1<Z08 o 1)) (tkE b.1 b.2 l2))
 (hG:∀ t1 t2 e1 e2,G m t1 e1→G k t2 e2→G n (t1++[Z4w o 1]++t2) (Z1C o e1 e2)) (x y x' y':Nat):T (o,0) (.node x y a l1 (.node x' y' b l2 .nil)):=by
 unfold T
 dsimp only
 rw [hx,hl]
 exact hG _ _ _ _ (part ha m hm _ h1) (part hb k hk _ h2)
theorem Z41 (o:Int)(n:Nat)(h:(o,n)∈[((14:Int),1),(13,2),(11,3),(12,3),(4,4),(5,4),(6,5),(7,5)]):opAt n (Z4w o 1)=o∧∀ m,n+1≤m→opAt m (Z4w o 1)=0:=by
 have big:∀ m t,6≤m→opAt m t=0:=by
  intro m t hm
  unfold opAt
  rw [if_neg (by omega),if_neg (by omega),if_neg (by omega),if_neg (by omega),if_neg (by omega)]
 simp only [List.mem_cons,Prod.mk.injEq,List.not_mem_nil,or_false] at h
 rcases h with ⟨rfl,rfl⟩ | ⟨rfl,rfl⟩ | ⟨rfl,rfl⟩ | ⟨rfl,rfl⟩ | ⟨rfl,rfl⟩ | ⟨rfl,rfl⟩ | ⟨rfl,rfl⟩ | ⟨rfl,rfl⟩
 all_goals
  refine ⟨by decide,?_⟩
  intro m hm
  by_cases h6:6≤m
  · exact big m _ h6
  · have:m=2∨m=3∨m=4∨m=5:=by omega
    rcases this with rfl | rfl | rfl | rfl <;> first | decide | omega
set_option maxHeartbeats 1000000 in
theorem core (a:Int × Int)(l:Fo)(hf:Z05 a.1 a.2 (flen l)=true)(hl:AllT l):T a l:=by
 obtain ⟨op,n⟩:=a
 dsimp only at hf
 by_cases h1:op=1
 · subst h1
   simp [Z05] at hf
   obtain ⟨⟨h0,h2⟩,h3⟩:=hf
   rw [Z7t h0]
   have hk:=Zjh n h2 h3
   refine ZaB ⟨dec n,[],rfl,fun _ e=>?_,fun _ e=>?_⟩ (fun r=>?_)
   · rw [e] at hk;exact absurd hk (by decide)
   · rw [e] at hk;exact absurd hk (by decide)
   · have:=Zm4 r hk
     rw [Zjk n h2 h3] at this
     exact this
 by_cases h2:op=2
 · subst h2
   simp [Z05] at hf
   obtain ⟨⟨h0,h2⟩,h3⟩:=hf
   rw [Z7t h0]
   have hk:=(Z8r n h2 h3).1
   refine ZaB ⟨Z0u n,[],rfl,fun _ e=>?_,fun _ e=>?_⟩ (fun r=>?_)
   · rw [e] at hk;exact absurd hk (by decide)
   · rw [e] at hk;exact absurd hk (by decide)
   · have:=Zm5 r hk
     rw [show dval (Z0u n)=n from (Z8r n h2 h3).2] at this
     exact this
 by_cases h3:op=3
 · subst h3
   simp [Z05] at hf
   obtain ⟨⟨h0,h2⟩,h3⟩:=hf
   rw [Z7t h0]
   have hn:n=1∨n=2∨n=3∨n=4:=by omega
   rcases hn with rfl | rfl | rfl | rfl
   all_goals
    refine ZaB ⟨Z3z _,[],rfl,fun _=>by decide,fun _=>by decide⟩ (fun r=>?_)
    exact Rd_var r (by decide) (by decide)
 by_cases h15:op=15
 · subst h15
   simp [Z05] at hf
   obtain ⟨h0,rfl⟩:=hf
   obtain ⟨x,y,a,l1,rfl⟩:=Zji h0
   have hp:=part hl.1 3 (by omega) (Z08 15 0) (Z9t a.1).2.2.1
   have:=G_not hp
   unfold T
   rw [show tkE ((15:Int),(0:Int)).1 ((15:Int),(0:Int)).2 (.node x y a l1 .nil)=[kNot]++Z54 (decide (Z03 a.1<Z08 15 0)) (tkE a.1 a.2 l1) by simp [tkE,tkBody,tkBegin,tkEnd,tkF,kNot]]
   exact this
 by_cases h10:op=10
 · subst h10
   simp [Z05] at hf
   obtain ⟨h0,rfl⟩:=hf
   obtain ⟨x,y,a,l1,x',y',b,l2,x'',y'',c,l3,rfl⟩:=Zet h0
   have g:=G_if (part hl.1 0 (by omega) (Z08 10 0) (fun _=>by omega)) (part hl.2.1 0 (by omega) (Z08 10 1) (fun _=>by omega)) (part hl.2.2.1 0 (by omega) (Z08 10 2) (fun _=>by omega))
   unfold T
   rw [show tkE ((10:Int),(0:Int)).1 ((10:Int),(0:Int)).2 (.node x y a l1 (.node x' y' b l2 (.node x'' y'' c l3 .nil)))=[kIf]++(Z54 (decide (Z03 a.1<Z08 10 0)) (tkE a.1 a.2 l1)++[kThen]++Z54 (decide (Z03 b.1<Z08 10 1)) (tkE b.1 b.2 l2)++[kElse]++Z54 (decide (Z03 c.1<Z08 10 2)) (tkE c.1 c.2 l3)) by simp [tkE,tkBody,tkBegin,tkEnd,tkF,kIf,kThen,kElse,Z4w]]
   exact g
 have hr:4≤op∧op≤14∧flen l=2∧n=0:=by
  simp [Z05,h1,h2,h3,h15,h10] at hf
  omega
 obtain ⟨g1,g2,g3,rfl⟩:=hr
 obtain ⟨x,y,a,l1,x',y',b,l2,rfl⟩:=Zjj g3
 have ra:=Z9t a.1
 have rb:=Z9t b.1
 have ho:op=4∨op=5∨op=6∨op=7∨op=8∨op=9∨op=11∨op=12∨op=13∨op=14:=by omega
 have two:∀ t:Bytes,∀ o:Int,Z07 t=1→¬ Z2C t > 0→Z14 t=o→o > 0→t≠kIf→t≠kNot→G 6 ([t,[40]]++(Z54 (decide (Z03 a.1<Z08 o 0)) (tkE a.1 a.2 l1)++[[44]]++Z54 (decide (Z03 b.1<Z08 o 1)) (tkE b.1 b.2 l2))++[[41]]) (Z1C o (a,nrm l1) (b,nrm l2)):=by
  intro t o k1 k2 k3 k4 k5 k6
  have:=G_both k1 k2 (by omega) k5 k6 (part hl.1 0 (by omega) (Z08 o 0) (fun _=>by omega)) (part hl.2.1 0 (by omega) (Z08 o 1) (fun _=>by omega))
  rw [k3] at this
  exact this
 rcases ho with rfl | rfl | rfl | rfl | rfl | rfl | rfl | rfl | rfl | rfl
 · exact Z2b 4 4 4 5 a b l1 l2 hl.1 hl.2.1 (by omega) (by omega) ra.2.2.2.1 rb.2.2.2.2.1 rfl (fun _ _ _ _=>by simp [tkE,tkBody,tkBegin,tkEnd,tkF]) (fun t1 t2 e1 e2 x1 x2=>by
    have h:=Z41 4 4 (by decide)
    have:=Z8t (n:=4) (u:=Z4w 4 1) (by unfold lft;omega) (by rw [h.1];decide) (fun m hm _=>h.2 m hm) x1 x2
    rwa [h.1] at this) x y x' y'
 · exact Z2b 5 4 4 5 a b l1 l2 hl.1 hl.2.1 (by omega) (by omega) ra.2.2.2.1 rb.2.2.2.2.1 rfl (fun _ _ _ _=>by simp [tkE,tkBody,tkBegin,tkEnd,tkF]) (fun t1 t2 e1 e2 x1 x2=>by
    have h:=Z41 5 4 (by decide)
    have:=Z8t (n:=4) (u:=Z4w 5 1) (by unfold lft;omega) (by rw [h.1];decide) (fun m hm _=>h.2 m hm) x1 x2
    rwa [h.1] at this) x y x' y'
 · exact Z2b 6 5 5 6 a b l1 l2 hl.1 hl.2.1 (by omega) (by omega) ra.2.2.2.2.1 rb.2.2.2.2.2 rfl (fun _ _ _ _=>by simp [tkE,tkBody,tkBegin,tkEnd,tkF]) (fun t1 t2 e1 e2 x1 x2=>by
    have h:=Z41 6 5 (by decide)
    have:=Z8t (n:=5) (u:=Z4w 6 1) (by unfold lft;omega) (by rw [h.1];decide) (fun m hm _=>h.2 m hm) x1 x2
    rwa [h.1] at this) x y x' y'
 · exact Z2b 7 5 5 6 a b l1 l2 hl.1 hl.2.1 (by omega) (by omega) ra.2.2.2.2.1 rb.2.2.2.2.2 rfl (fun _ _ _ _=>by simp [tkE,tkBody,tkBegin,tkEnd,tkF]) (fun t1 t2 e1 e2 x1 x2=>by
    have h:=Z41 7 5 (by decide)
    have:=Z8t (n:=5) (u:=Z4w 7 1) (by unfold lft;omega) (by rw [h.1];decide) (fun m hm _=>h.2 m hm) x1 x2
    rwa [h.1] at this) x y x' y'
 · have:=two [109,105,110] 8 (by decide) (by decide) (by decide) (by decide) (by decide) (by decide)
   unfold T
   rw [show tkE ((8:Int),(0:Int)).1 ((8:Int),(0:Int)).2 (.node x y a l1 (.node x' y' b l2 .nil))=[[109,105,110],[40]]++(Z54 (decide (Z03 a.1<Z08 8 0)) (tkE a.1 a.2 l1)++[[44]]++Z54 (decide (Z03 b.1<Z08 8 1)) (tkE b.1 b.2 l2))++[[41]] by simp [tkE,tkBody,tkBegin,tkEnd,tkF,Z4w]]
   exact this
 · have:=two [109,97,120] 9 (by decide) (by decide) (by decide) (by decide) (by decide) (by decide)
   unfold T
   rw [show tkE ((9:Int),(0:Int)).1 ((9:Int),(0:Int)).2 (.node x y a l1 (.node x' y' b l2 .nil))=[[109,97,120],[40]]++(Z54 (decide (Z03 a.1<Z08 9 0)) (tkE a.1 a.2 l1)++[[44]]++Z54 (decide (Z03 b.1<Z08 9 1)) (tkE b.1 b.2 l2))++[[41]] by simp [tkE,tkBody,tkBegin,tkEnd,tkF,Z4w]]
   exact this
 · exact Z2b 11 3 4 4 a b l1 l2 hl.1 hl.2.1 (by omega) (by omega) ra.2.2.2.1 rb.2.2.2.1 rfl (fun _ _ _ _=>by simp [tkE,tkBody,tkBegin,tkEnd,tkF]) (fun t1 t2 e1 e2 x1 x2=>by
    have h:=Z41 11 3 (by decide)
    have:=G_cmp (u:=Z4w 11 1) (by rw [h.1];decide) (fun m hm _=>h.2 m hm) x1 x2
    rwa [h.1] at this) x y x' y'
 · exact Z2b 12 3 4 4 a b l1 l2 hl.1 hl.2.1 (by omega) (by omega) ra.2.2.2.1 rb.2.2.2.1 rfl (fun _ _ _ _=>by simp [tkE,tkBody,tkBegin,tkEnd,tkF]) (fun t1 t2 e1 e2 x1 x2=>by
    have h:=Z41 12 3 (by decide)
    have:=G_cmp (u:=Z4w 12 1) (by rw [h.1];decide) (fun m hm _=>h.2 m hm) x1 x2
    rwa [h.1] at this) x y x' y'
 · exact Z2b 13 2 2 3 a b l1 l2 hl.1 hl.2.1 (by omega) (by omega) ra.2.1 rb.2.2.1 rfl (fun _ _ _ _=>by simp [tkE,tkBody,tkBegin,tkEnd,tkF]) (fun t1 t2 e1 e2 x1 x2=>by
    have h:=Z41 13 2 (by decide)
    have:=Z8t (n:=2) (u:=Z4w 13 1) (by unfold lft;omega) (by rw [h.1];decide) (fun m hm _=>h.2 m hm) x1 x2
    rwa [h.1] at this) x y x' y'
 · exact Z2b 14 1 1 2 a b l1 l2 hl.1 hl.2.1 (by omega) (by omega) ra.1 rb.2.1 rfl (fun _ _ _ _=>by simp [tkE,tkBody,tkBegin,tkEnd,tkF]) (fun t1 t2 e1 e2 x1 x2=>by
    have h:=Z41 14 1 (by decide)
    have:=Z8t (n:=1) (u:=Z4w 14 1) (by unfold lft;omega) (by rw [h.1];decide) (fun m hm _=>h.2 m hm) x1 x2
    rwa [h.1] at this) x y x' y'
theorem allT:∀ f:Fo,okF f=true→AllT f:=by
 intro f
 induction f with
 | nil=>intro _;trivial
 | node x y a l r ihl ihr =>
  intro h
  simp only [okF,Bool.and_eq_true] at h
  exact ⟨core a l h.1.1 (ihl h.1.2),ihr h.2⟩
end Px
end
end Go.Proofs.YtnepkoepbapgeaaGreatDoor
