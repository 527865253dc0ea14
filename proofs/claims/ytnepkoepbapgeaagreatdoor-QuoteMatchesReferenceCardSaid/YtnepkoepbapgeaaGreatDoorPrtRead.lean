import Derived.Test.YtnepkoepbapgeaaGreatDoorLexPlain8
namespace Go.Proofs.YtnepkoepbapgeaaGreatDoor
section
namespace Px
open Lx
def tkBegin (op:Int):List Bytes :=
 if op=10 then [[105,102]] else if op=15 then [[110,111,116]] else if op=8 then [[109,105,110],[40]] else if op=9 then [[109,97,120],[40]] else []
def tkEnd (op:Int):List Bytes:=if op=8\/op=9 then [[41]] else []
def Z5n (op:Int)(i:Nat):Bytes :=
 if op=10 then (if i=1 then [116,104,101,110] else [101,108,115,101])
 else if op=14 then [111,114] else if op=13 then [97,110,100] else if op=11 then [60] else if op=12 then [61]
 else if op=4 then [43] else if op=5 then [45] else if op=6 then [42] else if op=7 then [47] else [44]
def tkBody (op n:Int)(ks:List Bytes):List Bytes :=
 if op=1 then [dec n] else if op=2 then [Z0y n] else if op=3 then [Z4n n] else tkBegin op++ks++tkEnd op
def Z5C (b:Bool)(t:List Bytes):List Bytes:=if b then [[40]]++t++[[41]] else t
def tkF:Fo->Int->Nat->List Bytes
 | .nil,_,_=>[]
 | .node _ _ a l r,par,i =>(if 0<i then [Z5n par i] else [])++Z5C (decide (Z04 a.1<Z07 par i)) (tkBody a.1 a.2 (tkF l a.1 0))++tkF r par (i+1)
def tkE (op n:Int)(kids:Fo):List Bytes:=tkBody op n (tkF kids op 0)
def stop (b:Bytes):Prop:=∀ c r,b=c::r->inR 97 122 c=false/\inR 48 57 c=false/\c≠46
theorem Z3p (n:Nat):(Z1n n).toNat=48+n % 10:=by
 unfold Z1n;rw [UInt8.toNat_ofNat'];omega
theorem Z82 (n:Nat):inR 48 57 (Z1n n)=true:=by
 simp only [inR,Z3p,zd,decide_eq_true_eq];omega
theorem val_snoc (l:Bytes)(c:UInt8):val (l++[c])=10*val l+((c.toNat:Int) - 48):=by simp [val]
theorem Zj4:∀ (f n:Nat),n<10 ^ f->0<f->(decF f n).all (inR 48 57)=true/\val (decF f n)=n/\decF f n≠[]/\(decF f n).length<=f/\((decF f n).length=1\/(decF f n).head?≠some 48)/\(0<n->(decF f n).head?≠some 48):=by
 intro f;induction f with
 | zero=>intro n _ h;omega
 | succ f ih =>
  intro n B _;rw [decF];by_cases h:n<10
  · rw [zp h];refine ⟨by simp [Z82],by simp [val,Z3p];omega,by simp,by simp,.inl rfl,?_⟩;intro J e;simp at e;have:=congrArg UInt8.toNat e;rw [Z3p] at this;simp at this;omega
  · rw [zf h];have I:0<f:=by
     cases f with
     | zero=>simp at B;omega
     | succ f=>omega
    obtain ⟨D,G,F,L,_,H⟩:=ih (n / 10) (by rw [Nat.pow_succ] at B;omega) I;have C:((decF f (n / 10))++[Z1n n]).head?≠some 48:=by
     have:=H (by omega);cases hd:decF f (n / 10) with
     | nil=>exact absurd hd F
     | cons c r=>rw [hd] at this;simpa using this
    refine ⟨by simp [D,Z82],by rw [val_snoc,G,Z3p];omega,by simp,by simp;omega,.inr C,λ_=>C⟩
theorem Zat (n:Int)(I:0<=n)(H:n<=999999999):Z2z (dec n)=true/\val (dec n)=n/\(dec n).all (inR 48 57)=true/\dec n≠[]:=by
 have e:dec n=decF 9 n.toNat:=by unfold dec;rw [Zav 20 n.toNat (by omega) (by omega),Zav 9 n.toNat (by omega) (by omega)]
 obtain ⟨C,F,B,G,D,_⟩:=Zj4 9 n.toNat (by omega) (by omega);rw [<- e] at C F B G D;refine ⟨?_,by rw [F];omega,C,B⟩;simp only [Z2z,allR,zd,Bool.not_eq_true',List.isEmpty_eq_false_iff,Bool.or_eq_true,decide_eq_true_eq,bne_iff_ne];exact ⟨⟨⟨B,C⟩,G⟩,D⟩
theorem Z8v {t:Bytes}{c:UInt8}(B:c∈t)(h:inR 48 57 c=true):allR 97 122 t=false:=by
 cases h':allR 97 122 t with
 | false=>rfl
 | true =>simp only [allR,zd] at h';have:=Z4u h'.2 B;rw [Z7z h] at this;cases this
theorem Zmu (n:Int)(D:0<=n)(C:n<=999999999):Z0b (dec n)=2:=by
 obtain ⟨F,_,B,G⟩:=Zat n D C;have:allR 97 122 (dec n)=false:=by
  cases hd:dec n with
  | nil=>exact absurd hd G
  | cons c r=>rw [hd] at B;exact Z8v (c:=c) (by simp) (Z4u B (by simp))
 rw [Z0b,this,F];rfl
theorem Z9s (n:Int)(S:0<=n)(B:n<=1000000000):Z0b (Z0y n)=3/\val ((Z0y n).filter (· != 46))=n:=by
 obtain ⟨O,L,D,R⟩:=Zat (n / 100) (by omega) (by omega);have C:=Zd8 (dec (n / 100)) [Z1n (n.toNat / 10),Z1n n.toNat] D;have F:val (dec (n / 100)++[Z1n (n.toNat / 10),Z1n n.toNat])=n:=by rw [show dec (n / 100)++[Z1n (n.toNat / 10),Z1n n.toNat]=(dec (n / 100)++[Z1n (n.toNat / 10)])++[Z1n n.toNat] by simp,val_snoc,val_snoc,L,Z3p,Z3p];omega
 have N:(Z0y n).filter (· != 46)=dec (n / 100)++[Z1n (n.toNat / 10),Z1n n.toNat]:=by
  have I:∀ k,(Z1n k != 46)=true:=by intro k;have:=Z3p k;simp only [bne_iff_ne];intro e;rw [e] at this;simp at this;omega
  have H:(dec (n / 100)).filter (· != 46)=dec (n / 100):=by rw [List.filter_eq_self];intro c G;have:=Z4u D G;simp only [bne_iff_ne];rintro rfl;exact absurd this (by decide)
  rw [Z0y,List.filter_append,H];simp [I]
 refine ⟨?_,by rw [N,F]⟩;have B:allR 97 122 (Z0y n)=false:=Z8v (c:=Z1n n.toNat) (by simp [Z0y]) (Z82 _);have M:Z2z (Z0y n)=false:=by
  cases h':Z2z (Z0y n) with
  | false=>rfl
  | true =>simp only [Z2z,allR,zd] at h';have:=Z4u h'.1.1.2 (show (46:UInt8)∈Z0y n by simp [Z0y]);exact absurd this (by decide)
 have J:Z9c (Z0y n)=true:=by have e:Z0y n=dec (n / 100)++46::[Z1n (n.toNat / 10),Z1n n.toNat]:=rfl;rw [Z9c,e,C.1,C.2,O,F];simp [allR,Z82];assumption
 rw [Z0b,B,M,J];rfl
end Px
end
section
namespace Px
open Lx
abbrev Ex:=(Int × Int) × Fo
inductive Res where
 | ok (e:Ex) (r:List Bytes)
 | no (r:List Bytes)
def kIf:Bytes:=[105,102]
def kThen:Bytes:=[116,104,101,110]
def kElse:Bytes:=[101,108,115,101]
def kNot:Bytes:=[110,111,116]
def opAt (n:Nat)(t:Bytes):Int :=
 if n=1 then (if t=[111,114] then 14 else 0)
 else if n=2 then (if t=[97,110,100] then 13 else 0)
 else if n=3 then (if t=[60] then 11 else if t=[61] then 12 else 0)
 else if n=4 then (if t=[43] then 4 else if t=[45] then 5 else 0)
 else if n=5 then (if t=[42] then 6 else if t=[47] then 7 else 0)
 else 0
def Z3q (t:Bytes):Int :=
 if t=[110,105,103,104,116,115] then 1 else if t=[112,101,114,115,111,110,115] then 2 else if t=[110,105,103,104,116] then 3 else if t=[119,101,101,107,100,97,121] then 4 else 0
def Z1h (t:Bytes):Int:=if t=[109,105,110] then 8 else if t=[109,97,120] then 9 else 0
def dval (t:Bytes):Int:=val (t.filter (· != 46))
def oneE (o:Int)(a:Ex):Ex:=((o,0),.node 0 0 a.1 a.2 .nil)
def Z2f (o:Int)(a b:Ex):Ex:=((o,0),.node 0 0 a.1 a.2 (.node 0 0 b.1 b.2 .nil))
def triE (o:Int)(a b c:Ex):Ex:=((o,0),.node 0 0 a.1 a.2 (.node 0 0 b.1 b.2 (.node 0 0 c.1 c.2 .nil)))
def bnd (x:Option Res)(k:Ex->List Bytes->Option Res):Option Res :=
 match x with
 | none=>none
 | some (.no r)=>some (.no r)
 | some (.ok e r)=>k e r
def mst (t:Bytes)(ts:List Bytes)(k:List Bytes->Option Res):Option Res :=
 match ts with
 | []=>some (.no [])
 | u::r=>if u=t then k r else some (.no ts)
def Z24 (rd:Nat->Option Ex->List Bytes->Option Res)(n:Nat)(acc:Option Ex)(ts:List Bytes):Option Res :=
 match acc with
 | some e =>
  match ts with
  | []=>some (.ok e [])
  | u::r=>if opAt n u=0 then some (.ok e (u::r)) else bnd (rd (n+1) none r) λb r'=>rd n (some (Z2f (opAt n u) e b)) r'
 | none =>
  if n=0 then
   (if ts.head?=some kIf then
    bnd (rd 0 none ts.tail) λa r=>mst kThen r λr=>bnd (rd 0 none r) λb r=>mst kElse r λr=>bnd (rd 0 none r) λc r=>some (.ok (triE 10 a b c) r)
   else rd 1 none ts)
  else if n=3 then
   (if ts.head?=some kNot then bnd (rd 3 none ts.tail) λe r=>some (.ok (oneE 15 e) r)
   else bnd (rd 4 none ts) λe r =>
    match r with
    | []=>some (.ok e [])
    | u::r'=>if opAt 3 u=0 then some (.ok e (u::r')) else bnd (rd 4 none r') λb r''=>some (.ok (Z2f (opAt 3 u) e b) r''))
  else if n<=5 then bnd (rd (n+1) none ts) λe r=>rd n (some e) r
  else match ts with
   | []=>some (.no [])
   | t::r =>
    if Z0b t=2 then some (.ok ((1,dval t),.nil) r)
    else if Z0b t=3 then some (.ok ((2,dval t),.nil) r)
    else if Z3q t > 0 then some (.ok ((3,Z3q t),.nil) r)
    else if Z1h t > 0 then
     mst [40] r λr=>bnd (rd 0 none r) λa r=>mst [44] r λr=>bnd (rd 0 none r) λb r=>mst [41] r λr=>some (.ok (Z2f (Z1h t) a b) r)
    else mst [40] (t::r) λr=>bnd (rd 0 none r) λe r=>mst [41] r λr=>some (.ok e r)
def rd:Nat->Nat->Option Ex->List Bytes->Option Res
 | 0=>λ_ _ _=>none
 | f+1=>Z24 (rd f)
theorem Z25 (f n:Nat)(acc:Option Ex)(ts:List Bytes):rd (f+1) n acc ts=Z24 (rd f) n acc ts:=rfl
def le (x y:Option Res):Prop:=∀ r,x=some r->y=some r
theorem le_refl (x:Option Res):le x x:=λ_ h=>h
theorem Z4A {x y:Option Res}{k B:Ex->List Bytes->Option Res}(h:le x y)(hk:∀ e r,le (k e r) (B e r)):le (bnd x k) (bnd y B):=by
 intro r;cases x with
 | none=>intro e;cases e
 | some z=>rw [h z rfl];cases z with
  | no s=>exact id
  | ok e s=>exact hk e s r
theorem ZbE {t:Bytes}{ts:List Bytes}{k B:List Bytes->Option Res}(hk:∀ r,le (k r) (B r)):le (mst t ts k) (mst t ts B):=by
 intro r;cases ts with
 | nil=>exact id
 | cons u s =>
  simp only [mst];split
  · exact hk s r
  · exact id
theorem Zqf {x y:Nat->Option Ex->List Bytes->Option Res}(h:∀ n acc ts,le (x n acc ts) (y n acc ts))(n:Nat)(acc:Option Ex)(ts:List Bytes):le (Z24 x n acc ts) (Z24 y n acc ts):=by
 cases acc with
 | some e =>
  cases ts with
  | nil=>exact le_refl _
  | cons u r =>
   simp only [Z24];split
   · exact le_refl _
   · exact Z4A (h _ _ _) (λb r'=>h _ _ _)
 | none =>
  simp only [Z24];split
  · split
    · exact Z4A (h _ _ _) λa r=>ZbE λr=>Z4A (h _ _ _) λb r=>ZbE λr=>Z4A (h _ _ _) λc r=>le_refl _
    · exact h _ _ _
  · split
    · split
      · exact Z4A (h _ _ _) λa r=>le_refl _
      · refine Z4A (h _ _ _) λa r=>?_;cases r with
        | nil=>exact le_refl _
        | cons u r' =>
         dsimp only;split
         · exact le_refl _
         · exact Z4A (h _ _ _) λb r=>le_refl _
    · split
      · exact Z4A (h _ _ _) λe r=>h _ _ _
      · cases ts with
        | nil=>exact le_refl _
        | cons t r =>
         dsimp only;split
         · exact le_refl _
         · split
           · exact le_refl _
           · split
             · exact le_refl _
             · split
               · exact ZbE λr=>Z4A (h _ _ _) λa r=>ZbE λr=>Z4A (h _ _ _) λb r=>le_refl _
               · exact ZbE λr=>Z4A (h _ _ _) λe r=>le_refl _
theorem Zqg:∀ (f n:Nat) (acc:Option Ex) (ts:List Bytes),le (rd f n acc ts) (rd (f+1) n acc ts):=by
 intro f;induction f with
 | zero=>intro n acc ts r h;cases h
 | succ f ih=>intro n acc ts;exact Zqf ih n acc ts
theorem Zqh {f n:Nat}{acc:Option Ex}{ts:List Bytes}{r:Res}(h:rd f n acc ts=some r):∀ k,rd (f+k) n acc ts=some r:=by
 intro k;induction k with
 | zero=>exact h
 | succ k ih=>exact Zqg _ _ _ _ _ ih
theorem Z6a {f g n:Nat}{acc:Option Ex}{ts:List Bytes}{r:Res}(h:rd f n acc ts=some r)(B:f<=g):rd g n acc ts=some r:=by
 have:=Zqh h (g - f);rwa [show f+(g - f)=g by omega] at this
def Rd (n:Nat)(acc:Option Ex)(ts:List Bytes)(r:Res):Prop:=∃ f,rd f n acc ts=some r
theorem ZbF {n:Nat}{acc:Option Ex}{ts:List Bytes}{r s:Res}(h:Rd n acc ts r)(F:Rd n acc ts s):r=s:=by
 obtain ⟨f,G⟩:=h;obtain ⟨g,C⟩:=F;have D:=Z6a G (Nat.le_max_left f g);have B:=Z6a C (Nat.le_max_right f g);rw [D] at B;injection B
theorem Z8w (n:Nat)(e:Ex)(ts:List Bytes)(h:∀ u r,ts=u::r->opAt n u=0):Rd n (some e) ts (.ok e ts):=by
 refine ⟨1,?_⟩;cases ts with
 | nil=>rfl
 | cons u r=>simp only [Z25,Z24];rw [zp (h u r rfl)]
theorem Zdp {n:Nat}{e b:Ex}{u:Bytes}{ts r:List Bytes}{res:Res}(D:opAt n u≠0)(C:Rd (n+1) none ts (.ok b r))(F:Rd n (some (Z2f (opAt n u) e b)) r res):Rd n (some e) (u::ts) res:=by
 obtain ⟨f,G⟩:=C;obtain ⟨g,B⟩:=F;refine ⟨max f g+1,?_⟩;simp only [Z25,Z24];rw [zf D,Z6a G (Nat.le_max_left f g)];exact Z6a B (Nat.le_max_right f g)
theorem Zj5 {n:Nat}(I:n≠0)(D:n≠3)(G:n<=5){e:Ex}{ts r:List Bytes}{res:Res}(C:Rd (n+1) none ts (.ok e r))(F:Rd n (some e) r res):Rd n none ts res:=by
 obtain ⟨f,H⟩:=C;obtain ⟨g,B⟩:=F;refine ⟨max f g+1,?_⟩;simp only [Z25,Z24];rw [zf I,zf D,zp G,Z6a H (Nat.le_max_left f g)];exact Z6a B (Nat.le_max_right f g)
theorem Zj6 {ts:List Bytes}{res:Res}(h:ts.head?≠some kIf)(C:Rd 1 none ts res):Rd 0 none ts res:=by
 obtain ⟨f,B⟩:=C;exact ⟨f+1,by simp only [Z25,Z24,if_true];rw [zf h];exact B⟩
theorem Rd_if {ts C B D:List Bytes}{a b c:Ex}(H:Rd 0 none ts (.ok a (kThen::C)))(J:Rd 0 none C (.ok b (kElse::B)))(I:Rd 0 none B (.ok c D)):Rd 0 none (kIf::ts) (.ok (triE 10 a b c) D):=by
 obtain ⟨f,L⟩:=H;obtain ⟨g,F⟩:=J;obtain ⟨h,G⟩:=I;refine ⟨f+g+h+1,?_⟩;simp only [Z25,Z24,List.head?_cons,List.tail_cons,if_true];rw [Z6a L (show f<=f+g+h by omega)];simp only [bnd,mst,if_true];rw [Z6a F (show g<=f+g+h by omega)];simp only [if_true];rw [Z6a G (show h<=f+g+h by omega)]
theorem Zpn {ts r:List Bytes}{e:Ex}(C:Rd 3 none ts (.ok e r)):Rd 3 none (kNot::ts) (.ok (oneE 15 e) r):=by
 obtain ⟨f,B⟩:=C;refine ⟨f+1,?_⟩;simp only [Z25,Z24,List.head?_cons,List.tail_cons,if_true];rw [zf (by decide),B];rfl
theorem Zpp {ts r:List Bytes}{e:Ex}(h:ts.head?≠some kNot)(D:Rd 4 none ts (.ok e r))(B:∀ u r',r=u::r'->opAt 3 u=0):Rd 3 none ts (.ok e r):=by
 obtain ⟨f,C⟩:=D;refine ⟨f+1,?_⟩;simp only [Z25,Z24,if_true];rw [zf (by decide),zf h,C];simp only [bnd];cases r with
 | nil=>rfl
 | cons u r'=>dsimp only;rw [zp (B u r' rfl)]
theorem Zj7 {ts r s:List Bytes}{u:Bytes}{e b:Ex}(h:ts.head?≠some kNot)(C:Rd 4 none ts (.ok e (u::r)))(D:opAt 3 u≠0)(F:Rd 4 none r (.ok b s)):Rd 3 none ts (.ok (Z2f (opAt 3 u) e b) s):=by
 obtain ⟨f,G⟩:=C;obtain ⟨g,B⟩:=F;refine ⟨max f g+1,?_⟩;simp only [Z25,Z24,if_true];rw [zf (by decide),zf h,Z6a G (Nat.le_max_left f g)];simp only [bnd];rw [zf D,Z6a B (Nat.le_max_right f g)]
theorem Zpq {t:Bytes}(r:List Bytes)(h:Z0b t=2):Rd 6 none (t::r) (.ok ((1,dval t),.nil) r):=⟨1,by simp [Z25,Z24,h]⟩
theorem Zpr {t:Bytes}(r:List Bytes)(h:Z0b t=3):Rd 6 none (t::r) (.ok ((2,dval t),.nil) r):=⟨1,by simp [Z25,Z24,h]⟩
theorem Rd_var {t:Bytes}(r:List Bytes)(h:Z0b t=1)(B:Z3q t > 0):Rd 6 none (t::r) (.ok ((3,Z3q t),.nil) r):=⟨1,by simp [Z25,Z24,h,B]⟩
theorem Zqi {t:Bytes}{r C B:List Bytes}{a b:Ex}(h:Z0b t=1)(I:¬ Z3q t > 0)(hb:Z1h t > 0)(F:Rd 0 none r (.ok a ([44]::C)))(G:Rd 0 none C (.ok b ([41]::B))) : Rd 6 none (t::[40]::r) (.ok (Z2f (Z1h t) a b) B):=by
 obtain ⟨f,H⟩:=F;obtain ⟨g,D⟩:=G;refine ⟨max f g+1,?_⟩;simp only [Z25,Z24];rw [zf (by decide),zf (by decide),zf (by decide)];rw [zf (by rw [h];decide),zf (by rw [h];decide),zf I,zp hb];simp only [mst,if_true];rw [Z6a H (Nat.le_max_left f g)];simp only [bnd,if_true];rw [Z6a D (Nat.le_max_right f g)];simp only [if_true]
theorem Rd_brk {r B:List Bytes}{e:Ex}(D:Rd 0 none r (.ok e ([41]::B))):Rd 6 none ([40]::r) (.ok e B):=by
 obtain ⟨f,C⟩:=D;refine ⟨f+1,?_⟩;simp only [Z25,Z24];rw [zf (by decide),zf (by decide),zf (by decide)];rw [zf (by decide),zf (by decide),zf (by decide),zf (by decide)];simp only [mst,if_true];rw [C];simp only [bnd,if_true]
def Z9t (n:Nat)(r:List Bytes):Prop:=∀ u s,r=u::s->∀ m,n<=m->1<=m->opAt m u=0
theorem Z9t.up {n m:Nat}{r:List Bytes}(h:Z9t n r)(B:n<=m):Z9t m r:=λu s e k hk h1=>h u s e k (by omega) h1
theorem Z1y {n:Nat}{u:Bytes}(s:List Bytes)(h:∀ m,n<=m->1<=m->opAt m u=0):Z9t n (u::s):=by
 intro v B e;injection e with e _
 subst e;exact h
def R (n:Nat)(t:List Bytes)(e:Ex):Prop:=∀ r,Z9t n r->Rd n none (t++r) (.ok e r)
def L (n:Nat)(t:List Bytes)(e:Ex):Prop:=∀ r res,Z9t (n+1) r->Rd n (some e) r res->Rd n none (t++r) res
def lft (n:Nat):Prop:=n=1\/n=2\/n=4\/n=5
theorem L_of_R {n:Nat}(B:lft n){t:List Bytes}{e:Ex}(h:R (n+1) t e):L n t e:=by
 intro r res C D;unfold lft at B;exact Zj5 (by omega) (by omega) (by omega) (h r C) D
theorem Zps {n:Nat}(C:1<=n){t:List Bytes}{e:Ex}(h:L n t e):R n t e:=by
 intro r B;exact h r _ (B.up (by omega)) (Z8w n e r λu s es=>B u s es n (by omega) C)
def Hd (j:Nat)(t:List Bytes):Prop:=∃ u s,t=u::s/\(1<=j->u≠kIf)/\(4<=j->u≠kNot)
theorem Hd.app {j:Nat}{t:List Bytes}(h:Hd j t)(s:List Bytes):Hd j (t++s):=by
 obtain ⟨u,v,rfl,C,B⟩:=h;exact ⟨u,v++s,rfl,C,B⟩
theorem Hd.low {j k:Nat}{t:List Bytes}(h:Hd j t)(hk:k<=j):Hd k t:=by
 obtain ⟨u,v,rfl,C,B⟩:=h;exact ⟨u,v,rfl,λx=>C (by omega),λx=>B (by omega)⟩
structure G (j:Nat) (t:List Bytes) (e:Ex):Prop where
 hd:Hd j t
 rr:∀ n,n<=j->R n t e
 ll:∀ n,n<=j->lft n->L n t e
theorem G.low {j k:Nat}{t:List Bytes}{e:Ex}(h:G j t e)(hk:k<=j):G k t e:=⟨h.hd.low hk,λn hn=>h.rr n (by omega),λn hn=>h.ll n (by omega)⟩
theorem down {n:Nat}(G:n<=5){t:List Bytes}{e:Ex}(C:Hd (n+1) t)(h:R (n+1) t e):R n t e/\(lft n->L n t e):=by
 by_cases hl:lft n
 · have:=L_of_R hl h;exact ⟨Zps (by unfold lft at hl;omega) this,λ_=>this⟩
 · refine ⟨?_,λx=>absurd x hl⟩;obtain ⟨u,s,rfl,D,F⟩:=C;have:n=0\/n=3:=by unfold lft at hl;omega
   rcases this with rfl | rfl
   · intro r B;refine Zj6 ?_ (h r (B.up (by omega)));intro e;exact D (by omega) (by simpa using e)
   · intro r B;refine Zpp ?_ (h r (B.up (by omega))) (λv r' e=>B v r' e 3 (by omega) (by omega));intro e;exact F (by omega) (by simpa using e)
theorem G_of {j:Nat}(F:j<=6){t:List Bytes}{e:Ex}(B:Hd j t)(h:R j t e)(D:lft j->L j t e):G j t e:=by
 have all:∀ k,k<=j->R (j - k) t e/\(lft (j - k)->L (j - k) t e):=by
  intro k;induction k with
  | zero=>intro _;exact ⟨h,D⟩
  | succ k ih =>intro hk;have C:=(ih (by omega)).1;rw [show j - k=(j - (k+1))+1 by omega] at C;exact down (by omega) (B.low (by omega)) C
 exact ⟨B,λn hn=>by have:=(all (j - n) (by omega)).1;rwa [show j - (j - n)=n by omega] at this,λn hn=>by have:=(all (j - n) (by omega)).2;rwa [show j - (j - n)=n by omega] at this⟩
theorem ZbG {t:List Bytes}{e:Ex}(B:Hd 6 t)(h:∀ r,Rd 6 none (t++r) (.ok e r)):G 6 t e := G_of (by omega) B (λr _=>h r) (λx=>by unfold lft at x;omega)
theorem Zdq {c:UInt8}{m:Nat}(h:c=40\/c=41\/c=44):opAt m [c]=0:=by
 rcases h with rfl | rfl | rfl <;> (unfold opAt;repeat' split) <;> first | rfl | (exfalso;rename_i h;revert h;decide)
theorem G_brk {t:List Bytes}{e:Ex}(h:G 0 t e):G 6 ([[40]]++t++[[41]]) e:=by
 refine ZbG ⟨[40],t++[[41]],rfl,λ_=>by decide,λ_=>by decide⟩ ?_;intro r;have:=h.rr 0 (by omega) ([41]::r) (Z1y _ λm _ _=>Zdq (.inr (.inl rfl)));simpa using Rd_brk this
theorem Z9u {n:Nat}(C:lft n){D B:List Bytes}{F H:Ex}{u:Bytes}(M:opAt n u≠0)(O:∀ m,n+1<=m->1<=m->opAt m u=0)(J:G n D F)(N:G (n+1) B H):G n (D++[u]++B) (Z2f (opAt n u) F H):=by
 have I:L n (D++[u]++B) (Z2f (opAt n u) F H):=by intro r res hr h3;have:=J.ll n (by omega) C (u::(B++r)) res (Z1y _ O) (Zdp M (N.rr (n+1) (by omega) r hr) h3);simpa using this
 exact G_of (by unfold lft at C;omega) (by rw [List.append_assoc];exact J.hd.app _) (Zps (by unfold lft at C;omega) I) (λ_=>I)
theorem G_cmp {H D:List Bytes}{B C:Ex}{u:Bytes}(J:opAt 3 u≠0)(O:∀ m,4<=m->1<=m->opAt m u=0)(F:G 4 H B)(L:G 4 D C):G 3 (H++[u]++D) (Z2f (opAt 3 u) B C):=by
 obtain ⟨x,y,I,R,N⟩:=F.hd;refine G_of (by omega) (by rw [List.append_assoc];exact (F.hd.low (by omega)).app _) ?_ (λx=>by unfold lft at x;omega);intro r M;have B:=F.rr 4 (by omega) (u::(D++r)) (Z1y _ O);have C:=L.rr 4 (by omega) r (M.up (by omega));have:=Zj7 (by rw [I];intro e;exact N (by omega) (by simpa using e)) B J C;simpa using this
theorem G_not {t:List Bytes}{e:Ex}(h:G 3 t e):G 3 ([kNot]++t) (oneE 15 e):=by
 refine G_of (by omega) ⟨kNot,t,rfl,λ_=>by decide,λx=>by omega⟩ ?_ (λx=>by unfold lft at x;omega);intro r B;exact Zpn (h.rr 3 (by omega) r B)
theorem op_kw {u:Bytes}(h:u=kThen\/u=kElse)(m:Nat):opAt m u=0:=by
 rcases h with rfl | rfl <;> (unfold opAt;repeat' split) <;> first | rfl | (exfalso;rename_i h;revert h;decide)
theorem G_if {D C B:List Bytes}{a b c:Ex}(F:G 0 D a)(I:G 0 C b)(H:G 0 B c):G 0 ([kIf]++(D++[kThen]++C++[kElse]++B)) (triE 10 a b c):=by
 refine G_of (by omega) ⟨kIf,_,rfl,λx=>by omega,λx=>by omega⟩ ?_ (λx=>by unfold lft at x;omega);intro r J;have:=Rd_if (F.rr 0 (by omega) (kThen::(C++kElse::(B++r))) (Z1y _ λm _ _=>op_kw (.inl rfl) m)) (I.rr 0 (by omega) (kElse::(B++r)) (Z1y _ λm _ _=>op_kw (.inr rfl) m)) (H.rr 0 (by omega) r J);simpa using this
theorem G_both {t:Bytes}{C B:List Bytes}{a b:Ex}(h:Z0b t=1)(J:¬ Z3q t > 0)(hb:Z1h t > 0)(I:t≠kIf)(D:t≠kNot)(F:G 0 C a)(H:G 0 B b) : G 6 ([t,[40]]++(C++[[44]]++B)++[[41]]) (Z2f (Z1h t) a b):=by
 refine ZbG ⟨t,_,rfl,λ_=>I,λ_=>D⟩ ?_;intro r;have:=Zqi h J hb (F.rr 0 (by omega) ([44]::(B++[41]::r)) (Z1y _ λm _ _=>Zdq (.inr (.inr rfl)))) (H.rr 0 (by omega) ([41]::r) (Z1y _ λm _ _=>Zdq (.inr (.inl rfl))));simpa using this
def nrm:Fo->Fo
 | .nil=>.nil
 | .node _ _ a l r=>.node 0 0 a (nrm l) (nrm r)
def lev (op:Int):Nat :=
 if op=10 then 0 else if op=14 then 1 else if op=13 then 2 else if op=15\/op=11\/op=12 then 3 else if op=4\/op=5 then 4 else if op=6\/op=7 then 5 else 6
def T (a:Int × Int)(l:Fo):Prop:=G (lev a.1) (tkE a.1 a.2 l) (a,nrm l)
def AllT:Fo->Prop
 | .nil=>True
 | .node _ _ a l r=>T a l/\AllT r
theorem part {a:Int × Int}{l:Fo}(h:T a l)(n:Nat)(B:n<=6)(v:Int)(C:v<=Z04 a.1->n<=lev a.1):G n (Z5C (decide (Z04 a.1<v)) (tkE a.1 a.2 l)) (a,nrm l):=by
 unfold Z5C;split
 · exact (G_brk (h.low (by omega))).low B
 · rename_i x;simp only [decide_eq_true_eq] at x;exact h.low (C (by omega))
theorem Zau (op:Int):(1<=Z04 op->1<=lev op)/\(2<=Z04 op->2<=lev op)/\(3<=Z04 op->3<=lev op)/\(5<=Z04 op->4<=lev op)/\(6<=Z04 op->5<=lev op)/\(7<=Z04 op->6<=lev op):=by
 unfold Z04 lev
 repeat' split
 all_goals first | omega | (refine ⟨?_,?_,?_,?_,?_,?_⟩ <;> intro h <;> omega)
theorem Zmv {l:Fo}(h:flen l=1):∃ x y a l1,l=.node x y a l1 .nil:=by
 match l,h with
 | .node x y a l1 .nil,_=>exact ⟨x,y,a,l1,rfl⟩
 | .node _ _ a l1 (.node _ _ _ _ _),h=>simp [flen] at h
theorem Zmw {l:Fo}(h:flen l=2):∃ x y a l1 x' y' b l2,l=.node x y a l1 (.node x' y' b l2 .nil):=by
 match l,h with
 | .node _ _ a l1 .nil,h=>simp [flen] at h
 | .node x y a l1 (.node x' y' b l2 .nil),_=>exact ⟨x,y,a,l1,x',y',b,l2,rfl⟩
 | .node _ _ a l1 (.node _ _ b l2 (.node _ _ _ _ _)),h=>simp [flen] at h
theorem Zgs {l:Fo}(h:flen l=3):∃ x y a l1 x' y' b l2 x'' y'' c l3,l=.node x y a l1 (.node x' y' b l2 (.node x'' y'' c l3 .nil)):=by
 match l,h with
 | .node _ _ a l1 .nil,h=>simp [flen] at h
 | .node _ _ a l1 (.node _ _ b l2 .nil),h=>simp [flen] at h
 | .node x y a l1 (.node x' y' b l2 (.node x'' y'' c l3 .nil)),_=>exact ⟨x,y,a,l1,x',y',b,l2,x'',y'',c,l3,rfl⟩
 | .node _ _ a l1 (.node _ _ b l2 (.node _ _ c l3 (.node _ _ _ _ _))),h=>simp [flen] at h
theorem Z8x {l:Fo}(h:flen l=0):l=.nil:=by
 match l,h with
 | .nil,_=>rfl
 | .node _ _ _ _ _,h=>simp [flen] at h
theorem Zmx (n:Int)(G:0<=n)(C:n<=999999999):dval (dec n)=n:=by
 obtain ⟨_,D,F,_⟩:=Zat n G C;unfold dval;rw [List.filter_eq_self.2,D];intro c B;have:=Z4u F B;simp only [bne_iff_ne];rintro rfl;exact absurd this (by decide)
theorem Z2A (o:Int)(n m k:Nat)(a b:Int × Int)(C B:Fo)(I:T a C)(hb:T b B)(N:m<=6)(hk:k<=6) (J:Z07 o 0<=Z04 a.1->m<=lev a.1) (L:Z07 o 1<=Z04 b.1->k<=lev b.1) (O:lev o=n) (H:∀ x y F D,tkE o 0 (.node x y a C (.node F D b B .nil))=Z5C (decide (Z04 a.1<Z07 o 0)) (tkE a.1 a.2 C)++[Z5n o 1]++Z5C (decide (Z04 b.1<Z07 o 1)) (tkE b.1 b.2 B)) (M:∀ t1 t2 e1 e2,G m t1 e1->G k t2 e2->G n (t1++[Z5n o 1]++t2) (Z2f o e1 e2)) (x y F D:Nat):T (o,0) (.node x y a C (.node F D b B .nil)):=by
 unfold T;dsimp only;rw [H,O];exact M _ _ _ _ (part I m N _ J) (part hb k hk _ L)
theorem Z4B (o:Int)(n:Nat)(h:(o,n)∈[((14:Int),1),(13,2),(11,3),(12,3),(4,4),(5,4),(6,5),(7,5)]):opAt n (Z5n o 1)=o/\∀ m,n+1<=m->opAt m (Z5n o 1)=0:=by
 have B:∀ m t,6<=m->opAt m t=0:=by intro m t C;unfold opAt;rw [zf (by omega),zf (by omega),zf (by omega),zf (by omega),zf (by omega)]
 simp only [zD,Prod.mk.injEq,List.not_mem_nil,or_false] at h;rcases h with ⟨rfl,rfl⟩ | ⟨rfl,rfl⟩ | ⟨rfl,rfl⟩ | ⟨rfl,rfl⟩ | ⟨rfl,rfl⟩ | ⟨rfl,rfl⟩ | ⟨rfl,rfl⟩ | ⟨rfl,rfl⟩
 all_goals
  refine ⟨by decide,?_⟩;intro m C;by_cases h6:6<=m
  · exact B m _ h6
  · have:m=2\/m=3\/m=4\/m=5:=by omega
    rcases this with rfl | rfl | rfl | rfl <;> first | decide | omega
set_option maxHeartbeats 1000000 in
theorem core (a:Int × Int)(l:Fo)(I:Z05 a.1 a.2 (flen l)=true)(B:AllT l):T a l:=by
 obtain ⟨op,n⟩:=a;dsimp only at I;by_cases h1:op=1
 · subst h1;simp [Z05] at I;obtain ⟨⟨L,M⟩,J⟩:=I;rw [Z8x L];have hk:=Zmu n M J;refine ZbG ⟨dec n,[],rfl,λ_ e=>?_,λ_ e=>?_⟩ (λr=>?_)
   · rw [e] at hk;exact absurd hk (by decide)
   · rw [e] at hk;exact absurd hk (by decide)
   · have:=Zpq r hk;rw [Zmx n M J] at this;exact this
 by_cases M:op=2
 · subst M;simp [Z05] at I;obtain ⟨⟨L,M⟩,J⟩:=I;rw [Z8x L];have hk:=(Z9s n M J).1;refine ZbG ⟨Z0y n,[],rfl,λ_ e=>?_,λ_ e=>?_⟩ (λr=>?_)
   · rw [e] at hk;exact absurd hk (by decide)
   · rw [e] at hk;exact absurd hk (by decide)
   · have:=Zpr r hk;rw [show dval (Z0y n)=n from (Z9s n M J).2] at this;exact this
 by_cases J:op=3
 · subst J;simp [Z05] at I;obtain ⟨⟨L,M⟩,J⟩:=I;rw [Z8x L];have X:n=1\/n=2\/n=3\/n=4:=by omega
   rcases X with rfl | rfl | rfl | rfl
   all_goals refine ZbG ⟨Z4n _,[],rfl,λ_=>by decide,λ_=>by decide⟩ (λr=>?_);exact Rd_var r (by decide) (by decide)
 by_cases h15:op=15
 · subst h15;simp [Z05] at I;obtain ⟨L,rfl⟩:=I;obtain ⟨x,y,a,C,rfl⟩:=Zmv L;have R:=part B.1 3 (by omega) (Z07 15 0) (Zau a.1).2.2.1;have:=G_not R;unfold T;rw [show tkE ((15:Int),(0:Int)).1 ((15:Int),(0:Int)).2 (.node x y a C .nil)=[kNot]++Z5C (decide (Z04 a.1<Z07 15 0)) (tkE a.1 a.2 C) by simp [tkE,tkBody,tkBegin,tkEnd,tkF,kNot]];exact this
 by_cases h10:op=10
 · subst h10;simp [Z05] at I;obtain ⟨L,rfl⟩:=I;obtain ⟨x,y,a,C,H,F,b,D,Y,V,c,l3,rfl⟩:=Zgs L;have g:=G_if (part B.1 0 (by omega) (Z07 10 0) (λ_=>by omega)) (part B.2.1 0 (by omega) (Z07 10 1) (λ_=>by omega)) (part B.2.2.1 0 (by omega) (Z07 10 2) (λ_=>by omega));unfold T;rw [show tkE ((10:Int),(0:Int)).1 ((10:Int),(0:Int)).2 (.node x y a C (.node H F b D (.node Y V c l3 .nil)))=[kIf]++(Z5C (decide (Z04 a.1<Z07 10 0)) (tkE a.1 a.2 C)++[kThen]++Z5C (decide (Z04 b.1<Z07 10 1)) (tkE b.1 b.2 D)++[kElse]++Z5C (decide (Z04 c.1<Z07 10 2)) (tkE c.1 c.2 l3)) by simp [tkE,tkBody,tkBegin,tkEnd,tkF,kIf,kThen,kElse,Z5n]];exact g
 have U:4<=op/\op<=14/\flen l=2/\n=0:=by simp [Z05,h1,M,J,h15,h10] at I;omega
 obtain ⟨d,f,Z,rfl⟩:=U;obtain ⟨x,y,a,C,H,F,b,D,rfl⟩:=Zmw Z;have N:=Zau a.1;have O:=Zau b.1;have S:op=4\/op=5\/op=6\/op=7\/op=8\/op=9\/op=11\/op=12\/op=13\/op=14:=by omega
 have two:∀ t:Bytes,∀ o:Int,Z0b t=1->¬ Z3q t > 0->Z1h t=o->o > 0->t≠kIf->t≠kNot->G 6 ([t,[40]]++(Z5C (decide (Z04 a.1<Z07 o 0)) (tkE a.1 a.2 C)++[[44]]++Z5C (decide (Z04 b.1<Z07 o 1)) (tkE b.1 b.2 D))++[[41]]) (Z2f o (a,nrm C) (b,nrm D)):=by intro t o k1 k2 k3 k4 k5 k6;have:=G_both k1 k2 (by omega) k5 k6 (part B.1 0 (by omega) (Z07 o 0) (λ_=>by omega)) (part B.2.1 0 (by omega) (Z07 o 1) (λ_=>by omega));rw [k3] at this;exact this
 rcases S with rfl | rfl | rfl | rfl | rfl | rfl | rfl | rfl | rfl | rfl
 · exact Z2A 4 4 4 5 a b C D B.1 B.2.1 (by omega) (by omega) N.2.2.2.1 O.2.2.2.2.1 rfl (λ_ _ _ _=>by simp [tkE,tkBody,tkBegin,tkEnd,tkF]) (λt1 t2 e1 e2 x1 x2=>by have h:=Z4B 4 4 (by decide);have:=Z9u (n:=4) (u:=Z5n 4 1) (by unfold lft;omega) (by rw [h.1];decide) (λm hm _=>h.2 m hm) x1 x2;rwa [h.1] at this) x y H F
 · exact Z2A 5 4 4 5 a b C D B.1 B.2.1 (by omega) (by omega) N.2.2.2.1 O.2.2.2.2.1 rfl (λ_ _ _ _=>by simp [tkE,tkBody,tkBegin,tkEnd,tkF]) (λt1 t2 e1 e2 x1 x2=>by have h:=Z4B 5 4 (by decide);have:=Z9u (n:=4) (u:=Z5n 5 1) (by unfold lft;omega) (by rw [h.1];decide) (λm hm _=>h.2 m hm) x1 x2;rwa [h.1] at this) x y H F
 · exact Z2A 6 5 5 6 a b C D B.1 B.2.1 (by omega) (by omega) N.2.2.2.2.1 O.2.2.2.2.2 rfl (λ_ _ _ _=>by simp [tkE,tkBody,tkBegin,tkEnd,tkF]) (λt1 t2 e1 e2 x1 x2=>by have h:=Z4B 6 5 (by decide);have:=Z9u (n:=5) (u:=Z5n 6 1) (by unfold lft;omega) (by rw [h.1];decide) (λm hm _=>h.2 m hm) x1 x2;rwa [h.1] at this) x y H F
 · exact Z2A 7 5 5 6 a b C D B.1 B.2.1 (by omega) (by omega) N.2.2.2.2.1 O.2.2.2.2.2 rfl (λ_ _ _ _=>by simp [tkE,tkBody,tkBegin,tkEnd,tkF]) (λt1 t2 e1 e2 x1 x2=>by have h:=Z4B 7 5 (by decide);have:=Z9u (n:=5) (u:=Z5n 7 1) (by unfold lft;omega) (by rw [h.1];decide) (λm hm _=>h.2 m hm) x1 x2;rwa [h.1] at this) x y H F
 · have:=two [109,105,110] 8 (by decide) (by decide) (by decide) (by decide) (by decide) (by decide);unfold T;rw [show tkE ((8:Int),(0:Int)).1 ((8:Int),(0:Int)).2 (.node x y a C (.node H F b D .nil))=[[109,105,110],[40]]++(Z5C (decide (Z04 a.1<Z07 8 0)) (tkE a.1 a.2 C)++[[44]]++Z5C (decide (Z04 b.1<Z07 8 1)) (tkE b.1 b.2 D))++[[41]] by simp [tkE,tkBody,tkBegin,tkEnd,tkF,Z5n]];exact this
 · have:=two [109,97,120] 9 (by decide) (by decide) (by decide) (by decide) (by decide) (by decide);unfold T;rw [show tkE ((9:Int),(0:Int)).1 ((9:Int),(0:Int)).2 (.node x y a C (.node H F b D .nil))=[[109,97,120],[40]]++(Z5C (decide (Z04 a.1<Z07 9 0)) (tkE a.1 a.2 C)++[[44]]++Z5C (decide (Z04 b.1<Z07 9 1)) (tkE b.1 b.2 D))++[[41]] by simp [tkE,tkBody,tkBegin,tkEnd,tkF,Z5n]];exact this
 · exact Z2A 11 3 4 4 a b C D B.1 B.2.1 (by omega) (by omega) N.2.2.2.1 O.2.2.2.1 rfl (λ_ _ _ _=>by simp [tkE,tkBody,tkBegin,tkEnd,tkF]) (λt1 t2 e1 e2 x1 x2=>by have h:=Z4B 11 3 (by decide);have:=G_cmp (u:=Z5n 11 1) (by rw [h.1];decide) (λm hm _=>h.2 m hm) x1 x2;rwa [h.1] at this) x y H F
 · exact Z2A 12 3 4 4 a b C D B.1 B.2.1 (by omega) (by omega) N.2.2.2.1 O.2.2.2.1 rfl (λ_ _ _ _=>by simp [tkE,tkBody,tkBegin,tkEnd,tkF]) (λt1 t2 e1 e2 x1 x2=>by have h:=Z4B 12 3 (by decide);have:=G_cmp (u:=Z5n 12 1) (by rw [h.1];decide) (λm hm _=>h.2 m hm) x1 x2;rwa [h.1] at this) x y H F
 · exact Z2A 13 2 2 3 a b C D B.1 B.2.1 (by omega) (by omega) N.2.1 O.2.2.1 rfl (λ_ _ _ _=>by simp [tkE,tkBody,tkBegin,tkEnd,tkF]) (λt1 t2 e1 e2 x1 x2=>by have h:=Z4B 13 2 (by decide);have:=Z9u (n:=2) (u:=Z5n 13 1) (by unfold lft;omega) (by rw [h.1];decide) (λm hm _=>h.2 m hm) x1 x2;rwa [h.1] at this) x y H F
 · exact Z2A 14 1 1 2 a b C D B.1 B.2.1 (by omega) (by omega) N.1 O.2.1 rfl (λ_ _ _ _=>by simp [tkE,tkBody,tkBegin,tkEnd,tkF]) (λt1 t2 e1 e2 x1 x2=>by have h:=Z4B 14 1 (by decide);have:=Z9u (n:=1) (u:=Z5n 14 1) (by unfold lft;omega) (by rw [h.1];decide) (λm hm _=>h.2 m hm) x1 x2;rwa [h.1] at this) x y H F
theorem allT:∀ f:Fo,okF f=true->AllT f:=by
 intro f;induction f with
 | nil=>intro _;trivial
 | node x y a l r ihl ihr =>intro h;simp only [okF,zd] at h;exact ⟨core a l h.1.1 (ihl h.1.2),ihr h.2⟩
end Px
end
end Go.Proofs.YtnepkoepbapgeaaGreatDoor
