/-
  Several texts in one: QuoPlain2, QuoMem, QuoTyp0, QuoTyp1.
-/
import Derived.Test.YtnepkoepbapgeaaGreatDoorQuoPlain
import Derived.Lib.ItoaNum
import Derived.Test.YtnepkoepbapgeaaGreatDoorPrtW4
import Derived.StillTailTactics
import Derived.Recover
import Derived.Deep.QuietTactic
import Derived.BigQuiet
namespace Go.Proofs.YtnepkoepbapgeaaGreatDoor
set_option maxRecDepth 100000
section
open Lx Px
namespace Qx
def fnv (d:Nat)(l:Bytes):Nat:=l.foldl (fun d b=>((d ^^^ b.toNat)*1099511628211) % 18446744073709551616) d
def Z3a:Nat:=14695981039346656037
def sumD (l:Bytes):Nat:=fnv Z3a l
def decS (n:Int):Bytes:=Lib.itoa n
def Z6D:List Int→Bytes
 | []=>[]
 | n::l=>decS n++[32]++Z6D l
def Z59 (d:Nat):Bytes:=[UInt8.ofNat (d / 2 ^ 56),UInt8.ofNat (d / 2 ^ 48),UInt8.ofNat (d / 2 ^ 40),UInt8.ofNat (d / 2 ^ 32),UInt8.ofNat (d / 2 ^ 24),UInt8.ofNat (d / 2 ^ 16),UInt8.ofNat (d / 2 ^ 8),UInt8.ofNat d]
def Z8b (d:Nat)(l:List Int):Nat:=sumD (Z59 d++Z6D l)
theorem fnv_append (d:Nat)(a b:Bytes):fnv d (a++b)=fnv (fnv d a) b:=by simp [fnv]
theorem Z6t (d:Nat)(l:Bytes)(h:d<18446744073709551616):fnv d l<18446744073709551616:=by
 induction l generalizing d with
 | nil=>exact h
 | cons a l ih=>exact ih _ (Nat.mod_lt _ (by decide))
theorem Z4t:Z3a<18446744073709551616:=by decide
theorem Ze0 (d:Nat)(l:List Int):Z8b d l<18446744073709551616:=Z6t _ _ Z4t
def mP:Nat:=2147483579
def mQ:Nat:=1073741789
def powF:Nat→Nat→Nat→Nat→Nat→Nat
 | 0,out,_,_,_=>out
 | f+1,out,a,x,m=>if x=0 then out else powF f (if x % 2=1 then out*a % m else out) (a*a % m) (x / 2) m
theorem Zpa:∀ (f out a x m:Nat),x<2 ^ f→out<m→powF f out a x m=out*a ^ x % m:=by
 intro f
 induction f with
 | zero =>
  intro out a x m hx ho
  have:x=0:=by simpa using hx
  subst this;simp [powF,Nat.mod_eq_of_lt ho]
 | succ f ih =>
  intro out a x m hx ho
  unfold powF
  by_cases h0:x=0
  · subst h0;simp [Nat.mod_eq_of_lt ho]
  · rw [if_neg h0]
    have hm:0<m:=by omega
    have hx2:x / 2<2 ^ f:=by rw [Nat.pow_succ] at hx;omega
    have ho':(if x % 2=1 then out*a % m else out)<m:=by split;exact Nat.mod_lt _ hm;exact ho
    rw [ih _ _ _ _ hx2 ho']
    have e2:(a*a % m) ^ (x / 2) % m=a ^ (2*(x / 2)) % m:=by rw [← Nat.pow_mod,Nat.pow_mul,Nat.pow_two]
    by_cases h1:x % 2=1
    · rw [if_pos h1,Nat.mul_mod,e2]
      have ex:x=2*(x / 2)+1:=by omega
      conv=>rhs;rw [ex,Nat.pow_succ,show out*(a ^ (2*(x / 2))*a)=out*a*a ^ (2*(x / 2)) by rw [Nat.mul_assoc,Nat.mul_comm (a ^ _) a]]
      rw [Nat.mul_mod (out*a),Nat.mod_mod]
    · rw [if_neg h1,Nat.mul_mod,e2,← Nat.mul_mod]
      have ex:2*(x / 2)=x:=by omega
      rw [ex]
def powP (a x:Nat):Nat:=a ^ x % mP
theorem Zin (a x:Nat)(h:x<2 ^ 64):powP a x=powF 64 1 a x mP:=by rw [Zpa 64 1 a x mP h (by decide),Nat.one_mul];rfl
def memB (a:Int):Bool:=decide (1≤a)&&decide (a<2147483579)&&decide (powP a.toNat mQ=1)
def secB (x:Int):Bool:=decide (1≤x)&&decide (x<1073741789)
def expB (x:Int):Bool:=decide (0≤x)&&decide (x<1073741789)
def chal (l:List Int):Nat:=Z8b (sumD []) l % mQ
def sigE (s o:Nat)(l:List Int):Nat:=chal ((powP 4 o:Int)::(powP 4 s:Int)::l)
def sigS (s o:Nat)(l:List Int):Nat:=(o+sigE s o l*s) % mQ
def Zip (p:Nat)(e s:Nat):Nat:=powP 4 s*powP p ((mQ - e) % mQ) % mP
def verB (p:Nat)(e s:Int)(l:List Int):Bool:=expB e&&expB s&&decide ((chal ((Zip p e.toNat s.toNat:Int)::(p:Int)::l):Int)=e)
theorem Zkz:powP 4 mQ=1:=by rw [Zin _ _ (by decide)];decide
theorem Ze1 (a x y:Nat):powP a x*powP a y % mP=powP a (x+y):=by unfold powP;rw [← Nat.mul_mod,← Nat.pow_add]
theorem Z4u (a x y:Nat):powP (powP a x) y=powP a (x*y):=by unfold powP;rw [← Nat.pow_mod,← Nat.pow_mul]
theorem Ze2 {a:Nat}(h:powP a mQ=1)(x:Nat):powP a (x % mQ)=powP a x:=by
 have e:x=mQ*(x / mQ)+x % mQ:=(Nat.div_add_mod x mQ).symm
 conv=>rhs;rw [e,← Ze1,← Z4u,h]
 have:powP 1 (x / mQ)=1:=by unfold powP;rw [Nat.one_pow];rfl
 rw [this,Nat.one_mul]
 exact (Nat.mod_eq_of_lt (Nat.mod_lt _ (by decide))).symm
theorem Zpb (s o:Nat)(l:List Int):verB (powP 4 s) (sigE s o l:Int) (sigS s o l:Int) l=true:=by
 have hE:sigE s o l<mQ:=Nat.mod_lt _ (by decide)
 have hS:sigS s o l<mQ:=Nat.mod_lt _ (by decide)
 have hb:Zip (powP 4 s) (sigE s o l) (sigS s o l)=powP 4 o:=by
  unfold Zip
  rw [Z4u,Ze1]
  have h1:powP 4 (sigS s o l+s*((mQ - sigE s o l) % mQ))=powP 4 ((sigS s o l+s*((mQ - sigE s o l) % mQ)) % mQ):=(Ze2 Zkz _).symm
  rw [h1]
  have h2:(sigS s o l+s*((mQ - sigE s o l) % mQ)) % mQ=o % mQ:=by
   unfold sigS
   generalize sigE s o l=e at *
   rw [Nat.add_mod,Nat.mod_mod,Nat.mul_mod s,Nat.mod_mod,← Nat.mul_mod,← Nat.add_mod]
   have:o+e*s+s*(mQ - e)=o+mQ*s:=by
    rw [Nat.mul_comm e s,Nat.add_assoc,← Nat.mul_add,Nat.add_sub_cancel' (by omega),Nat.mul_comm s]
   rw [this,Nat.add_mul_mod_self_left]
  rw [h2,Ze2 Zkz]
 unfold verB
 have e1:expB (sigE s o l:Int)=true:=by unfold expB mQ at *;simp;omega
 have e2:expB (sigS s o l:Int)=true:=by unfold expB mQ at *;simp;omega
 rw [e1,e2]
 simp only [Int.toNat_natCast,hb,Bool.true_and,decide_eq_true_eq]
 rfl
theorem ZcA (s:Nat)(h1:powP 4 s≠0):memB (powP 4 s:Int)=true:=by
 have hlt:powP 4 s<mP:=Nat.mod_lt _ (by decide)
 have h2:powP (powP 4 s) mQ=1:=by
  rw [Z4u,Nat.mul_comm,← Z4u,Zkz]
  unfold powP;rw [Nat.one_pow];rfl
 unfold memB
 simp only [Int.toNat_natCast,h2]
 unfold mP at hlt
 simp;omega
theorem ZcB (s:Nat):powP 4 s≠0:=by
 intro h
 have:powP (powP 4 s) mQ=1:=by
  rw [Z4u,Nat.mul_comm,← Z4u,Zkz]
  unfold powP;rw [Nat.one_pow];rfl
 rw [h] at this
 unfold powP at this
 rw [Nat.zero_pow (by decide)] at this
 exact absurd this (by decide)
structure Qt where
 ver:Int
 time:Int
 total:Int
 keep:Int
 ask:Ask
 nights:List Int
 dig:Nat
 sE:Int
 sS:Int
 deriving DecidableEq
structure Vr where
 num:Int
 time:Int
 rs:List Rt
def Z2g (n:Int):Bool:=decide (0≤n)&&decide (n≤1000000000)
def Vr.okB (v:Vr):Bool:=decide (1≤v.num)&&decide (v.num≤1000000)&&Z2g v.time&&useB v.rs&&v.rs.all Rt.can
def Z82 (l:List Rt):Bytes:=l.flatMap fun r=>r.text++[10]
def Vr.dig (v:Vr):Nat:=Z8b (sumD (Z82 v.rs)) [v.num,v.time]
def Qt.says (q:Qt):List Int:=[q.ver,q.time,q.total,q.keep,q.ask.kind,q.ask.fr,q.ask.un,q.ask.pers,(q.nights.length:Int)]++q.nights++[((q.dig / 4294967296:Nat):Int),((q.dig % 4294967296:Nat):Int)]
def Qt.zero:Qt:=⟨0,0,0,0,⟨0,0,0,0⟩,[],0,0,0⟩
def Z2G (v:Vr)(a:Ask)(time:Int):Except Int Qt :=
 match Z0g v.rs a with
 | .error e=>.error e
 | .ok (ns,kp)=>.ok ⟨v.num,time,ns.sum,kp,a,ns,v.dig,0,0⟩
def Z5a (v:Vr)(a:Ask)(time secret once:Int):Qt × Int :=
 if v.okB&&a.okB&&Z2g time&&secB secret&&secB once then
  (if time<v.time then (.zero,6) else match Z2G v a time with
   | .error e=>(.zero,e)
   | .ok q=>({ q with sE:=sigE secret.toNat once.toNat q.says,sS:=sigS secret.toNat once.toNat q.says },0))
 else (.zero,1)
def Qt.same (a b:Qt):Bool:=decide ({ a with sE:=0,sS:=0 }={ b with sE:=0,sS:=0 })
def Z1B (v:Vr)(q:Qt)(pub:Int):Bool × Int :=
 if v.okB&&memB pub then
  (if q.ask.okB&&Z2g q.time&&decide (v.time≤q.time) then (match Z2G v q.ask q.time with
   | .error _=>(false,0)
   | .ok w=>(q.same w&&verB pub.toNat q.sE q.sS q.says,0)) else (false,0))
 else (false,1)
end Qx
end
section
open Go.RowKit Lx Px Qx
def Z02 (w:World)(B:Nat)(v:Value)(l:List Int):Prop :=
 ∃ A c,v=.slice A l.length c∧(l≠[]→∃ b o,A=some ⟨b,o,none⟩∧b<B∧∀ i (h:i<l.length),w.cell? ⟨b,o+i,none⟩=some (.int .i64 l[i]))
theorem Z02.nil (w:World)(B c:Nat):Z02 w B (.slice none 0 c) []:=⟨none,c,rfl,fun h=>absurd rfl h⟩
theorem Z02.on {w w':World}{B:Nat}{v:Value}{l:List Int}(h:Z02 w B v l)(hb:Below B w w'):Z02 w' B v l:=by
 obtain ⟨A,c,e,hA⟩:=h
 refine ⟨A,c,e,fun hl=>?_⟩
 obtain ⟨b,o,e1,hlt,hr⟩:=hA hl
 exact ⟨b,o,e1,hlt,fun i hi=>(hb.cell (p:=⟨b,o+i,none⟩) hlt).trans (hr i hi)⟩
theorem Z02.up {w:World}{B B':Nat}{v:Value}{l:List Int}(h:Z02 w B v l)(hb:B≤B'):Z02 w B' v l:=by
 obtain ⟨A,c,e,hA⟩:=h
 refine ⟨A,c,e,fun hl=>?_⟩
 obtain ⟨b,o,e1,hlt,hr⟩:=hA hl
 exact ⟨b,o,e1,by omega,hr⟩
theorem Z02.own {w:World}{base n:Nat}{e:TypeId}{v:Value}{l:List Int}(h:w.ownsRow base e 1 v n (l.map (.int .i64)))(hn:n=l.length):Z02 w w.heap.size v l:=by
 subst hn;rcases h.2 with ⟨hv,h0⟩ | ⟨g,cap,cur,hv,_,hg,_,_,_,_⟩
 · have:l=[]:=List.length_eq_zero_iff.1 h0
   subst this;exact ⟨none,0,hv,fun h=>absurd rfl h⟩
 · refine ⟨some ⟨g,0,none⟩,cap,hv,fun _=>⟨g,0,rfl,(zs hg),fun k hk=>?_⟩⟩
   subst hv;rw [Nat.zero_add,h.cellAt k (by omega)]
   simp [List.getElem?_eq_getElem hk]
theorem Z02.block {w:World}{g:Nat}{l:List Int}{t:TypeId}{fz:Nat × Nat}(h:w.heap[g]?=some (.cells (l.map (.int .i64)).toArray t fz))(c:Nat):Z02 w w.heap.size (.slice (some ⟨g,0,none⟩) l.length c) l:=by
 refine ⟨_,c,rfl,fun _=>⟨g,0,rfl,(zs h),fun i hi=>?_⟩⟩
 rw [zc h,Nat.zero_add]
 simp [List.getElem?_eq_getElem hi]
theorem Z5b {w:World}{B:Nat}{A:Option Addr}{k c:Nat}{l:List Int}(h:Z02 w B (.slice A k c) l)(hl:l≠[]):∃ b o:Nat,A=some ⟨b,o,none⟩∧b<B∧∀ i (h:i<l.length),w.cell? ⟨b,o+i,none⟩=some (.int .i64 l[i]):=by
 obtain ⟨A',c',e,hA⟩:=h
 injection e with e1 _ e3
 subst e1;exact hA hl
def Z2u (w:World)(r:Nat)(L:List (Int × Value)):Prop:=w.heap[r]?=some (.map (esOf L 0).toArray L.length)
theorem Z2u.new (w:World):Z2u (w.alloc (.map #[] 0)) w.heap.size []:=za w _
theorem Z2u.lt {w:World}{r:Nat}{L:List (Int × Value)}(h:Z2u w r L):r<w.heap.size:=(zs h)
theorem Z2u.on {w w':World}{r:Nat}{L:List (Int × Value)}(h:Z2u w r L)(hb:Below w.heap.size w w'):Z2u w' r L:=(hb.block r h.lt).trans h
theorem Z0b {P:Program}{t k e:TypeId}(ht:P.underlying t=some (.map k e))(hk:P.underlying k=some (.int .i64)){o:Oper}{a:Act}{K:Act→World→Prop}{Q:Exit→Act→World→Prop}{w:World}{r:Nat}{L:List (Int × Value)}{op:Int}{V:Value}(h:Z2u w r L)
 (hn:∀ p∈L,p.1≠op) (hK:∀ w',Z2u w' r (L++[(op,V)])→w.grownBy w' (some r)→Oper.upon P o a K Q (.ok .skip w')) :
 Oper.upon P o a K Q (((Instr.mapUpdate t (.map (some r)) (.int .i64 op) V).run P w).andThen fun _ w'=>.ok .skip w'):=by
 have hr1:w.heap[r]?=some (.map (esOf L 0).toArray L.length):=h
 have hrun:=Z1G (P:=P) (v:=V) ht hk hr1 (Z2c op L 0 0 hn)
 rw [hrun]
 have hlt:=h.lt
 refine hK _ ?_ ⟨rfl,rfl,rfl,by simp [World.putObj],fun i hi hne=>World.putObj_heap_other (by intro e;subst e;exact hne rfl)⟩
 simp [Z2u,World.putObj,hlt,Z7v]
theorem Z9H {P:Program}{t k e:TypeId}(ht:P.underlying t=some (.map k e))(hk:P.underlying k=some (.int .i64)){w:World}{r:Nat}{L L2:List (Int × Value)}{op:Int}{V:Value}(h:Z2u w r (L++(op,V)::L2))(hn:∀ p∈L,p.1≠op) :
 (Instr.lookup t (.map (some r)) (.int .i64 op) false).run P w=.ok V w:=by
 have hr:w.heap[r]?=some (.map (esOf (L++(op,V)::L2) 0).toArray (L++(op,V)::L2).length):=h
 have hf:=Z6b op V L L2 0 0 hn
 have hck:(Instr.checkKey (esOf (L++(op,V)::L2) 0).toArray.isEmpty (9999+1) k (.int .i64 op)).run P w=.ok () w:=Go.MapKept.run_checkKey hk (by simp [MapKept.IsKey]) _ 9999
 simp only [Instr.lookup,Instr.findKey,Sem.run_bind,Sem.run_pure,run_underlying ht,run_underlying hk,Go.MapKept.run_getObj_map hr,hck,hf,Result.andThen_ok]
 rfl
namespace Qx
def wfF:Fo→Prop
 | .nil=>True
 | .node _ _ a l r=>Z05 a.1 a.2 (flen l)=true∧wfF l∧wfF r
theorem Zpc:∀ (f:Fo) (lv left x:Int),Z1m f lv left=(true,x)→wfF f:=by
 intro f
 induction f with
 | nil=>intro lv left x _;trivial
 | node b o a l r ihl ihr =>
  intro lv left x h
  rw [Z1m] at h
  split at h
  · simp at h
  · rename_i hc
    split at h
    · simp at h
    · rename_i y e
      exact ⟨by simpa using fun e=>hc (.inr (.inr e)),ihl _ _ _ e,ihr _ _ _ h⟩
theorem Z5A {op n:Int}{l:Fo}(h:Z0d op n l=true):Z05 op n (flen l)=true∧wfF l:=by
 unfold Z0d at h
 obtain ⟨b,x,e⟩:∃ b x,Z1m (.node 0 0 (op,n) l .nil) 30 200=(b,x):=⟨_,_,rfl⟩
 rw [e] at h
 simp only at h
 subst h;have:=Zpc _ _ _ _ e
 exact ⟨this.1,this.2.1⟩
theorem Ziq:∀ {f:Fo} {k:Nat},wfF f→k<flen f→Z05 (getF f k).1.1 (getF f k).1.2 (flen (getF f k).2)=true∧wfF (getF f k).2:=by
 intro f
 induction f with
 | nil=>intro k _ h;simp [flen] at h
 | node b o a l r _ ihr =>
  intro k h hk
  cases k with
  | zero=>exact ⟨h.1,h.2.1⟩
  | succ k=>exact ihr h.2.2 (by simp [flen] at hk;omega)
end Qx
end
section
open Go.RowKit Lx Px Qx
namespace Qx
def tyK (l:Fo)(k:Nat):Int:=if k<flen l then typE (getF l k).1 (getF l k).2 else 0
def opL (op:Int)(ts:List Int):Int:=opT op (ts.getD 0 0) (ts.getD 1 0) (ts.getD 2 0)
theorem Ze3 {a:Int × Int}{l:Fo}(h:allT l=true):typE a l=opT a.1 (allT.typK l 0) (allT.typK l 1) (allT.typK l 2):=by unfold typE;rw [if_pos h]
theorem Zmi {a:Int × Int}{l:Fo}(h:allT l=false):typE a l=0:=by unfold typE;rw [if_neg (by simp [h])]
theorem Ze4:∀ (l:Fo),allT l=true ↔ ∀ k,k<flen l→typE (getF l k).1 (getF l k).2≠0:=by
 intro l
 induction l with
 | nil=>simp [allT,flen]
 | node b o a l r _ ihr =>
  simp only [allT,Bool.and_eq_true,decide_eq_true_eq,ihr]
  constructor
  · rintro ⟨⟨h1,h2⟩,h3⟩ k hk
    cases k with
    | zero=>show typE a l≠0;rw [Ze3 h1];exact h3
    | succ k=>exact h2 k (by simp [flen] at hk;omega)
  · intro h
    have h0:typE a l≠0:=h 0 (by simp [flen])
    have h1:allT l=true:=by
     cases hl:allT l with
     | true=>rfl
     | false=>exact absurd (Zmi hl) h0
    refine ⟨⟨h1,fun k hk=>h (k+1) (by simp [flen];omega)⟩,?_⟩
    rwa [Ze3 h1] at h0
theorem ZcC:∀ (l:Fo),allT l=true→∀ k,allT.typK l k=tyK l k:=by
 intro l
 induction l with
 | nil=>intro _ k;simp [allT.typK,tyK,flen]
 | node b o a l r _ ihr =>
  intro h k
  simp only [allT,Bool.and_eq_true,decide_eq_true_eq] at h
  cases k with
  | zero =>
   have:tyK (.node b o a l r) 0=typE a l:=by simp [tyK,flen,getF]
   rw [this,Ze3 h.1.1];rfl
  | succ k =>
   have:tyK (.node b o a l r) (k+1)=tyK r k:=by simp [tyK,flen,getF]
   rw [this,← ihr h.1.2 k];rfl
theorem Zir {a:Int × Int}{l:Fo}{ts:List Int}(hl:ts.length=flen l)(h:∀ k,k<flen l→ts.getD k 0=typE (getF l k).1 (getF l k).2∧ts.getD k 0≠0):typE a l=opL a.1 ts:=by
 have ha:allT l=true:=(Ze4 l).2 fun k hk=>by rw [← (h k hk).1];exact (h k hk).2
 have hk:∀ k,tyK l k=ts.getD k 0:=by
  intro k
  unfold tyK
  split
  · rename_i hk;exact (h k hk).1.symm
  · rename_i hk;rw [List.getD_eq_getElem?_getD,List.getElem?_eq_none (by omega)];rfl
 rw [Ze3 ha,ZcC l ha,ZcC l ha,ZcC l ha,hk,hk,hk,opL]
theorem Zis {a:Int × Int}{l:Fo}{k:Nat}(hk:k<flen l)(h:typE (getF l k).1 (getF l k).2=0):typE a l=0:=by
 refine Zmi ?_
 rw [← Bool.not_eq_true,Ze4]
 exact fun hc=>hc k hk h
theorem Zbq {op x y z:Int}(hx:0≤x∧x≤3)(hy:0≤y∧y≤3):0≤opT op x y z∧opT op x y z≤3:=by
 unfold opT
 repeat' split
 all_goals omega
theorem Z95:∀ (l:Fo) (k:Nat),0≤allT.typK l k∧allT.typK l k≤3:=by
 intro l
 induction l with
 | nil=>intro k;simp [allT.typK]
 | node b o a l r ihl ihr =>
  intro k
  cases k with
  | zero=>exact Zbq (ihl 0) (ihl 1)
  | succ k=>exact ihr k
theorem Z96 (a:Int × Int)(l:Fo):0≤typE a l∧typE a l≤3:=by
 unfold typE
 split
 · exact Zbq (Z95 l 0) (Z95 l 1)
 · omega
def arO (op:Int):Nat:=if op=10 then 3 else if op=15 then 1 else if op=1∨op=2∨op=3 then 0 else 2
theorem Z83 {op n:Int}{k:Nat}(h:Z05 op n k=true):k=arO op∧1≤op∧op≤15:=by
 unfold Z05 at h
 unfold arO
 repeat' split at h
 all_goals simp at h
 all_goals (repeat' split) <;> omega
end Qx
end
section
open Go.RowKit Lx Px Qx
theorem ZcD (w:World)(n:Nat):Below w.heap.size w (w.drewN n):=Z0n (Below.refl _ _) n
def Z6f:PanicEntry:={ v:=.iface 224 (.agg #[]),recovered:=false }
theorem Z5B (w:World):Calls Tryz.prog 234 #[.bool true] w fun e w'=>e=.returned (.tuple #[])∧w=w':=by
 go_enter Tryz.func234,Tryz.ntmps234
 go_wp2_with fail;exact ⟨rfl,_,results_none rfl _ _ _,rfl,rfl⟩
theorem Z3y (w:World):Calls Tryz.prog 234 #[.bool false] w fun e w'=>e=.panicked [Z6f]∧w=w':=by
 go_enter Tryz.func234,Tryz.ntmps234
 go_wp2_with fail;exact ⟨rfl,rfl,rfl⟩
def TP (t:Int)(w:World)(e:Ending)(w':World):Prop:=Below w.heap.size w w'∧((t≠0∧e=.returned (.int .i64 t))∨(t=0∧e=.panicked [Z6f]))
theorem TP.yes {t:Int}{w w':World}{e:Ending}(h:TP t w e w')(ht:t≠0):Below w.heap.size w w'∧e=.returned (.int .i64 t):=by
 obtain ⟨hb,h | h⟩:=h
 · exact ⟨hb,h.2⟩
 · exact absurd h.1 ht
theorem TP.no {w w':World}{e:Ending}(h:TP 0 w e w'):Below w.heap.size w w'∧e=.panicked [Z6f]:=by
 obtain ⟨hb,h | h⟩:=h
 · exact absurd rfl h.1
 · exact ⟨hb,h.2⟩
theorem Ze5 {w:World}{B:Nat}{A:Option Addr}{k c:Nat}{x y:Int}(h:Z02 w B (.slice A k c) [x,y]):∃ b o:Nat,A=some ⟨b,o,none⟩∧w.cell? ⟨b,o,none⟩=some (.int .i64 x)∧w.cell? ⟨b,o+1,none⟩=some (.int .i64 y):=by
 obtain ⟨b,o,rfl,_,hc⟩:=Z5b h (by simp)
 exact ⟨b,o,rfl,hc 0 (by simp),hc 1 (by simp)⟩
theorem Zfr {w:World}{B:Nat}{A:Option Addr}{k c:Nat}{x y z:Int}(h:Z02 w B (.slice A k c) [x,y,z]):∃ b o:Nat,A=some ⟨b,o,none⟩∧w.cell? ⟨b,o,none⟩=some (.int .i64 x)∧w.cell? ⟨b,o+1,none⟩=some (.int .i64 y)∧w.cell? ⟨b,o+2,none⟩=some (.int .i64 z):=by
 obtain ⟨b,o,rfl,_,hc⟩:=Z5b h (by simp)
 exact ⟨b,o,rfl,hc 0 (by simp),hc 1 (by simp),hc 2 (by simp)⟩
theorem Zbr (x y:Int)(A:Option Addr)(c B:Nat)(w:World)(h:Z02 w B (.slice A 2 c) [x,y])(hx:x≠0) :
 Calls Tryz.prog 230 #[.slice A 2 c] w (TP (if x=y∧x≠3 then x else 0) w):=by
 obtain ⟨b,o,rfl,c0,c1⟩:=Ze5 h
 clear h;by_cases h3:x=3
 · subst h3
   rw [if_neg (by simp)]
   go_enter Tryz.func230,Tryz.ntmps230
   go_wp2_with fail;refine wp_region_still_tail 13 (by kernel_rfl) (by kernel_rfl) ?_
   simp only [List.take_succ_cons,List.take_zero,List.drop_succ_cons,List.drop_zero]
   repeat ((with_reducible refine wpStill_step (fun K hK=>?_));go_simp;(with_reducible refine hK _ ?_);clear hK K)
   with_reducible refine wpStill_nil ?_
   go_wp2_with fail;refine (Z3y _).mono ?_
   rintro e w' ⟨rfl,rfl⟩;exact ⟨rfl,ZcD _ 1,.inr ⟨rfl,rfl⟩⟩
 · have d3:(x==3)=false:=by simpa using h3
   have d3':(x != 3)=true:=by simpa using h3
   by_cases hxy:x=y
   · subst hxy
     rw [if_pos ⟨rfl,h3⟩]
     have H0:=zh hx;have HX:=zh h3;clear hx h3;go_enter Tryz.func230,Tryz.ntmps230
     go_wp2_with fail;go_quiet ((go_at_call 234;exact Calls.quiet_of_same ((Z5B _).mono fun _ _ h=>⟨h.1,h.2.symm⟩)))
     go_wp2_with fail;go_ret
     exact ⟨ZcD _ _,.inl ⟨H0.out,rfl⟩⟩
   · have dxy:(x==y)=false:=by simpa using hxy
     rw [if_neg (fun h=>hxy h.1)]
     go_enter Tryz.func230,Tryz.ntmps230
     go_wp2_with fail;refine wp_region_still_tail 13 (by kernel_rfl) (by kernel_rfl) ?_
     simp only [List.take_succ_cons,List.take_zero,List.drop_succ_cons,List.drop_zero]
     repeat ((with_reducible refine wpStill_step (fun K hK=>?_));go_simp;(with_reducible refine hK _ ?_);clear hK K)
     with_reducible refine wpStill_nil ?_
     go_wp2_with fail;refine (Z3y _).mono ?_
     rintro e w' ⟨rfl,rfl⟩;exact ⟨rfl,ZcD _ 1,.inr ⟨rfl,rfl⟩⟩
theorem ZcE (x y:Int)(A:Option Addr)(c B:Nat)(w:World)(h:Z02 w B (.slice A 2 c) [x,y])(hx:x≠0) :
 Calls Tryz.prog 229 #[.slice A 2 c] w (TP (if x=y∧x≠3 then 3 else 0) w):=by
 have hc:=Zbr x y A c B w h hx
 by_cases hk:x=y∧x≠3
 · rw [if_pos hk] at hc ⊢
   have HH:=zh h;have HK:=zh hk;have HC:=zh hc;clear h hk hc;go_enter Tryz.func229,Tryz.ntmps229
   go_wp2_with fail;refine HC.out.mono ?_
   intro e w' ht
   obtain ⟨hb,rfl⟩:=ht.yes hx
   go_wp2_with fail;go_ret
   exact ⟨hb,.inl ⟨by decide,rfl⟩⟩
 · rw [if_neg hk] at hc ⊢
   have HH:=zh h;have HK:=zh hk;have HC:=zh hc;clear h hk hc;go_enter Tryz.func229,Tryz.ntmps229
   go_wp2_with fail;refine HC.out.mono ?_
   intro e w' ht
   obtain ⟨hb,rfl⟩:=ht.no
   go_wp2_with fail;exact ⟨rfl,hb,.inr ⟨rfl,rfl⟩⟩
def all3 (l:List Int):Int:=if l.all (·==3) then 3 else 0
theorem Zfs (l:List Int)(A:Option Addr)(c B:Nat)(w:World)(h:Z02 w B (.slice A l.length c) l)(hl:l.length≤10) :
 Calls Tryz.prog 232 #[.slice A l.length c] w (TP (all3 l) w):=by
 have HA:=zh h;clear h;go_enter Tryz.func232,Tryz.ntmps232
 go_wp2_with fail;go_loop [4,7] (fun _ i=>∃ k:Nat,k≤l.length∧i=.int .i64 k∧Hid ((l.take k).all (·==3)=true)) (fun _ i=>l.length - (intOf i).toNat)
 case atStart=>exact ⟨0,Nat.zero_le _,rfl,by simp [Hid]⟩
 case round =>
  obtain ⟨k,hk,rfl,HK⟩:=hrel
  by_cases hlt:k<l.length
  · obtain ⟨b,o,rfl,_,hcc⟩:=Z5b HA.out (by intro e;rw [e] at hlt;simp at hlt)
    have ck:=hcc k hlt
    clear hcc;have dl:decide ((k:Int)<(l.length:Int))=true:=by simpa using hlt
    have HS:Hid ((l.take (k+1)).all (·==3)=(l[k]==3)):=by
     show _=_
     rw [List.take_succ_eq_append_getElem hlt,List.all_append,HK.out];simp
    by_cases h3:l[k]=3
    · rw [h3] at ck HS
      clear h3;go_wp2_with fail;refine (Z5B _).mono ?_
      rintro e w' ⟨rfl,rfl⟩;go_wp2_with fail;go_round
      case rel=>exact ⟨k+1,by omega,by go_num,by rw [HS.out];rfl⟩
      case measure=>simp [intOf];omega
    · have d3:(l[k]==3)=false:=by simpa using h3
      have hr:all3 l=0:=by
       unfold all3
       rw [if_neg]
       intro hc
       exact h3 (by simpa using List.all_eq_true.1 hc _ (List.getElem_mem hlt))
      generalize l[k]=z at *
      have HR:=zh hr;have H3:=zh h3;clear hr h3;go_wp2_with fail;refine (Z3y _).mono ?_
      rintro e w' ⟨rfl,rfl⟩;go_wp2_with fail;rw [HR.out]
      exact ⟨rfl,Below.refl _ _,.inr ⟨rfl,rfl⟩⟩
  · have hr:all3 l=3:=by
     have:=HK.out
     rw [List.take_of_length_le (by omega)] at this
     unfold all3;rw [if_pos this]
    have dl:decide ((k:Int)<(l.length:Int))=false:=by simpa using hlt
    have HR:=zh hr;clear hr;go_wp2_with fail;go_ret
    rw [HR.out]
    exact ⟨Below.refl _ _,.inl ⟨by decide,rfl⟩⟩
theorem Zpd (x y:Int)(A:Option Addr)(c B:Nat)(w:World)(h:Z02 w B (.slice A 2 c) [x,y])(hx:x≠0) :
 Calls Tryz.prog 236 #[.slice A 2 c] w (TP (if y=1∧x≠3 then x else 0) w):=by
 obtain ⟨b,o,rfl,c0,c1⟩:=Ze5 h
 clear h;by_cases h3:x=3
 · subst h3
   rw [if_neg (by simp)]
   go_enter Tryz.func236,Tryz.ntmps236
   go_wp2_with fail;refine (Z3y _).mono ?_
   rintro e w' ⟨rfl,rfl⟩;go_wp2_with fail;exact ⟨rfl,Below.refl _ _,.inr ⟨rfl,rfl⟩⟩
 · have d3:(x==3)=false:=by simpa using h3
   have d3':(x != 3)=true:=by simpa using h3
   by_cases hy:y=1
   · subst hy
     rw [if_pos ⟨rfl,h3⟩]
     have H0:=zh hx;have HX:=zh h3;clear hx h3;go_enter Tryz.func236,Tryz.ntmps236
     go_wp2_with fail;refine (Z5B _).mono ?_
     rintro e w' ⟨rfl,rfl⟩;go_wp2_with fail;go_ret
     exact ⟨Below.refl _ _,.inl ⟨H0.out,rfl⟩⟩
   · have dy:(y==1)=false:=by simpa using hy
     rw [if_neg (fun h=>hy h.1)]
     go_enter Tryz.func236,Tryz.ntmps236
     go_wp2_with fail;refine (Z3y _).mono ?_
     rintro e w' ⟨rfl,rfl⟩;go_wp2_with fail;exact ⟨rfl,Below.refl _ _,.inr ⟨rfl,rfl⟩⟩
theorem if_any (x y z:Int)(A:Option Addr)(c B:Nat)(w:World)(h:Z02 w B (.slice A 3 c) [x,y,z])(hy:y≠0) :
 Calls Tryz.prog 237 #[.slice A 3 c] w (TP (if x=3∧y=z then y else 0) w):=by
 obtain ⟨b,o,rfl,c0,c1,c2⟩:=Zfr h
 clear h;by_cases h3:x=3
 · subst h3
   by_cases hyz:y=z
   · subst hyz
     rw [if_pos ⟨rfl,rfl⟩]
     have H0:=zh hy;clear hy;go_enter Tryz.func237,Tryz.ntmps237
     go_wp2_with fail;go_quiet ((go_at_call 234;exact Calls.quiet_of_same ((Z5B _).mono fun _ _ h=>⟨h.1,h.2.symm⟩)))
     go_wp2_with fail;go_ret
     exact ⟨ZcD _ _,.inl ⟨H0.out,rfl⟩⟩
   · have dyz:(y==z)=false:=by simpa using hyz
     rw [if_neg (fun h=>hyz h.2)]
     go_enter Tryz.func237,Tryz.ntmps237
     go_wp2_with fail;refine wp_region_still_tail 13 (by kernel_rfl) (by kernel_rfl) ?_
     simp only [List.take_succ_cons,List.take_zero,List.drop_succ_cons,List.drop_zero]
     repeat ((with_reducible refine wpStill_step (fun K hK=>?_));go_simp;(with_reducible refine hK _ ?_);clear hK K)
     with_reducible refine wpStill_nil ?_
     go_wp2_with fail;refine (Z3y _).mono ?_
     rintro e w' ⟨rfl,rfl⟩;exact ⟨rfl,ZcD _ 1,.inr ⟨rfl,rfl⟩⟩
 · have d3:(x==3)=false:=by simpa using h3
   rw [if_neg (fun h=>h3 h.1)]
   go_enter Tryz.func237,Tryz.ntmps237
   go_wp2_with fail;refine wp_region_still_tail 13 (by kernel_rfl) (by kernel_rfl) ?_
   simp only [List.take_succ_cons,List.take_zero,List.drop_succ_cons,List.drop_zero]
   repeat ((with_reducible refine wpStill_step (fun K hK=>?_));go_simp;(with_reducible refine hK _ ?_);clear hK K)
   with_reducible refine wpStill_nil ?_
   go_wp2_with fail;refine (Z3y _).mono ?_
   rintro e w' ⟨rfl,rfl⟩;exact ⟨rfl,ZcD _ 1,.inr ⟨rfl,rfl⟩⟩
theorem ZcF (t:Int)(p:Addr)(v:Value)(w:World)(h:w.cell? p=some (.int .i64 t)):Calls Tryz.prog 266 #[v,.pointer (some p)] w fun e w'=>e=.returned (.int .i64 t)∧w=w':=by
 go_enter Tryz.func266,Tryz.ntmps266
 go_wp2_with fail;go_ret
 exact ⟨rfl,rfl⟩
theorem Z6g (t:Int)(w:World):Calls Tryz.prog 231 #[.int .i64 t] w fun e w'=>e=.returned (.func (.func 266) #[] #[.pointer (some ⟨w.heap.size,0,none⟩)])∧w'=w.alloc (.cells #[.int .i64 t] 3):=by
 have hmf:∀ (fn:Fn) (first cap:Array Value) (w:World),(Instr.makeFunc fn first cap).run Tryz.prog w=.ok (.func fn first cap) w:=fun _ _ _ _=>rfl
 go_enter Tryz.func231,Tryz.ntmps231
 go_wp2_with fail;go_ret
 exact ⟨rfl,rfl⟩
end
end Go.Proofs.YtnepkoepbapgeaaGreatDoor
