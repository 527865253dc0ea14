import Derived.Test.YtnepkoepbapgeaaGreatDoorQuoPlain
namespace Go.Proofs.YtnepkoepbapgeaaGreatDoor
open _root_.Go.Proofs.Tryz
open Value (int slice)
open IntKind (i64)
set_option maxRecDepth 100000
section
open Lx Px
namespace Qx
def fnv (d:Nat)(l:Bytes):Nat:=l.foldl (λd b=>((d ^^^ b.toNat)*1099511628211) % 18446744073709551616) d
def Z2c:Nat:=14695981039346656037
def sumD (l:Bytes):Nat:=fnv Z2c l
def decS (n:Int):Bytes:=Lib.itoa n
def Z2E:List Int->Bytes
 | []=>[]
 | n::l=>decS n++[32]++Z2E l
def Z1k (d:Nat):Bytes:=[UInt8.ofNat (d / 2 ^ 56),UInt8.ofNat (d / 2 ^ 48),UInt8.ofNat (d / 2 ^ 40),UInt8.ofNat (d / 2 ^ 32),UInt8.ofNat (d / 2 ^ 24),UInt8.ofNat (d / 2 ^ 16),UInt8.ofNat (d / 2 ^ 8),UInt8.ofNat d]
def Z54 (d:Nat)(l:List Int):Nat:=sumD (Z1k d++Z2E l)
theorem fnv_append (d:Nat)(a b:Bytes):fnv d (a++b)=fnv (fnv d a) b:=by simp [fnv]
theorem Z6t (d:Nat)(l:Bytes)(h:d<18446744073709551616):fnv d l<18446744073709551616:=by
 induction l generalizing d with
 | nil=>exact h
 | cons a l ih=>exact ih _ (Nat.mod_lt _ (by decide))
theorem Z4i:Z2c<18446744073709551616:=by decide
theorem Zb3 (d:Nat)(l:List Int):Z54 d l<18446744073709551616:=Z6t _ _ Z4i
def mP:Nat:=2147483579
def mQ:Nat:=1073741789
def powF:Nat->Nat->Nat->Nat->Nat->Nat
 | 0,out,_,_,_=>out
 | f+1,out,a,x,m=>if x=0 then out else powF f (if x % 2=1 then out*a % m else out) (a*a % m) (x / 2) m
theorem Zrt:∀ (f B a x m:Nat),x<2 ^ f->B<m->powF f B a x m=B*a ^ x % m:=by
 intro f;induction f with
 | zero =>
  intro B a x m D C;have:x=0:=by simpa using D
  subst this;simp [powF,Nat.mod_eq_of_lt C]
 | succ f ih =>
  intro B a x m D C;unfold powF;by_cases h0:x=0
  · subst h0;simp [Nat.mod_eq_of_lt C]
  · rw [zf h0];have I:0<m:=by omega
    have H:x / 2<2 ^ f:=by rw [Nat.pow_succ] at D;omega
    have G:(if x % 2=1 then B*a % m else B)<m:=by split;exact Nat.mod_lt _ I;exact C
    rw [ih _ _ _ _ H G];have F:(a*a % m) ^ (x / 2) % m=a ^ (2*(x / 2)) % m:=by rw [<- Nat.pow_mod,Nat.pow_mul,Nat.pow_two]
    by_cases h1:x % 2=1
    · rw [zp h1,Nat.mul_mod,F];have ex:x=2*(x / 2)+1:=by omega
      conv=>rhs;rw [ex,Nat.pow_succ,show B*(a ^ (2*(x / 2))*a)=B*a*a ^ (2*(x / 2)) by rw [Nat.mul_assoc,Nat.mul_comm (a ^ _) a]]
      rw [Nat.mul_mod (B*a),Nat.mod_mod]
    · rw [zf h1,Nat.mul_mod,F,<- Nat.mul_mod];have ex:2*(x / 2)=x:=by omega
      rw [ex]
def powP (a x:Nat):Nat:=a ^ x % mP
theorem ZkA (a x:Nat)(h:x<2 ^ 64):powP a x=powF 64 1 a x mP:=by rw [Zrt 64 1 a x mP h (by decide),Nat.one_mul];rfl
def memB (a:Int):Bool:=decide (1<=a)&&decide (a<2147483579)&&decide (powP a.toNat mQ=1)
def secB (x:Int):Bool:=decide (1<=x)&&decide (x<1073741789)
def expB (x:Int):Bool:=decide (0<=x)&&decide (x<1073741789)
def chal (l:List Int):Nat:=Z54 (sumD []) l % mQ
def sigE (s o:Nat)(l:List Int):Nat:=chal ((powP 4 o:Int)::(powP 4 s:Int)::l)
def sigS (s o:Nat)(l:List Int):Nat:=(o+sigE s o l*s) % mQ
def Z7f (p:Nat)(e s:Nat):Nat:=powP 4 s*powP p ((mQ - e) % mQ) % mP
def verB (p:Nat)(e s:Int)(l:List Int):Bool:=expB e&&expB s&&decide ((chal ((Z7f p e.toNat s.toNat:Int)::(p:Int)::l):Int)=e)
theorem Zp8:powP 4 mQ=1:=by rw [ZkA _ _ (by decide)];decide
theorem ZfC (a x y:Nat):powP a x*powP a y % mP=powP a (x+y):=by unfold powP;rw [<- Nat.mul_mod,<- Nat.pow_add]
theorem Z5k (a x y:Nat):powP (powP a x) y=powP a (x*y):=by unfold powP;rw [<- Nat.pow_mod,<- Nat.pow_mul]
theorem ZfD {a:Nat}(h:powP a mQ=1)(x:Nat):powP a (x % mQ)=powP a x:=by
 have e:x=mQ*(x / mQ)+x % mQ:=(Nat.div_add_mod x mQ).symm
 conv=>rhs;rw [e,<- ZfC,<- Z5k,h]
 have:powP 1 (x / mQ)=1:=by unfold powP;rw [Nat.one_pow];rfl
 rw [this,Nat.one_mul];exact (Nat.mod_eq_of_lt (Nat.mod_lt _ (by decide))).symm
theorem Zru (s o:Nat)(l:List Int):verB (powP 4 s) (sigE s o l:Int) (sigS s o l:Int) l=true:=by
 have G:sigE s o l<mQ:=Nat.mod_lt _ (by decide);have H:sigS s o l<mQ:=Nat.mod_lt _ (by decide);have hb:Z7f (powP 4 s) (sigE s o l) (sigS s o l)=powP 4 o:=by
  unfold Z7f;rw [Z5k,ZfC];have B:powP 4 (sigS s o l+s*((mQ - sigE s o l) % mQ))=powP 4 ((sigS s o l+s*((mQ - sigE s o l) % mQ)) % mQ):=(ZfD Zp8 _).symm;rw [B];have C:(sigS s o l+s*((mQ - sigE s o l) % mQ)) % mQ=o % mQ:=by
   unfold sigS;generalize sigE s o l=e at *
   rw [Nat.add_mod,Nat.mod_mod,Nat.mul_mod s,Nat.mod_mod,<- Nat.mul_mod,<- Nat.add_mod];have:o+e*s+s*(mQ - e)=o+mQ*s:=by rw [Nat.mul_comm e s,Nat.add_assoc,<- Nat.mul_add,Nat.add_sub_cancel' (by omega),Nat.mul_comm s]
   rw [this,Nat.add_mul_mod_self_left]
  rw [C,ZfD Zp8]
 unfold verB;have D:expB (sigE s o l:Int)=true:=by unfold expB mQ at *;simp;omega
 have F:expB (sigS s o l:Int)=true:=by unfold expB mQ at *;simp;omega
 rw [D,F];simp only [zB,hb,Bool.true_and,decide_eq_true_eq];rfl
theorem ZkB (s:Nat)(D:powP 4 s≠0):memB (powP 4 s:Int)=true:=by
 have C:powP 4 s<mP:=Nat.mod_lt _ (by decide);have B:powP (powP 4 s) mQ=1:=by rw [Z5k,Nat.mul_comm,<- Z5k,Zp8];unfold powP;rw [Nat.one_pow];rfl
 unfold memB;simp only [zB,B];unfold mP at C;simp;omega
theorem ZkC (s:Nat):powP 4 s≠0:=by
 intro h;have:powP (powP 4 s) mQ=1:=by rw [Z5k,Nat.mul_comm,<- Z5k,Zp8];unfold powP;rw [Nat.one_pow];rfl
 rw [h] at this;unfold powP at this;rw [Nat.zero_pow (by decide)] at this;exact absurd this (by decide)
structure Qt where
 ver:Int
 time:Int
 total:Int
 keep:Int
 ask:Ask
 nights:List Int
 dig:Nat
 sE:Int
 sS:Int
 deriving DecidableEq
structure Vr where
 num:Int
 time:Int
 rs:List Rt
def Z1E (n:Int):Bool:=decide (0<=n)&&decide (n<=1000000000)
def Vr.okB (v:Vr):Bool:=decide (1<=v.num)&&decide (v.num<=1000000)&&Z1E v.time&&useB v.rs&&v.rs.all Rt.can
def Z1C (l:List Rt):Bytes:=l.flatMap λr=>r.text++[10]
def Vr.dig (v:Vr):Nat:=Z54 (sumD (Z1C v.rs)) [v.num,v.time]
def Qt.says (q:Qt):List Int:=[q.ver,q.time,q.total,q.keep,q.ask.kind,q.ask.fr,q.ask.un,q.ask.pers,(q.nights.length:Int)]++q.nights++[((q.dig / 4294967296:Nat):Int),((q.dig % 4294967296:Nat):Int)]
def Qt.zero:Qt:=⟨0,0,0,0,⟨0,0,0,0⟩,[],0,0,0⟩
def Z14 (v:Vr)(a:Ask)(time:Int):Except Int Qt :=
 match Z0d v.rs a with
 | .error e=>.error e
 | .ok (ns,kp)=>.ok ⟨v.num,time,ns.sum,kp,a,ns,v.dig,0,0⟩
def Z48 (v:Vr)(a:Ask)(time secret once:Int):Qt × Int :=
 if v.okB&&a.okB&&Z1E time&&secB secret&&secB once then
  (if time<v.time then (.zero,6) else match Z14 v a time with
   | .error e=>(.zero,e)
   | .ok q=>({ q with sE:=sigE secret.toNat once.toNat q.says,sS:=sigS secret.toNat once.toNat q.says },0))
 else (.zero,1)
def Qt.same (a b:Qt):Bool:=decide ({ a with sE:=0,sS:=0 }={ b with sE:=0,sS:=0 })
def Z1b (v:Vr)(q:Qt)(pub:Int):Bool × Int :=
 if v.okB&&memB pub then
  (if q.ask.okB&&Z1E q.time&&decide (v.time<=q.time) then (match Z14 v q.ask q.time with
   | .error _=>(false,0)
   | .ok w=>(q.same w&&verB pub.toNat q.sE q.sS q.says,0)) else (false,0))
 else (false,1)
end Qx
end
section
open Go.RowKit Lx Px Qx
def Z03 (w:World)(B:Nat)(v:Value)(l:List Int):Prop := ∃ A c,v=slice A l.length c/\(l≠[]->∃ b o,A=some ⟨b,o,none⟩/\b<B/\∀ i (h:i<l.length),w.cell? ⟨b,o+i,none⟩=some (int i64 l[i]))
theorem Z03.nil (w:World)(B c:Nat):Z03 w B (slice none 0 c) []:=⟨none,c,rfl,λh=>absurd rfl h⟩
theorem Z03.on {w w':World}{B:Nat}{v:Value}{l:List Int}(h:Z03 w B v l)(hb:Below B w w'):Z03 w' B v l:=by
 obtain ⟨A,c,e,D⟩:=h;refine ⟨A,c,e,λhl=>?_⟩;obtain ⟨b,o,G,C,F⟩:=D hl;exact ⟨b,o,G,C,λi hi=>(hb.cell (p:=⟨b,o+i,none⟩) C).trans (F i hi)⟩
theorem Z03.up {w:World}{B C:Nat}{v:Value}{l:List Int}(h:Z03 w B v l)(hb:B<=C):Z03 w C v l:=by
 obtain ⟨A,c,e,G⟩:=h;refine ⟨A,c,e,λhl=>?_⟩;obtain ⟨b,o,D,H,F⟩:=G hl;exact ⟨b,o,D,by omega,F⟩
theorem Z03.own {w:World}{base n:Nat}{e:TypeId}{v:Value}{l:List Int}(h:w.ownsRow base e 1 v n (l.map (.int .i64)))(C:n=l.length):Z03 w w.heap.size v l:=by
 subst C;rcases h.2 with ⟨B,F⟩ | ⟨g,cap,G,B,_,D,_,_,_,_⟩
 · have:l=[]:=List.length_eq_zero_iff.1 F;subst this;exact ⟨none,0,B,λh=>absurd rfl h⟩
 · refine ⟨some ⟨g,0,none⟩,cap,B,λ_=>⟨g,0,rfl,(zs D),λk hk=>?_⟩⟩;subst B;rw [Nat.zero_add,h.cellAt k (by omega)];simp [zv hk]
theorem Z03.block {w:World}{g:Nat}{l:List Int}{t:TypeId}{B:Nat × Nat}(h:w.heap[g]?=some (.cells (l.map (.int .i64)).toArray t B))(c:Nat):Z03 w w.heap.size (slice (some ⟨g,0,none⟩) l.length c) l:=by
 refine ⟨_,c,rfl,λ_=>⟨g,0,rfl,(zs h),λi hi=>?_⟩⟩;rw [zc h,Nat.zero_add];simp [zv hi]
theorem Z4j {w:World}{B:Nat}{A:Option Addr}{k c:Nat}{l:List Int}(h:Z03 w B (slice A k c) l)(D:l≠[]):∃ b o:Nat,A=some ⟨b,o,none⟩/\b<B/\∀ i (h:i<l.length),w.cell? ⟨b,o+i,none⟩=some (int i64 l[i]):=by
 obtain ⟨F,c',e,C⟩:=h;injection e with e1 _ e3
 subst e1;exact C D
def Z3a (w:World)(r:Nat)(L:List (Int × Value)):Prop:=w.heap[r]?=some (.map (esOf L 0).toArray L.length)
theorem Z3a.new (w:World):Z3a (w.alloc (.map #[] 0)) w.heap.size []:=za w _
theorem Z3a.lt {w:World}{r:Nat}{L:List (Int × Value)}(h:Z3a w r L):r<w.heap.size:=(zs h)
theorem Z3a.on {w w':World}{r:Nat}{L:List (Int × Value)}(h:Z3a w r L)(hb:Below w.heap.size w w'):Z3a w' r L:=(hb.block r h.lt).trans h
theorem Z0f {P:Program}{t k e:TypeId}(G:P.underlying t=some (.map k e))(hk:P.underlying k=some (.int .i64)){o:Oper}{a:Act}{K:Act->World->Prop}{Q:Exit->Act->World->Prop}{w:World}{r:Nat}{L:List (Int × Value)}{op:Int}{V:Value}(h:Z3a w r L) (B:∀ p∈L,p.1≠op) (H:∀ w',Z3a w' r (L++[(op,V)])->w.grownBy w' (some r)->Oper.upon P o a K Q (.ok .skip w')) : Oper.upon P o a K Q (((Instr.mapUpdate t (.map (some r)) (int i64 op) V).run P w).andThen λ_ w'=>.ok .skip w'):=by
 have D:w.heap[r]?=some (.map (esOf L 0).toArray L.length):=h;have C:=Z2m (P:=P) (v:=V) G hk D (Z2D op L 0 0 B);rw [C];have F:=h.lt;refine H _ ?_ ⟨rfl,rfl,rfl,by simp [World.putObj],λi hi hne=>zQ (by intro e;subst e;exact hne rfl)⟩;simp [Z3a,World.putObj,F,Z8z]
theorem Zb4 {P:Program}{t k e:TypeId}(F:P.underlying t=some (.map k e))(hk:P.underlying k=some (.int .i64)){w:World}{r:Nat}{L L2:List (Int × Value)}{op:Int}{V:Value}(h:Z3a w r (L++(op,V)::L2))(B:∀ p∈L,p.1≠op) : (Instr.lookup t (.map (some r)) (int i64 op) false).run P w=.ok V w:=by
 have G:w.heap[r]?=some (.map (esOf (L++(op,V)::L2) 0).toArray (L++(op,V)::L2).length):=h;have D:=Z79 op V L L2 0 0 B;have C:(Instr.checkKey (esOf (L++(op,V)::L2) 0).toArray.isEmpty (9999+1) k (int i64 op)).run P w=.ok () w:=Go.MapKept.run_checkKey hk (by simp [MapKept.IsKey]) _ 9999;simp only [Instr.lookup,Instr.findKey,Sem.run_bind,Sem.run_pure,zy F,zy hk,Go.MapKept.run_getObj_map G,C,D,Result.andThen_ok];rfl
namespace Qx
def wfF:Fo->Prop
 | .nil=>True
 | .node _ _ a l r=>Z05 a.1 a.2 (flen l)=true/\wfF l/\wfF r
theorem Zrv:∀ (f:Fo) (B C x:Int),Z1D f B C=(true,x)->wfF f:=by
 intro f;induction f with
 | nil=>intro B C x _;trivial
 | node b o a l r ihl ihr =>
  intro B C x h;rw [Z1D] at h;split at h
  · simp at h
  · rename_i D;split at h
    · simp at h
    · rename_i y e;exact ⟨by simpa using λe=>D (.inr (.inr e)),ihl _ _ _ e,ihr _ _ _ h⟩
theorem Z4k {op n:Int}{l:Fo}(h:Z0i op n l=true):Z05 op n (flen l)=true/\wfF l:=by
 unfold Z0i at h;obtain ⟨b,x,e⟩:∃ b x,Z1D (.node 0 0 (op,n) l .nil) 30 200=(b,x):=⟨_,_,rfl⟩
 rw [e] at h;simp only at h;subst h;have:=Zrv _ _ _ _ e;exact ⟨this.1,this.2.1⟩
theorem ZfE:∀ {f:Fo} {k:Nat},wfF f->k<flen f->Z05 (getF f k).1.1 (getF f k).1.2 (flen (getF f k).2)=true/\wfF (getF f k).2:=by
 intro f;induction f with
 | nil=>intro k _ h;simp [flen] at h
 | node b o a l r _ ihr =>
  intro k h hk;cases k with
  | zero=>exact ⟨h.1,h.2.1⟩
  | succ k=>exact ihr h.2.2 (by simp [flen] at hk;omega)
end Qx
end
section
open Go.RowKit Lx Px Qx
namespace Qx
def tyK (l:Fo)(k:Nat):Int:=if k<flen l then typE (getF l k).1 (getF l k).2 else 0
def opL (op:Int)(ts:List Int):Int:=opT op (ts.getD 0 0) (ts.getD 1 0) (ts.getD 2 0)
theorem ZfF {a:Int × Int}{l:Fo}(h:allT l=true):typE a l=opT a.1 (allT.typK l 0) (allT.typK l 1) (allT.typK l 2):=by unfold typE;rw [zp h]
theorem ZpD {a:Int × Int}{l:Fo}(h:allT l=false):typE a l=0:=by unfold typE;rw [zf (by simp [h])]
theorem ZfG:∀ (l:Fo),allT l=true ↔ ∀ k,k<flen l->typE (getF l k).1 (getF l k).2≠0:=by
 intro l;induction l with
 | nil=>simp [allT,flen]
 | node b o a l r _ ihr =>
  simp only [allT,zd,decide_eq_true_eq,ihr];constructor
  · rintro ⟨⟨B,F⟩,D⟩ k hk;cases k with
    | zero=>show typE a l≠0;rw [ZfF B];exact D
    | succ k=>exact F k (by simp [flen] at hk;omega)
  · intro h;have C:typE a l≠0:=h 0 (by simp [flen]);have B:allT l=true:=by
     cases hl:allT l with
     | true=>rfl
     | false=>exact absurd (ZpD hl) C
    refine ⟨⟨B,λk hk=>h (k+1) (by simp [flen];omega)⟩,?_⟩;rwa [ZfF B] at C
theorem Zej:∀ (l:Fo),allT l=true->∀ k,allT.typK l k=tyK l k:=by
 intro l;induction l with
 | nil=>intro _ k;simp [allT.typK,tyK,flen]
 | node b o a l r _ ihr =>
  intro h k;simp only [allT,zd,decide_eq_true_eq] at h;cases k with
  | zero =>
   have:tyK (.node b o a l r) 0=typE a l:=by simp [tyK,flen,getF]
   rw [this,ZfF h.1.1];rfl
  | succ k =>
   have:tyK (.node b o a l r) (k+1)=tyK r k:=by simp [tyK,flen,getF]
   rw [this,<- ihr h.1.2 k];rfl
theorem ZkD {a:Int × Int}{l:Fo}{ts:List Int}(C:ts.length=flen l)(h:∀ k,k<flen l->ts.getD k 0=typE (getF l k).1 (getF l k).2/\ts.getD k 0≠0):typE a l=opL a.1 ts:=by
 have B:allT l=true:=(ZfG l).2 λk hk=>by rw [<- (h k hk).1];exact (h k hk).2
 have hk:∀ k,tyK l k=ts.getD k 0:=by
  intro k;unfold tyK;split
  · rename_i hk;exact (h k hk).1.symm
  · rename_i hk;rw [List.getD_eq_getElem?_getD,List.getElem?_eq_none (by omega)];rfl
 rw [ZfF B,Zej l B,Zej l B,Zej l B,hk,hk,hk,opL]
theorem ZkE {a:Int × Int}{l:Fo}{k:Nat}(hk:k<flen l)(h:typE (getF l k).1 (getF l k).2=0):typE a l=0:=by
 refine ZpD ?_;rw [<- Bool.not_eq_true,ZfG];exact λhc=>hc k hk h
theorem ZcE {op x y z:Int}(B:0<=x/\x<=3)(C:0<=y/\y<=3):0<=opT op x y z/\opT op x y z<=3:=by
 unfold opT
 repeat' split
 all_goals omega
theorem Za7:∀ (l:Fo) (k:Nat),0<=allT.typK l k/\allT.typK l k<=3:=by
 intro l;induction l with
 | nil=>intro k;simp [allT.typK]
 | node b o a l r ihl ihr =>
  intro k;cases k with
  | zero=>exact ZcE (ihl 0) (ihl 1)
  | succ k=>exact ihr k
theorem Za8 (a:Int × Int)(l:Fo):0<=typE a l/\typE a l<=3:=by
 unfold typE;split
 · exact ZcE (Za7 l 0) (Za7 l 1)
 · omega
def arO (op:Int):Nat:=if op=10 then 3 else if op=15 then 1 else if op=1\/op=2\/op=3 then 0 else 2
theorem Z6u {op n:Int}{k:Nat}(h:Z05 op n k=true):k=arO op/\1<=op/\op<=15:=by
 unfold Z05 at h;unfold arO
 repeat' split at h
 all_goals simp at h
 all_goals (repeat' split) <;> omega
end Qx
end
section
open Go.RowKit Lx Px Qx
theorem Zek (w:World)(n:Nat):Below w.heap.size w (w.drewN n):=Z0e (zr _ _) n
def Z7g:PanicEntry:={ v:=.iface 224 (.agg #[]),recovered:=false }
theorem Z6v (w:World):Calls prog 234 #[.bool true] w λe w'=>e=.returned (.tuple #[])/\w=w':=by
 go_enter func234,ntmps234;go_wp2_with fail;exact ⟨rfl,_,results_none rfl _ _ _,rfl,rfl⟩
theorem Z4m (w:World):Calls prog 234 #[.bool false] w λe w'=>e=.panicked [Z7g]/\w=w':=by
 go_enter func234,ntmps234;go_wp2_with fail;exact ⟨rfl,rfl,rfl⟩
def TP (t:Int)(w:World)(e:Ending)(w':World):Prop:=Below w.heap.size w w'/\((t≠0/\e=.returned (int i64 t))\/(t=0/\e=.panicked [Z7g]))
theorem TP.yes {t:Int}{w w':World}{e:Ending}(h:TP t w e w')(B:t≠0):Below w.heap.size w w'/\e=.returned (int i64 t):=by
 obtain ⟨hb,h | h⟩:=h
 · exact ⟨hb,h.2⟩
 · exact absurd h.1 B
theorem TP.no {w w':World}{e:Ending}(h:TP 0 w e w'):Below w.heap.size w w'/\e=.panicked [Z7g]:=by
 obtain ⟨hb,h | h⟩:=h
 · exact absurd rfl h.1
 · exact ⟨hb,h.2⟩
theorem ZfH {w:World}{B:Nat}{A:Option Addr}{k c:Nat}{x y:Int}(h:Z03 w B (slice A k c) [x,y]):∃ b o:Nat,A=some ⟨b,o,none⟩/\w.cell? ⟨b,o,none⟩=some (int i64 x)/\w.cell? ⟨b,o+1,none⟩=some (int i64 y):=by
 obtain ⟨b,o,rfl,_,C⟩:=Z4j h (by simp);exact ⟨b,o,rfl,C 0 (by simp),C 1 (by simp)⟩
theorem Zhv {w:World}{B:Nat}{A:Option Addr}{k c:Nat}{x y z:Int}(h:Z03 w B (slice A k c) [x,y,z]):∃ b o:Nat,A=some ⟨b,o,none⟩/\w.cell? ⟨b,o,none⟩=some (int i64 x)/\w.cell? ⟨b,o+1,none⟩=some (int i64 y)/\w.cell? ⟨b,o+2,none⟩=some (int i64 z):=by
 obtain ⟨b,o,rfl,_,C⟩:=Z4j h (by simp);exact ⟨b,o,rfl,C 0 (by simp),C 1 (by simp),C 2 (by simp)⟩
theorem ZcF (x y:Int)(A:Option Addr)(c B:Nat)(w:World)(h:Z03 w B (slice A 2 c) [x,y])(C:x≠0) : Calls prog 230 #[slice A 2 c] w (TP (if x=y/\x≠3 then x else 0) w):=by
 obtain ⟨b,o,rfl,c0,c1⟩:=ZfH h;clear h;by_cases h3:x=3
 · subst h3;rw [zf (by simp)];go_enter func230,ntmps230;go_wp2_with fail;refine wp_region_still_tail 13 (by kernel_rfl) (by kernel_rfl) ?_;simp only [List.take_succ_cons,List.take_zero,List.drop_succ_cons,List.drop_zero]
   repeat ((with_reducible refine wpStill_step (λK hK=>?_));go_simp;(with_reducible refine hK _ ?_);clear hK K)
   with_reducible refine wpStill_nil ?_
   go_wp2_with fail;refine (Z4m _).mono ?_;rintro e w' ⟨rfl,rfl⟩;exact ⟨rfl,Zek _ 1,.inr ⟨rfl,rfl⟩⟩
 · have I:(x==3)=false:=by simpa using h3
   have F:(x != 3)=true:=by simpa using h3
   by_cases hxy:x=y
   · subst hxy;rw [zp ⟨rfl,h3⟩];have D:=zh C;have G:=zh h3;clear C h3;go_enter func230,ntmps230;go_wp2_with fail;go_quiet ((go_at_call 234;exact Calls.quiet_of_same ((Z6v _).mono λ_ _ h=>⟨h.1,h.2.symm⟩)));go_wp2_with fail;go_ret;exact ⟨Zek _ _,.inl ⟨D.out,rfl⟩⟩
   · have H:(x==y)=false:=by simpa using hxy
     rw [zf (λh=>hxy h.1)];go_enter func230,ntmps230;go_wp2_with fail;refine wp_region_still_tail 13 (by kernel_rfl) (by kernel_rfl) ?_;simp only [List.take_succ_cons,List.take_zero,List.drop_succ_cons,List.drop_zero]
     repeat ((with_reducible refine wpStill_step (λK hK=>?_));go_simp;(with_reducible refine hK _ ?_);clear hK K)
     with_reducible refine wpStill_nil ?_
     go_wp2_with fail;refine (Z4m _).mono ?_;rintro e w' ⟨rfl,rfl⟩;exact ⟨rfl,Zek _ 1,.inr ⟨rfl,rfl⟩⟩
theorem Zem (x y:Int)(A:Option Addr)(c B:Nat)(w:World)(h:Z03 w B (slice A 2 c) [x,y])(G:x≠0) : Calls prog 229 #[slice A 2 c] w (TP (if x=y/\x≠3 then 3 else 0) w):=by
 have C:=ZcF x y A c B w h G;by_cases hk:x=y/\x≠3
 · rw [zp hk] at C |-
   have H:=zh h;have I:=zh hk;have D:=zh C;clear h hk C;go_enter func229,ntmps229;go_wp2_with fail;refine D.out.mono ?_;intro e w' F;obtain ⟨hb,rfl⟩:=F.yes G;go_wp2_with fail;go_ret;exact ⟨hb,.inl ⟨by decide,rfl⟩⟩
 · rw [zf hk] at C |-
   have H:=zh h;have I:=zh hk;have D:=zh C;clear h hk C;go_enter func229,ntmps229;go_wp2_with fail;refine D.out.mono ?_;intro e w' F;obtain ⟨hb,rfl⟩:=F.no;go_wp2_with fail;exact ⟨rfl,hb,.inr ⟨rfl,rfl⟩⟩
def all3 (l:List Int):Int:=if l.all (·==3) then 3 else 0
theorem Zhw (l:List Int)(A:Option Addr)(c B:Nat)(w:World)(h:Z03 w B (slice A l.length c) l)(R:l.length<=10) : Calls prog 232 #[slice A l.length c] w (TP (all3 l) w):=by
 have J:=zh h;clear h;go_enter func232,ntmps232;go_wp2_with fail;go_loop [4,7] (λ_ i=>∃ k:Nat,k<=l.length/\i=int i64 k/\Hid ((l.take k).all (·==3)=true)) (λ_ i=>l.length - (intOf i).toNat)
 case atStart=>exact ⟨0,Nat.zero_le _,rfl,by simp [Hid]⟩
 case round =>
  obtain ⟨k,hk,rfl,H⟩:=hrel;by_cases hlt:k<l.length
  · obtain ⟨b,o,rfl,_,F⟩:=Z4j J.out (by intro e;rw [e] at hlt;simp at hlt);have M:=F k hlt;clear F;have L:decide ((k:Int)<(l.length:Int))=true:=by simpa using hlt
    have G:Hid ((l.take (k+1)).all (·==3)=(l[k]==3)):=by show _=_;rw [zT hlt,List.all_append,H.out];simp
    by_cases h3:l[k]=3
    · rw [h3] at M G;clear h3;go_wp2_with fail;refine (Z6v _).mono ?_;rintro e w' ⟨rfl,rfl⟩;go_wp2_with fail;go_round
      case rel=>exact ⟨k+1,by omega,by go_num,by rw [G.out];rfl⟩
      case measure=>simp [intOf];omega
    · have O:(l[k]==3)=false:=by simpa using h3
      have C:all3 l=0:=by unfold all3;rw [zf];intro I;exact h3 (by simpa using List.all_eq_true.1 I _ (List.getElem_mem hlt))
      generalize l[k]=z at *
      have D:=zh C;have N:=zh h3;clear C h3;go_wp2_with fail;refine (Z4m _).mono ?_;rintro e w' ⟨rfl,rfl⟩;go_wp2_with fail;rw [D.out];exact ⟨rfl,zr _ _,.inr ⟨rfl,rfl⟩⟩
  · have C:all3 l=3:=by have:=H.out;rw [List.take_of_length_le (by omega)] at this;unfold all3;rw [zp this]
    have L:decide ((k:Int)<(l.length:Int))=false:=by simpa using hlt
    have D:=zh C;clear C;go_wp2_with fail;go_ret;rw [D.out];exact ⟨zr _ _,.inl ⟨by decide,rfl⟩⟩
theorem Zrw (x y:Int)(A:Option Addr)(c B:Nat)(w:World)(h:Z03 w B (slice A 2 c) [x,y])(C:x≠0) : Calls prog 236 #[slice A 2 c] w (TP (if y=1/\x≠3 then x else 0) w):=by
 obtain ⟨b,o,rfl,c0,c1⟩:=ZfH h;clear h;by_cases h3:x=3
 · subst h3;rw [zf (by simp)];go_enter func236,ntmps236;go_wp2_with fail;refine (Z4m _).mono ?_;rintro e w' ⟨rfl,rfl⟩;go_wp2_with fail;exact ⟨rfl,zr _ _,.inr ⟨rfl,rfl⟩⟩
 · have I:(x==3)=false:=by simpa using h3
   have F:(x != 3)=true:=by simpa using h3
   by_cases hy:y=1
   · subst hy;rw [zp ⟨rfl,h3⟩];have D:=zh C;have G:=zh h3;clear C h3;go_enter func236,ntmps236;go_wp2_with fail;refine (Z6v _).mono ?_;rintro e w' ⟨rfl,rfl⟩;go_wp2_with fail;go_ret;exact ⟨zr _ _,.inl ⟨D.out,rfl⟩⟩
   · have H:(y==1)=false:=by simpa using hy
     rw [zf (λh=>hy h.1)];go_enter func236,ntmps236;go_wp2_with fail;refine (Z4m _).mono ?_;rintro e w' ⟨rfl,rfl⟩;go_wp2_with fail;exact ⟨rfl,zr _ _,.inr ⟨rfl,rfl⟩⟩
theorem if_any (x y z:Int)(A:Option Addr)(c B:Nat)(w:World)(h:Z03 w B (slice A 3 c) [x,y,z])(C:y≠0) : Calls prog 237 #[slice A 3 c] w (TP (if x=3/\y=z then y else 0) w):=by
 obtain ⟨b,o,rfl,c0,c1,c2⟩:=Zhv h;clear h;by_cases h3:x=3
 · subst h3;by_cases hyz:y=z
   · subst hyz;rw [zp ⟨rfl,rfl⟩];have D:=zh C;clear C;go_enter func237,ntmps237;go_wp2_with fail;go_quiet ((go_at_call 234;exact Calls.quiet_of_same ((Z6v _).mono λ_ _ h=>⟨h.1,h.2.symm⟩)));go_wp2_with fail;go_ret;exact ⟨Zek _ _,.inl ⟨D.out,rfl⟩⟩
   · have G:(y==z)=false:=by simpa using hyz
     rw [zf (λh=>hyz h.2)];go_enter func237,ntmps237;go_wp2_with fail;refine wp_region_still_tail 13 (by kernel_rfl) (by kernel_rfl) ?_;simp only [List.take_succ_cons,List.take_zero,List.drop_succ_cons,List.drop_zero]
     repeat ((with_reducible refine wpStill_step (λK hK=>?_));go_simp;(with_reducible refine hK _ ?_);clear hK K)
     with_reducible refine wpStill_nil ?_
     go_wp2_with fail;refine (Z4m _).mono ?_;rintro e w' ⟨rfl,rfl⟩;exact ⟨rfl,Zek _ 1,.inr ⟨rfl,rfl⟩⟩
 · have F:(x==3)=false:=by simpa using h3
   rw [zf (λh=>h3 h.1)];go_enter func237,ntmps237;go_wp2_with fail;refine wp_region_still_tail 13 (by kernel_rfl) (by kernel_rfl) ?_;simp only [List.take_succ_cons,List.take_zero,List.drop_succ_cons,List.drop_zero]
   repeat ((with_reducible refine wpStill_step (λK hK=>?_));go_simp;(with_reducible refine hK _ ?_);clear hK K)
   with_reducible refine wpStill_nil ?_
   go_wp2_with fail;refine (Z4m _).mono ?_;rintro e w' ⟨rfl,rfl⟩;exact ⟨rfl,Zek _ 1,.inr ⟨rfl,rfl⟩⟩
theorem Zen (t:Int)(p:Addr)(v:Value)(w:World)(h:w.cell? p=some (int i64 t)):Calls prog 266 #[v,.pointer (some p)] w λe w'=>e=.returned (int i64 t)/\w=w':=by
 go_enter func266,ntmps266;go_wp2_with fail;go_ret;exact ⟨rfl,rfl⟩
theorem Z7h (t:Int)(w:World):Calls prog 231 #[int i64 t] w λe w'=>e=.returned (.func (.func 266) #[] #[.pointer (some ⟨w.heap.size,0,none⟩)])/\w'=w.alloc (.cells #[int i64 t] 3):=by
 have B:∀ (fn:Fn) (first cap:Array Value) (w:World),(Instr.makeFunc fn first cap).run prog w=.ok (.func fn first cap) w:=λ_ _ _ _=>rfl;go_enter func231,ntmps231;go_wp2_with fail;go_ret;exact ⟨rfl,rfl⟩
end
end Go.Proofs.YtnepkoepbapgeaaGreatDoor
