import Derived.Test.YtnepkoepbapgeaaGreatDoorQuoTyp5
import Derived.Laws.Rows
namespace Go.Proofs.YtnepkoepbapgeaaGreatDoor
open _root_.Go.Proofs.Tryz
open Value (int slice)
open IntKind (i64)
set_option maxHeartbeats 4000000
set_option maxRecDepth 100000
section
open Go.RowKit Lx Px Qx
theorem Z2r {r:Rt}(h:Z4t r=true):Z0i r.wo r.wn r.wl=true/\Z0i r.po r.pn r.pl=true:=by
 rw [Zg1] at h;simp only [zd] at h;exact ⟨h.1.2,h.2⟩
theorem ZkH (r:Rt)(I pv:Value)(w:World)(G:FoV w w.heap.size I r.wl)(R:FoV w w.heap.size pv r.pl):Calls prog 98 #[rtV r I pv] w λe w'=>e=.returned (.tuple #[.bool (Z15 r==0),int i64 (Z15 r)])/\Below w.heap.size w w':=by
 have Y:=λW D h2=>Zep r I pv W D h2;obtain ⟨J,L,rfl,_⟩:=id G;obtain ⟨O,H,rfl,_⟩:=id R;have S0:=RB.new w #[int i64 r.id,int i64 r.lv,int i64 r.kd,int i64 r.fr,int i64 r.un,int i64 r.ls,int i64 r.mo,int i64 r.ar,int i64 r.kn,int i64 r.kq,int i64 r.wo,int i64 r.wn,slice J (flen r.wl) L,int i64 r.po,int i64 r.pn,slice O (flen r.pl) H];have q:Z15 r=if Z4t r then (if typE (r.wo,r.wn) r.wl=3/\typE (r.po,r.pn) r.pl=2 then 0 else 20) else 1:=rfl;have hv:=@Z2r r;rw [rtV] at Y |-
 have S:=zh S0;have HW:=zh G;have HP:=zh R;have HF:=zh Y;have U:=zh q;have HV:=zh hv;clear S0 G R Y q hv;go_enter func98,ntmps98;go_upto_region 1 with fail;generalize w.alloc (.cells #[int i64 r.id,int i64 r.lv,int i64 r.kd,int i64 r.fr,int i64 r.un,int i64 r.ls,int i64 r.mo,int i64 r.ar,int i64 r.kn,int i64 r.kq,int i64 r.wo,int i64 r.wn,slice J (flen r.wl) L,int i64 r.po,int i64 r.pn,slice O (flen r.pl) H] 65)=w0 at *
 have e0:=S.out.cell 0 _ rfl;have e1:=S.out.cell 1 _ rfl;have e2:=S.out.cell 2 _ rfl;have e3:=S.out.cell 3 _ rfl;have e4:=S.out.cell 4 _ rfl;have e5:=S.out.cell 5 _ rfl;have e6:=S.out.cell 6 _ rfl;have e7:=S.out.cell 7 _ rfl;have e8:=S.out.cell 8 _ rfl;have e9:=S.out.cell 9 _ rfl;have N:=S.out.cell 10 _ rfl;have Z:=S.out.cell 11 _ rfl;have T:=S.out.cell 12 _ rfl;have M:=S.out.cell 13 _ rfl;have F:=S.out.cell 14 _ rfl;have f:=S.out.cell 15 _ rfl;go_wp2_with fail;refine (HF.out _ ((HW.out.on S.out.2).up S.out.2.size) ((HP.out.on S.out.2).up S.out.2.size)).mono ?_;rintro e w1 ⟨rfl,hb⟩;have S1:=S.out.on hb;clear e0 e1 e2 e3 e4 e5 e6 e7 e8 e9 N Z T M F f S hb HF;have S:=zh S1;clear S1;cases hf:Z4t r with
 | false =>
  have D:Z15 r=1:=by rw [U.out,hf];rfl
  have H1:=zh D;have ba:=zh hf;clear D hf;go_wp2_with fail;go_ret2;rw [H1.out];exact ⟨rfl,S.out.2⟩
 | true =>
  obtain ⟨V,X⟩:=HV.out hf;obtain ⟨z1,m⟩:∃ z,Z3A (r.wo,r.wn) r.wl=(typE (r.wo,r.wn) r.wl,z):=⟨_,by unfold Z3A;rw [zp V]⟩
  obtain ⟨z2,A⟩:∃ z,Z3A (r.po,r.pn) r.pl=(typE (r.po,r.pn) r.pl,z):=⟨_,by unfold Z3A;rw [zp X]⟩
  have j:Z15 r=if typE (r.wo,r.wn) r.wl=3/\typE (r.po,r.pn) r.pl=2 then 0 else 20:=by rw [U.out,hf];rfl
  have N:=S.out.cell 10 _ rfl;have Z:=S.out.cell 11 _ rfl;have T:=S.out.cell 12 _ rfl;have I1:=zh m;have g:=zh A;have d:=zh j;have V1:=zh V;have V2:=zh X;have ba:=zh hf;clear m A j V X hf U HV;go_wp2_with fail;refine (ZcG r.wo r.wn r.wl (slice J (flen r.wl) L) _ ((HW.out.on S.out.2).up S.out.2.size)).mono ?_;rintro e w2 ⟨rfl,hb⟩;have S2:=S.out.on hb;clear N Z T S hb;have S:=zh S2;clear S2;have M:=S.out.cell 13 _ rfl;have F:=S.out.cell 14 _ rfl;have f:=S.out.cell 15 _ rfl;rw [I1.out];go_wp2_with fail;refine (ZcG r.po r.pn r.pl (slice O (flen r.pl) H) _ ((HP.out.on S.out.2).up S.out.2.size)).mono ?_;rintro e w3 ⟨rfl,hb⟩;have l:=S.out.on hb;clear M F f S hb;have S:=zh l;clear l;rw [g.out];clear I1 g;generalize typE (r.wo,r.wn) r.wl=x at *
  generalize typE (r.po,r.pn) r.pl=y at *
  by_cases hx:x=3
  · subst hx;by_cases hy:y=2
    · subst hy;have B:Z15 r=0:=by rw [d.out];rfl
      have C:=zh B;clear B;go_wp2_with fail;go_ret2;rw [C.out];exact ⟨rfl,S.out.2⟩
    · have B:Z15 r=20:=by rw [d.out,zf (λh=>hy h.2)]
      have dy:(y==2)=false:=by simpa using hy
      have bb:(y != 2)=true:=by simpa using hy
      have C:=zh B;have HY:=zh hy;clear B hy;go_wp2_with fail;go_ret2;rw [C.out];exact ⟨rfl,S.out.2⟩
  · have B:Z15 r=20:=by rw [d.out,zf (λh=>hx h.1)]
    have dx:(x==3)=false:=by simpa using hx
    have bc:(x != 3)=true:=by simpa using hx
    have C:=zh B;have HX:=zh hx;clear B hx;go_wp2_with fail;go_ret2;rw [C.out];exact ⟨rfl,S.out.2⟩
end
section
open Lx Px
namespace Qx
theorem Z0F {n d:Int}(h:ratB n d=true):1<=d/\d<=1000000/\-1000000000<=n/\n<=1000000000/\Nat.gcd n.natAbs d.natAbs=1:=by
 simp [ratB] at h;obtain ⟨⟨⟨⟨a,b⟩,c⟩,e⟩,g⟩:=h;exact ⟨a,b,c,e,g⟩
theorem Z7k {n d p q:Int}(J:1<=d)(h:ratV n d=.ok p q):ratB p q=true:=by
 unfold ratV at h;split at h
 · cases h
 · rename_i I;simp only [V.ok.injEq] at h;obtain ⟨rfl,rfl⟩:=h;have C:0<Nat.gcd n.natAbs d.natAbs:=Nat.gcd_pos_of_pos_right _ (by omega);have H:Nat.gcd (n.natAbs / Nat.gcd n.natAbs d.natAbs) (d.natAbs / Nat.gcd n.natAbs d.natAbs)=1:=Nat.gcd_div_gcd_div_gcd_of_pos_right (by omega);have D:=Nat.gcd_dvd_right n.natAbs d.natAbs;unfold redN redD at *
   have F:(n.tdiv (Nat.gcd n.natAbs d.natAbs:Nat)).natAbs=n.natAbs / Nat.gcd n.natAbs d.natAbs:=by rw [Int.natAbs_tdiv,Int.natAbs_natCast];rfl
   have B:(d.tdiv (Nat.gcd n.natAbs d.natAbs:Nat)).natAbs=d.natAbs / Nat.gcd n.natAbs d.natAbs:=by rw [Int.natAbs_tdiv,Int.natAbs_natCast];rfl
   have G:0<d.natAbs / Nat.gcd n.natAbs d.natAbs:=Nat.div_pos (Nat.le_of_dvd (by omega) D) C;have L:0<=d.tdiv (Nat.gcd n.natAbs d.natAbs:Nat):=Int.tdiv_nonneg (by omega) (by omega);rw [<- F,<- B] at H;rw [<- B] at G;generalize n.tdiv (Nat.gcd n.natAbs d.natAbs:Nat)=p at *
   generalize d.tdiv (Nat.gcd n.natAbs d.natAbs:Nat)=q at *
   simp only [ratB,zd,decide_eq_true_eq,beq_iff_eq];omega
theorem Z61 {n d p q:Int}(B:d≠0)(h:Z10 n d=.ok p q):ratB p q=true:=by
 unfold Z10 at h;split at h
 · exact Z7k (by omega) h
 · exact Z7k (by omega) h
theorem Zaa {b:Bool}{p q:Int}(h:truV b=.ok p q):ratB p q=true:=by
 cases b <;> (simp only [truV,Bool.false_eq_true,if_false,if_true,V.ok.injEq] at h;obtain ⟨rfl,rfl⟩:=h;decide)
theorem Zhz {op a b c d p q:Int}(D:ratB a b=true)(F:ratB c d=true)(h:appV op a b c d=.ok p q):ratB p q=true:=by
 obtain ⟨G,_,_,_,_⟩:=Z0F D;obtain ⟨H,_,_,_,_⟩:=Z0F F;have B:1<=b*d:=Int.mul_pos (by omega) (by omega);unfold appV at h
 repeat' split at h
 all_goals first
  | exact Z7k B h
  | exact Zaa h
  | (simp only [V.ok.injEq] at h;obtain ⟨rfl,rfl⟩:=h;assumption)
  | skip
 unfold divV at h;split at h
 · cases h
 · rename_i C;exact Z61 (Int.mul_ne_zero (by omega) C) h
theorem Zd1 {v:Vs}{op n:Int}{x y z:V}(C:∀ p q,x=.ok p q->ratB p q=true)(B:∀ p q,y=.ok p q->ratB p q=true)(D:∀ p q,z=.ok p q->ratB p q=true){p q:Int}(h:opV v op n x y z=.ok p q):ratB p q=true:=by
 unfold opV at h;split at h
 · exact Z61 (by decide) h
 · split at h
   · exact Z61 (by decide) h
   · cases x with
     | no e=>cases h
     | ok a b =>
      simp only at h;split at h
      · exact Zaa h
      · split at h
        · split at h
          · exact B _ _ h
          · exact D _ _ h
        · cases y with
          | no e=>cases h
          | ok c d=>exact Zhz (C _ _ rfl) (B _ _ rfl) h
theorem Z49 (v:Vs):∀ (f:Fo) (k:Nat) (p q:Int),valF v f k=.ok p q->ratB p q=true:=by
 intro f;induction f with
 | nil=>intro k p q h;simp [valF] at h
 | node b o a l r ihl ihr =>
  intro k p q h;cases k with
  | zero=>exact Zd1 (ihl 0) (ihl 1) (ihl 2) h
  | succ k=>exact ihr k p q h
theorem Z7m {v:Vs}{a:Int × Int}{l:Fo}{p q:Int}(h:valE v a l=.ok p q):ratB p q=true := Zd1 (Z49 v l 0) (Z49 v l 1) (Z49 v l 2) h
theorem Zg2 {n d e:Int}(h:ratV n d=.no e):e=3\/e=22:=by
 unfold ratV at h;split at h
 · simp only [V.no.injEq] at h;omega
 · cases h
theorem Z55 {n d e:Int}(h:Z10 n d=.no e):e=3\/e=22:=by
 unfold Z10 at h;split at h <;> exact Zg2 h
theorem Zg3 {b:Bool}{e:Int}(h:truV b=.no e):e=3\/e=22:=by cases b <;> simp [truV] at h
theorem Z6y {op a b c d e:Int}(h:appV op a b c d=.no e):e=3\/e=22:=by
 unfold appV at h
 repeat' split at h
 all_goals first
  | exact Zg2 h
  | exact Zg3 h
  | (cases h;done)
  | skip
 unfold divV at h;split at h
 · simp only [V.no.injEq] at h;omega
 · exact Z55 h
theorem Zm0 {v:Vs}{op n:Int}{x y z:V}(C:∀ e,x=.no e->e=3\/e=22)(B:∀ e,y=.no e->e=3\/e=22)(D:∀ e,z=.no e->e=3\/e=22){e:Int}(h:opV v op n x y z=.no e):e=3\/e=22:=by
 unfold opV at h;split at h
 · exact Z55 h
 · split at h
   · exact Z55 h
   · cases x with
     | no e'=>simp only [V.no.injEq] at h;subst h;exact C _ rfl
     | ok a b =>
      simp only at h;split at h
      · exact Zg3 h
      · split at h
        · split at h
          · exact B _ h
          · exact D _ h
        · cases y with
          | no e'=>simp only [V.no.injEq] at h;subst h;exact B _ rfl
          | ok c d=>exact Z6y h
theorem Z8a (v:Vs):∀ (f:Fo) (k:Nat) (e:Int),valF v f k=.no e->e=3\/e=22:=by
 intro f;induction f with
 | nil=>intro k e h;simp only [valF,V.no.injEq] at h;omega
 | node b o a l r ihl ihr =>
  intro k e h;cases k with
  | zero=>exact Zm0 (ihl 0) (ihl 1) (ihl 2) h
  | succ k=>exact ihr k e h
theorem Z3B {v:Vs}{a:Int × Int}{l:Fo}{e:Int}(h:valE v a l=.no e):e=3\/e=22 := Zm0 (Z8a v l 0) (Z8a v l 1) (Z8a v l 2) h
theorem Z7n {n d m:Int}(G:1<=d)(D:0<=n)(C:n<=m*d):0<=rndE n d/\rndE n d<=m:=by
 have e:=Int.mul_ediv_add_emod n d;have H:=Int.emod_nonneg n (show d≠0 by omega);have F:=Int.emod_lt_of_pos n (show 0<d by omega);have I:0<=n / d:=Int.ediv_nonneg D (by omega);have L:n / d<=m:=by have:=Int.ediv_le_ediv (show 0<d by omega) C;rwa [Int.mul_ediv_cancel _ (by omega)] at this
 have B:n % d≠0->n / d<m:=by
  intro J;by_cases c:n / d=m
  · rw [c,Int.mul_comm] at e;omega
  · omega
 unfold rndE;split
 · have:=B (by omega);omega
 · omega
theorem ZrA {n d:Int}(F:1<=d)(G:n<=1000000000):rndE n d<=1000000000:=by
 have e:=Int.mul_ediv_add_emod n d;have I:=Int.emod_nonneg n (show d≠0 by omega);have D:=Int.emod_lt_of_pos n (show 0<d by omega);by_cases c:n / d<1000000000
 · unfold rndE;split <;> omega
 · have C:1000000000<=n / d:=by omega
   have H:d*1000000000<=d*(n / d):=Int.mul_le_mul_of_nonneg_left C (by omega);have B:d=1:=by omega
   subst B;unfold rndE;split <;> omega
theorem Z0G {r:Rt}(h:Z15 r=0):Z4t r=true:=by
 unfold Z15 at h;cases hf:Z4t r with
 | true=>rfl
 | false=>rw [hf] at h;simp at h
theorem Z62 {n:Int}{r:Rt}(C:0<=n)(B:Z4t r=true):0<=Z7C n r/\Z7C n r<=n:=by
 simp only [Z4t,zd,decide_eq_true_eq] at B;have D:=Z0F B.1.1.1.1.1.1.1.2;have hk:=B.1.1.1.1.1.1.2;have F:=B.1.1.1.1.1.2;exact Z7n D.1 (Int.mul_nonneg C hk) (Int.mul_le_mul_of_nonneg_left F C)
def Bst (a:Ask)(night:Int)(l:List Rt):Option Rt->Prop
 | none=>∀ r∈l,apR r a night≠1
 | some b=>b∈l/\apR b a night=1/\∀ r∈l,apR r a night=1->r.lv<b.lv\/r.lv=b.lv/\b.id<=r.id
theorem ZrB (a:Ask)(D:Int):∀ (l C:List Rt) (o F:Option Rt),Bst a D C o->Z2g a D o l=.ok F->Bst a D (C++l) F:=by
 intro l;induction l with
 | nil=>intro C o F h e;simp only [Z2g,Except.ok.injEq] at e;subst e;simpa using h
 | cons r l ih =>
  intro C o F h e;unfold Z2g at e;split at e
  · cases e
  · have J:Bst a D (C++[r]) (if apR r a D=1/\Z46 r o=true then some r else o):=by
     split
     · rename_i hb;obtain ⟨H,I⟩:=hb;refine ⟨by simp,H,?_⟩;intro x B G;rw [zC,List.mem_singleton] at B;rcases B with B | rfl
       · cases o with
         | none=>exact absurd G (h x B)
         | some b =>have:=h.2.2 x B G;simp only [Z46,Bool.or_eq_true,zd,decide_eq_true_eq] at I;omega
       · omega
     · rename_i hb;cases o with
       | none =>
        intro x B;rw [zC,List.mem_singleton] at B;rcases B with B | rfl
        · exact h x B
        · intro H;exact hb ⟨H,rfl⟩
       | some b =>
        refine ⟨by simp [h.1],h.2.1,?_⟩;intro x B G;rw [zC,List.mem_singleton] at B;rcases B with B | rfl
        · exact h.2.2 x B G
        · have L:¬ Z46 x (some b)=true:=λhc=>hb ⟨G,hc⟩;simp only [Z46,Bool.or_eq_true,zd,decide_eq_true_eq] at L;omega
    have:=ih (C++[r]) _ F J e;simpa using this
theorem ZrC:∀ {l:List Rt},(l.map Rt.id).Nodup->∀ {x y:Rt},x∈l->y∈l->x.id=y.id->x=y:=by
 intro l;induction l with
 | nil=>intro _ x y B;simp at B
 | cons r l ih =>
  intro D x y B C e;simp only [List.map_cons,List.nodup_cons] at D;rw [zD] at B C;rcases B with rfl | B <;> rcases C with rfl | C
  · rfl
  · exact absurd (by rw [e];exact List.mem_map_of_mem C) D.1
  · exact absurd (by rw [<- e];exact List.mem_map_of_mem B) D.1
  · exact ih D.2 B C e
theorem Zpb (l:List Rt)(B:List Int):useL B l=true ↔ (∀ r∈l,Z15 r=0)/\(l.map Rt.id).Nodup/\∀ r∈l,r.id ∉ B:=by
 induction l generalizing B with
 | nil=>simp [useL]
 | cons r l ih =>
  simp only [useL,zd,beq_iff_eq,Bool.not_eq_true',ih,zD,forall_eq_or_imp,List.map_cons,List.nodup_cons,List.mem_map,not_or,not_exists,not_and];have I:B.contains r.id=false ↔ r.id ∉ B:=by rw [<- Bool.not_eq_true,List.contains_iff_mem]
  rw [I];constructor
  · rintro ⟨⟨D,G⟩,F,H,C⟩;exact ⟨⟨D,F⟩,⟨λx hx e=>(C x hx).1 e,H⟩,G,λx hx=>(C x hx).2⟩
  · rintro ⟨⟨D,F⟩,⟨J,H⟩,G,C⟩;exact ⟨⟨D,G⟩,F,H,λx hx=>⟨λe=>J x hx e,C x hx⟩⟩
theorem Z2d (l:List Rt):useB l=true ↔ l.length<=100/\(∀ r∈l,Z15 r=0)/\(l.map Rt.id).Nodup:=by
 simp [useB,Zpb]
theorem Z6z {l:List Rt}{a:Ask}{B c:Int}{r:Rt}(h:Z0m l a B=.ok c r):0<=c/\c<=1000000000/\r∈l:=by
 unfold Z0m at h;cases hb:Z2g a B none l with
 | error e=>rw [hb] at h;cases h
 | ok o =>
  rw [hb] at h;cases o with
  | none=>cases h
  | some r' =>
   have D:=ZrB a B l [] none (some r') (λr h=>absurd h (by simp)) hb;simp only at h;cases hv:valE (Z0w a B) (r'.po,r'.pn) r'.pl with
   | no e=>rw [hv] at h;cases h
   | ok n d =>
    rw [hv] at h;simp only at h;split at h
    · cases h
    · rename_i G;simp only [N.ok.injEq] at h;obtain ⟨rfl,rfl⟩:=h;obtain ⟨F,_,_,C,_⟩:=Z0F (Z7m hv);exact ⟨by omega,ZrA F C,by simpa using D.1⟩
theorem Zd2 {l:List Rt}{a:Ask}(L:∀ r∈l,Z15 r=0):∀ (k:Nat) (B:Int) (cs:List Int) (C:Int),Z0c l a k B=.ok (cs,C) -> cs.length=k/\0<=C/\C<=cs.sum/\cs.sum<=k*1000000000/\∀ i (h:i<cs.length),∃ r,Z0m l a (B+i)=.ok cs[i] r:=by
 intro k;induction k with
 | zero=>intro B cs C h;simp only [Z0c,Except.ok.injEq,Prod.mk.injEq] at h;obtain ⟨rfl,rfl⟩:=h;simp
 | succ k ih =>
  intro B cs C h;unfold Z0c at h;cases hn:Z0m l a B with
  | no e=>rw [hn] at h;cases h
  | ok c r =>
   rw [hn] at h;cases hr:Z0c l a k (B+1) with
   | error e=>rw [hr] at h;cases h
   | ok p =>
    obtain ⟨G,M⟩:=p;rw [hr] at h;simp only [Except.ok.injEq,Prod.mk.injEq] at h;obtain ⟨rfl,rfl⟩:=h;obtain ⟨D,O,T,R,H⟩:=ih (B+1) G M hr;obtain ⟨c0,c1,c2⟩:=Z6z hn;obtain ⟨S,N⟩:=Z62 c0 (Z0G (L r c2));refine ⟨by simp [D],by omega,by simp only [List.sum_cons];omega,by simp only [List.sum_cons];omega,?_⟩;intro i J;cases i with
    | zero=>exact ⟨r,by simpa using hn⟩
    | succ i =>obtain ⟨I,F⟩:=H i (by simpa using J);refine ⟨I,?_⟩;rw [show B+((i+1:Nat):Int)=B+1+(i:Int) by omega];simpa using F
end Qx
end
section
open Go.RowKit Lx Px
theorem Z1c {P:Program}(w:World)(g o:Nat)(B:TypeId)(cs:Array Value)(d:TypeDesc)(F:∀ j v,cs[j]?=some v->w.cell? ⟨g,o+j,none⟩=some v) (J:P.underlying B=some d) (L:(match d with | .struct _ | .array _ _=>true | _=>false)=true) (C:(P.info? B).map (·.size)=some cs.size) : (loadVar B ⟨g,o,none⟩).run P w=.ok (.agg cs) w:=by
 have D:(loadCells ⟨g,o,none⟩ cs.toList.length).run P w=.ok cs.toList.toArray w := run_loadCells_list (P:=P) w ⟨g,o,none⟩ cs.toList (λj v hv=>by
   have H:(⟨g,o,none⟩:Addr).add j=⟨g,o+j,none⟩:=by unfold Addr.add;split <;> simp_all
   rw [H];exact F j v (by simpa using hv))
 cases hq:P.info? B with
 | none=>simp [hq] at C
 | some i =>
  have G:i.size=cs.size:=by simpa [hq] using C
  have I:(isAgg B).run P w=.ok true w:=by unfold isAgg;rw [Sem.run_bind,zy J w];cases d <;> simp_all
  simp only [Array.length_toList,Array.toArray_toList] at D;simp [loadVar,Sem.run_bind,I,sizeOf,typeInfo,hq,G,D]
theorem Tryz.infoRateSz:(Tryz.prog.info? 65).map (·.size)=some 16:=by kernel_rfl
theorem Z2w {B:Array Oper}{rest:List Oper}{op:Oper}{a:Act}{w:World}{Q:Exit->Act->World->Prop}(G:op.guard=none)(x:Operand)(F:op.op=.load 65 x) (g o:Nat) (D:a.eval x=.pointer (some ⟨g,o,none⟩)) (cs:Array Value) (H:cs.size=16) (C:∀ j v,cs[j]?=some v->w.cell? ⟨g,o+j,none⟩=some v) (h:wpList prog B Q rest (a.put op.dst (.agg cs)) w):wpList prog B Q (op::rest) a w:=by
 refine wpList_plain G λ_ hK=>?_;have I:=Z1c w g o 65 cs _ C underlying65 rfl (by rw [Tryz.infoRateSz,H]);unfold Oper.wp execOp;simp only [F,D,Instr.loadAt,Instr.sureAddr,Sem.run_bind,Sem.run_pure,Result.andThen_ok,I];exact hK _ _ h
theorem Z3D {B:Array Oper}{rest:List Oper}{op:Oper}{a:Act}{w:World}{Q:Exit->Act->World->Prop}(G:op.guard=none)(x:Operand)(F:op.op=.load 65 x) (g:Nat) (C:a.eval x=.pointer (some ⟨g,0,none⟩)) (cs:Array Value) (H:cs.size=16) (D:w.heap[g]?=some (.cells cs 65 (0,0))) (h:wpList prog B Q rest (a.put op.dst (.agg cs)) w):wpList prog B Q (op::rest) a w :=
 wpList_load_row G 65 x F g C _ cs _ _ D underlying65 rfl (by rw [Tryz.infoRateSz,H]) h
theorem Z2F (w:World)(zs cs:Array Value)(t:TypeId):(w.alloc (.cells zs t (0,0))).setRow w.heap.size cs=w.alloc (.cells cs t (0,0)):=by
 unfold World.setRow World.alloc;simp only;congr 1;apply Array.ext_getElem?;intro k;rw [zM];by_cases hk:w.heap.size=k
 · subst hk;simp
 · rw [zf hk,Array.getElem?_push,Array.getElem?_push,zf (λe=>hk e.symm),zf (λe=>hk e.symm)]
theorem Z3u {B:Array Oper}{rest:List Oper}{op:Oper}{a:Act}{w:World}{Q:Exit->Act->World->Prop}(G:op.guard=none)(x y:Operand)(F:op.op=.store 65 x y) (zs cs:Array Value) (C:a.eval x=.pointer (some ⟨w.heap.size,0,none⟩)) (I:a.eval y=.agg cs) (J:zs.size=16) (H:cs.size=16) (D:cs.all (·.oneCell')=true) (h:wpList prog B Q rest (a.put op.dst undef) (w.alloc (.cells cs 65))):wpList prog B Q (op::rest) a (w.alloc (.cells zs 65)):=by
 refine wpList_store_row G 65 x y F w.heap.size cs C I _ zs (za w _) (by rw [Tryz.infoRateSz,H]) (by omega) D ?_;rw [Z2F];exact h
end
section
open Go.RowKit Lx Px Qx
theorem Z4q {w:World}{B n c k:Nat}{A:Option Addr}{rs:List Rt}(h:RtsV w B (slice A n c) rs)(hk:k<rs.length) : ∃ (g o:Nat) (F H:Option Addr) (G D:Nat),A=some ⟨g,o,none⟩/\g<B/\FoV w B (slice F (flen rs[k].wl) G) rs[k].wl/\FoV w B (slice H (flen rs[k].pl) D) rs[k].pl/\∀ j u,(Z50 rs[k] (slice F (flen rs[k].wl) G) (slice H (flen rs[k].pl) D))[j]?=some u->w.cell? ⟨g,o+k*16+j,none⟩=some u:=by
 obtain ⟨X,c',e,I⟩:=h;injection e with C _ e3
 subst C;obtain ⟨N,J,Y,O,_⟩:=I 0 (by omega);obtain ⟨ad,C,hb,Z,V,pv,S,M,R⟩:=I k hk;rw [J] at C;injection C with C
 subst C;have T:N.spot=none:=by unfold Addr.add at O;simpa using O
 obtain ⟨g,o,s⟩:=N;cases T;obtain ⟨F,G,rfl,_⟩:=id M;obtain ⟨H,D,rfl,_⟩:=id R;refine ⟨g,o,F,H,G,D,J,hb,M,R,λj u hj=>?_⟩;have L:=S j u hj;have U:((⟨g,o,none⟩:Addr).add (k*16))=⟨g,o+k*16,none⟩:=by
  unfold Addr.add;split
  · rename_i h;rw [h];rfl
  · rfl
 rw [U] at L;exact L
theorem Z5w {w:World}{g o:Nat}{r:Rt}{B pv:Value}(h:∀ j u,(Z50 r B pv)[j]?=some u->w.cell? ⟨g,o+j,none⟩=some u):∀ j u,(#[int i64 r.id,int i64 r.lv,int i64 r.kd,int i64 r.fr,int i64 r.un,int i64 r.ls,int i64 r.mo,int i64 r.ar,int i64 r.kn,int i64 r.kq,int i64 r.wo,int i64 r.wn,B,int i64 r.po,int i64 r.pn,pv]:Array Value)[j]?=some u->w.cell? ⟨g,o+j,none⟩=some u:=λj u hj=>h j u (by rw [<- hj];simp [Z50])
theorem Zeq {P:Program}{t k e:TypeId}(G:P.underlying t=some (.map k e))(hk:P.underlying k=some (.int .i64)){w:World}{r:Nat}{L:List (Int × Value)}{op:Int}{z:Value}(h:Z3a w r L)(B:∀ p∈L,p.1≠op)(F:(zeroValue e).run P w=.ok z w) : (Instr.lookup t (.map (some r)) (int i64 op) false).run P w=.ok z w:=by
 have H:w.heap[r]?=some (.map (esOf L 0).toArray L.length):=h;have D:=Z2D op L 0 0 B;have C:(Instr.checkKey (esOf L 0).toArray.isEmpty (9999+1) k (int i64 op)).run P w=.ok () w:=Go.MapKept.run_checkKey hk (by simp [MapKept.IsKey]) _ 9999;simp only [Instr.lookup,Instr.findKey,Sem.run_bind,Sem.run_pure,zy G,zy hk,Go.MapKept.run_getObj_map H,C,D,F,Result.andThen_ok];rfl
def Zd3 (rs:List Rt)(k:Nat):List (Int × Value):=(rs.take k).map λr=>(r.id,.bool true)
theorem Zm1 (rs:List Rt)(k:Nat)(h:k<rs.length):Zd3 rs (k+1)=Zd3 rs k++[(rs[k].id,.bool true)]:=by
 unfold Zd3;rw [zT h,List.map_append];rfl
theorem ZhA {rs:List Rt}{k:Nat}{x:Int}(h:x∈(rs.take k).map Rt.id):∃ B L2,Zd3 rs k=B++(x,.bool true)::L2/\∀ p∈B,p.1≠x:=by
 unfold Zd3;generalize rs.take k=l at *
 induction l with
 | nil=>simp at h
 | cons a l ih =>
  by_cases ha:a.id=x
  · exact ⟨[],l.map λr=>(r.id,.bool true),by rw [<- ha];rfl,by simp⟩
  · simp only [List.map_cons,zD] at h;obtain ⟨B,L2,e,D⟩:=ih (by rcases h with h | h;exact absurd h.symm ha;exact h);refine ⟨(a.id,.bool true)::B,L2,by simp only [List.map_cons,e,zc2],?_⟩;intro p C;rcases zD.1 C with rfl | C
    · exact ha
    · exact D p C
theorem Zm2 {rs:List Rt}{k:Nat}{x:Int}(h:¬ x∈(rs.take k).map Rt.id):∀ p∈Zd3 rs k,p.1≠x:=by
 intro p B e;unfold Zd3 at B;obtain ⟨r,C,rfl⟩:=List.mem_map.1 B;exact h (List.mem_map.2 ⟨r,C,e⟩)
def Zm3 (rs:List Rt)(k:Nat):Prop:=(∀ j (h:j<rs.length),j<k->Z15 rs[j]=0)/\((rs.take k).map Rt.id).Nodup
theorem Zg4 {rs:List Rt}(h:Zm3 rs rs.length)(C:rs.length<=100):useB rs=true:=by
 rw [Z2d];refine ⟨C,λr hr=>?_,by have:=h.2;rwa [List.take_length] at this⟩;obtain ⟨j,B,rfl⟩:=List.getElem_of_mem hr;exact h.1 j B B
theorem Zd4 {rs:List Rt}{k:Nat}(h:Zm3 rs k)(hk:k<rs.length)(D:Z15 rs[k]=0)(B:¬ rs[k].id∈(rs.take k).map Rt.id):Zm3 rs (k+1):=by
 refine ⟨λj hj hjk=>?_,?_⟩
 · by_cases e:j=k
   · subst e;exact D
   · exact h.1 j hj (by omega)
 · rw [zT hk,List.map_append,List.nodup_append];refine ⟨h.2,by simp,?_⟩;intro a C b hb e;simp at hb;subst hb e;exact B C
theorem Zg5 {rs:List Rt}{k:Nat}(hk:k<rs.length)(B:Z15 rs[k]≠0):useB rs=false:=by
 rw [<- Bool.not_eq_true,Z2d];exact λh=>B (h.2.1 _ (List.getElem_mem hk))
theorem ZpF {rs:List Rt}{k:Nat}(hk:k<rs.length)(C:rs[k].id∈(rs.take k).map Rt.id):useB rs=false:=by
 rw [<- Bool.not_eq_true,Z2d];intro h;have B:=h.2.2;rw [<- List.take_append_drop k rs,List.map_append,List.nodup_append] at B;exact B.2.2 _ C rs[k].id (List.mem_map.2 ⟨rs[k],by rw [List.drop_eq_getElem_cons hk];exact List.mem_cons_self,rfl⟩) rfl
theorem Zm4 (w:World):(zeroValue 4).run prog w=.ok (.bool false) w:=by kernel_rfl
theorem Zb5 {P:Program}(w:World){B:Array Oper}{rest:List Oper}{o:Oper}{a:Act}{Q:Exit->Act->World->Prop}(F:o.guard=none)(m x v:Operand)(t:TypeId)(J:o.op=Op.mapUpdate t m x v)(k e:TypeId)(M:P.underlying t=some (.map k e))(hk:P.underlying k=some (.int .i64)) (r:Nat) (I:a.eval m=.map (some r)) (L:List (Int × Value)) (h:Z3a w r L) (n:Int) (val:Value) (D:a.eval x=int i64 n) (N:a.eval v=val) (C:∀ p∈L,p.1≠n) (O:∀ w',Z3a w' r (L++[(n,val)])->w.grownBy w' (some r)->wpList P B Q rest (a.put o.dst undef) w'):wpList P B Q (o::rest) a w:=by
 refine Z5p w F m x v t J k e M hk r (esOf L 0).toArray L.length I h n val D N (Z2D n L 0 0 C) ?_;intro w' G H;refine O w' ?_ H;simp [Z3a,G,Z8z]
def VlL (w:World)(rs:List Rt)(i:Value)(wr:World):Prop := ∃ k:Nat,k<=rs.length/\i=int i64 k/\Below w.heap.size w wr/\Z3a wr w.heap.size (Zd3 rs k)/\Zm3 rs k
theorem Zab (rs:List Rt)(v:Value)(w:World)(f:RtsV w w.heap.size v rs):Calls prog 60 #[v] w λe w'=>e=.returned (.bool (useB rs))/\Below w.heap.size w w':=by
 obtain ⟨A,c,rfl,_⟩:=id f;have HV:=zh f;clear f;by_cases hl:100<rs.length
 · have B:useB rs=false:=by simp [useB];omega
   have d:decide ((100:Int)<(rs.length:Int))=true:=by simp;omega
   have D:=zh B;clear B;go_enter func60,ntmps60;go_wp2_with fail;go_ret;rw [D.out];exact ⟨rfl,zr _ _⟩
 · have d:decide ((100:Int)<(rs.length:Int))=false:=by simp;omega
   have bx:=@run_makeMap prog;have h0:=Z3a.new w;have q:Below w.heap.size w (w.alloc (.map #[] 0)):=(zr _ _).alloc (zn _) _;have H0:=zh h0;have G0:=zh q;clear h0 q;go_enter func60,ntmps60;go_wp2_with fail;go_loopw [14] (λi wr=>VlL w rs i wr) (λi _=>rs.length - (intOf i).toNat)
   case atStart=>exact ⟨0,by omega,rfl,G0.out,H0.out,λj h hj=>absurd hj (by omega),by simp⟩
   case round =>
    obtain ⟨k,hk,rfl,hb,hm,L⟩:=hrel;have N:=zh hb;have m:=zh hm;have HG:=zh L;clear hb hm L;by_cases hlt:k<rs.length
    · obtain ⟨g,o,U,X,V,O,rfl,bz,f1,f2,hc⟩:=Z4q (HV.out.on N.out) hlt;have bv:=N.out.size;have hns:Z15 rs[k]≠0->useB rs=false:=Zg5 hlt;have bf:rs[k].id∈(rs.take k).map Rt.id->useB rs=false:=ZpF hlt;have bc:=Zd4 HG.out hlt;have bg:=Zm1 rs k hlt;generalize rs[k]=r at *
      have HC:=zh (Z5w hc);have dk:decide ((k:Int)<(rs.length:Int))=true:=by simpa using hlt
      have F1:=zh f1;have F2:=zh f2;have bq:=zh hns;have bn:=zh bf;have bh:=zh bc;have bk:=zh bg;clear f1 f2 hns bf bc bg hc;go_wp2_with (first | (with_reducible refine Z2w rfl _ rfl g (o+k*16) rfl _ rfl HC.out ?_) | (with_reducible refine Z3D rfl _ rfl wr.heap.size rfl _ rfl (za wr _) ?_) | (with_reducible refine Z3u rfl _ _ rfl _ _ rfl rfl rfl rfl (by rfl) ?_));have F:=(zr wr.heap.size wr).alloc (zn _) (.cells #[int i64 r.id,int i64 r.lv,int i64 r.kd,int i64 r.fr,int i64 r.un,int i64 r.ls,int i64 r.mo,int i64 r.ar,int i64 r.kn,int i64 r.kq,int i64 r.wo,int i64 r.wn,slice U (flen r.wl) V,int i64 r.po,int i64 r.pn,slice X (flen r.pl) O] 65);have bb:=Z00 N.out F;have y:=m.out.on F;have hx:=za wr (.cells #[int i64 r.id,int i64 r.lv,int i64 r.kd,int i64 r.fr,int i64 r.un,int i64 r.ls,int i64 r.mo,int i64 r.ar,int i64 r.kn,int i64 r.kq,int i64 r.wo,int i64 r.wn,slice U (flen r.wl) V,int i64 r.po,int i64 r.pn,slice X (flen r.pl) O] 65);have ba:=ZkH r (slice U (flen r.wl) V) (slice X (flen r.pl) O) _ ((F1.out.on (F.mono (by omega))).up (by simp;omega)) ((F2.out.on (F.mono (by omega))).up (by simp;omega));have Z:=zh F;have S:=zh bb;have R:=zh y;have M:=zh hx;have T:=zh ba;clear F bb y hx ba N m;generalize br:wr.alloc (.cells #[int i64 r.id,int i64 r.lv,int i64 r.kd,int i64 r.fr,int i64 r.un,int i64 r.ls,int i64 r.mo,int i64 r.ar,int i64 r.kn,int i64 r.kq,int i64 r.wo,int i64 r.wn,slice U (flen r.wl) V,int i64 r.po,int i64 r.pn,slice X (flen r.pl) O] 65)=w2 at *
      clear br;refine T.out.mono ?_;rintro e w3 ⟨rfl,G⟩;have H:=Z00 S.out G;have C:=R.out.on G;have Y:=(G.block _ (zs M.out)).trans M.out;have q0:w3.cell? ⟨wr.heap.size,0,none⟩=some (int i64 r.id):=by rw [zc Y];rfl
      by_cases he:Z15 r=0
      · have b0:(Z15 r==0)=true:=by simpa using he
        by_cases hid:r.id∈(rs.take k).map Rt.id
        · obtain ⟨L1,L2,hL,I⟩:=ZhA hid;rw [hL] at C;have bp:=Zb4 underlying132 underlying3 C I;have B:=bn.out hid;have D:=zh B;have J:=zh H;clear B H T R S M Z Y G C hid he I hL;go_wp2_with fail;go_ret;rw [D.out];exact ⟨rfl,J.out⟩
        · have I:=Zm2 hid;have bp:=Zeq underlying132 underlying3 C I (Zm4 w3);have L:=bh.out he hid;have J:=zh H;have bm:=zh C;have HN:=zh I;have bs:=zh L;clear H C I L T R S M Z Y G hid he;go_wp2_with (with_reducible refine Zb5 _ rfl _ _ _ 132 rfl _ _ underlying132 underlying3 w.heap.size rfl _ bm.out r.id (.bool true) rfl rfl HN.out ?_;intro w4 l be);rw [<- bk.out] at l;have bd:=J.out.trans (Z0a be J.out.size (zn _));have bu:=zh l;have bj:=zh bd;clear l bd be;go_wp2_with fail;go_roundw
          case rel=>exact ⟨k+1,by omega,by go_num,bj.out,bu.out,bs.out⟩
          case measure=>simp [intOf];omega
      · have b0:(Z15 r==0)=false:=by simpa using he
        have B:=bq.out he;have D:=zh B;have J:=zh H;clear B H T R S M Z Y G C he;go_wp2_with fail;go_ret;rw [D.out];exact ⟨rfl,J.out⟩
    · have bt:k=rs.length:=by omega
      subst bt;have B:=Zg4 HG.out (by omega);have dk:decide ((rs.length:Int)<(rs.length:Int))=false:=by simp
      have D:=zh B;clear B;go_wp2_with fail;go_ret;rw [D.out];exact ⟨rfl,N.out⟩
end
end Go.Proofs.YtnepkoepbapgeaaGreatDoor
