/-
  Several texts in one: QuoTyp6, QuoLaw, QuoLd.
-/
import Derived.Test.YtnepkoepbapgeaaGreatDoorQuoTyp5
import Derived.Test.YtnepkoepbapgeaaGreatDoorQuoPlain
import Derived.Test.YtnepkoepbapgeaaGreatDoorQuoTyp1
import Derived.Laws.Rows
namespace Go.Proofs.YtnepkoepbapgeaaGreatDoor
set_option maxRecDepth 100000
section
open Go.RowKit Lx Px Qx
theorem Z3r {r:Rt}(h:Z3D r=true):Z0d r.wo r.wn r.wl=true∧Z0d r.po r.pn r.pl=true:=by
 rw [Ze7] at h;simp only [Bool.and_eq_true] at h;exact ⟨h.1.2,h.2⟩
set_option maxHeartbeats 4000000 in
theorem Zht (r:Rt)(wv pv:Value)(w:World)(hwv:FoV w w.heap.size wv r.wl)(hpv:FoV w w.heap.size pv r.pl):Calls Tryz.prog 98 #[rtV r wv pv] w fun e w'=>e=.returned (.tuple #[.bool (Z11 r==0),.int .i64 (Z11 r)])∧Below w.heap.size w w':=by
 have hfo:=fun W h1 h2=>ZcG r wv pv W h1 h2
 obtain ⟨WA,wk,rfl,_⟩:=id hwv
 obtain ⟨PA,pc,rfl,_⟩:=id hpv
 have S0:=RB.new w #[.int .i64 r.id,.int .i64 r.lv,.int .i64 r.kd,.int .i64 r.fr,.int .i64 r.un,.int .i64 r.ls,.int .i64 r.mo,.int .i64 r.ar,.int .i64 r.kn,.int .i64 r.kq,.int .i64 r.wo,.int .i64 r.wn,.slice WA (flen r.wl) wk,.int .i64 r.po,.int .i64 r.pn,.slice PA (flen r.pl) pc]
 have hE:Z11 r=if Z3D r then (if typE (r.wo,r.wn) r.wl=3∧typE (r.po,r.pn) r.pl=2 then 0 else 20) else 1:=rfl
 have hv:=@Z3r r
 rw [rtV] at hfo ⊢
 have S:=zh S0;have HW:=zh hwv;have HP:=zh hpv;have HF:=zh hfo;have HE:=zh hE;have HV:=zh hv;clear S0 hwv hpv hfo hE hv;go_enter Tryz.func98,Tryz.ntmps98
 go_upto_region 1 with fail
 generalize w.alloc (.cells #[.int .i64 r.id,.int .i64 r.lv,.int .i64 r.kd,.int .i64 r.fr,.int .i64 r.un,.int .i64 r.ls,.int .i64 r.mo,.int .i64 r.ar,.int .i64 r.kn,.int .i64 r.kq,.int .i64 r.wo,.int .i64 r.wn,.slice WA (flen r.wl) wk,.int .i64 r.po,.int .i64 r.pn,.slice PA (flen r.pl) pc] 65)=w0 at *
 have e0:=S.out.cell 0 _ rfl
 have e1:=S.out.cell 1 _ rfl
 have e2:=S.out.cell 2 _ rfl
 have e3:=S.out.cell 3 _ rfl
 have e4:=S.out.cell 4 _ rfl
 have e5:=S.out.cell 5 _ rfl
 have e6:=S.out.cell 6 _ rfl
 have e7:=S.out.cell 7 _ rfl
 have e8:=S.out.cell 8 _ rfl
 have e9:=S.out.cell 9 _ rfl
 have e10:=S.out.cell 10 _ rfl
 have e11:=S.out.cell 11 _ rfl
 have e12:=S.out.cell 12 _ rfl
 have e13:=S.out.cell 13 _ rfl
 have e14:=S.out.cell 14 _ rfl
 have e15:=S.out.cell 15 _ rfl
 go_wp2_with fail;refine (HF.out _ ((HW.out.on S.out.2).up S.out.2.size) ((HP.out.on S.out.2).up S.out.2.size)).mono ?_
 rintro e w1 ⟨rfl,hb⟩;have S1:=S.out.on hb
 clear e0 e1 e2 e3 e4 e5 e6 e7 e8 e9 e10 e11 e12 e13 e14 e15 S hb HF;have S:=zh S1;clear S1;cases hf:Z3D r with
 | false =>
  have h1:Z11 r=1:=by rw [HE.out,hf];rfl
  have H1:=zh h1;have HFF:=zh hf;clear h1 hf;go_wp2_with fail;go_ret2
  rw [H1.out]
  exact ⟨rfl,S.out.2⟩
 | true =>
  obtain ⟨v1,v2⟩:=HV.out hf
  obtain ⟨z1,i1⟩:∃ z,Z3b (r.wo,r.wn) r.wl=(typE (r.wo,r.wn) r.wl,z):=⟨_,by unfold Z3b;rw [if_pos v1]⟩
  obtain ⟨z2,i2⟩:∃ z,Z3b (r.po,r.pn) r.pl=(typE (r.po,r.pn) r.pl,z):=⟨_,by unfold Z3b;rw [if_pos v2]⟩
  have hE2:Z11 r=if typE (r.wo,r.wn) r.wl=3∧typE (r.po,r.pn) r.pl=2 then 0 else 20:=by rw [HE.out,hf];rfl
  have e10:=S.out.cell 10 _ rfl
  have e11:=S.out.cell 11 _ rfl
  have e12:=S.out.cell 12 _ rfl
  have I1:=zh i1;have I2:=zh i2;have HE2:=zh hE2;have V1:=zh v1;have V2:=zh v2;have HFF:=zh hf;clear i1 i2 hE2 v1 v2 hf HE HV;go_wp2_with fail;refine (Zbs r.wo r.wn r.wl (.slice WA (flen r.wl) wk) _ ((HW.out.on S.out.2).up S.out.2.size)).mono ?_
  rintro e w2 ⟨rfl,hb⟩;have S2:=S.out.on hb
  clear e10 e11 e12 S hb;have S:=zh S2;clear S2;have e13:=S.out.cell 13 _ rfl
  have e14:=S.out.cell 14 _ rfl
  have e15:=S.out.cell 15 _ rfl
  rw [I1.out]
  go_wp2_with fail;refine (Zbs r.po r.pn r.pl (.slice PA (flen r.pl) pc) _ ((HP.out.on S.out.2).up S.out.2.size)).mono ?_
  rintro e w3 ⟨rfl,hb⟩;have S3:=S.out.on hb
  clear e13 e14 e15 S hb;have S:=zh S3;clear S3;rw [I2.out]
  clear I1 I2;generalize typE (r.wo,r.wn) r.wl=x at *
  generalize typE (r.po,r.pn) r.pl=y at *
  by_cases hx:x=3
  · subst hx
    by_cases hy:y=2
    · subst hy
      have hr:Z11 r=0:=by rw [HE2.out];rfl
      have HR:=zh hr;clear hr;go_wp2_with fail;go_ret2
      rw [HR.out]
      exact ⟨rfl,S.out.2⟩
    · have hr:Z11 r=20:=by rw [HE2.out,if_neg (fun h=>hy h.2)]
      have dy:(y==2)=false:=by simpa using hy
      have dy2:(y != 2)=true:=by simpa using hy
      have HR:=zh hr;have HY:=zh hy;clear hr hy;go_wp2_with fail;go_ret2
      rw [HR.out]
      exact ⟨rfl,S.out.2⟩
  · have hr:Z11 r=20:=by rw [HE2.out,if_neg (fun h=>hx h.1)]
    have dx:(x==3)=false:=by simpa using hx
    have dx2:(x != 3)=true:=by simpa using hx
    have HR:=zh hr;have HX:=zh hx;clear hr hx;go_wp2_with fail;go_ret2
    rw [HR.out]
    exact ⟨rfl,S.out.2⟩
end
section
open Lx Px
namespace Qx
theorem Z1b {n d:Int}(h:ratB n d=true):1≤d∧d≤1000000∧-1000000000≤n∧n≤1000000000∧Nat.gcd n.natAbs d.natAbs=1:=by
 simp [ratB] at h;obtain ⟨⟨⟨⟨a,b⟩,c⟩,e⟩,g⟩:=h;exact ⟨a,b,c,e,g⟩
theorem Z6d {n d p q:Int}(hd:1≤d)(h:ratV n d=.ok p q):ratB p q=true:=by
 unfold ratV at h
 split at h
 · cases h
 · rename_i hc
   simp only [V.ok.injEq] at h
   obtain ⟨rfl,rfl⟩:=h
   have hg:0<Nat.gcd n.natAbs d.natAbs:=Nat.gcd_pos_of_pos_right _ (by omega)
   have hgcd:Nat.gcd (n.natAbs / Nat.gcd n.natAbs d.natAbs) (d.natAbs / Nat.gcd n.natAbs d.natAbs)=1:=Nat.gcd_div_gcd_div_gcd_of_pos_right (by omega)
   have hgd:=Nat.gcd_dvd_right n.natAbs d.natAbs
   unfold redN redD at *
   have e1:(n.tdiv (Nat.gcd n.natAbs d.natAbs:Nat)).natAbs=n.natAbs / Nat.gcd n.natAbs d.natAbs:=by rw [Int.natAbs_tdiv,Int.natAbs_natCast];rfl
   have e2:(d.tdiv (Nat.gcd n.natAbs d.natAbs:Nat)).natAbs=d.natAbs / Nat.gcd n.natAbs d.natAbs:=by rw [Int.natAbs_tdiv,Int.natAbs_natCast];rfl
   have e3:0<d.natAbs / Nat.gcd n.natAbs d.natAbs:=Nat.div_pos (Nat.le_of_dvd (by omega) hgd) hg
   have e4:0≤d.tdiv (Nat.gcd n.natAbs d.natAbs:Nat):=Int.tdiv_nonneg (by omega) (by omega)
   rw [← e1,← e2] at hgcd
   rw [← e2] at e3
   generalize n.tdiv (Nat.gcd n.natAbs d.natAbs:Nat)=p at *
   generalize d.tdiv (Nat.gcd n.natAbs d.natAbs:Nat)=q at *
   simp only [ratB,Bool.and_eq_true,decide_eq_true_eq,beq_iff_eq]
   omega
theorem Z55 {n d p q:Int}(hd:d≠0)(h:Z2F n d=.ok p q):ratB p q=true:=by
 unfold Z2F at h
 split at h
 · exact Z6d (by omega) h
 · exact Z6d (by omega) h
theorem Z8C {b:Bool}{p q:Int}(h:truV b=.ok p q):ratB p q=true:=by
 cases b <;> (simp only [truV,Bool.false_eq_true,if_false,if_true,V.ok.injEq] at h;obtain ⟨rfl,rfl⟩:=h;decide)
theorem Zf2 {op a b c d p q:Int}(h1:ratB a b=true)(h2:ratB c d=true)(h:appV op a b c d=.ok p q):ratB p q=true:=by
 obtain ⟨b1,_,_,_,_⟩:=Z1b h1
 obtain ⟨d1,_,_,_,_⟩:=Z1b h2
 have hbd:1≤b*d:=Int.mul_pos (by omega) (by omega)
 unfold appV at h
 repeat' split at h
 all_goals first
  | exact Z6d hbd h
  | exact Z8C h
  | (simp only [V.ok.injEq] at h;obtain ⟨rfl,rfl⟩:=h;assumption)
  | skip
 unfold divV at h
 split at h
 · cases h
 · rename_i hc
   exact Z55 (Int.mul_ne_zero (by omega) hc) h
theorem Zb6 {v:Vs}{op n:Int}{x y z:V}(hx:∀ p q,x=.ok p q→ratB p q=true)(hy:∀ p q,y=.ok p q→ratB p q=true)(hz:∀ p q,z=.ok p q→ratB p q=true){p q:Int}(h:opV v op n x y z=.ok p q):ratB p q=true:=by
 unfold opV at h
 split at h
 · exact Z55 (by decide) h
 · split at h
   · exact Z55 (by decide) h
   · cases x with
     | no e=>cases h
     | ok a b =>
      simp only at h
      split at h
      · exact Z8C h
      · split at h
        · split at h
          · exact hy _ _ h
          · exact hz _ _ h
        · cases y with
          | no e=>cases h
          | ok c d=>exact Zf2 (hx _ _ rfl) (hy _ _ rfl) h
theorem Z4n (v:Vs):∀ (f:Fo) (k:Nat) (p q:Int),valF v f k=.ok p q→ratB p q=true:=by
 intro f
 induction f with
 | nil=>intro k p q h;simp [valF] at h
 | node b o a l r ihl ihr =>
  intro k p q h
  cases k with
  | zero=>exact Zb6 (ihl 0) (ihl 1) (ihl 2) h
  | succ k=>exact ihr k p q h
theorem Z8D {v:Vs}{a:Int × Int}{l:Fo}{p q:Int}(h:valE v a l=.ok p q):ratB p q=true :=
 Zb6 (Z4n v l 0) (Z4n v l 1) (Z4n v l 2) h
theorem Zdt {n d e:Int}(h:ratV n d=.no e):e=3∨e=22:=by
 unfold ratV at h
 split at h
 · simp only [V.no.injEq] at h;omega
 · cases h
theorem Z45 {n d e:Int}(h:Z2F n d=.no e):e=3∨e=22:=by
 unfold Z2F at h
 split at h <;> exact Zdt h
theorem Zdu {b:Bool}{e:Int}(h:truV b=.no e):e=3∨e=22:=by cases b <;> simp [truV] at h
theorem Z5t {op a b c d e:Int}(h:appV op a b c d=.no e):e=3∨e=22:=by
 unfold appV at h
 repeat' split at h
 all_goals first
  | exact Zdt h
  | exact Zdu h
  | (cases h;done)
  | skip
 unfold divV at h
 split at h
 · simp only [V.no.injEq] at h;omega
 · exact Z45 h
theorem Zhu {v:Vs}{op n:Int}{x y z:V}(hx:∀ e,x=.no e→e=3∨e=22)(hy:∀ e,y=.no e→e=3∨e=22)(hz:∀ e,z=.no e→e=3∨e=22){e:Int}(h:opV v op n x y z=.no e):e=3∨e=22:=by
 unfold opV at h
 split at h
 · exact Z45 h
 · split at h
   · exact Z45 h
   · cases x with
     | no e'=>simp only [V.no.injEq] at h;subst h;exact hx _ rfl
     | ok a b =>
      simp only at h
      split at h
      · exact Zdu h
      · split at h
        · split at h
          · exact hy _ h
          · exact hz _ h
        · cases y with
          | no e'=>simp only [V.no.injEq] at h;subst h;exact hy _ rfl
          | ok c d=>exact Z5t h
theorem Z9A (v:Vs):∀ (f:Fo) (k:Nat) (e:Int),valF v f k=.no e→e=3∨e=22:=by
 intro f
 induction f with
 | nil=>intro k e h;simp only [valF,V.no.injEq] at h;omega
 | node b o a l r ihl ihr =>
  intro k e h
  cases k with
  | zero=>exact Zhu (ihl 0) (ihl 1) (ihl 2) h
  | succ k=>exact ihr k e h
theorem Z4p {v:Vs}{a:Int × Int}{l:Fo}{e:Int}(h:valE v a l=.no e):e=3∨e=22 :=
 Zhu (Z9A v l 0) (Z9A v l 1) (Z9A v l 2) h
theorem Z8E {n d m:Int}(hd:1≤d)(h0:0≤n)(h1:n≤m*d):0≤rndE n d∧rndE n d≤m:=by
 have e:=Int.mul_ediv_add_emod n d
 have r0:=Int.emod_nonneg n (show d≠0 by omega)
 have r1:=Int.emod_lt_of_pos n (show 0<d by omega)
 have q0:0≤n / d:=Int.ediv_nonneg h0 (by omega)
 have q1:n / d≤m:=by
  have:=Int.ediv_le_ediv (show 0<d by omega) h1
  rwa [Int.mul_ediv_cancel _ (by omega)] at this
 have q2:n % d≠0→n / d<m:=by
  intro hr
  by_cases c:n / d=m
  · rw [c,Int.mul_comm] at e;omega
  · omega
 unfold rndE
 split
 · have:=q2 (by omega);omega
 · omega
theorem Znd {n d:Int}(hd:1≤d)(h1:n≤1000000000):rndE n d≤1000000000:=by
 have e:=Int.mul_ediv_add_emod n d
 have r0:=Int.emod_nonneg n (show d≠0 by omega)
 have r1:=Int.emod_lt_of_pos n (show 0<d by omega)
 by_cases c:n / d<1000000000
 · unfold rndE;split <;> omega
 · have h2:1000000000≤n / d:=by omega
   have h3:d*1000000000≤d*(n / d):=Int.mul_le_mul_of_nonneg_left h2 (by omega)
   have hd1:d=1:=by omega
   subst hd1;unfold rndE;split <;> omega
theorem Z21 {r:Rt}(h:Z11 r=0):Z3D r=true:=by
 unfold Z11 at h
 cases hf:Z3D r with
 | true=>rfl
 | false=>rw [hf] at h;simp at h
theorem Z7B {n:Int}{r:Rt}(h0:0≤n)(hf:Z3D r=true):0≤Z9D n r∧Z9D n r≤n:=by
 simp only [Z3D,Bool.and_eq_true,decide_eq_true_eq] at hf
 have hq:=Z1b hf.1.1.1.1.1.1.1.2
 have hk:=hf.1.1.1.1.1.1.2
 have hk2:=hf.1.1.1.1.1.2
 exact Z8E hq.1 (Int.mul_nonneg h0 hk) (Int.mul_le_mul_of_nonneg_left hk2 h0)
def Bst (a:Ask)(night:Int)(l:List Rt):Option Rt→Prop
 | none=>∀ r∈l,apR r a night≠1
 | some b=>b∈l∧apR b a night=1∧∀ r∈l,apR r a night=1→r.lv<b.lv∨r.lv=b.lv∧b.id≤r.id
theorem Zne (a:Ask)(night:Int):∀ (l pre:List Rt) (o o':Option Rt),Bst a night pre o→Z3u a night o l=.ok o'→Bst a night (pre++l) o':=by
 intro l
 induction l with
 | nil=>intro pre o o' h e;simp only [Z3u,Except.ok.injEq] at e;subst e;simpa using h
 | cons r l ih =>
  intro pre o o' h e
  unfold Z3u at e
  split at e
  · cases e
  · have hstep:Bst a night (pre++[r]) (if apR r a night=1∧Z49 r o=true then some r else o):=by
     split
     · rename_i hb
       obtain ⟨h1,h2⟩:=hb
       refine ⟨by simp,h1,?_⟩
       intro x hx hx1
       rw [List.mem_append,List.mem_singleton] at hx
       rcases hx with hx | rfl
       · cases o with
         | none=>exact absurd hx1 (h x hx)
         | some b =>
          have:=h.2.2 x hx hx1
          simp only [Z49,Bool.or_eq_true,Bool.and_eq_true,decide_eq_true_eq] at h2
          omega
       · omega
     · rename_i hb
       cases o with
       | none =>
        intro x hx
        rw [List.mem_append,List.mem_singleton] at hx
        rcases hx with hx | rfl
        · exact h x hx
        · intro h1;exact hb ⟨h1,rfl⟩
       | some b =>
        refine ⟨by simp [h.1],h.2.1,?_⟩
        intro x hx hx1
        rw [List.mem_append,List.mem_singleton] at hx
        rcases hx with hx | rfl
        · exact h.2.2 x hx hx1
        · have hb2:¬ Z49 x (some b)=true:=fun hc=>hb ⟨hx1,hc⟩
          simp only [Z49,Bool.or_eq_true,Bool.and_eq_true,decide_eq_true_eq] at hb2
          omega
    have:=ih (pre++[r]) _ o' hstep e
    simpa using this
theorem Zk9 (l:List Rt)(seen:List Int):useL seen l=true ↔ (∀ r∈l,Z11 r=0)∧(l.map Rt.id).Nodup∧∀ r∈l,r.id ∉ seen:=by
 induction l generalizing seen with
 | nil=>simp [useL]
 | cons r l ih =>
  simp only [useL,Bool.and_eq_true,beq_iff_eq,Bool.not_eq_true',ih,List.mem_cons,forall_eq_or_imp,List.map_cons,List.nodup_cons,List.mem_map,not_or,not_exists,not_and]
  have hc:seen.contains r.id=false ↔ r.id ∉ seen:=by rw [← Bool.not_eq_true,List.contains_iff_mem]
  rw [hc]
  constructor
  · rintro ⟨⟨h1,h2⟩,h3,h4,h5⟩
    exact ⟨⟨h1,h3⟩,⟨fun x hx e=>(h5 x hx).1 e,h4⟩,h2,fun x hx=>(h5 x hx).2⟩
  · rintro ⟨⟨h1,h3⟩,⟨h6,h4⟩,h2,h5⟩
    exact ⟨⟨h1,h2⟩,h3,h4,fun x hx=>⟨fun e=>h6 x hx e,h5 x hx⟩⟩
theorem Z36 (l:List Rt):useB l=true ↔ l.length≤100∧(∀ r∈l,Z11 r=0)∧(l.map Rt.id).Nodup:=by
 simp [useB,Zk9]
theorem Z74 {l:List Rt}{a:Ask}{night c:Int}{r:Rt}(h:Z0v l a night=.ok c r):0≤c∧c≤1000000000∧r∈l:=by
 unfold Z0v at h
 cases hb:Z3u a night none l with
 | error e=>rw [hb] at h;cases h
 | ok o =>
  rw [hb] at h
  cases o with
  | none=>cases h
  | some r' =>
   have b1:=Zne a night l [] none (some r') (fun r h=>absurd h (by simp)) hb
   simp only at h
   cases hv:valE (Z1d a night) (r'.po,r'.pn) r'.pl with
   | no e=>rw [hv] at h;cases h
   | ok n d =>
    rw [hv] at h
    simp only at h
    split at h
    · cases h
    · rename_i hc
      simp only [N.ok.injEq] at h
      obtain ⟨rfl,rfl⟩:=h
      obtain ⟨d1,_,_,n1,_⟩:=Z1b (Z8D hv)
      exact ⟨by omega,Znd d1 n1,by simpa using b1.1⟩
theorem Zb7 {l:List Rt}{a:Ask}(hf:∀ r∈l,Z11 r=0):∀ (k:Nat) (night:Int) (cs:List Int) (kp:Int),Z0a l a k night=.ok (cs,kp) →
 cs.length=k∧0≤kp∧kp≤cs.sum∧cs.sum≤k*1000000000∧∀ i (h:i<cs.length),∃ r,Z0v l a (night+i)=.ok cs[i] r:=by
 intro k
 induction k with
 | zero=>intro night cs kp h;simp only [Z0a,Except.ok.injEq,Prod.mk.injEq] at h;obtain ⟨rfl,rfl⟩:=h;simp
 | succ k ih =>
  intro night cs kp h
  unfold Z0a at h
  cases hn:Z0v l a night with
  | no e=>rw [hn] at h;cases h
  | ok c r =>
   rw [hn] at h
   cases hr:Z0a l a k (night+1) with
   | error e=>rw [hr] at h;cases h
   | ok p =>
    obtain ⟨cs',kp'⟩:=p
    rw [hr] at h
    simp only [Except.ok.injEq,Prod.mk.injEq] at h
    obtain ⟨rfl,rfl⟩:=h
    obtain ⟨i1,i2,i3,i4,i5⟩:=ih (night+1) cs' kp' hr
    obtain ⟨c0,c1,c2⟩:=Z74 hn
    obtain ⟨p0,p1⟩:=Z7B c0 (Z21 (hf r c2))
    refine ⟨by simp [i1],by omega,by simp only [List.sum_cons];omega,by simp only [List.sum_cons];omega,?_⟩
    intro i hi
    cases i with
    | zero=>exact ⟨r,by simpa using hn⟩
    | succ i =>
     obtain ⟨r',hr'⟩:=i5 i (by simpa using hi)
     refine ⟨r',?_⟩
     rw [show night+((i+1:Nat):Int)=night+1+(i:Int) by omega]
     simpa using hr'
end Qx
end
section
open Go.RowKit Lx Px
theorem Z10 {P:Program}(w:World)(g o:Nat)(ty:TypeId)(cs:Array Value)(d:TypeDesc)(hc:∀ j v,cs[j]?=some v→w.cell? ⟨g,o+j,none⟩=some v)
 (hu:P.underlying ty=some d) (hd:(match d with | .struct _ | .array _ _=>true | _=>false)=true) (hi:(P.info? ty).map (·.size)=some cs.size) :
 (loadVar ty ⟨g,o,none⟩).run P w=.ok (.agg cs) w:=by
 have hl:(loadCells ⟨g,o,none⟩ cs.toList.length).run P w=.ok cs.toList.toArray w :=
  run_loadCells_list (P:=P) w ⟨g,o,none⟩ cs.toList (fun j v hv=>by
   have hadd:(⟨g,o,none⟩:Addr).add j=⟨g,o+j,none⟩:=by unfold Addr.add;split <;> simp_all
   rw [hadd]
   exact hc j v (by simpa using hv))
 cases hq:P.info? ty with
 | none=>simp [hq] at hi
 | some i =>
  have hs:i.size=cs.size:=by simpa [hq] using hi
  have hagg:(isAgg ty).run P w=.ok true w:=by
   unfold isAgg
   rw [Sem.run_bind,run_underlying hu w]
   cases d <;> simp_all
  simp only [Array.length_toList,Array.toArray_toList] at hl
  simp [loadVar,Sem.run_bind,hagg,sizeOf,typeInfo,hq,hs,hl]
theorem Tryz.infoRateSz:(Tryz.prog.info? 65).map (·.size)=some 16:=by kernel_rfl
theorem Z3c {ops:Array Oper}{rest:List Oper}{op:Oper}{a:Act}{w:World}{Q:Exit→Act→World→Prop}(hgd:op.guard=none)(x:Operand)(ho:op.op=.load 65 x)
 (g o:Nat) (hx:a.eval x=.pointer (some ⟨g,o,none⟩)) (cs:Array Value) (hs:cs.size=16) (hc:∀ j v,cs[j]?=some v→w.cell? ⟨g,o+j,none⟩=some v)
 (h:wpList Tryz.prog ops Q rest (a.put op.dst (.agg cs)) w):wpList Tryz.prog ops Q (op::rest) a w:=by
 refine wpList_plain hgd fun _ hK=>?_
 have hr:=Z10 w g o 65 cs _ hc Tryz.underlying65 rfl (by rw [Tryz.infoRateSz,hs])
 unfold Oper.wp execOp
 simp only [ho,hx,Instr.loadAt,Instr.sureAddr,Sem.run_bind,Sem.run_pure,Result.andThen_ok,hr]
 exact hK _ _ h
theorem Z8a {ops:Array Oper}{rest:List Oper}{op:Oper}{a:Act}{w:World}{Q:Exit→Act→World→Prop}(hgd:op.guard=none)(x:Operand)(ho:op.op=.load 65 x)
 (g:Nat) (hx:a.eval x=.pointer (some ⟨g,0,none⟩)) (cs:Array Value) (hs:cs.size=16) (hg:w.heap[g]?=some (.cells cs 65 (0,0)))
 (h:wpList Tryz.prog ops Q rest (a.put op.dst (.agg cs)) w):wpList Tryz.prog ops Q (op::rest) a w :=
 wpList_load_row hgd 65 x ho g hx _ cs _ _ hg Tryz.underlying65 rfl (by rw [Tryz.infoRateSz,hs]) h
theorem Z2d (w:World)(zs cs:Array Value)(t:TypeId):(w.alloc (.cells zs t (0,0))).setRow w.heap.size cs=w.alloc (.cells cs t (0,0)):=by
 unfold World.setRow World.alloc
 simp only
 congr 1
 apply Array.ext_getElem?
 intro k
 rw [Array.getElem?_modify]
 by_cases hk:w.heap.size=k
 · subst hk;simp
 · rw [if_neg hk,Array.getElem?_push,Array.getElem?_push,if_neg (fun e=>hk e.symm),if_neg (fun e=>hk e.symm)]
theorem Z2E {ops:Array Oper}{rest:List Oper}{op:Oper}{a:Act}{w:World}{Q:Exit→Act→World→Prop}(hgd:op.guard=none)(x y:Operand)(ho:op.op=.store 65 x y)
 (zs cs:Array Value) (hx:a.eval x=.pointer (some ⟨w.heap.size,0,none⟩)) (hy:a.eval y=.agg cs) (hz:zs.size=16) (hs:cs.size=16) (h1:cs.all (·.oneCell')=true)
 (h:wpList Tryz.prog ops Q rest (a.put op.dst undef) (w.alloc (.cells cs 65))):wpList Tryz.prog ops Q (op::rest) a (w.alloc (.cells zs 65)):=by
 refine wpList_store_row hgd 65 x y ho w.heap.size cs hx hy _ zs (za w _) (by rw [Tryz.infoRateSz,hs]) (by omega) h1 ?_
 rw [Z2d]
 exact h
end
end Go.Proofs.YtnepkoepbapgeaaGreatDoor
