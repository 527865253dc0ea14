/-
  Several texts in one: PrtRat, PrtNum.
-/
import Derived.Test.YtnepkoepbapgeaaGreatDoorPrtTwo
import Derived.Laws.EntriesVeiled
namespace Go.Proofs.YtnepkoepbapgeaaGreatDoor
set_option maxHeartbeats 2000000
set_option maxRecDepth 100000
section
open Go.RowKit Lx Px
namespace Px
def ratB (n d:Int):Bool:=decide (1≤d)&&decide (d≤1000000)&&decide (-1000000000≤n)&&decide (n≤1000000000)&&(Nat.gcd n.natAbs d.natAbs==1)
theorem Z9r (a b:Nat)(_h:0<b):Nat.gcd a b=Nat.gcd b (a % b):=by
 rw [Nat.gcd_comm a b,Nat.gcd_rec b a,Nat.gcd_comm]
end Px
theorem ZmD {n d:Int}{g:Nat}(hg:0<g)(hd:1≤d):(n.tdiv g=n∧d.tdiv g=d) ↔ g=1:=by
 constructor
 · rintro ⟨_,h⟩
   rw [Int.tdiv_eq_ediv_of_nonneg (by omega)] at h
   by_cases h1:g=1
   · exact h1
   · have:=Int.ediv_lt_self_of_pos_of_ne_one (x:=d) (y:=g) (by omega) (by omega)
     omega
 · rintro rfl
   simp
theorem Zjf (a b:Nat)(w:World)(ha:a≤2000000000)(hb:b≤2000000000):Calls Tryz.prog 166 #[.int .i64 a,.int .i64 b] w fun e w'=>e=.returned (.int .i64 (Nat.gcd a b))∧w=w':=by
 go_enter Tryz.func166,Tryz.ntmps166
 go_wp2_with fail;go_loop [0,1] (fun x y=>∃ p q:Nat,x=.int .i64 p∧y=.int .i64 q∧p≤2000000000∧q≤2000000000∧Hid (Nat.gcd p q=Nat.gcd a b)) (fun _ y=>(intOf y).toNat)
 case atStart=>exact ⟨a,b,rfl,rfl,ha,hb,rfl⟩
 case round =>
  obtain ⟨p,q,rfl,rfl,hp,hq,HG⟩:=hrel
  by_cases h0:0<q
  · have t:((q:Int) != 0)=true:=by simp;omega
    have hr:p % q<q:=Nat.mod_lt _ h0
    have hc:((p:Int) % (q:Int))=((p % q:Nat):Int):=by simp
    go_wp2_with fail;go_round
    case rel=>exact ⟨q,p % q,rfl,by first | rfl | simp,hq,by omega,by rw [← HG.out,Z9r p q h0];rfl⟩
    case measure=>simp [intOf];omega
  · have t:((q:Int) != 0)=false:=by simp;omega
    have hq0:q=0:=by omega
    have hg:=HG.out
    rw [hq0,Nat.gcd_zero_right] at hg
    have HG2:=zh hg;clear hg HG hq0;go_wp2_with fail;go_ret
    rw [← HG2.out]
    exact ⟨rfl,rfl⟩
theorem Zjg (n:Int)(w:World)(h0 : -1000000000≤n)(h1:n≤1000000000):Calls Tryz.prog 167 #[.int .i64 n] w fun e w'=>e=.returned (.int .i64 (n.natAbs:Nat))∧w=w':=by
 by_cases h:n<0
 · have d:decide (n<0)=true:=by simpa using h
   go_enter Tryz.func167,Tryz.ntmps167
   go_wp2_with fail;go_ret
   exact ⟨Z71 (by omega),rfl⟩
 · have d:decide (n<0)=false:=by simpa using h
   go_enter Tryz.func167,Tryz.ntmps167
   go_wp2_with fail;go_ret
   exact ⟨Z71 (by omega),rfl⟩
theorem Zax (n:Int)(w:World)(h0 : -1000000000≤n)(h1:n≤1000000000):Calls Tryz.prog 113 #[.int .i64 n] w fun e w'=>e=.returned (.int .i64 (n.natAbs:Nat))∧w=w':=by
 go_enter Tryz.func113,Tryz.ntmps113
 go_wp2_with fail;go_ret
 exact ⟨Z71 (by omega),rfl⟩
theorem Zeq (k:Nat):∀ (a b:Nat) (p:Addr) (w:World),b≤k→a≤2000000000→b≤2000000000→w.cell? p=some (.func (.func 204) #[] #[.pointer (some p)]) →
 Calls Tryz.prog 204 #[.int .i64 a,.int .i64 b,.pointer (some p)] w fun e w'=>e=.returned (.int .i64 (Nat.gcd a b))∧∃ m,w'=w.drewN m:=by
 induction k with
 | zero =>
  intro a b p w hk ha hb hp
  have hb0:b=0:=by omega
  subst hb0;rw [Nat.gcd_zero_right]
  go_enter Tryz.func204,Tryz.ntmps204
  go_wp2_with fail;go_ret
  exact ⟨rfl,0,rfl⟩
 | succ k ih =>
  intro a b p w hk ha hb hp
  by_cases hb0:0<b
  · have t:((b:Int)==0)=false:=by simp;omega
    obtain ⟨r,hr⟩:∃ r,r=a % b:=⟨_,rfl⟩
    have hrb:r<b:=by rw [hr];exact Nat.mod_lt _ hb0
    have hc:((a:Int) % (b:Int))=(r:Int):=by rw [hr];simp
    have hc2:(a:Int).tmod (b:Int)=(r:Int):=by rw [Int.tmod_eq_emod_of_nonneg (by omega)];exact hc
    have hs:=Z9r a b hb0
    rw [← hr] at hs
    have HS:=zh hs;have HI:=zh ih;clear hs ih hr;have hz:¬ (b:Int)=0:=by omega
    have q0:(0:Int)≤(a:Int):=by omega
    go_enter Tryz.func204,Tryz.ntmps204
    go_wp2_with fail;go_quiet ((go_at_call 204;exact Calls.quiet_of (HI.out b r p _ (by omega) (by omega) (by omega) (by simpa using hp))))
    go_wp2_with fail;go_ret
    rw [HS.out]
    exact ⟨rfl,_,rfl⟩
  · have hb1:b=0:=by omega
    subst hb1;rw [Nat.gcd_zero_right]
    go_enter Tryz.func204,Tryz.ntmps204
    go_wp2_with fail;go_ret
    exact ⟨rfl,0,rfl⟩
theorem Z7q (n d:Int)(w:World)(h0 : -1000000000≤n)(h1:n≤1000000000)(h2:1≤d)(h3:d≤1000000) :
 Calls Tryz.prog 154 #[.agg #[.int .i64 n,.int .i64 d]] w fun e w'=>e=.returned (.agg #[.int .i64 (n.tdiv (Nat.gcd n.natAbs d.natAbs:Nat)),.int .i64 (d.tdiv (Nat.gcd n.natAbs d.natAbs:Nat))])∧Below w.heap.size w w':=by
 have hmf:∀ (fn:Fn) (first cap:Array Value) (w:World),(Instr.makeFunc fn first cap).run Tryz.prog w=.ok (.func fn first cap) w:=fun _ _ _ _=>rfl
 obtain ⟨dn,rfl⟩:=Int.eq_ofNat_of_zero_le (show 0≤d by omega)
 obtain ⟨g,hg⟩:∃ g,g=Nat.gcd n.natAbs dn:=⟨_,rfl⟩
 have hgpos:0<g:=by rw [hg];exact Nat.gcd_pos_of_pos_right _ (by omega)
 have hgle:g≤dn:=by rw [hg];exact Nat.le_of_dvd (by omega) (Nat.gcd_dvd_right _ _)
 rw [Int.natAbs_natCast,← hg]
 have HG:=zh hg;clear hg;have hgc:(Nat.gcd n.natAbs dn:Int)=(g:Int):=by rw [HG.out]
 go_enter Tryz.func154,Tryz.ntmps154
 go_wp2_with fail;go_quiet (first | (go_at_call 113;exact Calls.quiet_of_same ((Zax n _ h0 h1).mono fun _ _ h=>⟨h.1,h.2.symm⟩)) | (go_at_call 204;exact Calls.quiet_of (Zeq dn n.natAbs dn ⟨w.heap.size+1+1,0,none⟩ _ (zn _) (by omega) (by omega) (by simp [go_sem]))))
 go_wp2_with fail;rw [show n.natAbs.gcd dn=g from HG.out.symm]
 obtain ⟨W,hW⟩:∃ W,W=(((w.alloc (.cells #[.int .i64 n,.int .i64 dn] 158)).alloc (.cells #[.int .i64 0,.int .i64 0] 158)).alloc (.cells #[.func (.func 204) #[] #[.pointer (some ⟨w.heap.size+1+1,0,none⟩)]] 110)).drewN nq:=⟨_,rfl⟩
 rw [← hW]
 have c0:W.cell? ⟨w.heap.size,0,none⟩=some (.int .i64 n):=by rw [hW];simp [go_sem]
 have c1:W.cell? ⟨w.heap.size,1,none⟩=some (.int .i64 dn):=by rw [hW];simp [go_sem]
 have hblk:W.heap[w.heap.size+1]?=some (.cells #[.int .i64 0,.int .i64 0] 158 (0,0)):=by
  rw [hW];show (((w.alloc _).alloc _).alloc _).heap[w.heap.size+1]?=_
  have:=Z0z (za (w.alloc (.cells #[.int .i64 n,.int .i64 dn] 158)) (.cells #[.int .i64 0,.int .i64 0] 158)) (.cells #[.func (.func 204) #[] #[.pointer (some ⟨w.heap.size+1+1,0,none⟩)]] 110)
  simpa using this
 have hB:Below w.heap.size w W:=by
  rw [hW];exact Z0n ((((Below.refl _ _).alloc (zn _) _).alloc (by simp) _).alloc (by simp;omega) _) _
 have HBL:=zh hB;have HBK:=zh hblk;clear hW hB hblk hmf hgc;have hz:¬ g=0:=by omega
 go_still_tail 9,(by kernel_rfl)
 change wpList _ _ _ _ _ W.drew
 have hB2:=HBL.out.drew
 have hK2:W.drew.heap[w.heap.size+1]?=_:=HBK.out
 clear HBL HBK c0 c1;generalize W.drew=W2 at *
 have r0:W2.cell? ⟨w.heap.size+1,0,none⟩=some (.int .i64 0):=by rw [zc hK2];rfl
 have r1:W2.cell? ⟨w.heap.size+1,1,none⟩=some (.int .i64 0):=by rw [zc hK2];rfl
 have s0:=Lib.frozen_of_heap hK2 0
 have s1:=Lib.frozen_of_heap hK2 1
 have HB2:=zh hB2;have HK2:=zh hK2;clear hB2 hK2;go_wp2_with fail;have hq0:(0:Int)≤(dn:Int) / (g:Int):=Int.ediv_nonneg (by omega) (by omega)
 have hq1:(dn:Int) / (g:Int)≤(dn:Int):=Int.ediv_le_self _ (by omega)
 have hw:wrap64 ((dn:Int) / (g:Int))=(dn:Int).tdiv (g:Int):=by
  rw [IntWalk.wrap64_in _ ⟨by omega,by omega⟩,Int.tdiv_eq_ediv_of_nonneg (by omega)]
 rw [hw]
 have e0:((W2.setCell ⟨w.heap.size+1,0,none⟩ (.int .i64 (n.tdiv g))).setCell ⟨w.heap.size+1,1,none⟩ (.int .i64 ((dn:Int).tdiv g))).heap[w.heap.size+1]?=some (.cells #[.int .i64 (n.tdiv g),.int .i64 ((dn:Int).tdiv g)] 158 (0,0)):=by
  rw [Z2r (Z2r HK2.out _) _];rfl
 have hB3:Below w.heap.size w ((W2.setCell ⟨w.heap.size+1,0,none⟩ (.int .i64 (n.tdiv g))).setCell ⟨w.heap.size+1,1,none⟩ (.int .i64 ((dn:Int).tdiv g))) :=
  (HB2.out.setCell (p:=⟨w.heap.size+1,0,none⟩) (by show _≤_+1;omega) _).setCell (p:=⟨w.heap.size+1,1,none⟩) (by show _≤_+1;omega) _
 have HB3:=zh hB3;clear hw hq0 hq1 hB3 r0 r1 s0 s1;generalize (W2.setCell ⟨w.heap.size+1,0,none⟩ (.int .i64 (n.tdiv g))).setCell ⟨w.heap.size+1,1,none⟩ (.int .i64 ((dn:Int).tdiv g))=W3 at *
 have k0:W3.cell? ⟨w.heap.size+1,0,none⟩=some (.int .i64 (n.tdiv g)):=by rw [zc e0];rfl
 have k1:W3.cell? ⟨w.heap.size+1,1,none⟩=some (.int .i64 ((dn:Int).tdiv g)):=by rw [zc e0];rfl
 clear e0;exact bodyPost_ret (v:=.agg #[.int .i64 (n.tdiv g),.int .i64 ((dn:Int).tdiv g)]) (by simp [results,Tryz.results154,go_sem,k0,k1]) rfl ⟨rfl,HB3.out⟩
theorem Z0E (n d:Int)(w:World):Calls Tryz.prog 111 #[.agg #[.int .i64 n,.int .i64 d]] w fun e w'=>e=.returned (.bool (ratB n d))∧Below w.heap.size w w':=by
 have hb0:=(Below.refl w.heap.size w).alloc (zn _) (.cells #[.int .i64 n,.int .i64 d] 60)
 have HB0:=zh hb0;clear hb0;by_cases h1:d<1
 · have hr:ratB n d=false:=by simp [ratB];omega
   have HR:=zh hr;have d1:decide (d<1)=true:=by simpa using h1
   clear hr;go_enter Tryz.func111,Tryz.ntmps111
   go_wp2_with fail;go_ret
   rw [HR.out]
   exact ⟨rfl,HB0.out⟩
 · have d1:decide (d<1)=false:=by simpa using h1
   by_cases h2:1000000<d
   · have hr:ratB n d=false:=by simp [ratB];omega
     have HR:=zh hr;have d2:decide (1000000<d)=true:=by simpa using h2
     clear hr;go_enter Tryz.func111,Tryz.ntmps111
     go_wp2_with fail;go_ret
     rw [HR.out]
     exact ⟨rfl,HB0.out⟩
   · have d2:decide (1000000<d)=false:=by simpa using h2
     by_cases h3:n < -1000000000
     · have hr:ratB n d=false:=by simp [ratB];omega
       have HR:=zh hr;have d3:decide (n < -1000000000)=true:=by simpa using h3
       clear hr;go_enter Tryz.func111,Tryz.ntmps111
       go_wp2_with fail;go_ret
       rw [HR.out]
       exact ⟨rfl,HB0.out⟩
     · have d3:decide (n < -1000000000)=false:=by simpa using h3
       by_cases h4:1000000000<n
       · have hr:ratB n d=false:=by simp [ratB];omega
         have HR:=zh hr;have d4:decide (1000000000<n)=true:=by simpa using h4
         clear hr;go_enter Tryz.func111,Tryz.ntmps111
         go_wp2_with fail;go_ret
         rw [HR.out]
         exact ⟨rfl,HB0.out⟩
       · have d4:decide (1000000000<n)=false:=by simpa using h4
         have hr:ratB n d=(Nat.gcd n.natAbs d.natAbs==1):=by
          simp [ratB,show 1≤d by omega,show d≤1000000 by omega,show -1000000000≤n by omega,show n≤1000000000 by omega]
         have HR:=zh hr;clear hr;go_enter Tryz.func111,Tryz.ntmps111
         go_wp2_with fail;have x0:(w.alloc (.cells #[.int .i64 n,.int .i64 d] 60)).cell? ⟨w.heap.size,0,none⟩=some (.int .i64 n):=by simp [go_sem]
         have x1:(w.alloc (.cells #[.int .i64 n,.int .i64 d] 60)).cell? ⟨w.heap.size,1,none⟩=some (.int .i64 d):=by simp [go_sem]
         have x2:w.heap.size<(w.alloc (.cells #[.int .i64 n,.int .i64 d] 60)).heap.size:=by simp
         have hBW:=HB0.out
         clear HB0;generalize w.alloc (.cells #[.int .i64 n,.int .i64 d] 60)=W1 at *
         have HBW:=zh hBW;clear hBW;obtain ⟨p,hp⟩:∃ p,p=n.tdiv (Nat.gcd n.natAbs d.natAbs:Nat):=⟨_,rfl⟩
         obtain ⟨q,hq⟩:∃ q,q=d.tdiv (Nat.gcd n.natAbs d.natAbs:Nat):=⟨_,rfl⟩
         have hred:=fun W=>Z7q n d W (by omega) (by omega) (by omega) (by omega)
         rw [← hp,← hq] at hred
         have hgp:0<Nat.gcd n.natAbs d.natAbs:=Nat.gcd_pos_of_pos_right _ (by omega)
         have hiff:(p=n∧q=d) ↔ Nat.gcd n.natAbs d.natAbs=1:=by rw [hp,hq];exact ZmD hgp (by omega)
         have HRE:=zh hred;have HIF:=zh hiff;clear hp hq hred hgp hiff;have hcs:(n=p∧d=q)∨¬ p=n∨(n=p∧¬ q=d):=by
          by_cases a:n=p <;> by_cases b:d=q <;> simp [a,b,Ne.symm]
         rcases hcs with ⟨rfl,rfl⟩ | hpn | ⟨rfl,hqd⟩
         all_goals go_region_held3 (fun w'=>w'.cell? ⟨w.heap.size,0,none⟩=some (.int .i64 n)∧w'.cell? ⟨w.heap.size,1,none⟩=some (.int .i64 d)) (first | with_reducible exact ⟨x0,x1⟩ | with_reducible exact ⟨s0,s1⟩ | go_keep)
          (first | (go_at_call 154;refine (HRE.out _).mono ?_;rintro e w' ⟨rfl,hb⟩;have s0:=(hb.cell (p:=⟨w.heap.size,0,none⟩) x2).trans x0;have s1:=(hb.cell (p:=⟨w.heap.size,1,none⟩) x2).trans x1;have HB:=zh hb;clear hb))
         all_goals go_wp2_with fail
         all_goals go_ret
         all_goals rw [HR.out]
         all_goals refine ⟨Z4i ?_,Z00 HBW.out (((Below.refl _ _).drew).trans HB.out)⟩
         · exact (beq_iff_eq.2 (HIF.out.1 (by simp))).symm
         · exact (beq_eq_false_iff_ne.2 (fun h=>hpn (HIF.out.2 h).1)).symm
         · exact (beq_eq_false_iff_ne.2 (fun h=>hqd (HIF.out.2 h).2)).symm
theorem Z5j (n d:Int)(w:World):Calls Tryz.prog 126 #[.agg #[.int .i64 n,.int .i64 d]] w fun e w'=>e=.returned (.bool (ratB n d))∧Below w.heap.size w w':=by
 have hb0:=(Below.refl w.heap.size w).alloc (zn _) (.cells #[.int .i64 n,.int .i64 d] 60)
 have HB0:=zh hb0;clear hb0;by_cases h1:d<1
 · have hr:ratB n d=false:=by simp [ratB];omega
   have HR:=zh hr;have d1:decide (d<1)=true:=by simpa using h1
   clear hr;go_enter Tryz.func126,Tryz.ntmps126
   go_wp2_with fail;go_ret
   rw [HR.out]
   exact ⟨rfl,HB0.out⟩
 · have d1:decide (d<1)=false:=by simpa using h1
   by_cases h2:1000000<d
   · have hr:ratB n d=false:=by simp [ratB];omega
     have HR:=zh hr;have d2:decide (1000000<d)=true:=by simpa using h2
     clear hr;go_enter Tryz.func126,Tryz.ntmps126
     go_wp2_with fail;go_ret
     rw [HR.out]
     exact ⟨rfl,HB0.out⟩
   · have d2:decide (1000000<d)=false:=by simpa using h2
     by_cases h3:n < -1000000000
     · have hr:ratB n d=false:=by simp [ratB];omega
       have HR:=zh hr;have d3:decide (n < -1000000000)=true:=by simpa using h3
       clear hr;go_enter Tryz.func126,Tryz.ntmps126
       go_wp2_with fail;go_ret
       rw [HR.out]
       exact ⟨rfl,HB0.out⟩
     · have d3:decide (n < -1000000000)=false:=by simpa using h3
       by_cases h4:1000000000<n
       · have hr:ratB n d=false:=by simp [ratB];omega
         have HR:=zh hr;have d4:decide (1000000000<n)=true:=by simpa using h4
         clear hr;go_enter Tryz.func126,Tryz.ntmps126
         go_wp2_with fail;go_ret
         rw [HR.out]
         exact ⟨rfl,HB0.out⟩
       · have d4:decide (1000000000<n)=false:=by simpa using h4
         have hr:ratB n d=(Nat.gcd n.natAbs d.natAbs==1):=by
          simp [ratB,show 1≤d by omega,show d≤1000000 by omega,show -1000000000≤n by omega,show n≤1000000000 by omega]
         have HR:=zh hr;clear hr;go_enter Tryz.func126,Tryz.ntmps126
         go_wp2_with fail;obtain ⟨dn,rfl⟩:=Int.eq_ofNat_of_zero_le (show 0≤d by omega)
         rw [Int.natAbs_natCast] at HR
         obtain ⟨g,hg⟩:∃ g,g=Nat.gcd n.natAbs dn:=⟨_,rfl⟩
         rw [← hg] at HR
         have hgc:=fun W=>Zjf n.natAbs dn W (by omega) (by omega)
         rw [← hg] at hgc
         have HGC:=zh hgc;clear hg hgc;go_quiet (first | (go_at_call 167;exact Calls.quiet_of_same ((Zjg n _ (by omega) (by omega)).mono fun _ _ h=>⟨h.1,h.2.symm⟩)) | (go_at_call 166;exact Calls.quiet_of_same ((HGC.out _).mono fun _ _ h=>⟨h.1,h.2.symm⟩)))
         go_wp2_with fail;go_ret
         rw [HR.out]
         refine ⟨Z4i ?_,Z0n HB0.out _⟩
         by_cases hg1:g=1
         · subst hg1;rfl
         · rw [beq_eq_false_iff_ne.2 hg1,beq_eq_false_iff_ne.2 (show ¬ (g:Int)=1 by omega)]
end
section
open Go.RowKit Lx Px
namespace Px
def numB (n:Int):Bool:=decide (0≤n)&&decide (n≤999999999)
abbrev Wn:=Bytes ⊕ Int
def Z6y:Wn→Bytes
 | .inl s=>s
 | .inr n=>dec n
def Z2a:List Wn→Bytes
 | []=>[]
 | x::r=>Z6y x++[32]++Z2a r
def Zay:Wn→Prop
 | .inl _=>True
 | .inr n=>0≤n∧n≤1000000000
end Px
theorem Z1a (n:Int)(w:World):Calls Tryz.prog 125 #[.int .i64 n] w fun e w'=>e=.returned (.bool (numB n))∧w=w':=by
 by_cases h1:0≤n
 · have d1:decide (0≤n)=true:=by simpa using h1
   unfold numB
   rw [d1]
   go_enter Tryz.func125,Tryz.ntmps125
   go_wp2_with fail;go_ret
   exact ⟨by simp,rfl⟩
 · have d1:decide (0≤n)=false:=by simpa using h1
   unfold numB
   rw [d1]
   go_enter Tryz.func125,Tryz.ntmps125
   go_wp2_with fail;go_ret
   exact ⟨by simp,rfl⟩
theorem Z4C (g:Nat)(zs:List Int)(w:World)(h0:0<zs.length)(hz:zs.length≤100)(hc:∀ k,k<zs.length→w.cell? ⟨g,k,none⟩=some (.int .i64 (zs.getD k 0))) :
 Calls Tryz.prog 133 #[.slice (some ⟨g,0,none⟩) zs.length zs.length] w fun e w'=>e=.returned (.bool (zs.all numB))∧w=w':=by
 obtain ⟨len,hlen⟩:∃ len,len=zs.length:=⟨_,rfl⟩
 rw [← hlen] at h0 hz hc ⊢
 have HL:=zh hlen;have HC:=zh hc;clear hlen hc;go_enter Tryz.func133,Tryz.ntmps133
 go_wp2_with fail;go_loop [7] (fun i=>∃ k:Nat,k≤len∧i=.int .i64 k∧Hid (zs.all numB=(zs.drop k).all numB)) (fun i=>len - (intOf i).toNat)
 case atStart=>exact ⟨0,by omega,rfl,rfl⟩
 case round =>
  obtain ⟨k,hk,rfl,HE⟩:=hrel
  by_cases hlt:k<len
  · have hcell:=HC.out k hlt
    have hd:(zs.drop k).all numB=(numB (zs.getD k 0)&&(zs.drop (k+1)).all numB):=by
     have hkl:k<zs.length:=by rw [← HL.out];exact hlt
     rw [List.drop_eq_getElem_cons hkl,List.all_cons,List.getD_eq_getElem?_getD,List.getElem?_eq_getElem hkl]
     rfl
    obtain ⟨z,hz2⟩:∃ z,z=zs.getD k 0:=⟨_,rfl⟩
    rw [← hz2] at hcell hd
    have HD:=zh hd;clear hz2 hd;by_cases c1:z<0
    · have d1:decide (z<0)=true:=by simpa using c1
      have hnb:numB z=false:=by simp [numB];omega
      have HN:=zh hnb;clear hnb;go_wp2_with fail;go_ret
      rw [HE.out,HD.out,HN.out]
      exact ⟨rfl,rfl⟩
    · have d1:decide (z<0)=false:=by simpa using c1
      by_cases c2:999999999<z
      · have d2:decide (999999999<z)=true:=by simpa using c2
        have hnb:numB z=false:=by simp [numB];omega
        have HN:=zh hnb;clear hnb;go_wp2_with fail;go_ret
        rw [HE.out,HD.out,HN.out]
        exact ⟨rfl,rfl⟩
      · have d2:decide (999999999<z)=false:=by simpa using c2
        have hnb:numB z=true:=by simp [numB];omega
        have HN:=zh hnb;clear hnb;go_wp2_with fail;go_round
        case rel=>exact ⟨k+1,by omega,by go_num,by rw [HE.out,HD.out,HN.out];rfl⟩
        case measure=>simp [intOf];omega
  · go_wp2_with fail
    go_ret
    have:zs.drop k=[]:=List.drop_eq_nil_of_le (by rw [← HL.out];omega)
    rw [HE.out,this]
    exact ⟨rfl,rfl⟩
def Zer:Wn→Value
 | .inl s=>.iface 9 (.string (mk s))
 | .inr n=>.iface 3 (.int .i64 n)
theorem ta_str (s:ByteArray)(w:World):(Instr.typeAssert (.iface 9 (.string s)) 20 9 true).run Tryz.prog w=.ok (.tuple #[.string s,.bool true]) w:=by kernel_rfl
theorem ta_no (n:Int)(w:World):(Instr.typeAssert (.iface 3 (.int .i64 n)) 20 9 true).run Tryz.prog w=.ok (.tuple #[.string ⟨#[]⟩,.bool false]) w:=by kernel_rfl
theorem ta_int (n:Int)(w:World):(Instr.typeAssert (.iface 3 (.int .i64 n)) 20 3 true).run Tryz.prog w=.ok (.tuple #[.int .i64 n,.bool true]) w:=by kernel_rfl
def FldL (b:Nat)(g:Nat)(its:List Wn)(w:World)(fin:Bytes)(i:Value)(wr:World):Prop :=
 ∃ (k:Nat) (acc:Bytes),k≤its.length∧i=.int .i64 k∧Wd b acc wr∧wr.heap[g]?=some (.cells (its.map Zer).toArray 20 (0,0))∧Below b w wr∧Okp b w wr∧acc++Z2a (its.drop k)=fin
theorem Zes (b g:Nat)(txt:Bytes)(its:List Wn)(w:World)(B:Nat)(hB:B≤b)(ht:Tabs B w)(hw:Wd b txt w)(hg:w.heap[g]?=some (.cells (its.map Zer).toArray 20 (0,0)))(hok:∀ x∈its,Zay x)
 (hlen:(txt++Z2a its).length≤100000) (hits:its.length≤100) :
 Calls Tryz.prog 135 #[.pointer (some ⟨b,0,none⟩),.slice (some ⟨g,0,none⟩) its.length its.length] w (Zcf b (txt++Z2a its) w):=by
 have HT:=zh ht;have HW:=zh hw;have HG:=zh hg;have HO:=zh hok;clear ht hw hg hok;go_enter Tryz.func135,Tryz.ntmps135
 go_wp2_with fail;go_loopw [10] (fun i wr=>FldL b g its w (txt++Z2a its) i wr) (fun i _=>its.length - (intOf i).toNat)
 case atStart=>exact ⟨0,txt,by omega,rfl,HW.out,HG.out,Below.refl _ _,Lib.OthersKept.refl _ _ _,rfl⟩
 case round =>
  obtain ⟨k,acc,hk,rfl,hwr,hgr,hbr,hkr,hfin⟩:=hrel
  have H1:=zh hwr;have H2:=zh hgr;have H3:=zh hbr;have H4:=zh hkr;have H5:=zh hfin;clear hwr hgr hbr hkr hfin;by_cases hlt:k<its.length
  · have hcell:wr.cell? ⟨g,k,none⟩=some (Zer its[k]):=by rw [zc H2.out];simp [List.getElem?_eq_getElem hlt]
    have hstep:Z2a (its.drop k)=Z6y its[k]++[32]++Z2a (its.drop (k+1)):=by rw [List.drop_eq_getElem_cons hlt];rfl
    have hik:=HO.out its[k] (List.getElem_mem hlt)
    have HS:=zh hstep;have hl2:acc.length+(Z6y its[k]).length+1≤100000:=by
     have:=congrArg List.length H5.out;rw [hstep] at this;simp only [List.length_append,List.length_singleton] at this hlen;omega
    clear hstep;cases hx:its[k] with
    | inl s =>
     rw [hx] at hcell hl2
     simp only [Zer,Z6y] at hcell hl2
     have HX:=zh hx;clear hx hik;have hta:=ta_str (mk s)
     go_wp2_with fail;refine (Z35 b acc (mk s) _ H1.out (by rw [Z0D];omega)).mono ?_
     rintro e w2 ⟨rfl,y1,y2,y3⟩;rw [Z52] at y1
     have hg2:=Z1c H1.out y3 H2.out (by decide) (by decide)
     have Y1:=zh y1;have Y2:=zh (H3.out.trans y2)
     have Y3:=zh (Lib.OthersKept.trans H4.out y3)
     have Y4:=zh hg2;clear y1 y2 y3 hg2 hta;go_wp2_with fail;refine (Zm9 b _ 32 _ Y1.out (by simp only [List.length_append];omega)).mono ?_
     rintro e w3 ⟨rfl,z1,z2,z3⟩;have hg3:=Z1c Y1.out z3 Y4.out (by decide) (by decide)
     have Z1:=zh z1;have Z2:=zh (Y2.out.trans z2)
     have Z3:=zh (Lib.OthersKept.trans Y3.out z3)
     have Z4:=zh hg3;clear z1 z2 z3 hg3;go_wp2_with fail;go_roundw
     case rel=>exact ⟨k+1,_,by omega,by go_num,Z1.out,Z4.out,Z2.out,Z3.out,by rw [← H5.out,HS.out,HX.out];simp [Z6y]⟩
     case measure=>simp [intOf];omega
    | inr n =>
     rw [hx] at hcell hl2 hik
     simp only [Zer,Z6y,Zay] at hcell hl2 hik
     have HX:=zh hx;clear hx;have hta:=ta_no n;have htb:=ta_int n;go_wp2_with fail;clear hta htb;go_region_held3 (fun _=>True) (exact trivial)
      (first
       | (go_at_call 102;refine (Z9v n B _ hik.1 (by omega) (HT.out.on (H3.out.drew.mono hB))).mono ?_;rintro e w2 ⟨rfl,hb2⟩;have hb2':=((Below.refl wr.heap.size wr).drew).trans hb2;have V1:=zh (Z34 H1.out hb2');have V2:=zh (H3.out.trans (hb2'.mono (Nat.le_of_lt (Z5p H1.out))));have V3:=zh (Lib.OthersKept.trans H4.out (Z43 hb2'));have V4:=zh ((hb2'.block _ (zs H2.out)).trans H2.out);clear hb2 hb2')
       | (go_at_call 137;refine (Z35 b acc (mk (dec n)) _ V1.out (by rw [Z0D];omega)).mono ?_;rintro e w3 ⟨rfl,y1,y2,y3⟩;rw [Z52] at y1;have hg2:=Z1c V1.out y3 V4.out (by decide) (by decide);have Y1:=zh y1;have Y2:=zh (V2.out.trans y2);have Y3:=zh (Lib.OthersKept.trans V3.out y3);have Y4:=zh hg2;clear y1 y2 y3 hg2))
     go_wp2_with fail;refine (Zm9 b _ 32 _ Y1.out (by simp only [List.length_append];omega)).mono ?_
     rintro e w4 ⟨rfl,z1,z2,z3⟩;have hg3:=Z1c Y1.out z3 Y4.out (by decide) (by decide)
     have Z1:=zh z1;have Z2:=zh (Y2.out.trans z2)
     have Z3:=zh (Lib.OthersKept.trans Y3.out z3)
     have Z4:=zh hg3;clear z1 z2 z3 hg3;go_wp2_with fail;go_roundw
     case rel=>exact ⟨k+1,_,by omega,by go_num,Z1.out,Z4.out,Z2.out,Z3.out,by rw [← H5.out,HS.out,HX.out];simp [Z6y]⟩
     case measure=>simp [intOf];omega
  · go_wp2_with fail
    go_end0
    have hd:its.drop k=[]:=List.drop_eq_nil_of_le (by omega)
    have h5:=H5.out
    rw [hd,Z2a,List.append_nil] at h5
    subst h5;exact ⟨rfl,H1.out,H3.out,H4.out⟩
end
end Go.Proofs.YtnepkoepbapgeaaGreatDoor
