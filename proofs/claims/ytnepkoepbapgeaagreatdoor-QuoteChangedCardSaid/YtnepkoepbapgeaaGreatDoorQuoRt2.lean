/-
  Several texts in one: QuoRnd, QuoRt2.
-/
import Derived.Test.YtnepkoepbapgeaaGreatDoorQuoR10a
import Derived.Laws.Bits64
import Derived.Test.YtnepkoepbapgeaaGreatDoorQuoVal2
namespace Go.Proofs.YtnepkoepbapgeaaGreatDoor
set_option maxHeartbeats 8000000
set_option maxRecDepth 100000
section
open Go.RowKit Lx Px Qx
theorem ZdF (n:Int):bits .and .i64 n 1=n % 2:=by
 have h127:(BitVec.ofInt 64 1).toNat=2 ^ 1 - 1:=by decide
 have key:(BitVec.ofInt 64 n &&& BitVec.ofInt 64 1).toNat=(n % ((2 ^ 64:Nat):Int)).toNat % 2 ^ 1:=by
  rw [BitVec.toNat_and,BitVec.toNat_ofInt,h127,Nat.and_two_pow_sub_one_eq_mod]
 show IntKind.i64.wrap ((BitVec.ofInt 64 n &&& BitVec.ofInt 64 1).toNat:Nat)=n % 2
 rw [key,IntKind.wrap_i64]
 omega
namespace Qx
theorem Zkt (n d:Int)(hd:1≤d):(if n<n.tdiv d*d then n.tdiv d - 1 else n.tdiv d)=n / d:=by
 have hs:=Int.emod_nonneg n (show d≠0 by omega)
 have hs2:=Int.emod_lt_of_pos n (show 0<d by omega)
 have hn:=Int.mul_ediv_add_emod n d
 rcases Int.lt_or_le n 0 with h | h
 · obtain ⟨m,rfl⟩:∃ m,n = -m:=⟨-n,by omega⟩
   have hq:(-m).tdiv d = -(m / d):=by rw [Int.neg_tdiv,Int.tdiv_eq_ediv_of_nonneg (by omega)]
   have hr:=Int.emod_nonneg m (show d≠0 by omega)
   have hr2:=Int.emod_lt_of_pos m (show 0<d by omega)
   have hm:=Int.mul_ediv_add_emod m d
   rw [hq]
   generalize m / d=e at *
   generalize m % d=r at *
   generalize (-m) / d=f at *
   generalize (-m) % d=s at *
   have hk:d*(f+e) = -(r+s):=by rw [Int.mul_add];omega
   have hk0:f+e=0∨f+e = -1:=by
    generalize f+e=k at *
    rcases Int.lt_or_le 0 k with h1 | h1
    · have:=Int.mul_le_mul_of_nonneg_left (show (1:Int)≤k by omega) (show 0≤d by omega)
      omega
    · rcases Int.lt_or_le k (-1) with h2 | h2
      · have:=Int.mul_le_mul_of_nonneg_left (show k ≤ -2 by omega) (show 0≤d by omega)
        omega
      · omega
   have hc : -e*d = -(d*e):=by rw [Int.neg_mul,Int.mul_comm]
   rw [hc]
   rcases hk0 with h1 | h1
   · rw [h1] at hk
     rw [if_neg (by omega)]
     omega
   · rw [h1] at hk
     rw [if_pos (by omega)]
     omega
 · have hq:n.tdiv d=n / d:=Int.tdiv_eq_ediv_of_nonneg h
   rw [hq,if_neg]
   rw [Int.mul_comm];omega
theorem Zic (n d:Int)(hd:1≤d):(0≤n→0≤n.tdiv d*d∧n.tdiv d*d≤n)∧(n≤0→n≤n.tdiv d*d∧n.tdiv d*d≤0):=by
 have hn:=Int.mul_tdiv_add_tmod n d
 have hc:d*n.tdiv d=n.tdiv d*d:=Int.mul_comm _ _
 constructor
 · intro h
   have h1:=Int.tmod_nonneg d h
   have h2:0≤n.tdiv d:=Int.tdiv_nonneg h (by omega)
   have h3:=Int.mul_nonneg h2 (show 0≤d by omega)
   omega
 · intro h
   have h1:n.tmod d≤0:=by
    have:=Int.tmod_nonneg d (show 0 ≤ -n by omega)
    rw [Int.neg_tmod] at this
    omega
   have h2:n.tdiv d≤0:=by
    have:=Int.tdiv_nonneg (show 0 ≤ -n by omega) (show 0≤d by omega)
    rw [Int.neg_tdiv] at this
    omega
   have h3:=Int.mul_le_mul_of_nonneg_right h2 (show 0≤d by omega)
   omega
def upB (b r d:Int):Bool:=decide (d<2*r) || decide (2*r=d)&&decide (b % 2=1)
theorem Zp5 (n d:Int):rndE n d=if upB (n / d) (n % d) d then n / d+1 else n / d:=by
 unfold rndE upB
 congr 1
 simp
end Qx
theorem Zku (b r d:Int)(w:World)(h0:0≤r)(h1:r≤1000000):Calls Tryz.prog 153 #[.int .i64 b,.int .i64 r,.int .i64 d] w fun e w'=>e=.returned (.bool (upB b r d))∧w=w':=by
 have hb:=ZdF b;unfold upB
 by_cases c1:d<2*r
 · have d1:decide (d<2*r)=true:=by simpa using c1
   have d1':decide (2*r > d)=true:=by simpa using c1
   rw [d1]
   clear hb;go_enter Tryz.func153,Tryz.ntmps153
   go_wp2_with fail;go_ret
   exact ⟨rfl,rfl⟩
 · have d1:decide (d<2*r)=false:=by simpa using c1
   have d1':decide (2*r > d)=false:=by simpa using c1
   rw [d1]
   by_cases c2:2*r=d
   · have d2:(2*r==d)=true:=by simpa using c2
     have d2':decide (2*r=d)=true:=by simpa using c2
     obtain ⟨b3,d3⟩:∃ x,(b % 2==1)=x:=⟨_,rfl⟩
     have d3':decide (b % 2=1)=b3:=by rw [← d3];rfl
     rw [d2',d3']
     clear d3' c2;cases b3
     all_goals
      go_enter Tryz.func153,Tryz.ntmps153
      go_wp2_with fail;go_ret
      exact ⟨rfl,rfl⟩
   · have d2:(2*r==d)=false:=by simpa using c2
     have d2':decide (2*r=d)=false:=by simpa using c2
     rw [d2']
     clear hb;go_enter Tryz.func153,Tryz.ntmps153
     go_wp2_with fail;go_ret
     exact ⟨rfl,rfl⟩
def Zcw:Value:=.agg #[.func (.func 153) #[] #[]]
theorem Z93 (n d:Int)(w:World)(h0 : -4000000000000000000≤n)(h1:n≤4000000000000000000)(h2:1≤d)(h3:d≤1000000) :
 Calls Tryz.prog 112 #[.agg #[.int .i64 n,.int .i64 d],Zcw] w fun e w'=>e=.returned (.int .i64 (rndE n d))∧Below w.heap.size w w':=by
 have hfl:=Zkt n d h2
 obtain ⟨p1,p2⟩:=Zic n d h2
 have hr0:=Int.emod_nonneg n (show d≠0 by omega)
 have hr1:=Int.emod_lt_of_pos n (show 0<d by omega)
 have hmd:=Int.mul_ediv_add_emod n d
 have hrest:n - n / d*d=n % d:=by rw [Int.mul_comm];omega
 have hev:=fun W=>Zku (n / d) (n % d) d W hr0 (by omega)
 have hb:Below w.heap.size w ((w.alloc (.cells #[.int .i64 n,.int .i64 d] 158)).alloc (.cells #[.func (.func 153) #[] #[]] 152)) :=
  ((Below.refl w.heap.size w).alloc (zn _) _).alloc (by simp) _
 have hq1 : -4000000000000000000≤n.tdiv d*d∧n.tdiv d*d≤4000000000000000000:=by
  rcases Int.le_total 0 n with h | h
  · have:=p1 h;omega
  · have:=p2 h;omega
 have hdv:(-4000000000000000000≤n.tdiv d∧n.tdiv d≤4000000000000000000):=by
  have t1:=Int.natAbs_tdiv_le_natAbs n d
  omega
 have hfr : -4000000000000000001≤n / d∧n / d≤4000000000000000000:=by rw [← hfl];split <;> omega
 have hmb : -4000000000001000001≤n / d*d∧n / d*d≤4000000000000000000:=by omega
 have hne:(d==0)=false:=by have:d≠0:=(by omega);simpa using this
 rw [Zp5]
 obtain ⟨u,hu⟩:∃ u,upB (n / d) (n % d) d=u:=⟨_,rfl⟩
 rw [hu] at hev ⊢
 unfold Zcw
 obtain ⟨q,hq⟩:∃ q,n.tdiv d=q:=⟨_,rfl⟩
 rw [hq] at hfl hq1 hdv
 by_cases c:n<q*d
 · have dc:decide (q*d > n)=true:=by simpa using c
   rw [if_pos c] at hfl
   generalize n / d=f at *
   generalize n % d=rr at *
   have HEV:=zh hev;have HB:=zh hb;have HMD:=zh hmd;have HU:=zh hu;clear hev hb hmd hu p1 p2 c;cases u
   all_goals
    go_enter Tryz.func112,Tryz.ntmps112
    go_wp2_with fail;refine (HEV.out _).mono ?_
    rintro e w' ⟨rfl,rfl⟩;go_wp2_with fail;go_ret
    exact ⟨rfl,HB.out⟩
 · have dc:decide (q*d > n)=false:=by simpa using c
   rw [if_neg c] at hfl
   generalize n / d=f at *
   generalize n % d=rr at *
   subst hfl;have HEV:=zh hev;have HB:=zh hb;have HMD:=zh hmd;have HU:=zh hu;clear hev hb hmd hu p1 p2 c;cases u
   all_goals
    go_enter Tryz.func112,Tryz.ntmps112
    go_wp2_with fail;refine (HEV.out _).mono ?_
    rintro e w' ⟨rfl,rfl⟩;go_wp2_with fail;go_ret
    exact ⟨rfl,HB.out⟩
theorem Z81 {P:Program}{t k e:TypeId}(ht:P.underlying t=some (.map k e))(hk:P.underlying k=some (.int .i64)){w:World}{r:Nat}{L L2:List (Int × Value)}{op:Int}{V:Value}(h:Z2u w r (L++(op,V)::L2))(hn:∀ p∈L,p.1≠op) :
 (Instr.lookup t (.map (some r)) (.int .i64 op) true).run P w=.ok (.tuple #[V,.bool true]) w:=by
 have hr:w.heap[r]?=some (.map (esOf (L++(op,V)::L2) 0).toArray (L++(op,V)::L2).length):=h
 have hf:=Z6b op V L L2 0 0 hn
 have hck:(Instr.checkKey (esOf (L++(op,V)::L2) 0).toArray.isEmpty (9999+1) k (.int .i64 op)).run P w=.ok () w:=Go.MapKept.run_checkKey hk (by simp [MapKept.IsKey]) _ 9999
 simp only [Instr.lookup,Instr.findKey,Sem.run_bind,Sem.run_pure,run_underlying ht,run_underlying hk,Go.MapKept.run_getObj_map hr,hck,hf,Result.andThen_ok]
 rfl
theorem Z6s (w:World):Calls Tryz.prog 110 #[] w fun e w'=>∃ r V1 V2,e=.returned (.map (some r))∧Z2u w' r [(1,V1),(2,V2),(3,Zcw)]∧Below w.heap.size w w':=by
 have hmm:=@run_makeMap Tryz.prog
 have h0:=Z2u.new w
 have g0:Below w.heap.size w (w.alloc (.map #[] 0)):=(Below.refl _ _).alloc (zn _) _
 have l0:w.heap.size<(w.alloc (.map #[] 0)).heap.size:=by simp
 go_enter Tryz.func110,Tryz.ntmps110
 go_wp2_with fail;generalize w.alloc (.map #[] 0)=w0 at *
 clear hmm;refine Z0b Tryz.underlying154 Tryz.underlying3 h0 (by simp) ?_
 intro w1 h1 q1
 have g1:=g0.trans (Z06 q1 (Nat.le_of_lt l0) (zn _))
 have l1:w.heap.size<w1.heap.size:=by have:=q1.size;omega
 simp only [List.nil_append] at h1
 clear h0 g0 l0 q1;go_wp2_with fail;refine Z0b Tryz.underlying154 Tryz.underlying3 h1 (by simp) ?_
 intro w2 h2 q2
 have g2:=g1.trans (Z06 q2 (Nat.le_of_lt l1) (zn _))
 have l2:w.heap.size<w2.heap.size:=by have:=q2.size;omega
 simp only [List.nil_append,List.cons_append] at h2
 clear h1 g1 l1 q2;go_wp2_with fail;refine Z0b Tryz.underlying154 Tryz.underlying3 h2 (by simp) ?_
 intro w3 h3 q3
 have g3:=g2.trans (Z06 q3 (Nat.le_of_lt l2) (zn _))
 simp only [List.nil_append,List.cons_append] at h3
 clear h2 g2 l2 q3;go_wp2_with fail;go_ret
 exact ⟨_,_,_,rfl,h3,g3⟩
theorem Zfj (n d:Int)(w:World)(hr:ratB n d=true):Calls Tryz.prog 109 #[.agg #[.int .i64 n,.int .i64 d],.int .i64 3] w fun e w'=>e=.returned (.tuple #[.int .i64 (rndE n d),.int .i64 0])∧Below w.heap.size w w':=by
 obtain ⟨r1,r2,r3,r4,_⟩:=Z1b hr
 have hb0:=RatB.new w n d
 have hv:=fun W=>Z0E n d W
 have hf:=fun W=>Z93 n d W (by omega) (by omega) r1 r2
 rw [hr] at hv
 have ha:Below w.heap.size w (w.alloc (.cells #[.int .i64 n,.int .i64 d] 60)):=(Below.refl w.heap.size w).alloc (zn _) _
 generalize rndE n d=z at *
 unfold Zcw at hf
 have HV:=zh hv;have HF:=zh hf;have HB0:=zh hb0;have HA:=zh ha;clear hv hf hb0 ha hr;go_enter Tryz.func109,Tryz.ntmps109
 go_wp2_with fail;refine (Z6s _).mono ?_
 rintro e w2 ⟨r,V1,V2,rfl,hm,hb2⟩;have hlk:=Z81 Tryz.underlying154 Tryz.underlying3 (L:=[(1,V1),(2,V2)]) (L2:=[]) hm (by simp)
 have hR2:=HB0.out.on hb2
 have hB2:=Z00 HA.out hb2
 have hz:=(Below.refl w2.heap.size w2).alloc (zn _) (.cells #[.func (.func 153) #[] #[]] 152)
 have hR3:=hR2.on hz
 have hB3:=Z00 hB2 hz
 have hN:(w2.alloc (.cells #[.func (.func 153) #[] #[]] 152)).heap[w2.heap.size]?=some (.cells #[.func (.func 153) #[] #[]] 152 (0,0)):=za _ _
 have c0:=hR3.c0
 have c1:=hR3.c1
 have R3:=zh hR3;have B3:=zh hB3;have HN:=zh hN;clear hR3 hB3 hN hm hb2 hR2 hB2 hz HB0 HA;unfold Zcw at hlk
 go_wp2_with fail;refine (HV.out _).mono ?_
 rintro e w3 ⟨rfl,hb3⟩;have hR4:=R3.out.on hb3
 have hB4:=Z00 B3.out hb3
 have n0:=Z0m ((hb3.block _ (zs HN.out)).trans HN.out)
 clear c0 c1;have c0:=hR4.c0
 have c1:=hR4.c1
 have B4:=zh hB4;clear hB4 hR4 hb3 R3 B3 HN hlk;go_wp2_with fail;refine (HF.out _).mono ?_
 rintro e w4 ⟨rfl,hb4⟩;have hB5:=Z00 B4.out hb4
 have B5:=zh hB5;clear hB5 hb4 B4;go_wp2_with fail;go_ret2
 exact ⟨rfl,B5.out⟩
theorem Zid (z:Int)(h:0≤z):(z.natAbs:Int)=z:=by omega
theorem Zie (m n d:Int)(w:World)(hm0:0≤m)(hm1:m≤1000000000)(hr:ratB n d=true)(hn0:0≤n)(hn1:n≤d):Calls Tryz.prog 67 #[.int .i64 m,.agg #[.int .i64 n,.int .i64 d],.int .i64 3] w fun e w'=>e=.returned (.tuple #[.int .i64 (rndE (m*n) d),.int .i64 0])∧Below w.heap.size w w':=by
 obtain ⟨r1,r2,r3,r4,_⟩:=Z1b hr
 have hb0:=RatB.new w n d
 have hv:=fun W=>Z0E n d W
 have hp0:0≤m*n:=Int.mul_nonneg hm0 hn0
 have hp2:m*n≤m*d:=Int.mul_le_mul_of_nonneg_left hn1 hm0
 have hp3:m*d≤1000000000*1000000:=Int.mul_le_mul hm1 r2 (by omega) (by omega)
 have hp1:m*n≤1000000000000000:=by omega
 obtain ⟨z0,z1⟩:=Z8E (n:=m*n) (d:=d) (m:=m) r1 hp0 hp2
 have hf:=fun W=>Z93 (m*n) d W (by omega) (by omega) r1 r2
 have hs:=fun W=>Z5z (rndE (m*n) d) W (by omega) (by omega)
 rw [hr] at hv
 have ha:Below w.heap.size w (w.alloc (.cells #[.int .i64 n,.int .i64 d] 60)):=(Below.refl w.heap.size w).alloc (zn _) _
 generalize rndE (m*n) d=z at *
 rw [Zid z z0] at hs
 have dz:decide (z > 1000000000)=false:=by simp;omega
 have dz':decide ((1000000000:Int)<z)=false:=by simp;omega
 have dm0:decide (m < -1000000000)=false:=by simp;omega
 have dm1:decide (m > 1000000000)=false:=by simp;omega
 have dm2:decide ((1000000000:Int)<m)=false:=by simp;omega
 unfold Zcw at hf
 have HV:=zh hv;have HF:=zh hf;have HB0:=zh hb0;have HA:=zh ha;have HS:=zh hs;have HP2:=zh hp2;have HP3:=zh hp3;clear hv hf hb0 ha hs hp2 hp3 hr;go_enter Tryz.func67,Tryz.ntmps67
 go_wp2_with fail;refine (Z6s _).mono ?_
 rintro e w2 ⟨r,V1,V2,rfl,hm,hb2⟩;have hlk:=Z81 Tryz.underlying154 Tryz.underlying3 (L:=[(1,V1),(2,V2)]) (L2:=[]) hm (by simp)
 have hR2:=HB0.out.on hb2
 have hB2:=Z00 HA.out hb2
 have hz:=(Below.refl w2.heap.size w2).alloc (zn _) (.cells #[.func (.func 153) #[] #[]] 152)
 have hR3:=hR2.on hz
 have hB3:=Z00 hB2 hz
 have hN:(w2.alloc (.cells #[.func (.func 153) #[] #[]] 152)).heap[w2.heap.size]?=some (.cells #[.func (.func 153) #[] #[]] 152 (0,0)):=za _ _
 have c0:=hR3.c0
 have c1:=hR3.c1
 have R3:=zh hR3;have B3:=zh hB3;have HN:=zh hN;clear hR3 hB3 hN hm hb2 hR2 hB2 hz HB0 HA;unfold Zcw at hlk
 go_wp2_with fail;refine (HV.out _).mono ?_
 rintro e w3 ⟨rfl,hb3⟩;have hR4:=R3.out.on hb3
 have hB4:=Z00 B3.out hb3
 have n0:=Z0m ((hb3.block _ (zs HN.out)).trans HN.out)
 clear c0 c1;have c0:=hR4.c0
 have c1:=hR4.c1
 have B4:=zh hB4;clear hB4 hR4 hb3 R3 B3 HN hlk;go_wp2_with fail;refine (HF.out _).mono ?_
 rintro e w4 ⟨rfl,hb4⟩;have hB5:=Z00 B4.out hb4
 have B5:=zh hB5;clear hB5 hb4 B4;go_wp2_with fail;refine (HS.out _).mono ?_
 rintro e w5 ⟨rfl,rfl⟩;go_wp2_with fail;go_ret2
 exact ⟨rfl,B5.out⟩
theorem Zkv (l:List Int)(A:Option Addr)(c:Nat)(w:World)(hl:l.length≤c):Calls Tryz.prog 68 #[.slice A l.length c] w fun e w'=>e=.returned (.slice A l.length l.length)∧w=w':=by
 have h0:(0:Int)≤(l.length:Int):=by omega
 have h1:(l.length:Int)≤(c:Int):=by omega
 go_enter Tryz.func68,Tryz.ntmps68
 go_wp2_with fail;go_ret
 exact ⟨rfl,rfl⟩
end
section
open Go.RowKit Lx Px Qx
structure ApB (w:World) (R:Array Value) (a:Qx.Ask) (wx:World):Prop where
 r:wx.heap[w.heap.size]?=some (.cells R 65 (0,0))
 a:wx.heap[w.heap.size+1]?=some (.cells #[.int .i64 a.kind,.int .i64 a.fr,.int .i64 a.un,.int .i64 a.pers] 26 (0,0))
 b:Below w.heap.size w wx
theorem ApB.on {w wx wy:World}{R:Array Value}{a:Qx.Ask}(h:ApB w R a wx)(hb:Below wx.heap.size wx wy):ApB w R a wy :=
 ⟨(hb.block _ (zs h.r)).trans h.r,(hb.block _ (zs h.a)).trans h.a,Z00 h.b hb⟩
theorem ApB.drew {w wx:World}{R:Array Value}{a:Qx.Ask}(h:ApB w R a wx):ApB w R a wx.drew:=h.on (Below.refl _ _).drew
theorem ApB.alloc {w wx:World}{R:Array Value}{a:Qx.Ask}(h:ApB w R a wx)(o:Obj):ApB w R a (wx.alloc o):=h.on ((Below.refl _ _).alloc (zn _) _)
theorem ApB.set {w wx:World}{R:Array Value}{a:Qx.Ask}(h:ApB w R a wx){b:Nat}(hb:w.heap.size+2≤b)(o:Nat)(v:Value):ApB w R a (wx.setCell ⟨b,o,none⟩ v) :=
 ⟨(Below.heap_setCell _ _ _ _ (by show _≠b;omega)).trans h.r,(Below.heap_setCell _ _ _ _ (by show _≠b;omega)).trans h.a,h.b.setCell (p:=⟨b,o,none⟩) (by show _≤b;omega) _⟩
theorem ApB.cell {w wx:World}{R:Array Value}{a:Qx.Ask}(h:ApB w R a wx)(i:Nat)(v:Value)(hv:R[i]?=some v):wx.cell? ⟨w.heap.size,i,none⟩=some v:=by rw [zc h.r,hv]
theorem ApB.lt {w wx:World}{R:Array Value}{a:Qx.Ask}(h:ApB w R a wx):w.heap.size+1<wx.heap.size:=(zs h.a)
theorem ApB.asks {w wx:World}{R:Array Value}{a:Qx.Ask}(h:ApB w R a wx):wx.cell? ⟨w.heap.size+1,0,none⟩=some (.int .i64 a.kind)∧wx.cell? ⟨w.heap.size+1,1,none⟩=some (.int .i64 a.fr)∧wx.cell? ⟨w.heap.size+1,2,none⟩=some (.int .i64 a.un)∧wx.cell? ⟨w.heap.size+1,3,none⟩=some (.int .i64 a.pers):=by
 refine ⟨?_,?_,?_,?_⟩ <;> (rw [zc h.a];rfl)
theorem Zp6 (w:World)(R:Array Value)(a:Qx.Ask):ApB w R a ((w.alloc (.cells R 65)).alloc (.cells #[.int .i64 a.kind,.int .i64 a.fr,.int .i64 a.un,.int .i64 a.pers] 26)):=by
 refine ⟨?_,?_,((Below.refl _ _).alloc (zn _) _).alloc (by simp) _⟩
 · rw [Below.heap_alloc _ _ _ (by simp)];exact za w _
 · have:=za (w.alloc (.cells R 65)) (.cells #[.int .i64 a.kind,.int .i64 a.fr,.int .i64 a.un,.int .i64 a.pers] 26)
   simpa using this
theorem Z3k {a:Qx.Ask}(h:a.okB=true):0≤a.fr∧a.fr<a.un∧a.un≤366∧a.un - a.fr≤60∧1≤a.kind∧a.kind≤20∧1≤a.pers∧a.pers≤8:=by
 simp only [Ask.okB,Bool.and_eq_true,decide_eq_true_eq] at h
 obtain ⟨⟨⟨⟨⟨⟨⟨a1,a2⟩,a3⟩,a4⟩,a5⟩,a6⟩,a7⟩,a8⟩:=h
 exact ⟨a1,a2,a3,a4,a5,a6,a7,a8⟩
theorem Z94 {a:Qx.Ask}{n:Int}(ha:a.okB=true)(h0:a.fr≤n)(h1:n<a.un):∀ i,0≤(Z1d a n).at i∧(Z1d a n).at i≤1000:=by
 obtain ⟨a1,a2,a3,a4,a5,a6,a7,a8⟩:=Z3k ha
 have:=Z91 n
 intro i
 unfold Vs.at Z1d
 dsimp only
 repeat' split
 all_goals omega
theorem Z4s {r:Rt}(h:Z3D r=true):1≤r.id∧r.id≤1000000∧0≤r.lv∧r.lv≤100∧1≤r.kd∧r.kd≤20∧1≤r.ar∧r.ar≤127∧0≤r.fr∧r.fr<r.un∧r.un≤366∧ratB r.kn r.kq=true∧0≤r.kn∧r.kn≤r.kq∧1≤r.ls∧r.ls≤r.mo∧r.mo≤60:=by
 simp only [Z3D,Bool.and_eq_true,decide_eq_true_eq] at h
 obtain ⟨⟨⟨⟨⟨⟨⟨⟨⟨⟨⟨⟨⟨⟨⟨⟨⟨⟨a1,a2⟩,a3⟩,a4⟩,a5⟩,a6⟩,a7⟩,a8⟩,a9⟩,b1⟩,b2⟩,b3⟩,b4⟩,b5⟩,b6⟩,b7⟩,b8⟩,b9⟩,c1⟩:=h
 exact ⟨a1,a2,a3,a4,a5,a6,a7,a8,a9,b1,b2,b3,b4,b5,b6,b7,b8⟩
theorem Zif (r:Rt)(a:Qx.Ask)(night:Int):ZhA r a night=(decide (r.kd=a.kind)&&Z1e night r.fr (r.un - 1)&&Z1e (a.un - a.fr) r.ls r.mo&&bitB r.ar (wday a.fr).toNat):=by
 have h:decide (night<r.un)=decide (night≤r.un - 1):=by rw [Bool.eq_iff_iff];simp;omega
 unfold ZhA Z1e
 rw [h]
 simp only [Bool.and_assoc]
theorem ap_out {V:Qx.V}{X:Int}(h:X=match V with | .ok n _=>if n=1 then 1 else 0 | .no e=>-e)(he:∀ e,V=.no e→e=3∨e=22):(vN V==1)=(X==1)∧vE V=(if X<0 then -X else 0):=by
 cases V with
 | ok n d =>
  dsimp only at h
  by_cases h1:n=1
  · rw [if_pos h1] at h;subst h h1;exact ⟨rfl,rfl⟩
  · rw [if_neg h1] at h;subst h;exact ⟨by simpa [vN] using h1,rfl⟩
 | no e =>
  dsimp only at h
  rcases he e rfl with rfl | rfl <;> (subst h;exact ⟨rfl,rfl⟩)
def apO (x:Int):Value:=.tuple #[.bool (x==1),.int .i64 (if x<0 then -x else 0)]
theorem Zcx (r:Rt)(wv pv:Value)(a:Qx.Ask)(night:Int)(w:World)(hwv:FoV w w.heap.size wv r.wl)(hpv:FoV w w.heap.size pv r.pl)(hr:Z11 r=0)(ha:a.okB=true)(h0:a.fr≤night)(h1:night<a.un) :
 Calls Tryz.prog 146 #[rtV r wv pv,askV a,.int .i64 night] w fun e w'=>e=.returned (apO (apR r a night))∧Below w.heap.size w w':=by
 obtain ⟨WA,wk,rfl,hWA⟩:=hwv
 obtain ⟨PA,pc,rfl,_⟩:=hpv
 have hfo:=Z21 hr;obtain ⟨f1,f2,f3,f4,f5,f6,f7,f8,f9,g1,g2,_,_,_,g6,g7,g8⟩:=Z4s hfo
 obtain ⟨vw,_⟩:=Z3r hfo
 obtain ⟨hvf,hvw⟩:=Z5A vw
 obtain ⟨a1,a2,a3,a4,a5,a6,a7,a8⟩:=Z3k ha
 have hvr:=Z94 ha h0 h1
 have hvars:=fun W=>Zdy a night W ha h0 h1
 simp only [askV] at hvars
 have hkeep:∀ W,Below w.heap.size w W→FoV W w.heap.size (.slice WA (flen r.wl) wk) r.wl:=fun W hb=>⟨WA,wk,rfl,FoAt.keep (fun p hp=>hb.cell hp) r.wl WA 0 hWA⟩
 have hval:=fun W (hb:Below w.heap.size w W)=>Z98 r.wo r.wn r.wl (.slice WA (flen r.wl) wk) (Z1d a night) W ((hkeep W hb).up hb.size) hvf hvw hvr
 have hap0:ZhA r a night=false→apR r a night=0:=fun h=>by unfold apR;rw [h];rfl
 have hap1:ZhA r a night=true→apR r a night=match valE (Z1d a night) (r.wo,r.wn) r.wl with | .ok n _=>if n=1 then 1 else 0 | .no e=>-e:=fun h=>by unfold apR;rw [h];rfl
 rw [Zif] at hap0 hap1
 have hverr:∀ e,valE (Z1d a night) (r.wo,r.wn) r.wl=.no e→e=3∨e=22:=fun e h=>Z4p h
 have hwd:=fun W=>Z7G a.fr W (by omega) (by omega)
 have hd:=Z91 a.fr
 have hS0:=Zp6 w #[.int .i64 r.id,.int .i64 r.lv,.int .i64 r.kd,.int .i64 r.fr,.int .i64 r.un,.int .i64 r.ls,.int .i64 r.mo,.int .i64 r.ar,.int .i64 r.kn,.int .i64 r.kq,.int .i64 r.wo,.int .i64 r.wn,.slice WA (flen r.wl) wk,.int .i64 r.po,.int .i64 r.pn,.slice PA (flen r.pl) pc] a
 obtain ⟨R,hR⟩:∃ R:Array Value,R=#[.int .i64 r.id,.int .i64 r.lv,.int .i64 r.kd,.int .i64 r.fr,.int .i64 r.un,.int .i64 r.ls,.int .i64 r.mo,.int .i64 r.ar,.int .i64 r.kn,.int .i64 r.kq,.int .i64 r.wo,.int .i64 r.wn,.slice WA (flen r.wl) wk,.int .i64 r.po,.int .i64 r.pn,.slice PA (flen r.pl) pc]:=⟨_,rfl⟩
 have r2:R[2]?=some (.int .i64 r.kd):=by rw [hR];rfl
 have r3:R[3]?=some (.int .i64 r.fr):=by rw [hR];rfl
 have r4:R[4]?=some (.int .i64 r.un):=by rw [hR];rfl
 have r5:R[5]?=some (.int .i64 r.ls):=by rw [hR];rfl
 have r6:R[6]?=some (.int .i64 r.mo):=by rw [hR];rfl
 have r7:R[7]?=some (.int .i64 r.ar):=by rw [hR];rfl
 have r10:R[10]?=some (.int .i64 r.wo):=by rw [hR];rfl
 have r11:R[11]?=some (.int .i64 r.wn):=by rw [hR];rfl
 have r12:R[12]?=some (.slice WA (flen r.wl) wk):=by rw [hR];rfl
 have hw1:=fun W=>Z3w night r.fr (r.un - 1) W
 have hw2:=fun W=>Z3w (a.un - a.fr) r.ls r.mo W
 generalize Z1e night r.fr (r.un - 1)=s1 at *
 generalize Z1e (a.un - a.fr) r.ls r.mo=s2 at *
 have hbb:bitB r.ar (wday a.fr).toNat=decide (r.ar / 2 ^ (wday a.fr).toNat % 2=1):=rfl
 rw [hbb] at hap0 hap1
 have hbits:=ZdF (r.ar / 2 ^ (wday a.fr).toNat)
 have hzr:r.ar / 2 ^ (wday a.fr).toNat % 2=0∨r.ar / 2 ^ (wday a.fr).toNat % 2=1:=by omega
 generalize wday a.fr=dd at *
 generalize r.ar / 2 ^ dd.toNat % 2=z at *
 generalize valE (Z1d a night) (r.wo,r.wn) r.wl=V at *
 generalize apR r a night=X at *
 have HVARS:=zh hvars;have HVAL:=zh hval;have HAP0:=zh hap0;have HAP1:=zh hap1;have HVE:=zh hverr;have HWD:=zh hwd;have HW1:=zh hw1;have HW2:=zh hw2;have HS0:=zh hS0;have HZR:=zh hzr;have R10:=zh r10;have R11:=zh r11;have R12:=zh r12;clear hvars hval hap0 hap1 hverr hwd hw1 hw2 hS0 hzr r10 r11 r12 hWA hfo vw hvf hvw hvr hkeep hbb;dsimp only [rtV,askV]
 go_enter Tryz.func146,Tryz.ntmps146
 go_upto_region 1 with fail
 generalize (w.alloc (.cells #[.int .i64 r.id,.int .i64 r.lv,.int .i64 r.kd,.int .i64 r.fr,.int .i64 r.un,.int .i64 r.ls,.int .i64 r.mo,.int .i64 r.ar,.int .i64 r.kn,.int .i64 r.kq,.int .i64 r.wo,.int .i64 r.wn,.slice WA (flen r.wl) wk,.int .i64 r.po,.int .i64 r.pn,.slice PA (flen r.pl) pc] 65)).alloc (.cells #[.int .i64 a.kind,.int .i64 a.fr,.int .i64 a.un,.int .i64 a.pers] 26)=W at *
 have HS1:Hid (ApB w R a W):=by rw [hR];exact HS0.out
 clear HS0 hR;obtain ⟨k0,k1,k2,k3⟩:=HS1.out.asks
 have e2:=HS1.out.cell 2 _ r2
 have e3:=HS1.out.cell 3 _ r3
 have e4:=HS1.out.cell 4 _ r4
 have e5:=HS1.out.cell 5 _ r5
 have e6:=HS1.out.cell 6 _ r6
 have e7:=HS1.out.cell 7 _ r7
 clear r2 r3 r4 r5 r6 r7;go_wp2_with fail;refine (HWD.out _).mono ?_
 rintro e w' ⟨rfl,rfl⟩;go_wp2_with fail;refine (HW1.out _).mono ?_
 rintro e w' ⟨rfl,rfl⟩;by_cases hk:r.kd=a.kind
 · have dk:(r.kd != a.kind)=false:=by simpa using hk
   have dk1:decide (r.kd=a.kind)=true:=by simpa using hk
   rw [dk1] at HAP0 HAP1
   clear hk dk1;cases s1
   · have hX:=HAP0.out rfl
     subst hX;clear HAP0 HAP1;go_wp2_with fail;go_ret2
     exact ⟨rfl,HS1.out.b⟩
   · go_wp2_with fail
     refine (HW2.out _).mono ?_
     rintro e w' ⟨rfl,rfl⟩;cases s2
     · have hX:=HAP0.out rfl
       subst hX;clear HAP0 HAP1;go_wp2_with fail;go_ret2
       exact ⟨rfl,HS1.out.b⟩
     · rcases HZR.out with hz | hz
       · subst hz
         have hX:=HAP0.out rfl
         subst hX;clear HAP0 HAP1;go_wp2_with fail;go_ret2
         exact ⟨rfl,HS1.out.b⟩
       · subst hz
         have hX:=HAP1.out rfl
         have HX:=zh hX;clear hX HAP0 HAP1;go_upto_region 5 with fail
         clear e2 e3 e4 e5 e6 e7 k0 k1 k2 k3 hbits;have HMS:Hid (∀ wx,ApB w R a wx→wx.cell? ⟨w.heap.size,10,none⟩=some (.int .i64 r.wo)∧wx.cell? ⟨w.heap.size,11,none⟩=some (.int .i64 r.wn)∧wx.cell? ⟨w.heap.size,12,none⟩=some (.slice WA (flen r.wl) wk)∧wx.cell? ⟨w.heap.size+1,0,none⟩=some (.int .i64 a.kind)∧wx.cell? ⟨w.heap.size+1,1,none⟩=some (.int .i64 a.fr)∧wx.cell? ⟨w.heap.size+1,2,none⟩=some (.int .i64 a.un)∧wx.cell? ⟨w.heap.size+1,3,none⟩=some (.int .i64 a.pers)∧ApB w R a wx):=fun wx h=>by
          obtain ⟨k0,k1,k2,k3⟩:=h.asks
          exact ⟨h.cell 10 _ R10.out,h.cell 11 _ R11.out,h.cell 12 _ R12.out,k0,k1,k2,k3,h⟩
         have hWl:w.heap.size+1<W.heap.size:=HS1.out.lt
         go_region_held3 (fun w'=>w'.cell? ⟨w.heap.size,10,none⟩=some (.int .i64 r.wo)∧w'.cell? ⟨w.heap.size,11,none⟩=some (.int .i64 r.wn)∧w'.cell? ⟨w.heap.size,12,none⟩=some (.slice WA (flen r.wl) wk)∧w'.cell? ⟨w.heap.size+1,0,none⟩=some (.int .i64 a.kind)∧w'.cell? ⟨w.heap.size+1,1,none⟩=some (.int .i64 a.fr)∧w'.cell? ⟨w.heap.size+1,2,none⟩=some (.int .i64 a.un)∧w'.cell? ⟨w.heap.size+1,3,none⟩=some (.int .i64 a.pers)∧ApB w R a w')
          (first | (with_reducible exact HMS.out _ HS1.out.drew) | (with_reducible exact HMS.out _ (HS1.out.alloc _).drew) | (with_reducible exact HMS.out _ L6) | (with_reducible exact HMS.out _ L5) | (with_reducible exact HMS.out _ (L6.alloc _)) | (with_reducible exact HMS.out _ (L5.alloc _)) | (exact HMS.out _ ((‹_∧_∧_∧_∧_∧_∧_∧ApB w R a _›).2.2.2.2.2.2.2.alloc _)) | (exact HMS.out _ ((L6.set (b:=W.heap.size) (by omega) 0 _).set (b:=W.heap.size) (by omega) 1 _)) | (exact HMS.out _ ((L6.set (b:=w5.heap.size) (by have:=L5.lt;omega) 0 _).set (b:=w5.heap.size) (by have:=L5.lt;omega) 1 _)) | fail)
          (first
           | (go_at_call 108;have hA:=(‹_∧_∧_∧_∧_∧_∧_∧ApB w R a _›).2.2.2.2.2.2.2;refine (HVARS.out _).mono ?_;rintro e w5 ⟨rfl,hb5⟩;have L5:=hA.on hb5;try (have hz:=(hb5.block W.heap.size (by simp [go_sem])).trans (za W (.cells #[.int .i64 0,.int .i64 0] 60));have HZ5:Hid (RatB w5 W.heap.size 0 0):=hz;clear hz);clear hb5 hA)
           | (go_at_call 107;have hA:=(‹_∧_∧_∧_∧_∧_∧_∧ApB w R a _›).2.2.2.2.2.2.2;refine (HVAL.out _ hA.b).mono ?_;rintro e w6 ⟨rfl,hb6⟩;have L6:=hA.on hb6;first | (have hz:=HZ5.out.on hb6;have z0:=hz.c0;have z1:=hz.c1;have y0:=hz.fr 0;have y1:=hz.fr 1;clear hz hb6 hA) | (have hz:RatB w6 w5.heap.size 0 0:=(hb6.block w5.heap.size (by simp [go_sem])).trans (za w5 (.cells #[.int .i64 0,.int .i64 0] 60));have z0:=hz.c0;have z1:=hz.c1;have y0:=hz.fr 0;have y1:=hz.fr 1;clear hz hb6 hA) | (clear hb6 hA)))
         all_goals
          have ho:=ap_out HX.out HVE.out
          have HO:=zh ho;clear ho;go_wp2_with fail;refine bodyPost_ret (v:=.tuple #[.bool (vN V==1),.int .i64 (vE V)]) (by simp [results,Tryz.results146,go_sem]) rfl ?_
          refine ⟨by rw [apO,HO.out.1,HO.out.2],?_⟩
          first
           | exact (L6.alloc _).b
           | exact ((L6.set (b:=W.heap.size) (by omega) 0 _).set (b:=W.heap.size) (by omega) 1 _).b
           | exact ((L6.set (b:=w5.heap.size) (by have:=L5.lt;omega) 0 _).set (b:=w5.heap.size) (by have:=L5.lt;omega) 1 _).b
 · have dk:(r.kd != a.kind)=true:=by simpa using hk
   have dk1:decide (r.kd=a.kind)=false:=by simpa using hk
   rw [dk1] at HAP0
   have hX:=HAP0.out rfl
   subst hX;clear HAP0 HAP1 hk dk1;cases s1
   · go_wp2_with fail
     go_ret2
     exact ⟨rfl,HS1.out.b⟩
   · go_wp2_with fail
     refine (HW2.out _).mono ?_
     rintro e w' ⟨rfl,rfl⟩;go_wp2_with fail;go_ret2
     exact ⟨rfl,HS1.out.b⟩
end
end Go.Proofs.YtnepkoepbapgeaaGreatDoor
