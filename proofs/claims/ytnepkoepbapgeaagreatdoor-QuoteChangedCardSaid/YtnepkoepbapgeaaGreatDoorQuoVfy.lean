/-
  Several texts in one: QuoSgn, QuoVfy.
-/
import Derived.Test.YtnepkoepbapgeaaGreatDoorQuoSay
import Derived.Test.YtnepkoepbapgeaaGreatDoorQuoDig
import Derived.Deep.RegionHeld3
namespace Go.Proofs.YtnepkoepbapgeaaGreatDoor
set_option maxHeartbeats 8000000
set_option maxRecDepth 100000
section
open Go.RowKit Lx Px Qx
namespace Qx
theorem pw_odd (o b y:Nat)(h:y % 2=1):(o*b % mP)*(b*b % mP) ^ (y / 2) % mP=o*b ^ y % mP:=by
 have e2:(b*b % mP) ^ (y / 2) % mP=b ^ (2*(y / 2)) % mP:=by rw [← Nat.pow_mod,Nat.pow_mul,Nat.pow_two]
 rw [Nat.mul_mod,e2]
 have ex:y=2*(y / 2)+1:=by omega
 conv=>rhs;rw [ex,Nat.pow_succ,show o*(b ^ (2*(y / 2))*b)=o*b*b ^ (2*(y / 2)) by rw [Nat.mul_assoc,Nat.mul_comm (b ^ _) b]]
 rw [Nat.mul_mod (o*b),Nat.mod_mod]
theorem Zpk (o b y:Nat)(h:y % 2=0):o*(b*b % mP) ^ (y / 2) % mP=o*b ^ y % mP:=by
 have e2:(b*b % mP) ^ (y / 2) % mP=b ^ (2*(y / 2)) % mP:=by rw [← Nat.pow_mod,Nat.pow_mul,Nat.pow_two]
 rw [Nat.mul_mod,e2,← Nat.mul_mod]
 have ex:2*(y / 2)=y:=by omega
 rw [ex]
end Qx
def SigB (w:World)(p:Nat)(e s:Int):Prop:=w.heap[p]?=some (.cells #[.int .i64 e,.int .i64 s] 30 (0,0))
theorem SigB.lt {w:World}{p:Nat}{e s:Int}(h:SigB w p e s):p<w.heap.size:=(zs h)
theorem SigB.on {w w':World}{p:Nat}{e s:Int}(h:SigB w p e s)(hb:Below w.heap.size w w'):SigB w' p e s:=(hb.block p h.lt).trans h
theorem SigB.cells {w:World}{p:Nat}{e s:Int}(h:SigB w p e s):w.cell? ⟨p,0,none⟩=some (.int .i64 e)∧w.cell? ⟨p,1,none⟩=some (.int .i64 s)∧w.frozen? ⟨p,0,none⟩=false∧w.frozen? ⟨p,1,none⟩=false:=by
 have h':w.heap[p]?=_:=h
 refine ⟨?_,?_,?_,?_⟩
 · rw [zc h];rfl
 · rw [zc h];rfl
 · simp [World.frozen?,h']
 · simp [World.frozen?,h']
theorem SigB.set {w:World}{p:Nat}{e s:Int}(h:SigB w p e s)(e' s':Int):SigB ((w.setCell ⟨p,0,none⟩ (.int .i64 e')).setCell ⟨p,1,none⟩ (.int .i64 s')) p e' s':=by
 have h':w.heap[p]?=_:=h
 simp [SigB,World.setCell,Array.getElem?_modify,h']
theorem SigB.new (w:World)(e s:Int):SigB (w.alloc (.cells #[.int .i64 e,.int .i64 s] 30)) w.heap.size e s:=za w _
def witQ (n lo:Int):Bool:=decide (lo≤n)&&decide (n<1073741789)
theorem Z2H (n lo:Int)(w:World):Calls Tryz.prog 69 #[.int .i64 n,.int .i64 lo] w fun e w'=>e=.returned (.bool (witQ n lo))∧w=w':=by
 unfold witQ
 obtain ⟨b1,h1⟩:∃ b,decide (lo≤n)=b:=⟨_,rfl⟩
 obtain ⟨b2,h2⟩:∃ b,decide (n<1073741789)=b:=⟨_,rfl⟩
 rw [h1,h2]
 cases b1 <;> cases b2
 all_goals
  go_enter Tryz.func69,Tryz.ntmps69
  go_wp2_with fail;go_ret
  exact ⟨rfl,rfl⟩
theorem Zbv (p x y:Nat)(w:World)(h:IntB w p x)(hx:x<mP)(hy:y<mP):Calls Tryz.prog 114 #[.pointer (some ⟨p,0,none⟩),.int .i64 y] w fun e w'=>e=.returned (.tuple #[])∧IntB w' p ((x*y % mP:Nat):Int)∧But p w w':=by
 unfold mP at hx hy
 have c0:=h.c
 have f0:=h.fr
 have hxy:(x:Int)*y<2147483579*2147483579:=by
  have:x*y≤2147483578*2147483578:=Nat.mul_le_mul (by omega) (by omega)
  have h2:((x*y:Nat):Int)=(x:Int)*y:=Int.natCast_mul _ _
  omega
 have hxy0:(0:Int)≤(x:Int)*y:=Int.mul_nonneg (by omega) (by omega)
 have hw:IntKind.i64.wrap ((x:Int)*y)=(x:Int)*y:=IntWalk.i64_in _ (by omega)
 have ht:((x:Int)*y).tmod 2147483579=((x*y % mP:Nat):Int):=by
  rw [Int.tmod_eq_emod_of_nonneg hxy0,← Int.natCast_mul];unfold mP;omega
 have hset:=h.set ((x*y % mP:Nat):Int)
 have hbt:=(But.refl p w).set (p:=⟨p,0,none⟩) rfl (.int .i64 ((x*y % mP:Nat):Int))
 generalize ((x*y % mP:Nat):Int)=z at *
 have HSET:=zh hset;have HBT:=zh hbt;clear hset hbt h;go_enter Tryz.func114,Tryz.ntmps114
 go_wp2_with fail;go_end0
 exact ⟨rfl,HSET.out,HBT.out⟩
theorem Z4d (a x:Nat)(w:World)(ha:a<mP)(hx:x<9223372036854775808):Calls Tryz.prog 70 #[.int .i64 a,.int .i64 x] w fun e w'=>e=.returned (.int .i64 (powP a x:Nat))∧Below w.heap.size w w':=by
 have hb0:=(Below.refl w.heap.size w).alloc (zn _) (.cells #[.int .i64 (a:Int)] 3)
 have hb:=hb0.alloc hb0.size (.cells #[.int .i64 1] 3)
 have hA:IntB ((w.alloc (.cells #[.int .i64 (a:Int)] 3)).alloc (.cells #[.int .i64 1] 3)) w.heap.size (a:Nat):=(IntB.new w (a:Nat)).on ((Below.refl _ _).alloc (zn _) _)
 have hO:IntB ((w.alloc (.cells #[.int .i64 (a:Int)] 3)).alloc (.cells #[.int .i64 1] 3)) (w.heap.size+1) (1:Nat):=by
  have:=IntB.new (w.alloc (.cells #[.int .i64 (a:Int)] 3)) 1
  rwa [World.size_alloc] at this
 have hmf:∀ (fn:Fn) (first cap:Array Value) (w:World),(Instr.makeFunc fn first cap).run Tryz.prog w=.ok (.func fn first cap) w:=fun _ _ _ _=>rfl
 have HB:=zh hb;have HA:=zh hA;have HO:=zh hO;clear hb hA hO hb0;go_enter Tryz.func70,Tryz.ntmps70
 go_wp2_with fail;generalize (w.alloc (.cells #[.int .i64 (a:Int)] 3)).alloc (.cells #[.int .i64 1] 3)=w1 at *
 go_loopw [1] (fun i wr=>∃ o b y:Nat,i=.int .i64 (y:Nat)∧y<9223372036854775808∧o<mP∧b<mP∧o*b ^ y % mP=powP a x∧IntB wr w.heap.size (b:Nat)∧IntB wr (w.heap.size+1) (o:Nat)∧Below w.heap.size w wr) (fun i _=>(intOf i).toNat)
 case atStart=>exact ⟨1,a,x,rfl,hx,by decide,ha,by rw [Nat.one_mul];rfl,HA.out,HO.out,HB.out⟩
 case round =>
  obtain ⟨o,b,y,rfl,hy,ho,hb,hpw,hIA,hIO,hbw⟩:=hrel
  by_cases h0:y=0
  · subst h0
    have ho2:o=powP a x:=by rw [← hpw,Nat.pow_zero,Nat.mul_one,Nat.mod_eq_of_lt ho]
    subst ho2;have c1:=hIO.c
    have HBW:=zh hbw;clear hbw hIA hIO hpw;go_wp2_with fail;go_ret
    exact ⟨rfl,HBW.out⟩
  · have d0:decide ((y:Int) > 0)=true:=by simp;omega
    have hdv:(y:Int).tdiv 2=((y / 2:Nat):Int):=by rw [Int.tdiv_eq_ediv_of_nonneg (by omega)];omega
    have hmd:(y:Int).tmod 2=((y % 2:Nat):Int):=by rw [Int.tmod_eq_emod_of_nonneg (by omega)];omega
    have ca:=hIA.c
    have co:=hIO.c
    have lz:=hIO.lt
    have hodd:=pw_odd o b y
    have heven:=Zpk o b y
    have hT:=fun W (h:IntB W w.heap.size (b:Nat))=>Zbv w.heap.size b b W h hb hb
    have hm3:o*b % mP<mP:=Nat.mod_lt _ (by decide)
    have hm4:b*b % mP<mP:=Nat.mod_lt _ (by decide)
    by_cases h1:y % 2=1
    · have hT0:=Zbv (w.heap.size+1) o b wr hIO ho hb
      have hpw2:=(hodd h1).trans hpw
      rw [h1] at hmd
      generalize o*b % mP=o' at *
      generalize b*b % mP=b' at *
      have HT0:=zh hT0;have HT:=zh hT;have HIA:=zh hIA;have HIO:=zh hIO;have HBW:=zh hbw;have HPW:=zh hpw2;clear hT0 hT hIA hIO hbw hpw2 hodd heven hpw;go_wp2_with fail;refine HT0.out.mono ?_
      rintro e w2 ⟨rfl,hO2,hbt⟩;have hA2:=HIA.out.but hbt (by omega)
      have hB2:=HBW.out.trans ((hbt.below (by omega)).mono (by omega))
      have ca:=hA2.c
      have HA2:=zh hA2;have HO2:=zh hO2;have HB2:=zh hB2;clear hA2 hO2 hB2 hbt HT0 HIA HIO HBW co;go_wp2_with fail;refine (HT.out _ HA2.out).mono ?_
      rintro e w3 ⟨rfl,hA3,hbt⟩;have hO3:=HO2.out.but hbt (by omega)
      have hB3:=HB2.out.trans (hbt.below (by have:=HB2.out.size;omega))
      have HA3:=zh hA3;have HO3:=zh hO3;have HB3:=zh hB3;clear hA3 hO3 hB3 hbt HA2 HO2 HB2;go_wp2_with fail;go_roundw
      case rel=>exact ⟨o',b',y / 2,rfl,by omega,hm3,hm4,HPW.out,HA3.out,HO3.out,HB3.out⟩
      case measure=>simp [intOf];omega
    · have h2:y % 2=0:=by omega
      have hpw2:=(heven h2).trans hpw
      rw [h2] at hmd
      generalize b*b % mP=b' at *
      have HT:=zh hT;have HIA:=zh hIA;have HIO:=zh hIO;have HBW:=zh hbw;have HPW:=zh hpw2;clear hT hIA hIO hbw hpw2 hodd heven hpw hm3;go_wp2_with fail;refine (HT.out _ HIA.out).mono ?_
      rintro e w3 ⟨rfl,hA3,hbt⟩;have hO3:=HIO.out.but hbt (by omega)
      have hB3:=HBW.out.trans (hbt.below (by have:=HBW.out.size;omega))
      have HA3:=zh hA3;have HO3:=zh hO3;have HB3:=zh hB3;clear hA3 hO3 hB3 hbt HIA HIO HBW;go_wp2_with fail;go_roundw
      case rel=>exact ⟨o,b',y / 2,rfl,by omega,ho,hm4,HPW.out,HA3.out,HO3.out,HB3.out⟩
      case measure=>simp [intOf];omega
theorem Z99 (a:Int)(w:World):Calls Tryz.prog 55 #[.int .i64 a] w fun e w'=>e=.returned (.bool (memB a))∧Below w.heap.size w w':=by
 unfold memB
 by_cases h1:1≤a
 · have d1:decide (1≤a)=true:=by simpa using h1
   by_cases h2:a<2147483579
   · have d2:decide (a<2147483579)=true:=by simpa using h2
     rw [d1,d2]
     obtain ⟨n,rfl⟩:=Int.eq_ofNat_of_zero_le (show 0≤a by omega)
     have hp:=Z4d n mQ w (by unfold mP;omega) (by decide)
     have hd:(((powP n mQ:Nat):Int)==1)=decide (powP n mQ=1):=by
      by_cases h:powP n mQ=1
      · rw [h];rfl
      · rw [decide_eq_false h];simpa using (by omega:((powP n mQ:Nat):Int)≠1)
     have hq:((mQ:Nat):Int)=1073741789:=rfl
     rw [hq] at hp
     rw [show ((n:Int)).toNat=n from Int.toNat_natCast n]
     generalize powP n mQ=z at *
     have HP:=zh hp;clear hp hq;go_enter Tryz.func55,Tryz.ntmps55
     go_wp2_with fail;refine (HP.out).mono ?_
     rintro e w' ⟨rfl,hb⟩;go_wp2_with fail;go_ret
     exact ⟨by simp,hb⟩
   · have d2:decide (a<2147483579)=false:=by simpa using h2
     rw [d1,d2]
     go_enter Tryz.func55,Tryz.ntmps55
     go_wp2_with fail;go_ret
     exact ⟨rfl,Below.refl _ _⟩
 · have d1:decide (1≤a)=false:=by simpa using h1
   rw [d1]
   go_enter Tryz.func55,Tryz.ntmps55
   go_wp2_with fail;go_ret
   exact ⟨rfl,Below.refl _ _⟩
theorem Z9a (s:Int)(w:World)(h:secB s=true):Calls Tryz.prog 26 #[.int .i64 s] w fun e w'=>e=.returned (.tuple #[.int .i64 (powP 4 s.toNat:Nat),.int .i64 0])∧Below w.heap.size w w':=by
 have hw:witQ s 1=true:=h
 unfold secB at h
 simp only [Bool.and_eq_true,decide_eq_true_eq] at h
 obtain ⟨n,rfl⟩:=Int.eq_ofNat_of_zero_le (show 0≤s by omega)
 have hwi:=fun W=>Z2H n 1 W
 rw [hw] at hwi
 have hp:=fun W=>Z4d 4 n W (by decide) (by omega)
 rw [show ((n:Int)).toNat=n from Int.toNat_natCast n]
 generalize powP 4 n=z at *
 have HP:=zh hp;have HWI:=zh hwi;clear hp hwi;go_enter Tryz.func26,Tryz.ntmps26
 go_wp2_with fail;refine (HWI.out _).mono ?_
 rintro e w' ⟨rfl,rfl⟩;go_wp2_with fail;refine (HP.out _).mono ?_
 rintro e w' ⟨rfl,hb⟩;go_wp2_with fail;go_ret2
 exact ⟨rfl,hb⟩
theorem Z5F (a p:Nat)(v:Value)(l:List Int)(B:Nat)(w:World)(ha:a<mP)(hp:p<mP)(hv:Z02 w w.heap.size v l)(hl:l.length≤100000)(hr:∀ x∈l,-9223372036854775808≤x∧x≤9223372036854775807)(ht:Tabs B w) :
 Calls Tryz.prog 95 #[.int .i64 a,.int .i64 p,v] w fun e w'=>e=.returned (.int .i64 (chal ((a:Int)::(p:Int)::l):Nat))∧Below w.heap.size w w':=by
 have hBw:B≤w.heap.size:=ht.2.2.1
 unfold mP at ha hp
 obtain ⟨A,c,rfl,_⟩:=id hv
 have hs:=Z8A (.slice none 0 0) [] w (BytV.nil _ _ _) (by simp)
 have hslt:=Z6t Z3a [] Z4t
 have hE:chal ((a:Int)::(p:Int)::l)=Z8b (sumD []) ((a:Int)::(p:Int)::l) % 1073741789:=rfl
 have hnx:=fun V W hv' ht'=>Z7x (sumD []) V ((a:Int)::(p:Int)::l) B W hslt hv' (by simp;omega) (by
  intro x hx
  simp only [List.mem_cons] at hx
  rcases hx with rfl | rfl | hx
  · omega
  · omega
  · exact hr x hx) ht'
 have hnlt:=Ze0 (sumD []) ((a:Int)::(p:Int)::l)
 rw [hE]
 have hmn:0≤Z8b (sumD []) ((a:Int)::(p:Int)::l) % 1073741789∧Z8b (sumD []) ((a:Int)::(p:Int)::l) % 1073741789<1073741789:=⟨Nat.zero_le _,Nat.mod_lt _ (by decide)⟩
 generalize sumD []=s0 at *
 generalize Z8b s0 ((a:Int)::(p:Int)::l)=N at *
 have hmod:((N:Nat):Int).tmod 1073741789=((N % 1073741789:Nat):Int):=by
  rw [Int.tmod_eq_emod_of_nonneg (by omega)];omega
 generalize N % 1073741789=M at *
 clear hE;have HS:=zh hs;have HV:=zh hv;have HT:=zh ht;have HNX:=zh hnx;clear hs hv ht hnx;go_enter Tryz.func95,Tryz.ntmps95
 go_wp2_with fail;refine HS.out.mono ?_
 rintro e w1 ⟨rfl,hb1⟩;have hv1:=HV.out.on hb1
 have hB1:=hb1
 have hown:(w1.alloc (.cells #[.int .i64 (a:Int),.int .i64 (p:Int)] 3)).ownsRow w.heap.size 3 1 (.slice (some ⟨w1.heap.size,0,none⟩) 2 2) 2 (([(a:Int),(p:Int)]:List Int).map (.int .i64)) :=
  World.ownsRow_lit w1 #[.int .i64 (a:Int),.int .i64 (p:Int)] 2 hb1.size (by unfold maxLen;omega) rfl
 have hal:=(Below.refl w1.heap.size w1).alloc (zn _) (.cells #[.int .i64 (a:Int),.int .i64 (p:Int)] 3)
 have hv2:=(hv1.up hb1.size).on hal
 have hB2:=hb1.trans (hal.mono hb1.size)
 have hsz2:w.heap.size≤(w1.alloc (.cells #[.int .i64 (a:Int),.int .i64 (p:Int)] 3)).heap.size:=hB2.size
 have hs1:w.heap.size≤w1.heap.size:=hb1.size
 have HOWN:=zh hown;have HV2:=zh hv2;have HB2:=zh hB2;clear hown hv2 hB2 hb1 hv1 hB1 hal HS;go_wp2_with (at_builtin;refine Z16 rfl _ _ rfl w.heap.size _ _ [(a:Int),(p:Int)] rfl HOWN.out A l.length c l rfl HV2.out (by simp;omega) hsz2 ?_;intro v' w3 hown' hgrow)
 have hb3:Below w.heap.size w w3:=HB2.out.grown hgrow hsz2 (fun g e=>by cases e;exact hs1)
 have hv3:Z02 w3 w3.heap.size v' ((a:Int)::(p:Int)::l):=Z02.own hown' rfl
 obtain ⟨A6,c6,rfl,hc6⟩:=Z3m hown' rfl
 have hnx:=HNX.out _ w3 hv3 (HT.out.on (hb3.mono hBw))
 have HB3:=zh hb3;have HNX2:=zh hnx;have HO:=zh hown';clear hb3 hnx hown' HNX hgrow HV HV2 HB2 HOWN HT;go_wp2_with fail;refine HNX2.out.mono ?_
 rintro e w4 ⟨rfl,hb4⟩;have hb5:=Z00 HB3.out hb4
 have HB5:=zh hb5;clear hb5 hb4 HB3 HNX2;go_wp2_with fail;go_ret
 exact ⟨rfl,HB5.out⟩
theorem Za0 (s o:Nat)(v:Value)(l:List Int)(B:Nat)(w:World)(hs:s<1073741789)(ho:o<1073741789)(hv:Z02 w w.heap.size v l)(hl:l.length≤100000)(hr:∀ x∈l,-9223372036854775808≤x∧x≤9223372036854775807)(ht:Tabs B w) :
 Calls Tryz.prog 72 #[.int .i64 s,.int .i64 o,v] w fun e w'=>e=.returned (.agg #[.int .i64 (sigE s o l:Nat),.int .i64 (sigS s o l:Nat)])∧Below w.heap.size w w':=by
 have hBw:B≤w.heap.size:=ht.2.2.1
 obtain ⟨A,c,rfl,_⟩:=id hv
 have hb:=(Below.refl w.heap.size w).alloc (zn _) (.cells #[.int .i64 0,.int .i64 0] 30)
 have hx:=za w (.cells #[.int .i64 0,.int .i64 0] 30)
 have hp:=fun x (h:x<9223372036854775808) W=>Z4d 4 x W (by decide) h
 have hpo:=hp o (by omega)
 have hps:=hp s (by omega)
 have hch:=fun W hv' ht'=>Z5F (powP 4 o) (powP 4 s) (.slice A l.length c) l B W (Nat.mod_lt _ (by decide)) (Nat.mod_lt _ (by decide)) hv' hl hr ht'
 have hE:chal ((powP 4 o:Int)::(powP 4 s:Int)::l)=sigE s o l:=rfl
 have hS:sigS s o l=(o+sigE s o l*s) % 1073741789:=rfl
 have hlt:sigE s o l<1073741789:=Nat.mod_lt _ (by decide)
 rw [hE] at hch
 rw [hS]
 generalize powP 4 o=po at *
 generalize powP 4 s=ps at *
 generalize sigE s o l=E at *
 have hm:E*s≤1073741788*1073741788:=Nat.mul_le_mul (by omega) (by omega)
 have hm2:((E*s:Nat):Int)=(E:Int)*s:=Int.natCast_mul _ _
 have hm0:(0:Int)≤(E:Int)*s:=by rw [← hm2];omega
 have hw1:IntKind.i64.wrap ((E:Int)*s)=(E:Int)*s:=IntWalk.i64_in _ (by omega)
 have hw2:IntKind.i64.wrap ((o:Int)+(E:Int)*s)=(o:Int)+(E:Int)*s:=IntWalk.i64_in _ (by omega)
 have ht2:((o:Int)+(E:Int)*s).tmod 1073741789=(((o+E*s) % 1073741789:Nat):Int):=by
  rw [Int.tmod_eq_emod_of_nonneg (by omega),← hm2];omega
 generalize (o+E*s) % 1073741789=S at *
 have HB:=zh hb;have HX:=zh hx;have HPO:=zh hpo;have HPS:=zh hps;have HCH:=zh hch;have HV:=zh hv;have HT:=zh ht;clear hb hx hpo hps hch hv ht hp hE hS hm hm2 hr;go_enter Tryz.func72,Tryz.ntmps72
 go_wp2_with fail;generalize w.alloc (.cells #[.int .i64 0,.int .i64 0] 30)=w1 at *
 refine (HPO.out w1).mono ?_
 rintro e w2 ⟨rfl,hb2⟩;have hx2:=(hb2.block _ (zs HX.out)).trans HX.out
 have hB2:=Z00 HB.out hb2
 have HX2:=zh hx2;have HB2:=zh hB2;clear hx2 hB2 hb2 HX HB;go_wp2_with fail;refine (HPS.out w2).mono ?_
 rintro e w3 ⟨rfl,hb3⟩;have hx3:=(hb3.block _ (zs HX2.out)).trans HX2.out
 have hB3:=Z00 HB2.out hb3
 have hch:=HCH.out w3 ((HV.out.on hB3).up hB3.size) (HT.out.on (hB3.mono hBw))
 have HX3:=zh hx3;have HB3:=zh hB3;have HCH2:=zh hch;clear hx3 hB3 hch hb3 HX2 HB2 HCH;go_wp2_with fail;refine HCH2.out.mono ?_
 rintro e w4 ⟨rfl,hb4⟩;have hx4:SigB w4 w.heap.size 0 0:=(hb4.block _ (zs HX3.out)).trans HX3.out
 have hB4:=Z00 HB3.out hb4
 obtain ⟨c0,c1,f0,f1⟩:=hx4.cells
 have hx5:=hx4.set (E:Nat) (S:Nat)
 obtain ⟨k0,k1,_,_⟩:=hx5.cells
 have hB5:=(hB4.setCell (p:=⟨w.heap.size,0,none⟩) (zn _) (.int .i64 (E:Nat))).setCell (p:=⟨w.heap.size,1,none⟩) (zn _) (.int .i64 (S:Nat))
 have HX4:=zh hx4;have HB5:=zh hB5;have HX5:=zh hx5;clear hx4 hB5 hx5 hb4 HX3 HB3 HCH2 hB4;go_wp2_with fail;refine bodyPost_ret (v:=.agg #[.int .i64 (E:Nat),.int .i64 (S:Nat)]) (by simp [results,Tryz.results72,go_sem,k0,k1]) rfl ?_
 exact ⟨rfl,HB5.out⟩
def Zfx (s o:Int)(l:List Int):Value :=
 if secB s&&secB o then .tuple #[.agg #[.int .i64 (sigE s.toNat o.toNat l:Nat),.int .i64 (sigS s.toNat o.toNat l:Nat)],.int .i64 0] else .tuple #[.agg #[.int .i64 0,.int .i64 0],.int .i64 1]
theorem Z6u (s o:Int)(v:Value)(l:List Int)(B:Nat)(w:World)(hv:Z02 w w.heap.size v l)(hl:l.length≤100000)(hr:∀ x∈l,-9223372036854775808≤x∧x≤9223372036854775807)(ht:Tabs B w) :
 Calls Tryz.prog 28 #[.int .i64 s,.int .i64 o,v] w fun e w'=>e=.returned (Zfx s o l)∧Below w.heap.size w w':=by
 have hBw:B≤w.heap.size:=ht.2.2.1
 obtain ⟨A,c,rfl,_⟩:=id hv
 have hb:=(Below.refl w.heap.size w).alloc (zn _) (.cells #[.int .i64 0,.int .i64 0] 30)
 have hx:SigB (w.alloc (.cells #[.int .i64 0,.int .i64 0] 30)) w.heap.size 0 0:=SigB.new w 0 0
 have hw1:=fun W=>Z2H s 1 W
 have hw2:=fun W=>Z2H o 1 W
 have hs1:witQ s 1=secB s:=rfl
 have hs2:witQ o 1=secB o:=rfl
 rw [hs1] at hw1
 rw [hs2] at hw2
 have hgo:secB s=true→secB o=true→∀ W:World,Below w.heap.size w W→Calls Tryz.prog 72 #[.int .i64 s,.int .i64 o,.slice A l.length c] W fun e w'=>e=.returned (.agg #[.int .i64 (sigE s.toNat o.toNat l:Nat),.int .i64 (sigS s.toNat o.toNat l:Nat)])∧Below W.heap.size W w':=by
  intro h1 h2 W hb
  simp only [secB,Bool.and_eq_true,decide_eq_true_eq] at h1 h2
  obtain ⟨a,rfl⟩:=Int.eq_ofNat_of_zero_le (show 0≤s by omega)
  obtain ⟨b,rfl⟩:=Int.eq_ofNat_of_zero_le (show 0≤o by omega)
  exact Za0 a b (.slice A l.length c) l B W (by omega) (by omega) ((hv.on hb).up hb.size) hl hr (ht.on (hb.mono hBw))
 unfold Zfx
 generalize ((sigE s.toNat o.toNat l:Nat):Int)=E at *
 generalize ((sigS s.toNat o.toNat l:Nat):Int)=S at *
 generalize secB s=b1 at *
 generalize secB o=b2 at *
 clear hs1 hs2 hr;obtain ⟨c0,c1,f0,f1⟩:=hx.cells
 have hx0:=hx.set 0 0
 obtain ⟨k0,k1,_,_⟩:=hx0.cells
 have hb0:=(hb.setCell (p:=⟨w.heap.size,0,none⟩) (zn _) (.int .i64 0)).setCell (p:=⟨w.heap.size,1,none⟩) (zn _) (.int .i64 0)
 have HB:=zh hb;have HX:=zh hx;have HW1:=zh hw1;have HW2:=zh hw2;have HGO:=zh hgo;have HV:=zh hv;have HT:=zh ht;have HB0:=zh hb0;have HX0:=zh hx0;clear hb hx hw1 hw2 hgo hv ht hb0 hx0;cases b1 with
 | false =>
  go_enter Tryz.func28,Tryz.ntmps28
  go_wp2_with fail;refine (HW1.out _).mono ?_
  rintro e w' ⟨rfl,rfl⟩;go_wp2_with fail;refine bodyPost_ret (v:=.tuple #[.agg #[.int .i64 0,.int .i64 0],.int .i64 1]) (by simp [results,Tryz.results28,go_sem]) rfl ?_
  exact ⟨rfl,by first | exact HB0.out | exact HB.out⟩
 | true =>
  cases b2 with
  | false =>
   go_enter Tryz.func28,Tryz.ntmps28
   go_wp2_with fail;refine (HW1.out _).mono ?_
   rintro e w' ⟨rfl,rfl⟩;go_wp2_with fail;refine (HW2.out _).mono ?_
   rintro e w' ⟨rfl,rfl⟩;go_wp2_with fail;refine bodyPost_ret (v:=.tuple #[.agg #[.int .i64 0,.int .i64 0],.int .i64 1]) (by simp [results,Tryz.results28,go_sem]) rfl ?_
   exact ⟨rfl,by first | exact HB0.out | exact HB.out⟩
  | true =>
   have hcall:=HGO.out rfl rfl _ HB.out
   have HC:=zh hcall;clear hcall;go_enter Tryz.func28,Tryz.ntmps28
   go_wp2_with fail;refine (HW1.out _).mono ?_
   rintro e w' ⟨rfl,rfl⟩;go_wp2_with fail;refine (HW2.out _).mono ?_
   rintro e w' ⟨rfl,rfl⟩;clear c0 c1 f0 f1 k0 k1;go_wp2_with fail;refine HC.out.mono ?_
   rintro e w4 ⟨rfl,hb4⟩;have hx4:=HX.out.on hb4
   have hB4:=Z00 HB.out hb4
   obtain ⟨c0,c1,f0,f1⟩:=hx4.cells
   have hx5:=hx4.set E S
   obtain ⟨k0,k1,_,_⟩:=hx5.cells
   have hB5:=(hB4.setCell (p:=⟨w.heap.size,0,none⟩) (zn _) (.int .i64 E)).setCell (p:=⟨w.heap.size,1,none⟩) (zn _) (.int .i64 S)
   have HX4:=zh hx4;have HB5:=zh hB5;have HX5:=zh hx5;clear hx4 hB5 hx5 hb4 hB4 HC HX HB;go_wp2_with fail;refine bodyPost_ret (v:=.tuple #[.agg #[.int .i64 E,.int .i64 S],.int .i64 0]) (by simp [results,Tryz.results28,go_sem,k0,k1]) rfl ?_
   exact ⟨rfl,HB5.out⟩
end
section
open Go.RowKit Lx Px Qx
structure SgK (w:World) (e s:Int) (W:World):Prop where
 s:SigB W w.heap.size e s
 b:Below w.heap.size w W
theorem SgK.on {w W W':World}{e s:Int}(h:SgK w e s W)(hb:Below W.heap.size W W'):SgK w e s W':=⟨h.s.on hb,Z00 h.b hb⟩
theorem SgK.drew {w W:World}{e s:Int}(h:SgK w e s W):SgK w e s W.drew:=h.on (Below.refl _ _).drew
theorem Zfy (p:Int)(e s:Int)(v:Value)(l:List Int)(B:Nat)(w:World)(hp:memB p=true)(hv:Z02 w w.heap.size v l)(hl:l.length≤100000)(hr:∀ x∈l,-9223372036854775808≤x∧x≤9223372036854775807)(ht:Tabs B w) :
 Calls Tryz.prog 57 #[.int .i64 p,.agg #[.int .i64 e,.int .i64 s],v] w fun ex w'=>ex=.returned (.tuple #[.bool (verB p.toNat e s l),.int .i64 (if expB e&&expB s then 0 else 1)])∧Below w.heap.size w w':=by
 have hBw:B≤w.heap.size:=ht.2.2.1
 obtain ⟨A,c,rfl,_⟩:=id hv
 have hS0:SgK w e s (w.alloc (.cells #[.int .i64 e,.int .i64 s] 30)):=⟨SigB.new w e s,(Below.refl w.heap.size w).alloc (zn _) _⟩
 obtain ⟨c0,c1,_,_⟩:=hS0.s.cells
 have hw1:=fun W=>Z2H e 0 W
 have hw2:=fun W=>Z2H s 0 W
 have hs1:witQ e 0=expB e:=rfl
 have hs2:witQ s 0=expB s:=rfl
 rw [hs1] at hw1
 rw [hs2] at hw2
 have hme:=fun W=>Z99 p W
 rw [hp] at hme
 obtain ⟨R,hR⟩:∃ R,verB p.toNat e s l=R:=⟨_,rfl⟩
 rw [hR]
 by_cases h1:expB e=true
 · by_cases h2:expB s=true
   · rw [h1] at hw1
     rw [h2] at hw2
     have hver:R=decide ((chal ((Zip p.toNat e.toNat s.toNat:Int)::(p.toNat:Int)::l):Int)=e):=by rw [← hR];unfold verB;rw [h1,h2];rfl
     rw [h1,h2]
     clear hR;simp only [expB,Bool.and_eq_true,decide_eq_true_eq] at h1 h2
     simp only [memB,Bool.and_eq_true,decide_eq_true_eq] at hp
     obtain ⟨a,rfl⟩:=Int.eq_ofNat_of_zero_le (show 0≤e by omega)
     obtain ⟨b,rfl⟩:=Int.eq_ofNat_of_zero_le (show 0≤s by omega)
     obtain ⟨q,rfl⟩:=Int.eq_ofNat_of_zero_le (show 0≤p by omega)
     simp only [Int.toNat_natCast] at hver hp ⊢
     have hp1:∀ W:World,Calls Tryz.prog 70 #[.int .i64 4,.int .i64 (b:Nat)] W fun e w'=>e=.returned (.int .i64 (powP 4 b:Nat))∧Below W.heap.size W w':=fun W=>Z4d 4 b W (by decide) (by omega)
     have hx2:(1073741789 - a) % 1073741789<1073741789:=Nat.mod_lt _ (by decide)
     have hp2:=fun W=>Z4d q ((1073741789 - a) % 1073741789) W (by unfold mP;omega) (by omega)
     have hsub:IntKind.i64.wrap (1073741789 - (a:Int))=1073741789 - (a:Int):=IntWalk.i64_in _ (by omega)
     have hrem:(1073741789 - (a:Int)).tmod 1073741789=(((1073741789 - a) % 1073741789:Nat):Int):=by rw [Int.tmod_eq_emod_of_nonneg (by omega)];omega
     have hbk:Zip q a b=powP 4 b*powP q ((1073741789 - a) % 1073741789) % 2147483579:=rfl
     have l1:powP 4 b<2147483579:=Nat.mod_lt _ (by decide)
     have l2:powP q ((1073741789 - a) % 1073741789)<2147483579:=Nat.mod_lt _ (by decide)
     simp only [hbk] at hver
     generalize powP 4 b=x1 at *
     generalize powP q ((1073741789 - a) % 1073741789)=x2 at *
     generalize (1073741789 - a) % 1073741789=x3 at *
     have hm:x1*x2≤2147483578*2147483578:=Nat.mul_le_mul (by omega) (by omega)
     have hm2:((x1*x2:Nat):Int)=(x1:Int)*x2:=Int.natCast_mul _ _
     have hwm:IntKind.i64.wrap ((x1:Int)*x2)=(x1:Int)*x2:=IntWalk.i64_in _ (by omega)
     have htm:((x1:Int)*x2).tmod 2147483579=((x1*x2 % 2147483579:Nat):Int):=by rw [Int.tmod_eq_emod_of_nonneg (by omega),← hm2];omega
     have l3:x1*x2 % 2147483579<2147483579:=Nat.mod_lt _ (by decide)
     generalize x1*x2 % 2147483579=bk at *
     have hch:=fun W hv' ht'=>Z5F bk q (.slice A l.length c) l B W l3 (by unfold mP;omega) hv' hl hr ht'
     generalize chal ((bk:Int)::(q:Int)::l)=C at *
     have HMS:Hid (∀ wx,SgK w a b wx→wx.cell? ⟨w.heap.size,0,none⟩=some (.int .i64 a)∧wx.cell? ⟨w.heap.size,1,none⟩=some (.int .i64 b)∧SgK w a b wx):=fun wx h=>⟨h.s.cells.1,h.s.cells.2.1,h⟩
     have HS0:=zh hS0;have HW1:=zh hw1;have HW2:=zh hw2;have HME:=zh hme;have HV:=zh hv;have HT:=zh ht;have HP1:=zh hp1;have HP2:=zh hp2;have HCH:=zh hch;have HVER:=zh hver;clear hS0 hw1 hw2 hme hv ht hp1 hp2 hch hver hs1 hs2 hr hbk hp l1 l2 hm hm2 l3;go_enter Tryz.func57,Tryz.ntmps57
     go_wp2_with fail;generalize w.alloc (.cells #[.int .i64 (a:Int),.int .i64 (b:Int)] 30)=w1 at *
     refine (HME.out w1).mono ?_
     rintro ex w2 ⟨rfl,hb2⟩
     have hS2:=HS0.out.on hb2
     obtain ⟨c0,c1,_,_⟩:=hS2.s.cells
     have HS2:=zh hS2;clear hS2 HS0 hb2;go_wp2_with fail;refine (HW1.out _).mono ?_
     rintro e w' ⟨rfl,rfl⟩;go_wp2_with fail;refine (HW2.out _).mono ?_
     rintro e w' ⟨rfl,rfl⟩;go_upto_region 3 with fail
     go_region_held3 (fun w'=>w'.cell? ⟨w.heap.size,0,none⟩=some (.int .i64 a)∧w'.cell? ⟨w.heap.size,1,none⟩=some (.int .i64 b)∧SgK w a b w')
      (first | (with_reducible exact HMS.out _ HS2.out.drew) | (with_reducible exact HMS.out _ L6) | (with_reducible exact HMS.out _ L5) | fail)
      (first
       | (go_at_call 70;have hA:=(‹_∧_∧SgK w a b _›).2.2;with_reducible refine (HP1.out _).mono ?_;rintro ex w5 ⟨rfl,hb5⟩;have L5:=hA.on hb5;clear hb5 hA)
       | (go_at_call 70;have hA:=(‹_∧_∧SgK w a b _›).2.2;with_reducible refine (HP2.out _).mono ?_;rintro ex w6 ⟨rfl,hb6⟩;have L6:=hA.on hb6;clear hb6 hA))
     all_goals
      have hA7:=(‹_∧_∧SgK w a b _›).2.2
      have HA7:=zh hA7;clear hA7 HP1 HP2 HW1 HW2 HME HS2 c0 c1;try clear L5
      try clear L6
      by_cases hac:a=C
      · subst hac
        have hR2:R=true:=by rw [HVER.out];simp
        subst hR2;go_wp2_with fail;go_region_held3 (fun w'=>w'.cell? ⟨w.heap.size,0,none⟩=some (.int .i64 a)∧w'.cell? ⟨w.heap.size,1,none⟩=some (.int .i64 b)∧SgK w a b w')
         (first | (with_reducible exact HMS.out _ HA7.out.drew) | (with_reducible exact HMS.out _ L8) | fail)
         (first
          | (go_at_call 95;have hA:=(‹_∧_∧SgK w a b _›).2.2;refine (HCH.out _ ((HV.out.on hA.b).up hA.b.size) (HT.out.on (hA.b.mono hBw))).mono ?_;rintro ex w8 ⟨rfl,hb8⟩;have L8:=hA.on hb8;clear hb8 hA))
        have hA9:=(‹_∧_∧SgK w a b _›).2.2
        have HA9:=zh hA9;clear hA9;go_wp2_with fail;go_ret2
        exact ⟨rfl,HA9.out.b⟩
      · have d1:((a:Int)==(C:Int))=false:=by simp;omega
        have d2:¬ ((a:Int)=(C:Int)):=by omega
        have d3:decide ((a:Int)=(C:Int))=false:=by simp;omega
        have hR2:R=false:=by rw [HVER.out];simp;omega
        subst hR2;go_wp2_with fail;go_region_held3 (fun w'=>w'.cell? ⟨w.heap.size,0,none⟩=some (.int .i64 a)∧w'.cell? ⟨w.heap.size,1,none⟩=some (.int .i64 b)∧SgK w a b w')
         (first | (with_reducible exact HMS.out _ HA7.out.drew) | (with_reducible exact HMS.out _ L8) | fail)
         (first
          | (go_at_call 95;have hA:=(‹_∧_∧SgK w a b _›).2.2;refine (HCH.out _ ((HV.out.on hA.b).up hA.b.size) (HT.out.on (hA.b.mono hBw))).mono ?_;rintro ex w8 ⟨rfl,hb8⟩;have L8:=hA.on hb8;clear hb8 hA))
        have hA9:=(‹_∧_∧SgK w a b _›).2.2
        have HA9:=zh hA9;clear hA9;go_wp2_with fail;go_ret2
        exact ⟨rfl,HA9.out.b⟩
   · have h2':expB s=false:=by simpa using h2
     have hR2:R=false:=by rw [← hR];unfold verB;rw [h2'];simp
     subst hR2;rw [h1] at hw1
     rw [h2'] at hw2
     rw [h1,h2']
     have HS0:=zh hS0;have HW1:=zh hw1;have HW2:=zh hw2;have HME:=zh hme;have HV:=zh hv;have HT:=zh ht;have HR:=zh hR;clear hS0 hw1 hw2 hme hv ht hR hs1 hs2 hr hp h2 h2';go_enter Tryz.func57,Tryz.ntmps57
     go_wp2_with fail;generalize w.alloc (.cells #[.int .i64 e,.int .i64 s] 30)=w1 at *
     refine (HME.out w1).mono ?_
     rintro ex w2 ⟨rfl,hb2⟩
     have hS2:=HS0.out.on hb2
     obtain ⟨c0,c1,_,_⟩:=hS2.s.cells
     have HS2:=zh hS2;clear hS2 HS0 hb2;go_wp2_with fail;refine (HW1.out _).mono ?_
     rintro e w' ⟨rfl,rfl⟩;go_wp2_with fail;refine (HW2.out _).mono ?_
     rintro e w' ⟨rfl,rfl⟩;go_wp2_with fail;go_ret2
     exact ⟨rfl,HS2.out.b⟩
 · have h1':expB e=false:=by simpa using h1
   have hR2:R=false:=by rw [← hR];unfold verB;rw [h1'];simp
   subst hR2;rw [h1'] at hw1
   rw [h1']
   have HS0:=zh hS0;have HW1:=zh hw1;have HME:=zh hme;have HV:=zh hv;have HT:=zh ht;have HR:=zh hR;clear hS0 hw1 hme hv ht hR hs1 hs2 hr hp h1 h1' hw2;go_enter Tryz.func57,Tryz.ntmps57
   go_wp2_with fail;generalize w.alloc (.cells #[.int .i64 e,.int .i64 s] 30)=w1 at *
   refine (HME.out w1).mono ?_
   rintro ex w2 ⟨rfl,hb2⟩
   have hS2:=HS0.out.on hb2
   obtain ⟨c0,c1,_,_⟩:=hS2.s.cells
   have HS2:=zh hS2;clear hS2 HS0 hb2;go_wp2_with fail;refine (HW1.out _).mono ?_
   rintro e w' ⟨rfl,rfl⟩;go_wp2_with fail;go_ret2
   exact ⟨rfl,HS2.out.b⟩
end
end Go.Proofs.YtnepkoepbapgeaaGreatDoor
