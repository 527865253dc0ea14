/-
  Several texts in one: QuoTyp5, QuoTyp6, QuoLaw.
-/
import Derived.Test.YtnepkoepbapgeaaGreatDoorQuoTyp4
import Derived.Test.YtnepkoepbapgeaaGreatDoorQuoPlain
import Derived.Deep.DeepCutAuto
import Derived.IntWalk
import Derived.Test.YtnepkoepbapgeaaGreatDoorShelf
import Derived.Test.YtnepkoepbapgeaaGreatDoorQuoTyp1
namespace Go.Proofs.YtnepkoepbapgeaaGreatDoor
set_option maxHeartbeats 4000000
set_option maxRecDepth 100000
section
open Go.RowKit Lx Px Qx
namespace Qx
def Z0u : List Int → Bool
 | a :: b :: l=>decide (a ≤ b) && Z0u (b :: l)
 | _=>true
theorem Zbz : ∀ (l : List Int),Z0u l = true ↔ ∀ j,0 < j → j < l.length → l.getD (j - 1) 0 ≤ l.getD j 0:=by
 intro l
 induction l with
 | nil=>simp [Z0u]
 | cons a l ih =>
  cases l with
  | nil=>simp [Z0u]; intro j h1 h2; omega
  | cons b l =>
   simp only [Z0u,Bool.and_eq_true,decide_eq_true_eq,ih]
   constructor
   · rintro ⟨h1,h2⟩ j hj hl
     obtain ⟨j,rfl⟩ : ∃ i,j = i + 1:=⟨j - 1,by omega⟩
     cases j with
     | zero=>exact h1
     | succ j=>exact h2 (j + 1) (by omega) (by simpa using hl)
   · intro h
     refine ⟨h 1 (by omega) (by simp),fun j hj hl=>?_⟩
     obtain ⟨j,rfl⟩ : ∃ i,j = i + 1:=⟨j - 1,by omega⟩
     exact h (j + 2) (by omega) (by simpa using hl)
def numsR (r : Rt) : Bool:=Z0u [1,r.id,1000000] && Z0u [0,r.lv,100] && Z0u [1,r.kd,20] && Z0u [1,r.ar,127]
def seasR (r : Rt) : Bool:=Z0u [0,r.fr,r.un,366] && decide (r.fr < r.un)
def keepR (r : Rt) : Bool:=ratB r.kn r.kq && Z0u [0,r.kn,r.kq]
theorem Zeg (r : Rt) : Z46 r = (numsR r && seasR r && keepR r && Z0u [1,r.ls,r.mo,60] && Z0f r.wo r.wn r.wl && Z0f r.po r.pn r.pl):=by
 rw [Bool.eq_iff_iff]
 simp only [Z46,numsR,seasR,keepR,Z0u,Bool.and_eq_true,decide_eq_true_eq,Bool.and_true]
 cases ratB r.kn r.kq <;> cases Z0f r.wo r.wn r.wl <;> cases Z0f r.po r.pn r.pl <;> simp <;> omega
end Qx
theorem ZbA (w : World) (a b : Nat) : (w.drewN a).drewN b = w.drewN (a + b):=by simp [World.drewN,Nat.add_assoc]
theorem Zfz (l : List Int) (A : Option Addr) (c B : Nat) (w : World) (h : Z04 w B (.slice A l.length c) l) (hl : l.length ≤ 1000000) :
 Calls Tryz.prog 228 #[.slice A l.length c] w fun e w'=>e = .returned (.bool (Z0u l))∧∃ q,w' = w.drewN q:=by
 by_cases h0 : l.length = 0
 · have hl0 : l = []:=List.length_eq_zero_iff.1 h0
   subst hl0
   go_enter Tryz.func228,Tryz.ntmps228
   go_wp2_with fail
   go_loopw [3] (fun i wr=>i = .int .i64 (-1)∧wr = w) (fun _ _=>0)
   case atStart=>exact ⟨rfl,rfl⟩
   case round =>
    obtain ⟨rfl,rfl⟩:=hrel
    go_wp2_with fail
    go_ret
    exact ⟨rfl,0,rfl⟩
 · obtain ⟨b,o,rfl,_,hcc⟩:=Z4r h (by intro e; subst e; exact h0 rfl)
   have HC:=zh hcc
   clear h hcc
   go_enter Tryz.func228,Tryz.ntmps228
   go_wp2_with fail
   go_loopw [3] (fun i wr=>∃ k : Nat,k < l.length∧i = .int .i64 k∧(∃ q,wr = w.drewN q)∧Hid (∀ j,k < j → j < l.length → l.getD (j - 1) 0 ≤ l.getD j 0)) (fun i _=>(intOf i).toNat)
   case atStart=>exact ⟨l.length - 1,by omega,by go_num,⟨0,rfl⟩,fun j h1 h2=>absurd h1 (by omega)⟩
   case round =>
    obtain ⟨k,hk,rfl,⟨q,hq⟩,HK⟩:=hrel
    by_cases hk0 : 0 < k
    · have c1 : wr.cell? ⟨b,o + k,none⟩ = some (.int .i64 (l.getD k 0)):=by
       rw [hq,World.cell?_drewN]
       rw [HC.out k hk,List.getD_eq_getElem?_getD,List.getElem?_eq_getElem hk]; rfl
      have c2 : wr.cell? ⟨b,o + (k - 1),none⟩ = some (.int .i64 (l.getD (k - 1) 0)):=by
       rw [hq,World.cell?_drewN]
       rw [HC.out (k - 1) (by omega),List.getD_eq_getElem?_getD,List.getElem?_eq_getElem (by omega : k - 1 < l.length)]; rfl
      have HQ:=zh hq
      clear hq
      obtain ⟨m,hm⟩ : ∃ m,k - 1 = m:=⟨_,rfl⟩
      rw [hm] at c2
      have hw1 : IntKind.i64.wrap ((k : Int) - 1) = (m : Int):=by rw [IntWalk.i64_in _ (by omega)]; omega
      have hx0 : decide ((0 : Int) < (k : Int)) = true:=by simp; omega
      have hge : Z0u l = true → l.getD m 0 ≤ l.getD k 0:=fun h=>by have:=(Zbz l).1 h k hk0 hk; rwa [hm] at this
      have hml : m < l.length:=by omega
      obtain ⟨x,hx⟩ : ∃ x,x = l.getD k 0:=⟨_,rfl⟩
      obtain ⟨y,hy⟩ : ∃ y,y = l.getD m 0:=⟨_,rfl⟩
      rw [← hx] at c1 hge
      rw [← hy] at c2 hge
      by_cases hlt : x < y
      · have hr : Z0u l = false:=by
         cases h : Z0u l with
         | false=>rfl
         | true=>exact absurd (hge h) (by omega)
        have hls : ∀ W : World,Calls Tryz.prog 265 #[.int .i64 x,.int .i64 y] W fun e w'=>e = .returned (.bool true)∧w' = W:=fun W=>by
         have:=Tryz.cmp_Less_int2 x y W
         rwa [show decide (x < y) = true by simpa using hlt] at this
        have HR:=zh hr
        have HLS:=zh hls
        have HLT:=zh hlt
        have HX:=zh hx
        have HY:=zh hy
        have HM:=zh hm
        clear hr hls hlt hx hy hm
        clear hge HC HK
        go_wp2_with fail
        go_quiet ((go_at_call 265; exact Calls.quiet_of_same (HLS.out _)))
        go_wp2_with fail
        go_ret
        rw [HR.out]
        exact ⟨rfl,_,by rw [HQ.out,ZbA]⟩
      · have hls : ∀ W : World,Calls Tryz.prog 265 #[.int .i64 x,.int .i64 y] W fun e w'=>e = .returned (.bool false)∧w' = W:=fun W=>by
         have:=Tryz.cmp_Less_int2 x y W
         rwa [show decide (x < y) = false by simpa using hlt] at this
        have hk2 : ∀ j,m < j → j < l.length → l.getD (j - 1) 0 ≤ l.getD j 0:=by
         intro j h1 h2
         by_cases hj : j = k
         · subst hj
           rw [hm,← hx,← hy]; omega
         · exact HK.out j (by omega) h2
        have HLS:=zh hls
        have HLT:=zh hlt
        have HX:=zh hx
        have HY:=zh hy
        have HK2:=zh hk2
        have HM:=zh hm
        clear hls hlt hx hy hk2 hm
        clear hge HC HK
        go_wp2_with fail
        go_quiet ((go_at_call 265; exact Calls.quiet_of_same (HLS.out _)))
        go_wp2_with fail
        go_roundw
        case rel=>exact ⟨m,by omega,by go_num,⟨_,by rw [HQ.out,ZbA]⟩,HK2.out⟩
        case measure=>simp [intOf]; have:=HM.out; omega
    · have hk1 : k = 0:=by omega
      subst hk1
      have hr : Z0u l = true:=(Zbz l).2 (fun j h1 h2=>HK.out j h1 h2)
      have HR:=zh hr
      have HQ:=zh hq
      clear hr hq
      go_wp2_with fail
      go_ret
      rw [HR.out]
      exact ⟨rfl,_,HQ.out⟩
theorem ZfA (l : List Int) (A : Option Addr) (k c B : Nat) (w : World) (h : Z04 w B (.slice A k c) l) (hk : k = l.length) (hl : l.length ≤ 1000000) :
 Calls Tryz.prog 174 #[.slice A k c] w fun e w'=>e = .returned (.bool (Z0u l))∧∃ q,w' = w.drewN q:=by
 subst hk
 have hs:=Zfz l A c B w h hl
 have HS:=zh hs
 have HH:=zh h
 clear hs h
 go_enter Tryz.func174,Tryz.ntmps174
 go_wp2_with fail
 refine HS.out.mono ?_
 rintro e w' ⟨rfl,q,rfl⟩
 go_wp2_with fail
 go_ret
 exact ⟨rfl,q,rfl⟩
def RB (w : World) (cs : Array Value) (wx : World) : Prop:=wx.heap[w.heap.size]? = some (.cells cs 65 (0,0))∧Below w.heap.size w wx
theorem RB.on {w wx wy : World} {cs : Array Value} (h : RB w cs wx) (hb : Below wx.heap.size wx wy) : RB w cs wy:=⟨(hb.block _ (zs h.1)).trans h.1,Z00 h.2 hb⟩
theorem RB.cell {w wx : World} {cs : Array Value} (h : RB w cs wx) (i : Nat) (v : Value) (hv : cs[i]? = some v) : wx.cell? ⟨w.heap.size,i,none⟩ = some v:=by rw [zc h.1,hv]
theorem RB.new (w : World) (cs : Array Value) : RB w cs (w.alloc (.cells cs 65)):=⟨za w _,(Below.refl _ _).alloc (zn _) _⟩
theorem Z29 (l : List Int) (cs : Array Value) (w wx : World) (R : Array Value) (k : Nat) (hR : RB w R wx) (hc : cs = (l.map (.int .i64)).toArray) (hk : k = l.length) (hl : l.length ≤ 1000000) (c : Nat) :
 Calls Tryz.prog 174 #[.slice (some ⟨wx.heap.size,0,none⟩) k c] (wx.alloc (.cells cs 3 (0,0))) fun e w'=>e = .returned (.bool (Z0u l))∧RB w R w':=by
 subst hc hk
 have hx:=za wx (.cells (l.map (Value.int .i64)).toArray 3 (0,0))
 refine (ZfA l (some ⟨wx.heap.size,0,none⟩) l.length c _ _ (Z04.block hx c) rfl hl).mono ?_
 rintro e w' ⟨rfl,q,rfl⟩
 exact ⟨rfl,hR.on (Z0n ((Below.refl _ _).alloc (zn _) _) q)⟩

theorem Zic (id lv kd fr un ls mo ar kn kq wo wn po pn : Int) (wl pl : Fo) (WA PA : Option Addr) (wk pc : Nat) (w : World) (b1 b2 b3 b4 : Bool)
 (hwv : FoV w w.heap.size (.slice WA (flen wl) wk) wl) (hpv : FoV w w.heap.size (.slice PA (flen pl) pc) pl)
 (h1 : b1 = (Z0u [1,id,1000000] && Z0u [0,lv,100] && Z0u [1,kd,20] && Z0u [1,ar,127])) (h2 : b2 = (Z0u [0,fr,un,366] && decide (fr < un))) (h3 : b3 = (ratB kn kq && Z0u [0,kn,kq]))
 (h4 : b4 = (b1 && b2 && b3 && Z0u [1,ls,mo,60] && Z0f wo wn wl && Z0f po pn pl)) :
 Calls Tryz.prog 131 #[.agg #[.int .i64 id,.int .i64 lv,.int .i64 kd,.int .i64 fr,.int .i64 un,.int .i64 ls,.int .i64 mo,.int .i64 ar,.int .i64 kn,.int .i64 kq,.int .i64 wo,.int .i64 wn,.slice WA (flen wl) wk,.int .i64 po,.int .i64 pn,.slice PA (flen pl) pc]] w fun e w'=>e = .returned (.bool b4)∧Below w.heap.size w w':=by
 have S0:=RB.new w #[.int .i64 id,.int .i64 lv,.int .i64 kd,.int .i64 fr,.int .i64 un,.int .i64 ls,.int .i64 mo,.int .i64 ar,.int .i64 kn,.int .i64 kq,.int .i64 wo,.int .i64 wn,.slice WA (flen wl) wk,.int .i64 po,.int .i64 pn,.slice PA (flen pl) pc]
 have S:=zh S0
 have H1:=zh h1
 have H2:=zh h2
 have H3:=zh h3
 have H4:=zh h4
 have HW:=zh hwv
 have HP:=zh hpv
 clear S0 h1 h2 h3 h4 hwv hpv
 go_enter Tryz.func131,Tryz.ntmps131
 go_upto_region 1 with fail
 generalize w.alloc (.cells #[.int .i64 id,.int .i64 lv,.int .i64 kd,.int .i64 fr,.int .i64 un,.int .i64 ls,.int .i64 mo,.int .i64 ar,.int .i64 kn,.int .i64 kq,.int .i64 wo,.int .i64 wn,.slice WA (flen wl) wk,.int .i64 po,.int .i64 pn,.slice PA (flen pl) pc] 65) = w0 at *
 go_cut [3] from 6 to 27 (fun s wx=>s = .bool b1∧RB w #[.int .i64 id,.int .i64 lv,.int .i64 kd,.int .i64 fr,.int .i64 un,.int .i64 ls,.int .i64 mo,.int .i64 ar,.int .i64 kn,.int .i64 kq,.int .i64 wo,.int .i64 wn,.slice WA (flen wl) wk,.int .i64 po,.int .i64 pn,.slice PA (flen pl) pc] wx)
 case first =>
  have e0:=S.out.cell 0 _ rfl
  go_wp2_with fail
  refine (Z29 [1,id,1000000] #[.int .i64 1,.int .i64 id,.int .i64 1000000] w _ _ _ S.out rfl rfl (by simp) _).mono ?_
  rintro e wy ⟨rfl,hS⟩
  clear e0 S
  have S:=zh hS
  clear hS
  cases k0 : Z0u [1,id,1000000] with
  | false =>
   have HK0:=zh k0
   clear k0
   go_wp2_with fail
   go_meet
   refine ⟨?_,S.out⟩
   rw [H1.out,HK0.out]
   simp
  | true =>
   have HK0:=zh k0
   clear k0
   have e1:=S.out.cell 1 _ rfl
   go_wp2_with fail
   refine (Z29 [0,lv,100] #[.int .i64 0,.int .i64 lv,.int .i64 100] w _ _ _ S.out rfl rfl (by simp) _).mono ?_
   rintro e wy ⟨rfl,hS⟩
   clear e1 S
   have S:=zh hS
   clear hS
   cases k1 : Z0u [0,lv,100] with
   | false =>
    have HK1:=zh k1
    clear k1
    go_wp2_with fail
    go_meet
    refine ⟨?_,S.out⟩
    rw [H1.out,HK0.out,HK1.out]
    simp
   | true =>
    have HK1:=zh k1
    clear k1
    have e2:=S.out.cell 2 _ rfl
    go_wp2_with fail
    refine (Z29 [1,kd,20] #[.int .i64 1,.int .i64 kd,.int .i64 20] w _ _ _ S.out rfl rfl (by simp) _).mono ?_
    rintro e wy ⟨rfl,hS⟩
    clear e2 S
    have S:=zh hS
    clear hS
    cases k2 : Z0u [1,kd,20] with
    | false =>
     have HK2:=zh k2
     clear k2
     go_wp2_with fail
     go_meet
     refine ⟨?_,S.out⟩
     rw [H1.out,HK0.out,HK1.out,HK2.out]
     simp
    | true =>
     have HK2:=zh k2
     clear k2
     have e7:=S.out.cell 7 _ rfl
     go_wp2_with fail
     refine (Z29 [1,ar,127] #[.int .i64 1,.int .i64 ar,.int .i64 127] w _ _ _ S.out rfl rfl (by simp) _).mono ?_
     rintro e wy ⟨rfl,hS⟩
     clear e7 S
     have S:=zh hS
     clear hS
     cases k3 : Z0u [1,ar,127] with
     | false =>
      have HK3:=zh k3
      clear k3
      go_wp2_with fail
      go_meet
      refine ⟨?_,S.out⟩
      rw [H1.out,HK0.out,HK1.out,HK2.out,HK3.out]
      simp
     | true =>
      have HK3:=zh k3
      clear k3
      go_wp2_with fail
      go_meet
      refine ⟨?_,S.out⟩
      rw [H1.out,HK0.out,HK1.out,HK2.out,HK3.out]
      simp
 case rest =>
  obtain ⟨rfl,S1⟩:=hcut
  have S:=zh S1
  clear S1
  go_upto_region 2 with fail
  go_cut [4] from 28 to 44 (fun s wx=>s = .bool b2∧RB w #[.int .i64 id,.int .i64 lv,.int .i64 kd,.int .i64 fr,.int .i64 un,.int .i64 ls,.int .i64 mo,.int .i64 ar,.int .i64 kn,.int .i64 kq,.int .i64 wo,.int .i64 wn,.slice WA (flen wl) wk,.int .i64 po,.int .i64 pn,.slice PA (flen pl) pc] wx)
  case first =>
   have e3:=S.out.cell 3 _ rfl
   have e4:=S.out.cell 4 _ rfl
   go_wp2_with fail
   refine (Z29 [0,fr,un,366] #[.int .i64 0,.int .i64 fr,.int .i64 un,.int .i64 366] w _ _ _ S.out rfl rfl (by simp) _).mono ?_
   rintro e wy ⟨rfl,hS⟩
   clear e3 e4 S
   have S:=zh hS
   clear hS
   cases k0 : Z0u [0,fr,un,366] with
   | false =>
    have HK0:=zh k0
    clear k0
    go_wp2_with fail
    go_meet
    exact ⟨by rw [H2.out,HK0.out]; simp,S.out⟩
   | true =>
    have HK0:=zh k0
    clear k0
    have e3:=S.out.cell 3 _ rfl
    have e4:=S.out.cell 4 _ rfl
    by_cases hlt : fr < un
    · have dl : decide (fr < un) = true:=by simpa using hlt
      go_wp2_with fail
      go_meet
      exact ⟨by rw [H2.out,HK0.out,dl]; simp,S.out⟩
    · have dl : decide (fr < un) = false:=by simpa using hlt
      go_wp2_with fail
      go_meet
      exact ⟨by rw [H2.out,HK0.out,dl]; simp,S.out⟩
  case rest =>
   obtain ⟨rfl,S2⟩:=hcut
   have S:=zh S2
   clear S2
   go_upto_region 3 with fail
   go_cut [5] from 45 to 57 (fun s wx=>s = .bool b3∧RB w #[.int .i64 id,.int .i64 lv,.int .i64 kd,.int .i64 fr,.int .i64 un,.int .i64 ls,.int .i64 mo,.int .i64 ar,.int .i64 kn,.int .i64 kq,.int .i64 wo,.int .i64 wn,.slice WA (flen wl) wk,.int .i64 po,.int .i64 pn,.slice PA (flen pl) pc] wx)
   case first =>
    have e8:=S.out.cell 8 _ rfl
    have e9:=S.out.cell 9 _ rfl
    go_wp2_with fail
    refine (Z10 kn kq _).mono ?_
    rintro e wy ⟨rfl,hb⟩
    have S3:=S.out.on hb
    clear S e8 e9 hb
    have S:=zh S3
    clear S3
    cases kr : ratB kn kq with
    | false =>
     have HR:=zh kr
     clear kr
     go_wp2_with fail
     go_meet
     exact ⟨by rw [H3.out,HR.out]; simp,S.out⟩
    | true =>
     have HR:=zh kr
     clear kr
     have e8:=S.out.cell 8 _ rfl
     have e9:=S.out.cell 9 _ rfl
     go_wp2_with fail
     refine (Z29 [0,kn,kq] #[.int .i64 0,.int .i64 kn,.int .i64 kq] w _ _ _ S.out rfl rfl (by simp) _).mono ?_
     rintro e wy ⟨rfl,hS⟩
     clear e8 e9 S
     have S:=zh hS
     clear hS
     cases k0 : Z0u [0,kn,kq] with
     | false =>
      have HK0:=zh k0
      clear k0
      go_wp2_with fail
      go_meet
      exact ⟨by rw [H3.out,HR.out,HK0.out]; simp,S.out⟩
     | true =>
      have HK0:=zh k0
      clear k0
      go_wp2_with fail
      go_meet
      exact ⟨by rw [H3.out,HR.out,HK0.out]; simp,S.out⟩
   case rest =>
    obtain ⟨rfl,S3⟩:=hcut
    have S:=zh S3
    clear S3
    cases b1 with
    | false =>
     have hb4 : b4 = false:=by rw [H4.out]; simp
     have H5:=zh hb4
     clear hb4
     cases b2 <;> cases b3
     all_goals
      go_wp2_with fail
      go_ret
      rw [H5.out]
      exact ⟨rfl,S.out.2⟩
    | true =>
     cases b2 with
     | false =>
      have hb4 : b4 = false:=by rw [H4.out]; simp
      have H5:=zh hb4
      clear hb4
      cases b3
      all_goals
       go_wp2_with fail
       go_ret
       rw [H5.out]
       exact ⟨rfl,S.out.2⟩
     | true =>
      cases b3 with
      | false =>
       have hb4 : b4 = false:=by rw [H4.out]; simp
       have H5:=zh hb4
       clear hb4
       go_wp2_with fail
       go_ret
       rw [H5.out]
       exact ⟨rfl,S.out.2⟩
      | true =>
       have e5:=S.out.cell 5 _ rfl
       have e6:=S.out.cell 6 _ rfl
       go_wp2_with fail
       refine (Z29 [1,ls,mo,60] #[.int .i64 1,.int .i64 ls,.int .i64 mo,.int .i64 60] w _ _ _ S.out rfl rfl (by simp) _).mono ?_
       rintro e wy ⟨rfl,hS⟩
       clear e5 e6 S
       have S:=zh hS
       clear hS
       cases k0 : Z0u [1,ls,mo,60] with
       | false =>
        have HK0:=zh k0
        clear k0
        go_wp2_with fail
        go_ret
        rw [H4.out,HK0.out]
        exact ⟨by simp,S.out.2⟩
       | true =>
        have HK0:=zh k0
        clear k0
        have e10:=S.out.cell 10 _ rfl
        have e11:=S.out.cell 11 _ rfl
        have e12:=S.out.cell 12 _ rfl
        go_wp2_with fail
        refine (Z34 wo wn wl (.slice WA (flen wl) wk) _ ((HW.out.on S.out.2).up S.out.2.size)).mono ?_
        rintro e wy ⟨rfl,hb⟩
        have S4:=S.out.on hb
        clear S e10 e11 e12 hb
        have S:=zh S4
        clear S4
        cases kv : Z0f wo wn wl with
        | false =>
         have HV:=zh kv
         clear kv
         go_wp2_with fail
         go_ret
         rw [H4.out,HV.out]
         exact ⟨by simp,S.out.2⟩
        | true =>
         have HV:=zh kv
         clear kv
         have e13:=S.out.cell 13 _ rfl
         have e14:=S.out.cell 14 _ rfl
         have e15:=S.out.cell 15 _ rfl
         go_wp2_with fail
         refine (Z34 po pn pl (.slice PA (flen pl) pc) _ ((HP.out.on S.out.2).up S.out.2.size)).mono ?_
         rintro e wy ⟨rfl,hb⟩
         have S4:=S.out.on hb
         clear S e13 e14 e15 hb
         have h5 : b4 = Z0f po pn pl:=by rw [H4.out,HK0.out,HV.out]; simp
         rw [← h5]
         have S:=zh S4
         have H5:=zh h5
         clear S4 h5
         go_wp2_with fail
         go_ret
         exact ⟨rfl,S.out.2⟩
theorem Zd5 (r : Rt) (wv pv : Value) (w : World) (hwv : FoV w w.heap.size wv r.wl) (hpv : FoV w w.heap.size pv r.pl) : Calls Tryz.prog 131 #[rtV r wv pv] w fun e w'=>e = .returned (.bool (Z46 r))∧Below w.heap.size w w':=by
 obtain ⟨WA,wk,rfl,_⟩:=id hwv
 obtain ⟨PA,pc,rfl,_⟩:=id hpv
 exact Zic r.id r.lv r.kd r.fr r.un r.ls r.mo r.ar r.kn r.kq r.wo r.wn r.po r.pn r.wl r.pl WA PA wk pc w _ _ _ _ hwv hpv rfl rfl rfl (Zeg r)
end
section
open Go.RowKit Lx Px Qx
theorem Z3D {r : Rt} (h : Z46 r = true) : Z0f r.wo r.wn r.wl = true∧Z0f r.po r.pn r.pl = true:=by
 rw [Zeg] at h; simp only [Bool.and_eq_true] at h; exact ⟨h.1.2,h.2⟩
theorem Zid (r : Rt) (wv pv : Value) (w : World) (hwv : FoV w w.heap.size wv r.wl) (hpv : FoV w w.heap.size pv r.pl) : Calls Tryz.prog 98 #[rtV r wv pv] w fun e w'=>e = .returned (.tuple #[.bool (Z14 r == 0),.int .i64 (Z14 r)])∧Below w.heap.size w w':=by
 have hfo:=fun W h1 h2=>Zd5 r wv pv W h1 h2
 obtain ⟨WA,wk,rfl,_⟩:=id hwv
 obtain ⟨PA,pc,rfl,_⟩:=id hpv
 have S0:=RB.new w #[.int .i64 r.id,.int .i64 r.lv,.int .i64 r.kd,.int .i64 r.fr,.int .i64 r.un,.int .i64 r.ls,.int .i64 r.mo,.int .i64 r.ar,.int .i64 r.kn,.int .i64 r.kq,.int .i64 r.wo,.int .i64 r.wn,.slice WA (flen r.wl) wk,.int .i64 r.po,.int .i64 r.pn,.slice PA (flen r.pl) pc]
 have hE : Z14 r = if Z46 r then (if typE (r.wo,r.wn) r.wl = 3∧typE (r.po,r.pn) r.pl = 2 then 0 else 20) else 1:=rfl
 have hv:=@Z3D r
 rw [rtV] at hfo ⊢
 have S:=zh S0
 have HW:=zh hwv
 have HP:=zh hpv
 have HF:=zh hfo
 have HE:=zh hE
 have HV:=zh hv
 clear S0 hwv hpv hfo hE hv
 go_enter Tryz.func98,Tryz.ntmps98
 go_upto_region 1 with fail
 generalize w.alloc (.cells #[.int .i64 r.id,.int .i64 r.lv,.int .i64 r.kd,.int .i64 r.fr,.int .i64 r.un,.int .i64 r.ls,.int .i64 r.mo,.int .i64 r.ar,.int .i64 r.kn,.int .i64 r.kq,.int .i64 r.wo,.int .i64 r.wn,.slice WA (flen r.wl) wk,.int .i64 r.po,.int .i64 r.pn,.slice PA (flen r.pl) pc] 65) = w0 at *
 have e0:=S.out.cell 0 _ rfl
 have e1:=S.out.cell 1 _ rfl
 have e2:=S.out.cell 2 _ rfl
 have e3:=S.out.cell 3 _ rfl
 have e4:=S.out.cell 4 _ rfl
 have e5:=S.out.cell 5 _ rfl
 have e6:=S.out.cell 6 _ rfl
 have e7:=S.out.cell 7 _ rfl
 have e8:=S.out.cell 8 _ rfl
 have e9:=S.out.cell 9 _ rfl
 have e10:=S.out.cell 10 _ rfl
 have e11:=S.out.cell 11 _ rfl
 have e12:=S.out.cell 12 _ rfl
 have e13:=S.out.cell 13 _ rfl
 have e14:=S.out.cell 14 _ rfl
 have e15:=S.out.cell 15 _ rfl
 go_wp2_with fail
 refine (HF.out _ ((HW.out.on S.out.2).up S.out.2.size) ((HP.out.on S.out.2).up S.out.2.size)).mono ?_
 rintro e w1 ⟨rfl,hb⟩
 have S1:=S.out.on hb
 clear e0 e1 e2 e3 e4 e5 e6 e7 e8 e9 e10 e11 e12 e13 e14 e15 S hb HF
 have S:=zh S1
 clear S1
 cases hf : Z46 r with
 | false =>
  have h1 : Z14 r = 1:=by rw [HE.out,hf]; rfl
  have H1:=zh h1
  have HFF:=zh hf
  clear h1 hf
  go_wp2_with fail
  go_ret2
  rw [H1.out]
  exact ⟨rfl,S.out.2⟩
 | true =>
  obtain ⟨v1,v2⟩:=HV.out hf
  obtain ⟨z1,i1⟩ : ∃ z,Z3k (r.wo,r.wn) r.wl = (typE (r.wo,r.wn) r.wl,z):=⟨_,by unfold Z3k; rw [if_pos v1]⟩
  obtain ⟨z2,i2⟩ : ∃ z,Z3k (r.po,r.pn) r.pl = (typE (r.po,r.pn) r.pl,z):=⟨_,by unfold Z3k; rw [if_pos v2]⟩
  have hE2 : Z14 r = if typE (r.wo,r.wn) r.wl = 3∧typE (r.po,r.pn) r.pl = 2 then 0 else 20:=by rw [HE.out,hf]; rfl
  have e10:=S.out.cell 10 _ rfl
  have e11:=S.out.cell 11 _ rfl
  have e12:=S.out.cell 12 _ rfl
  have I1:=zh i1
  have I2:=zh i2
  have HE2:=zh hE2
  have V1:=zh v1
  have V2:=zh v2
  have HFF:=zh hf
  clear i1 i2 hE2 v1 v2 hf
  clear HE HV
  go_wp2_with fail
  refine (Zch r.wo r.wn r.wl (.slice WA (flen r.wl) wk) _ ((HW.out.on S.out.2).up S.out.2.size)).mono ?_
  rintro e w2 ⟨rfl,hb⟩
  have S2:=S.out.on hb
  clear e10 e11 e12 S hb
  have S:=zh S2
  clear S2
  have e13:=S.out.cell 13 _ rfl
  have e14:=S.out.cell 14 _ rfl
  have e15:=S.out.cell 15 _ rfl
  rw [I1.out]
  go_wp2_with fail
  refine (Zch r.po r.pn r.pl (.slice PA (flen r.pl) pc) _ ((HP.out.on S.out.2).up S.out.2.size)).mono ?_
  rintro e w3 ⟨rfl,hb⟩
  have S3:=S.out.on hb
  clear e13 e14 e15 S hb
  have S:=zh S3
  clear S3
  rw [I2.out]
  clear I1 I2
  generalize typE (r.wo,r.wn) r.wl = x at *
  generalize typE (r.po,r.pn) r.pl = y at *
  by_cases hx : x = 3
  · subst hx
    by_cases hy : y = 2
    · subst hy
      have hr : Z14 r = 0:=by rw [HE2.out]; rfl
      have HR:=zh hr
      clear hr
      go_wp2_with fail
      go_ret2
      rw [HR.out]
      exact ⟨rfl,S.out.2⟩
    · have hr : Z14 r = 20:=by rw [HE2.out,if_neg (fun h=>hy h.2)]
      have dy : (y == 2) = false:=by simpa using hy
      have dy2 : (y != 2) = true:=by simpa using hy
      have HR:=zh hr
      have HY:=zh hy
      clear hr hy
      go_wp2_with fail
      go_ret2
      rw [HR.out]
      exact ⟨rfl,S.out.2⟩
  · have hr : Z14 r = 20:=by rw [HE2.out,if_neg (fun h=>hx h.1)]
    have dx : (x == 3) = false:=by simpa using hx
    have dx2 : (x != 3) = true:=by simpa using hx
    have HR:=zh hr
    have HX:=zh hx
    clear hr hx
    go_wp2_with fail
    go_ret2
    rw [HR.out]
    exact ⟨rfl,S.out.2⟩
end
section
open Lx Px
namespace Qx
theorem Z1e {n d : Int} (h : ratB n d = true) : 1 ≤ d∧d ≤ 1000000∧-1000000000 ≤ n∧n ≤ 1000000000∧Nat.gcd n.natAbs d.natAbs = 1:=by
 simp [ratB] at h; obtain ⟨⟨⟨⟨a,b⟩,c⟩,e⟩,g⟩:=h; exact ⟨a,b,c,e,g⟩
theorem Z6x {n d p q : Int} (hd : 1 ≤ d) (h : ratV n d = .ok p q) : ratB p q = true:=by
 unfold ratV at h
 split at h
 · cases h
 · rename_i hc
   simp only [V.ok.injEq] at h
   obtain ⟨rfl,rfl⟩:=h
   have hg : 0 < Nat.gcd n.natAbs d.natAbs:=Nat.gcd_pos_of_pos_right _ (by omega)
   have hgcd : Nat.gcd (n.natAbs / Nat.gcd n.natAbs d.natAbs) (d.natAbs / Nat.gcd n.natAbs d.natAbs) = 1:=Nat.gcd_div_gcd_div_gcd_of_pos_right (by omega)
   have hgd:=Nat.gcd_dvd_right n.natAbs d.natAbs
   unfold redN redD at *
   have e1 : (n.tdiv (Nat.gcd n.natAbs d.natAbs : Nat)).natAbs = n.natAbs / Nat.gcd n.natAbs d.natAbs:=by rw [Int.natAbs_tdiv,Int.natAbs_natCast]; rfl
   have e2 : (d.tdiv (Nat.gcd n.natAbs d.natAbs : Nat)).natAbs = d.natAbs / Nat.gcd n.natAbs d.natAbs:=by rw [Int.natAbs_tdiv,Int.natAbs_natCast]; rfl
   have e3 : 0 < d.natAbs / Nat.gcd n.natAbs d.natAbs:=Nat.div_pos (Nat.le_of_dvd (by omega) hgd) hg
   have e4 : 0 ≤ d.tdiv (Nat.gcd n.natAbs d.natAbs : Nat):=Int.tdiv_nonneg (by omega) (by omega)
   rw [← e1,← e2] at hgcd
   rw [← e2] at e3
   generalize n.tdiv (Nat.gcd n.natAbs d.natAbs : Nat) = p at *
   generalize d.tdiv (Nat.gcd n.natAbs d.natAbs : Nat) = q at *
   simp only [ratB,Bool.and_eq_true,decide_eq_true_eq,beq_iff_eq]
   omega
theorem Z5n {n d p q : Int} (hd : d ≠ 0) (h : Z35 n d = .ok p q) : ratB p q = true:=by
 unfold Z35 at h
 split at h
 · exact Z6x (by omega) h
 · exact Z6x (by omega) h
theorem Z9m {b : Bool} {p q : Int} (h : truV b = .ok p q) : ratB p q = true:=by
 cases b <;> (simp only [truV,Bool.false_eq_true,if_false,if_true,V.ok.injEq] at h; obtain ⟨rfl,rfl⟩:=h; decide)
theorem ZfB {op a b c d p q : Int} (h1 : ratB a b = true) (h2 : ratB c d = true) (h : appV op a b c d = .ok p q) : ratB p q = true:=by
 obtain ⟨b1,_,_,_,_⟩:=Z1e h1
 obtain ⟨d1,_,_,_,_⟩:=Z1e h2
 have hbd : 1 ≤ b * d:=Int.mul_pos (by omega) (by omega)
 unfold appV at h
 repeat' split at h
 all_goals first
  | exact Z6x hbd h
  | exact Z9m h
  | (simp only [V.ok.injEq] at h; obtain ⟨rfl,rfl⟩:=h; assumption)
  | skip
 unfold divV at h
 split at h
 · cases h
 · rename_i hc
   exact Z5n (Int.mul_ne_zero (by omega) hc) h
theorem ZbB {v : Vs} {op n : Int} {x y z : V} (hx : ∀ p q,x = .ok p q → ratB p q = true) (hy : ∀ p q,y = .ok p q → ratB p q = true) (hz : ∀ p q,z = .ok p q → ratB p q = true) {p q : Int} (h : opV v op n x y z = .ok p q) : ratB p q = true:=by
 unfold opV at h
 split at h
 · exact Z5n (by decide) h
 · split at h
   · exact Z5n (by decide) h
   · cases x with
     | no e=>cases h
     | ok a b =>
      simp only at h
      split at h
      · exact Z9m h
      · split at h
        · split at h
          · exact hy _ _ h
          · exact hz _ _ h
        · cases y with
          | no e=>cases h
          | ok c d=>exact ZfB (hx _ _ rfl) (hy _ _ rfl) h
theorem Z4D (v : Vs) : ∀ (f : Fo) (k : Nat) (p q : Int),valF v f k = .ok p q → ratB p q = true:=by
 intro f
 induction f with
 | nil=>intro k p q h; simp [valF] at h
 | node b o a l r ihl ihr =>
  intro k p q h
  cases k with
  | zero=>exact ZbB (ihl 0) (ihl 1) (ihl 2) h
  | succ k=>exact ihr k p q h
theorem Z9n {v : Vs} {a : Int × Int} {l : Fo} {p q : Int} (h : valE v a l = .ok p q) : ratB p q = true :=
 ZbB (Z4D v l 0) (Z4D v l 1) (Z4D v l 2) h
theorem Zeh {n d e : Int} (h : ratV n d = .no e) : e = 3 ∨ e = 22:=by
 unfold ratV at h
 split at h
 · simp only [V.no.injEq] at h; omega
 · cases h
theorem Z4i {n d e : Int} (h : Z35 n d = .no e) : e = 3 ∨ e = 22:=by
 unfold Z35 at h
 split at h <;> exact Zeh h
theorem Zei {b : Bool} {e : Int} (h : truV b = .no e) : e = 3 ∨ e = 22:=by cases b <;> simp [truV] at h
theorem Z61 {op a b c d e : Int} (h : appV op a b c d = .no e) : e = 3 ∨ e = 22:=by
 unfold appV at h
 repeat' split at h
 all_goals first
  | exact Zeh h
  | exact Zei h
  | (cases h; done)
  | skip
 unfold divV at h
 split at h
 · simp only [V.no.injEq] at h; omega
 · exact Z4i h
theorem Zie {v : Vs} {op n : Int} {x y z : V} (hx : ∀ e,x = .no e → e = 3 ∨ e = 22) (hy : ∀ e,y = .no e → e = 3 ∨ e = 22) (hz : ∀ e,z = .no e → e = 3 ∨ e = 22) {e : Int} (h : opV v op n x y z = .no e) : e = 3 ∨ e = 22:=by
 unfold opV at h
 split at h
 · exact Z4i h
 · split at h
   · exact Z4i h
   · cases x with
     | no e'=>simp only [V.no.injEq] at h; subst h; exact hx _ rfl
     | ok a b =>
      simp only at h
      split at h
      · exact Zei h
      · split at h
        · split at h
          · exact hy _ h
          · exact hz _ h
        · cases y with
          | no e'=>simp only [V.no.injEq] at h; subst h; exact hy _ rfl
          | ok c d=>exact Z61 h
theorem Zap (v : Vs) : ∀ (f : Fo) (k : Nat) (e : Int),valF v f k = .no e → e = 3 ∨ e = 22:=by
 intro f
 induction f with
 | nil=>intro k e h; simp only [valF,V.no.injEq] at h; omega
 | node b o a l r ihl ihr =>
  intro k e h
  cases k with
  | zero=>exact Zie (ihl 0) (ihl 1) (ihl 2) h
  | succ k=>exact ihr k e h
theorem Z4E {v : Vs} {a : Int × Int} {l : Fo} {e : Int} (h : valE v a l = .no e) : e = 3 ∨ e = 22 :=
 Zie (Zap v l 0) (Zap v l 1) (Zap v l 2) h
theorem Z9p {n d m : Int} (hd : 1 ≤ d) (h0 : 0 ≤ n) (h1 : n ≤ m * d) : 0 ≤ rndE n d∧rndE n d ≤ m:=by
 have e:=Int.mul_ediv_add_emod n d
 have r0:=Int.emod_nonneg n (show d ≠ 0 by omega)
 have r1:=Int.emod_lt_of_pos n (show 0 < d by omega)
 have q0 : 0 ≤ n / d:=Int.ediv_nonneg h0 (by omega)
 have q1 : n / d ≤ m:=by
  have:=Int.ediv_le_ediv (show 0 < d by omega) h1
  rwa [Int.mul_ediv_cancel _ (by omega)] at this
 have q2 : n % d ≠ 0 → n / d < m:=by
  intro hr
  by_cases c : n / d = m
  · rw [c,Int.mul_comm] at e; omega
  · omega
 unfold rndE
 split
 · have:=q2 (by omega); omega
 · omega
theorem Zp5 {n d : Int} (hd : 1 ≤ d) (h1 : n ≤ 1000000000) : rndE n d ≤ 1000000000:=by
 have e:=Int.mul_ediv_add_emod n d
 have r0:=Int.emod_nonneg n (show d ≠ 0 by omega)
 have r1:=Int.emod_lt_of_pos n (show 0 < d by omega)
 by_cases c : n / d < 1000000000
 · unfold rndE; split <;> omega
 · have h2 : 1000000000 ≤ n / d:=by omega
   have h3 : d * 1000000000 ≤ d * (n / d):=Int.mul_le_mul_of_nonneg_left h2 (by omega)
   have hd1 : d = 1:=by omega
   subst hd1
   unfold rndE; split <;> omega
theorem Z2a {r : Rt} (h : Z14 r = 0) : Z46 r = true:=by
 unfold Z14 at h
 cases hf : Z46 r with
 | true=>rfl
 | false=>rw [hf] at h; simp at h
theorem Z8f {n : Int} {r : Rt} (h0 : 0 ≤ n) (hf : Z46 r = true) : 0 ≤ Zar n r∧Zar n r ≤ n:=by
 simp only [Z46,Bool.and_eq_true,decide_eq_true_eq] at hf
 have hq:=Z1e hf.1.1.1.1.1.1.1.2
 have hk:=hf.1.1.1.1.1.1.2
 have hk2:=hf.1.1.1.1.1.2
 exact Z9p hq.1 (Int.mul_nonneg h0 hk) (Int.mul_le_mul_of_nonneg_left hk2 h0)
theorem Z7u (a : Ask) (night : Int) : ∀ (l : List Rt) (o : Option Rt),(∃ e,Z2C a night o l = .error e) ↔ ∃ r ∈ l,apR r a night < 0:=by
 intro l
 induction l with
 | nil=>intro o; simp [Z2C]
 | cons r l ih =>
  intro o
  unfold Z2C
  split
  · rename_i h; simp [h]
  · rename_i h
    rw [ih]
    simp only [List.mem_cons,exists_eq_or_imp]
    constructor
    · intro h2; exact .inr h2
    · rintro (h2 | h2)
      · exact absurd h2 h
      · exact h2
def Bst (a : Ask) (night : Int) (l : List Rt) : Option Rt → Prop
 | none=>∀ r ∈ l,apR r a night ≠ 1
 | some b=>b ∈ l∧apR b a night = 1∧∀ r ∈ l,apR r a night = 1 → r.lv < b.lv ∨ r.lv = b.lv∧b.id ≤ r.id
theorem Zd6 (a : Ask) (night : Int) : ∀ (l pre : List Rt) (o o' : Option Rt),Bst a night pre o → Z2C a night o l = .ok o' → Bst a night (pre ++ l) o':=by
 intro l
 induction l with
 | nil=>intro pre o o' h e; simp only [Z2C,Except.ok.injEq] at e; subst e; simpa using h
 | cons r l ih =>
  intro pre o o' h e
  unfold Z2C at e
  split at e
  · cases e
  · have hstep : Bst a night (pre ++ [r]) (if apR r a night = 1∧Z4m r o = true then some r else o):=by
     split
     · rename_i hb
       obtain ⟨h1,h2⟩:=hb
       refine ⟨by simp,h1,?_⟩
       intro x hx hx1
       rw [List.mem_append,List.mem_singleton] at hx
       rcases hx with hx | rfl
       · cases o with
         | none=>exact absurd hx1 (h x hx)
         | some b =>
          have:=h.2.2 x hx hx1
          simp only [Z4m,Bool.or_eq_true,Bool.and_eq_true,decide_eq_true_eq] at h2
          omega
       · omega
     · rename_i hb
       cases o with
       | none =>
        intro x hx
        rw [List.mem_append,List.mem_singleton] at hx
        rcases hx with hx | rfl
        · exact h x hx
        · intro h1; exact hb ⟨h1,rfl⟩
       | some b =>
        refine ⟨by simp [h.1],h.2.1,?_⟩
        intro x hx hx1
        rw [List.mem_append,List.mem_singleton] at hx
        rcases hx with hx | rfl
        · exact h.2.2 x hx hx1
        · have hb2 : ¬ Z4m x (some b) = true:=fun hc=>hb ⟨hx1,hc⟩
          simp only [Z4m,Bool.or_eq_true,Bool.and_eq_true,decide_eq_true_eq] at hb2
          omega
    have:=ih (pre ++ [r]) _ o' hstep e
    simpa using this
theorem Zp6 : ∀ {l : List Rt},(l.map Rt.id).Nodup → ∀ {x y : Rt},x ∈ l → y ∈ l → x.id = y.id → x = y:=by
 intro l
 induction l with
 | nil=>intro _ x y hx; simp at hx
 | cons r l ih =>
  intro hn x y hx hy e
  simp only [List.map_cons,List.nodup_cons] at hn
  rw [List.mem_cons] at hx hy
  rcases hx with rfl | hx <;> rcases hy with rfl | hy
  · rfl
  · exact absurd (by rw [e]; exact List.mem_map_of_mem hy) hn.1
  · exact absurd (by rw [← e]; exact List.mem_map_of_mem hx) hn.1
  · exact ih hn.2 hx hy e
theorem ZkB {a : Ask} {night : Int} {l m : List Rt} (hlm : ∀ x,x ∈ l ↔ x ∈ m) (hn : (l.map Rt.id).Nodup) {o o' : Option Rt} (h : Bst a night l o) (h' : Bst a night m o') : o = o':=by
 cases o with
 | none =>
  cases o' with
  | none=>rfl
  | some b=>exact absurd h'.2.1 (h b ((hlm b).2 h'.1))
 | some b =>
  cases o' with
  | none=>exact absurd h.2.1 (h' b ((hlm b).1 h.1))
  | some c =>
   have h1:=h.2.2 c ((hlm c).2 h'.1) h'.2.1
   have h2:=h'.2.2 b ((hlm b).1 h.1) h.2.1
   rw [Zp6 hn h.1 ((hlm c).2 h'.1) (by omega)]
theorem ZkC (l : List Rt) (seen : List Int) : useL seen l = true ↔ (∀ r ∈ l,Z14 r = 0)∧(l.map Rt.id).Nodup∧∀ r ∈ l,r.id ∉ seen:=by
 induction l generalizing seen with
 | nil=>simp [useL]
 | cons r l ih =>
  simp only [useL,Bool.and_eq_true,beq_iff_eq,Bool.not_eq_true',ih,List.mem_cons,forall_eq_or_imp,List.map_cons,List.nodup_cons,List.mem_map,not_or,not_exists,not_and]
  have hc : seen.contains r.id = false ↔ r.id ∉ seen:=by rw [← Bool.not_eq_true,List.contains_iff_mem]
  rw [hc]
  constructor
  · rintro ⟨⟨h1,h2⟩,h3,h4,h5⟩
    exact ⟨⟨h1,h3⟩,⟨fun x hx e=>(h5 x hx).1 e,h4⟩,h2,fun x hx=>(h5 x hx).2⟩
  · rintro ⟨⟨h1,h3⟩,⟨h6,h4⟩,h2,h5⟩
    exact ⟨⟨h1,h2⟩,h3,h4,fun x hx=>⟨fun e=>h6 x hx e,h5 x hx⟩⟩
theorem Z1m (l : List Rt) : useB l = true ↔ l.length ≤ 100∧(∀ r ∈ l,Z14 r = 0)∧(l.map Rt.id).Nodup:=by
 simp [useB,ZkC]
theorem Z76 (l : List Rt) : useB l.reverse = useB l:=by
 rw [Bool.eq_iff_iff,Z1m,Z1m,List.map_reverse,(List.reverse_perm _).nodup_iff]
 simp
theorem ZfC {l : List Rt} (hu : useB l = true) (a : Ask) (night : Int) : Z0p l.reverse a night = Z0p l a night ∨ (∃ e e',Z0p l.reverse a night = .no e∧Z0p l a night = .no e'):=by
 have hn:=((Z1m l).1 hu).2.2
 unfold Z0p
 cases h1 : Z2C a night none l.reverse with
 | error e =>
  obtain ⟨r,hr,hn0⟩:=(Z7u a night l.reverse none).1 ⟨e,h1⟩
  obtain ⟨e',h2⟩:=(Z7u a night l none).2 ⟨r,List.mem_reverse.1 hr,hn0⟩
  rw [h2]
  exact .inr ⟨e,e',rfl,rfl⟩
 | ok o =>
  cases h2 : Z2C a night none l with
  | error e =>
   obtain ⟨r,hr,hn0⟩:=(Z7u a night l none).1 ⟨e,h2⟩
   obtain ⟨e',h3⟩:=(Z7u a night l.reverse none).2 ⟨r,List.mem_reverse.2 hr,hn0⟩
   rw [h3] at h1; cases h1
  | ok o' =>
   have b1:=Zd6 a night l.reverse [] none o (fun r h=>absurd h (by simp)) h1
   have b2:=Zd6 a night l [] none o' (fun r h=>absurd h (by simp)) h2
   have : o' = o:=ZkB (l:=l) (m:=l.reverse) (fun x=>by simp) hn (by simpa using b2) (by simpa using b1)
   subst this
   exact .inl rfl
theorem Zd7 {l : List Rt} (hu : useB l = true) (a : Ask) : ∀ (k : Nat) (night : Int),Z0a l.reverse a k night = Z0a l a k night ∨ (∃ e e',Z0a l.reverse a k night = .error e∧Z0a l a k night = .error e'):=by
 intro k
 induction k with
 | zero=>intro night; exact .inl rfl
 | succ k ih =>
  intro night
  unfold Z0a
  rcases ZfC hu a night with h | ⟨e,e',h1,h2⟩
  · rw [h]
    cases Z0p l a night with
    | no e=>exact .inl rfl
    | ok c r =>
     rcases ih (night + 1) with h | ⟨e,e',h1,h2⟩
     · rw [h]; exact .inl rfl
     · rw [h1,h2]; exact .inr ⟨e,e',rfl,rfl⟩
  · rw [h1,h2]; exact .inr ⟨e,e',rfl,rfl⟩
theorem ZfD (l : List Rt) (a : Ask) : Z0c l.reverse a = Z0c l a ∨ (∃ e e',Z0c l.reverse a = .error e∧Z0c l a = .error e'):=by
 unfold Z0c
 rw [Z76]
 cases hu : useB l with
 | false=>exact .inl rfl
 | true =>
  cases ha : a.okB with
  | false=>exact .inl rfl
  | true =>
   rcases Zd7 hu a (a.un - a.fr).toNat a.fr with h | ⟨e,e',h1,h2⟩
   · rw [h]; exact .inl rfl
   · rw [h1,h2]; exact .inr ⟨e,e',rfl,rfl⟩
theorem Z7v {l : List Rt} {a : Ask} {night c : Int} {r : Rt} (h : Z0p l a night = .ok c r) : 0 ≤ c∧c ≤ 1000000000∧r ∈ l:=by
 unfold Z0p at h
 cases hb : Z2C a night none l with
 | error e=>rw [hb] at h; cases h
 | ok o =>
  rw [hb] at h
  cases o with
  | none=>cases h
  | some r' =>
   have b1:=Zd6 a night l [] none (some r') (fun r h=>absurd h (by simp)) hb
   simp only at h
   cases hv : valE (Z1j a night) (r'.po,r'.pn) r'.pl with
   | no e=>rw [hv] at h; cases h
   | ok n d =>
    rw [hv] at h
    simp only at h
    split at h
    · cases h
    · rename_i hc
      simp only [N.ok.injEq] at h
      obtain ⟨rfl,rfl⟩:=h
      obtain ⟨d1,_,_,n1,_⟩:=Z1e (Z9n hv)
      exact ⟨by omega,Zp5 d1 n1,by simpa using b1.1⟩
theorem ZbC {l : List Rt} {a : Ask} (hf : ∀ r ∈ l,Z14 r = 0) : ∀ (k : Nat) (night : Int) (cs : List Int) (kp : Int),Z0a l a k night = .ok (cs,kp) →
 cs.length = k∧0 ≤ kp∧kp ≤ cs.sum∧cs.sum ≤ k * 1000000000∧∀ i (h : i < cs.length),∃ r,Z0p l a (night + i) = .ok cs[i] r:=by
 intro k
 induction k with
 | zero=>intro night cs kp h; simp only [Z0a,Except.ok.injEq,Prod.mk.injEq] at h; obtain ⟨rfl,rfl⟩:=h; simp
 | succ k ih =>
  intro night cs kp h
  unfold Z0a at h
  cases hn : Z0p l a night with
  | no e=>rw [hn] at h; cases h
  | ok c r =>
   rw [hn] at h
   cases hr : Z0a l a k (night + 1) with
   | error e=>rw [hr] at h; cases h
   | ok p =>
    obtain ⟨cs',kp'⟩:=p
    rw [hr] at h
    simp only [Except.ok.injEq,Prod.mk.injEq] at h
    obtain ⟨rfl,rfl⟩:=h
    obtain ⟨i1,i2,i3,i4,i5⟩:=ih (night + 1) cs' kp' hr
    obtain ⟨c0,c1,c2⟩:=Z7v hn
    obtain ⟨p0,p1⟩:=Z8f c0 (Z2a (hf r c2))
    refine ⟨by simp [i1],by omega,by simp only [List.sum_cons]; omega,by simp only [List.sum_cons]; omega,?_⟩
    intro i hi
    cases i with
    | zero=>exact ⟨r,by simpa using hn⟩
    | succ i =>
     obtain ⟨r',hr'⟩:=i5 i (by simpa using hi)
     refine ⟨r',?_⟩
     rw [show night + ((i + 1 : Nat) : Int) = night + 1 + (i : Int) by omega]
     simpa using hr'
end Qx
end
end Go.Proofs.YtnepkoepbapgeaaGreatDoor
