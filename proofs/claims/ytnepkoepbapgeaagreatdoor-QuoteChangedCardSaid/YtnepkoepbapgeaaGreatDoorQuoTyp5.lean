/-
  Walks: formed of package types.
-/
import Derived.Test.YtnepkoepbapgeaaGreatDoorQuoTyp4
import Derived.Test.YtnepkoepbapgeaaGreatDoorQuoPlain
import Derived.Deep.DeepCutAuto
import Derived.IntWalk
import Derived.Test.YtnepkoepbapgeaaGreatDoorShelf
namespace Go.Proofs.YtnepkoepbapgeaaGreatDoor
set_option maxRecDepth 100000
open Go.RowKit Lx Px Qx
namespace Qx
def Z0r:List Int→Bool
 | a::b::l=>decide (a≤b)&&Z0r (b::l)
 | _=>true
theorem Zbt:∀ (l:List Int),Z0r l=true ↔ ∀ j,0<j→j<l.length→l.getD (j - 1) 0≤l.getD j 0:=by
 intro l
 induction l with
 | nil=>simp [Z0r]
 | cons a l ih =>
  cases l with
  | nil=>simp [Z0r];intro j h1 h2;omega
  | cons b l =>
   simp only [Z0r,Bool.and_eq_true,decide_eq_true_eq,ih]
   constructor
   · rintro ⟨h1,h2⟩ j hj hl
     obtain ⟨j,rfl⟩:∃ i,j=i+1:=⟨j - 1,by omega⟩
     cases j with
     | zero=>exact h1
     | succ j=>exact h2 (j+1) (by omega) (by simpa using hl)
   · intro h
     refine ⟨h 1 (by omega) (by simp),fun j hj hl=>?_⟩
     obtain ⟨j,rfl⟩:∃ i,j=i+1:=⟨j - 1,by omega⟩
     exact h (j+2) (by omega) (by simpa using hl)
def numsR (r:Rt):Bool:=Z0r [1,r.id,1000000]&&Z0r [0,r.lv,100]&&Z0r [1,r.kd,20]&&Z0r [1,r.ar,127]
def seasR (r:Rt):Bool:=Z0r [0,r.fr,r.un,366]&&decide (r.fr<r.un)
def keepR (r:Rt):Bool:=ratB r.kn r.kq&&Z0r [0,r.kn,r.kq]
theorem Ze7 (r:Rt):Z3D r=(numsR r&&seasR r&&keepR r&&Z0r [1,r.ls,r.mo,60]&&Z0d r.wo r.wn r.wl&&Z0d r.po r.pn r.pl):=by
 rw [Bool.eq_iff_iff]
 simp only [Z3D,numsR,seasR,keepR,Z0r,Bool.and_eq_true,decide_eq_true_eq,Bool.and_true]
 cases ratB r.kn r.kq <;> cases Z0d r.wo r.wn r.wl <;> cases Z0d r.po r.pn r.pl <;> simp <;> omega
end Qx
theorem Zbu (w:World)(a b:Nat):(w.drewN a).drewN b=w.drewN (a+b):=by simp [World.drewN,Nat.add_assoc]
theorem Zft (l:List Int)(A:Option Addr)(c B:Nat)(w:World)(h:Z02 w B (.slice A l.length c) l)(hl:l.length≤1000000) :
 Calls Tryz.prog 228 #[.slice A l.length c] w fun e w'=>e=.returned (.bool (Z0r l))∧∃ q,w'=w.drewN q:=by
 by_cases h0:l.length=0
 · have hl0:l=[]:=List.length_eq_zero_iff.1 h0
   subst hl0;go_enter Tryz.func228,Tryz.ntmps228
   go_wp2_with fail;go_loopw [3] (fun i wr=>i=.int .i64 (-1)∧wr=w) (fun _ _=>0)
   case atStart=>exact ⟨rfl,rfl⟩
   case round =>
    obtain ⟨rfl,rfl⟩:=hrel
    go_wp2_with fail;go_ret
    exact ⟨rfl,0,rfl⟩
 · obtain ⟨b,o,rfl,_,hcc⟩:=Z5b h (by intro e;subst e;exact h0 rfl)
   have HC:=zh hcc;clear h hcc;go_enter Tryz.func228,Tryz.ntmps228
   go_wp2_with fail;go_loopw [3] (fun i wr=>∃ k:Nat,k<l.length∧i=.int .i64 k∧(∃ q,wr=w.drewN q)∧Hid (∀ j,k<j→j<l.length→l.getD (j - 1) 0≤l.getD j 0)) (fun i _=>(intOf i).toNat)
   case atStart=>exact ⟨l.length - 1,by omega,by go_num,⟨0,rfl⟩,fun j h1 h2=>absurd h1 (by omega)⟩
   case round =>
    obtain ⟨k,hk,rfl,⟨q,hq⟩,HK⟩:=hrel
    by_cases hk0:0<k
    · have c1:wr.cell? ⟨b,o+k,none⟩=some (.int .i64 (l.getD k 0)):=by
       rw [hq,World.cell?_drewN]
       rw [HC.out k hk,List.getD_eq_getElem?_getD,List.getElem?_eq_getElem hk];rfl
      have c2:wr.cell? ⟨b,o+(k - 1),none⟩=some (.int .i64 (l.getD (k - 1) 0)):=by
       rw [hq,World.cell?_drewN]
       rw [HC.out (k - 1) (by omega),List.getD_eq_getElem?_getD,List.getElem?_eq_getElem (by omega:k - 1<l.length)];rfl
      have HQ:=zh hq;clear hq;obtain ⟨m,hm⟩:∃ m,k - 1=m:=⟨_,rfl⟩
      rw [hm] at c2
      have hw1:IntKind.i64.wrap ((k:Int) - 1)=(m:Int):=by rw [IntWalk.i64_in _ (by omega)];omega
      have hx0:decide ((0:Int)<(k:Int))=true:=by simp;omega
      have hge:Z0r l=true→l.getD m 0≤l.getD k 0:=fun h=>by have:=(Zbt l).1 h k hk0 hk;rwa [hm] at this
      have hml:m<l.length:=by omega
      obtain ⟨x,hx⟩:∃ x,x=l.getD k 0:=⟨_,rfl⟩
      obtain ⟨y,hy⟩:∃ y,y=l.getD m 0:=⟨_,rfl⟩
      rw [← hx] at c1 hge
      rw [← hy] at c2 hge
      by_cases hlt:x<y
      · have hr:Z0r l=false:=by
         cases h:Z0r l with
         | false=>rfl
         | true=>exact absurd (hge h) (by omega)
        have hls:∀ W:World,Calls Tryz.prog 265 #[.int .i64 x,.int .i64 y] W fun e w'=>e=.returned (.bool true)∧w'=W:=fun W=>by
         have:=Tryz.cmp_Less_int2 x y W
         rwa [show decide (x<y)=true by simpa using hlt] at this
        have HR:=zh hr;have HLS:=zh hls;have HLT:=zh hlt;have HX:=zh hx;have HY:=zh hy;have HM:=zh hm;clear hr hls hlt hx hy hm hge HC HK;go_wp2_with fail;go_quiet ((go_at_call 265;exact Calls.quiet_of_same (HLS.out _)))
        go_wp2_with fail;go_ret
        rw [HR.out]
        exact ⟨rfl,_,by rw [HQ.out,Zbu]⟩
      · have hls:∀ W:World,Calls Tryz.prog 265 #[.int .i64 x,.int .i64 y] W fun e w'=>e=.returned (.bool false)∧w'=W:=fun W=>by
         have:=Tryz.cmp_Less_int2 x y W
         rwa [show decide (x<y)=false by simpa using hlt] at this
        have hk2:∀ j,m<j→j<l.length→l.getD (j - 1) 0≤l.getD j 0:=by
         intro j h1 h2
         by_cases hj:j=k
         · subst hj
           rw [hm,← hx,← hy];omega
         · exact HK.out j (by omega) h2
        have HLS:=zh hls;have HLT:=zh hlt;have HX:=zh hx;have HY:=zh hy;have HK2:=zh hk2;have HM:=zh hm;clear hls hlt hx hy hk2 hm hge HC HK;go_wp2_with fail;go_quiet ((go_at_call 265;exact Calls.quiet_of_same (HLS.out _)))
        go_wp2_with fail;go_roundw
        case rel=>exact ⟨m,by omega,by go_num,⟨_,by rw [HQ.out,Zbu]⟩,HK2.out⟩
        case measure=>simp [intOf];have:=HM.out;omega
    · have hk1:k=0:=by omega
      subst hk1;have hr:Z0r l=true:=(Zbt l).2 (fun j h1 h2=>HK.out j h1 h2)
      have HR:=zh hr;have HQ:=zh hq;clear hr hq;go_wp2_with fail;go_ret
      rw [HR.out]
      exact ⟨rfl,_,HQ.out⟩
theorem Zfu (l:List Int)(A:Option Addr)(k c B:Nat)(w:World)(h:Z02 w B (.slice A k c) l)(hk:k=l.length)(hl:l.length≤1000000) :
 Calls Tryz.prog 174 #[.slice A k c] w fun e w'=>e=.returned (.bool (Z0r l))∧∃ q,w'=w.drewN q:=by
 subst hk;have hs:=Zft l A c B w h hl
 have HS:=zh hs;have HH:=zh h;clear hs h;go_enter Tryz.func174,Tryz.ntmps174
 go_wp2_with fail;refine HS.out.mono ?_
 rintro e w' ⟨rfl,q,rfl⟩;go_wp2_with fail;go_ret
 exact ⟨rfl,q,rfl⟩
def RB (w:World)(cs:Array Value)(wx:World):Prop:=wx.heap[w.heap.size]?=some (.cells cs 65 (0,0))∧Below w.heap.size w wx
theorem RB.on {w wx wy:World}{cs:Array Value}(h:RB w cs wx)(hb:Below wx.heap.size wx wy):RB w cs wy:=⟨(hb.block _ (zs h.1)).trans h.1,Z00 h.2 hb⟩
theorem RB.cell {w wx:World}{cs:Array Value}(h:RB w cs wx)(i:Nat)(v:Value)(hv:cs[i]?=some v):wx.cell? ⟨w.heap.size,i,none⟩=some v:=by rw [zc h.1,hv]
theorem RB.new (w:World)(cs:Array Value):RB w cs (w.alloc (.cells cs 65)):=⟨za w _,(Below.refl _ _).alloc (zn _) _⟩
theorem Z23 (l:List Int)(cs:Array Value)(w wx:World)(R:Array Value)(k:Nat)(hR:RB w R wx)(hc:cs=(l.map (.int .i64)).toArray)(hk:k=l.length)(hl:l.length≤1000000)(c:Nat) :
 Calls Tryz.prog 174 #[.slice (some ⟨wx.heap.size,0,none⟩) k c] (wx.alloc (.cells cs 3 (0,0))) fun e w'=>e=.returned (.bool (Z0r l))∧RB w R w':=by
 subst hc hk;have hx:=za wx (.cells (l.map (Value.int .i64)).toArray 3 (0,0))
 refine (Zfu l (some ⟨wx.heap.size,0,none⟩) l.length c _ _ (Z02.block hx c) rfl hl).mono ?_
 rintro e w' ⟨rfl,q,rfl⟩;exact ⟨rfl,hR.on (Z0n ((Below.refl _ _).alloc (zn _) _) q)⟩

set_option maxHeartbeats 4000000 in
theorem Ziu (id lv kd fr un ls mo ar kn kq wo wn po pn:Int)(wl pl:Fo)(WA PA:Option Addr)(wk pc:Nat)(w:World)(b1 b2 b3 b4:Bool)
 (hwv:FoV w w.heap.size (.slice WA (flen wl) wk) wl) (hpv:FoV w w.heap.size (.slice PA (flen pl) pc) pl)
 (h1:b1=(Z0r [1,id,1000000]&&Z0r [0,lv,100]&&Z0r [1,kd,20]&&Z0r [1,ar,127])) (h2:b2=(Z0r [0,fr,un,366]&&decide (fr<un))) (h3:b3=(ratB kn kq&&Z0r [0,kn,kq]))
 (h4:b4=(b1&&b2&&b3&&Z0r [1,ls,mo,60]&&Z0d wo wn wl&&Z0d po pn pl)) :
 Calls Tryz.prog 131 #[.agg #[.int .i64 id,.int .i64 lv,.int .i64 kd,.int .i64 fr,.int .i64 un,.int .i64 ls,.int .i64 mo,.int .i64 ar,.int .i64 kn,.int .i64 kq,.int .i64 wo,.int .i64 wn,.slice WA (flen wl) wk,.int .i64 po,.int .i64 pn,.slice PA (flen pl) pc]] w fun e w'=>e=.returned (.bool b4)∧Below w.heap.size w w':=by
 have S0:=RB.new w #[.int .i64 id,.int .i64 lv,.int .i64 kd,.int .i64 fr,.int .i64 un,.int .i64 ls,.int .i64 mo,.int .i64 ar,.int .i64 kn,.int .i64 kq,.int .i64 wo,.int .i64 wn,.slice WA (flen wl) wk,.int .i64 po,.int .i64 pn,.slice PA (flen pl) pc]
 have S:=zh S0;have H1:=zh h1;have H2:=zh h2;have H3:=zh h3;have H4:=zh h4;have HW:=zh hwv;have HP:=zh hpv;clear S0 h1 h2 h3 h4 hwv hpv;go_enter Tryz.func131,Tryz.ntmps131
 go_upto_region 1 with fail
 generalize w.alloc (.cells #[.int .i64 id,.int .i64 lv,.int .i64 kd,.int .i64 fr,.int .i64 un,.int .i64 ls,.int .i64 mo,.int .i64 ar,.int .i64 kn,.int .i64 kq,.int .i64 wo,.int .i64 wn,.slice WA (flen wl) wk,.int .i64 po,.int .i64 pn,.slice PA (flen pl) pc] 65)=w0 at *
 go_cut [3] from 6 to 27 (fun s wx=>s=.bool b1∧RB w #[.int .i64 id,.int .i64 lv,.int .i64 kd,.int .i64 fr,.int .i64 un,.int .i64 ls,.int .i64 mo,.int .i64 ar,.int .i64 kn,.int .i64 kq,.int .i64 wo,.int .i64 wn,.slice WA (flen wl) wk,.int .i64 po,.int .i64 pn,.slice PA (flen pl) pc] wx)
 case first =>
  have e0:=S.out.cell 0 _ rfl
  go_wp2_with fail;refine (Z23 [1,id,1000000] #[.int .i64 1,.int .i64 id,.int .i64 1000000] w _ _ _ S.out rfl rfl (by simp) _).mono ?_
  rintro e wy ⟨rfl,hS⟩;clear e0 S;have S:=zh hS;clear hS;cases k0:Z0r [1,id,1000000] with
  | false =>
   have HK0:=zh k0;clear k0;go_wp2_with fail;go_meet
   refine ⟨?_,S.out⟩
   rw [H1.out,HK0.out]
   simp
  | true =>
   have HK0:=zh k0;clear k0;have e1:=S.out.cell 1 _ rfl
   go_wp2_with fail;refine (Z23 [0,lv,100] #[.int .i64 0,.int .i64 lv,.int .i64 100] w _ _ _ S.out rfl rfl (by simp) _).mono ?_
   rintro e wy ⟨rfl,hS⟩;clear e1 S;have S:=zh hS;clear hS;cases k1:Z0r [0,lv,100] with
   | false =>
    have HK1:=zh k1;clear k1;go_wp2_with fail;go_meet
    refine ⟨?_,S.out⟩
    rw [H1.out,HK0.out,HK1.out]
    simp
   | true =>
    have HK1:=zh k1;clear k1;have e2:=S.out.cell 2 _ rfl
    go_wp2_with fail;refine (Z23 [1,kd,20] #[.int .i64 1,.int .i64 kd,.int .i64 20] w _ _ _ S.out rfl rfl (by simp) _).mono ?_
    rintro e wy ⟨rfl,hS⟩;clear e2 S;have S:=zh hS;clear hS;cases k2:Z0r [1,kd,20] with
    | false =>
     have HK2:=zh k2;clear k2;go_wp2_with fail;go_meet
     refine ⟨?_,S.out⟩
     rw [H1.out,HK0.out,HK1.out,HK2.out]
     simp
    | true =>
     have HK2:=zh k2;clear k2;have e7:=S.out.cell 7 _ rfl
     go_wp2_with fail;refine (Z23 [1,ar,127] #[.int .i64 1,.int .i64 ar,.int .i64 127] w _ _ _ S.out rfl rfl (by simp) _).mono ?_
     rintro e wy ⟨rfl,hS⟩;clear e7 S;have S:=zh hS;clear hS;cases k3:Z0r [1,ar,127] with
     | false =>
      have HK3:=zh k3;clear k3;go_wp2_with fail;go_meet
      refine ⟨?_,S.out⟩
      rw [H1.out,HK0.out,HK1.out,HK2.out,HK3.out]
      simp
     | true =>
      have HK3:=zh k3;clear k3;go_wp2_with fail;go_meet
      refine ⟨?_,S.out⟩
      rw [H1.out,HK0.out,HK1.out,HK2.out,HK3.out]
      simp
 case rest =>
  obtain ⟨rfl,S1⟩:=hcut
  have S:=zh S1;clear S1;go_upto_region 2 with fail
  go_cut [4] from 28 to 44 (fun s wx=>s=.bool b2∧RB w #[.int .i64 id,.int .i64 lv,.int .i64 kd,.int .i64 fr,.int .i64 un,.int .i64 ls,.int .i64 mo,.int .i64 ar,.int .i64 kn,.int .i64 kq,.int .i64 wo,.int .i64 wn,.slice WA (flen wl) wk,.int .i64 po,.int .i64 pn,.slice PA (flen pl) pc] wx)
  case first =>
   have e3:=S.out.cell 3 _ rfl
   have e4:=S.out.cell 4 _ rfl
   go_wp2_with fail;refine (Z23 [0,fr,un,366] #[.int .i64 0,.int .i64 fr,.int .i64 un,.int .i64 366] w _ _ _ S.out rfl rfl (by simp) _).mono ?_
   rintro e wy ⟨rfl,hS⟩;clear e3 e4 S;have S:=zh hS;clear hS;cases k0:Z0r [0,fr,un,366] with
   | false =>
    have HK0:=zh k0;clear k0;go_wp2_with fail;go_meet
    exact ⟨by rw [H2.out,HK0.out];simp,S.out⟩
   | true =>
    have HK0:=zh k0;clear k0;have e3:=S.out.cell 3 _ rfl
    have e4:=S.out.cell 4 _ rfl
    by_cases hlt:fr<un
    · have dl:decide (fr<un)=true:=by simpa using hlt
      go_wp2_with fail;go_meet
      exact ⟨by rw [H2.out,HK0.out,dl];simp,S.out⟩
    · have dl:decide (fr<un)=false:=by simpa using hlt
      go_wp2_with fail;go_meet
      exact ⟨by rw [H2.out,HK0.out,dl];simp,S.out⟩
  case rest =>
   obtain ⟨rfl,S2⟩:=hcut
   have S:=zh S2;clear S2;go_upto_region 3 with fail
   go_cut [5] from 45 to 57 (fun s wx=>s=.bool b3∧RB w #[.int .i64 id,.int .i64 lv,.int .i64 kd,.int .i64 fr,.int .i64 un,.int .i64 ls,.int .i64 mo,.int .i64 ar,.int .i64 kn,.int .i64 kq,.int .i64 wo,.int .i64 wn,.slice WA (flen wl) wk,.int .i64 po,.int .i64 pn,.slice PA (flen pl) pc] wx)
   case first =>
    have e8:=S.out.cell 8 _ rfl
    have e9:=S.out.cell 9 _ rfl
    go_wp2_with fail;refine (Z0E kn kq _).mono ?_
    rintro e wy ⟨rfl,hb⟩;have S3:=S.out.on hb
    clear S e8 e9 hb;have S:=zh S3;clear S3;cases kr:ratB kn kq with
    | false =>
     have HR:=zh kr;clear kr;go_wp2_with fail;go_meet
     exact ⟨by rw [H3.out,HR.out];simp,S.out⟩
    | true =>
     have HR:=zh kr;clear kr;have e8:=S.out.cell 8 _ rfl
     have e9:=S.out.cell 9 _ rfl
     go_wp2_with fail;refine (Z23 [0,kn,kq] #[.int .i64 0,.int .i64 kn,.int .i64 kq] w _ _ _ S.out rfl rfl (by simp) _).mono ?_
     rintro e wy ⟨rfl,hS⟩;clear e8 e9 S;have S:=zh hS;clear hS;cases k0:Z0r [0,kn,kq] with
     | false =>
      have HK0:=zh k0;clear k0;go_wp2_with fail;go_meet
      exact ⟨by rw [H3.out,HR.out,HK0.out];simp,S.out⟩
     | true =>
      have HK0:=zh k0;clear k0;go_wp2_with fail;go_meet
      exact ⟨by rw [H3.out,HR.out,HK0.out];simp,S.out⟩
   case rest =>
    obtain ⟨rfl,S3⟩:=hcut
    have S:=zh S3;clear S3;cases b1 with
    | false =>
     have hb4:b4=false:=by rw [H4.out];simp
     have H5:=zh hb4;clear hb4;cases b2 <;> cases b3
     all_goals
      go_wp2_with fail;go_ret
      rw [H5.out]
      exact ⟨rfl,S.out.2⟩
    | true =>
     cases b2 with
     | false =>
      have hb4:b4=false:=by rw [H4.out];simp
      have H5:=zh hb4;clear hb4;cases b3
      all_goals
       go_wp2_with fail;go_ret
       rw [H5.out]
       exact ⟨rfl,S.out.2⟩
     | true =>
      cases b3 with
      | false =>
       have hb4:b4=false:=by rw [H4.out];simp
       have H5:=zh hb4;clear hb4;go_wp2_with fail;go_ret
       rw [H5.out]
       exact ⟨rfl,S.out.2⟩
      | true =>
       have e5:=S.out.cell 5 _ rfl
       have e6:=S.out.cell 6 _ rfl
       go_wp2_with fail;refine (Z23 [1,ls,mo,60] #[.int .i64 1,.int .i64 ls,.int .i64 mo,.int .i64 60] w _ _ _ S.out rfl rfl (by simp) _).mono ?_
       rintro e wy ⟨rfl,hS⟩;clear e5 e6 S;have S:=zh hS;clear hS;cases k0:Z0r [1,ls,mo,60] with
       | false =>
        have HK0:=zh k0;clear k0;go_wp2_with fail;go_ret
        rw [H4.out,HK0.out]
        exact ⟨by simp,S.out.2⟩
       | true =>
        have HK0:=zh k0;clear k0;have e10:=S.out.cell 10 _ rfl
        have e11:=S.out.cell 11 _ rfl
        have e12:=S.out.cell 12 _ rfl
        go_wp2_with fail;refine (Z2D wo wn wl (.slice WA (flen wl) wk) _ ((HW.out.on S.out.2).up S.out.2.size)).mono ?_
        rintro e wy ⟨rfl,hb⟩;have S4:=S.out.on hb
        clear S e10 e11 e12 hb;have S:=zh S4;clear S4;cases kv:Z0d wo wn wl with
        | false =>
         have HV:=zh kv;clear kv;go_wp2_with fail;go_ret
         rw [H4.out,HV.out]
         exact ⟨by simp,S.out.2⟩
        | true =>
         have HV:=zh kv;clear kv;have e13:=S.out.cell 13 _ rfl
         have e14:=S.out.cell 14 _ rfl
         have e15:=S.out.cell 15 _ rfl
         go_wp2_with fail;refine (Z2D po pn pl (.slice PA (flen pl) pc) _ ((HP.out.on S.out.2).up S.out.2.size)).mono ?_
         rintro e wy ⟨rfl,hb⟩;have S4:=S.out.on hb
         clear S e13 e14 e15 hb;have h5:b4=Z0d po pn pl:=by rw [H4.out,HK0.out,HV.out];simp
         rw [← h5]
         have S:=zh S4;have H5:=zh h5;clear S4 h5;go_wp2_with fail;go_ret
         exact ⟨rfl,S.out.2⟩
theorem ZcG (r:Rt)(wv pv:Value)(w:World)(hwv:FoV w w.heap.size wv r.wl)(hpv:FoV w w.heap.size pv r.pl):Calls Tryz.prog 131 #[rtV r wv pv] w fun e w'=>e=.returned (.bool (Z3D r))∧Below w.heap.size w w':=by
 obtain ⟨WA,wk,rfl,_⟩:=id hwv
 obtain ⟨PA,pc,rfl,_⟩:=id hpv
 exact Ziu r.id r.lv r.kd r.fr r.un r.ls r.mo r.ar r.kn r.kq r.wo r.wn r.po r.pn r.wl r.pl WA PA wk pc w _ _ _ _ hwv hpv rfl rfl rfl (Ze7 r)
end Go.Proofs.YtnepkoepbapgeaaGreatDoor
