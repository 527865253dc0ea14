/-
  Several texts in one: QuoTyp5, QuoTyp6, QuoLaw, QuoLd.
-/
import Derived.Test.YtnepkoepbapgeaaGreatDoorQuoTyp4
import Derived.Test.YtnepkoepbapgeaaGreatDoorQuoPlain
import Derived.Deep.DeepCutAuto
import Derived.IntWalk
import Derived.Test.YtnepkoepbapgeaaGreatDoorShelf
import Derived.Test.YtnepkoepbapgeaaGreatDoorQuoTyp1
import Derived.Laws.Rows
namespace Go.Proofs.YtnepkoepbapgeaaGreatDoor
set_option maxHeartbeats 4000000
set_option maxRecDepth 100000
section
open Go.RowKit Lx Px Qx
namespace Qx
def Z0t:List Int→Bool
 | a::b::l=>decide (a≤b)&&Z0t (b::l)
 | _=>true
theorem ZcA:∀ (l:List Int),Z0t l=true ↔ ∀ j,0<j→j<l.length→l.getD (j - 1) 0≤l.getD j 0:=by
 intro l
 induction l with
 | nil=>simp [Z0t]
 | cons a l ih =>
  cases l with
  | nil=>simp [Z0t];intro j h1 h2;omega
  | cons b l =>
   simp only [Z0t,Bool.and_eq_true,decide_eq_true_eq,ih]
   constructor
   · rintro ⟨h1,h2⟩ j hj hl
     obtain ⟨j,rfl⟩:∃ i,j=i+1:=⟨j - 1,by omega⟩
     cases j with
     | zero=>exact h1
     | succ j=>exact h2 (j+1) (by omega) (by simpa using hl)
   · intro h
     refine ⟨h 1 (by omega) (by simp),fun j hj hl=>?_⟩
     obtain ⟨j,rfl⟩:∃ i,j=i+1:=⟨j - 1,by omega⟩
     exact h (j+2) (by omega) (by simpa using hl)
def numsR (r:Rt):Bool:=Z0t [1,r.id,1000000]&&Z0t [0,r.lv,100]&&Z0t [1,r.kd,20]&&Z0t [1,r.ar,127]
def seasR (r:Rt):Bool:=Z0t [0,r.fr,r.un,366]&&decide (r.fr<r.un)
def keepR (r:Rt):Bool:=ratB r.kn r.kq&&Z0t [0,r.kn,r.kq]
theorem Zfx (r:Rt):Z3H r=(numsR r&&seasR r&&keepR r&&Z0t [1,r.ls,r.mo,60]&&Z0i r.wo r.wn r.wl&&Z0i r.po r.pn r.pl):=by
 rw [Bool.eq_iff_iff]
 simp only [Z3H,numsR,seasR,keepR,Z0t,Bool.and_eq_true,decide_eq_true_eq,Bool.and_true]
 cases ratB r.kn r.kq <;> cases Z0i r.wo r.wn r.wl <;> cases Z0i r.po r.pn r.pl <;> simp <;> omega
end Qx
theorem ZcB (w:World)(a b:Nat):(w.drewN a).drewN b=w.drewN (a+b):=by simp [World.drewN,Nat.add_assoc]
theorem Zhk (l:List Int)(A:Option Addr)(c B:Nat)(w:World)(h:Z07 w B (.slice A l.length c) l)(hl:l.length≤1000000) :
 Calls Tryz.prog 228 #[.slice A l.length c] w fun e w'=>e=.returned (.bool (Z0t l))∧∃ q,w'=w.drewN q:=by
 by_cases h0:l.length=0
 · have hl0:l=[]:=List.length_eq_zero_iff.1 h0
   subst hl0;go_enter Tryz.func228,Tryz.ntmps228
   go_wp2_with fail;go_loopw [3] (fun i wr=>i=.int .i64 (-1)∧wr=w) (fun _ _=>0)
   case atStart=>exact ⟨rfl,rfl⟩
   case round =>
    obtain ⟨rfl,rfl⟩:=hrel
    go_wp2_with fail;go_ret
    exact ⟨rfl,0,rfl⟩
 · obtain ⟨b,o,rfl,_,hcc⟩:=Z4D h (by intro e;subst e;exact h0 rfl)
   have HC:=zh hcc;clear h hcc;go_enter Tryz.func228,Tryz.ntmps228
   go_wp2_with fail;go_loopw [3] (fun i wr=>∃ k:Nat,k<l.length∧i=.int .i64 k∧(∃ q,wr=w.drewN q)∧Hid (∀ j,k<j→j<l.length→l.getD (j - 1) 0≤l.getD j 0)) (fun i _=>(intOf i).toNat)
   case atStart=>exact ⟨l.length - 1,by omega,by go_num,⟨0,rfl⟩,fun j h1 h2=>absurd h1 (by omega)⟩
   case round =>
    obtain ⟨k,hk,rfl,⟨q,hq⟩,HK⟩:=hrel
    by_cases hk0:0<k
    · have c1:wr.cell? ⟨b,o+k,none⟩=some (.int .i64 (l.getD k 0)):=by
       rw [hq,World.cell?_drewN]
       rw [HC.out k hk,List.getD_eq_getElem?_getD,List.getElem?_eq_getElem hk];rfl
      have c2:wr.cell? ⟨b,o+(k - 1),none⟩=some (.int .i64 (l.getD (k - 1) 0)):=by
       rw [hq,World.cell?_drewN]
       rw [HC.out (k - 1) (by omega),List.getD_eq_getElem?_getD,List.getElem?_eq_getElem (by omega:k - 1<l.length)];rfl
      have HQ:=zh hq;clear hq;obtain ⟨m,hm⟩:∃ m,k - 1=m:=⟨_,rfl⟩
      rw [hm] at c2
      have hw1:IntKind.i64.wrap ((k:Int) - 1)=(m:Int):=by rw [IntWalk.i64_in _ (by omega)];omega
      have hx0:decide ((0:Int)<(k:Int))=true:=by simp;omega
      have hge:Z0t l=true→l.getD m 0≤l.getD k 0:=fun h=>by have:=(ZcA l).1 h k hk0 hk;rwa [hm] at this
      have hml:m<l.length:=by omega
      obtain ⟨x,hx⟩:∃ x,x=l.getD k 0:=⟨_,rfl⟩
      obtain ⟨y,hy⟩:∃ y,y=l.getD m 0:=⟨_,rfl⟩
      rw [← hx] at c1 hge
      rw [← hy] at c2 hge
      by_cases hlt:x<y
      · have hr:Z0t l=false:=by
         cases h:Z0t l with
         | false=>rfl
         | true=>exact absurd (hge h) (by omega)
        have hls:∀ W:World,Calls Tryz.prog 265 #[.int .i64 x,.int .i64 y] W fun e w'=>e=.returned (.bool true)∧w'=W:=fun W=>by
         have:=Tryz.cmp_Less_int2 x y W
         rwa [show decide (x<y)=true by simpa using hlt] at this
        have HR:=zh hr;have HLS:=zh hls;have HLT:=zh hlt;have HX:=zh hx;have HY:=zh hy;have HM:=zh hm;clear hr hls hlt hx hy hm hge HC HK;go_wp2_with fail;go_quiet ((go_at_call 265;exact Calls.quiet_of_same (HLS.out _)))
        go_wp2_with fail;go_ret
        rw [HR.out]
        exact ⟨rfl,_,by rw [HQ.out,ZcB]⟩
      · have hls:∀ W:World,Calls Tryz.prog 265 #[.int .i64 x,.int .i64 y] W fun e w'=>e=.returned (.bool false)∧w'=W:=fun W=>by
         have:=Tryz.cmp_Less_int2 x y W
         rwa [show decide (x<y)=false by simpa using hlt] at this
        have hk2:∀ j,m<j→j<l.length→l.getD (j - 1) 0≤l.getD j 0:=by
         intro j h1 h2
         by_cases hj:j=k
         · subst hj
           rw [hm,← hx,← hy];omega
         · exact HK.out j (by omega) h2
        have HLS:=zh hls;have HLT:=zh hlt;have HX:=zh hx;have HY:=zh hy;have HK2:=zh hk2;have HM:=zh hm;clear hls hlt hx hy hk2 hm hge HC HK;go_wp2_with fail;go_quiet ((go_at_call 265;exact Calls.quiet_of_same (HLS.out _)))
        go_wp2_with fail;go_roundw
        case rel=>exact ⟨m,by omega,by go_num,⟨_,by rw [HQ.out,ZcB]⟩,HK2.out⟩
        case measure=>simp [intOf];have:=HM.out;omega
    · have hk1:k=0:=by omega
      subst hk1;have hr:Z0t l=true:=(ZcA l).2 (fun j h1 h2=>HK.out j h1 h2)
      have HR:=zh hr;have HQ:=zh hq;clear hr hq;go_wp2_with fail;go_ret
      rw [HR.out]
      exact ⟨rfl,_,HQ.out⟩
theorem Zhm (l:List Int)(A:Option Addr)(k c B:Nat)(w:World)(h:Z07 w B (.slice A k c) l)(hk:k=l.length)(hl:l.length≤1000000) :
 Calls Tryz.prog 174 #[.slice A k c] w fun e w'=>e=.returned (.bool (Z0t l))∧∃ q,w'=w.drewN q:=by
 subst hk;have hs:=Zhk l A c B w h hl
 have HS:=zh hs;have HH:=zh h;clear hs h;go_enter Tryz.func174,Tryz.ntmps174
 go_wp2_with fail;refine HS.out.mono ?_
 rintro e w' ⟨rfl,q,rfl⟩;go_wp2_with fail;go_ret
 exact ⟨rfl,q,rfl⟩
def RB (w:World)(cs:Array Value)(wx:World):Prop:=wx.heap[w.heap.size]?=some (.cells cs 65 (0,0))∧Below w.heap.size w wx
theorem RB.on {w wx wy:World}{cs:Array Value}(h:RB w cs wx)(hb:Below wx.heap.size wx wy):RB w cs wy:=⟨(hb.block _ (zs h.1)).trans h.1,Z00 h.2 hb⟩
theorem RB.cell {w wx:World}{cs:Array Value}(h:RB w cs wx)(i:Nat)(v:Value)(hv:cs[i]?=some v):wx.cell? ⟨w.heap.size,i,none⟩=some v:=by rw [zc h.1,hv]
theorem RB.new (w:World)(cs:Array Value):RB w cs (w.alloc (.cells cs 65)):=⟨za w _,(Below.refl _ _).alloc (zn _) _⟩
theorem Z2g (l:List Int)(cs:Array Value)(w wx:World)(R:Array Value)(k:Nat)(hR:RB w R wx)(hc:cs=(l.map (.int .i64)).toArray)(hk:k=l.length)(hl:l.length≤1000000)(c:Nat) :
 Calls Tryz.prog 174 #[.slice (some ⟨wx.heap.size,0,none⟩) k c] (wx.alloc (.cells cs 3 (0,0))) fun e w'=>e=.returned (.bool (Z0t l))∧RB w R w':=by
 subst hc hk;have hx:=za wx (.cells (l.map (Value.int .i64)).toArray 3 (0,0))
 refine (Zhm l (some ⟨wx.heap.size,0,none⟩) l.length c _ _ (Z07.block hx c) rfl hl).mono ?_
 rintro e w' ⟨rfl,q,rfl⟩;exact ⟨rfl,hR.on (Z0q ((Below.refl _ _).alloc (zn _) _) q)⟩

theorem Zk1 (id lv kd fr un ls mo ar kn kq wo wn po pn:Int)(wl pl:Fo)(WA PA:Option Addr)(wk pc:Nat)(w:World)(b1 b2 b3 b4:Bool)
 (hwv:FoV w w.heap.size (.slice WA (flen wl) wk) wl) (hpv:FoV w w.heap.size (.slice PA (flen pl) pc) pl)
 (h1:b1=(Z0t [1,id,1000000]&&Z0t [0,lv,100]&&Z0t [1,kd,20]&&Z0t [1,ar,127])) (h2:b2=(Z0t [0,fr,un,366]&&decide (fr<un))) (h3:b3=(ratB kn kq&&Z0t [0,kn,kq]))
 (h4:b4=(b1&&b2&&b3&&Z0t [1,ls,mo,60]&&Z0i wo wn wl&&Z0i po pn pl)) :
 Calls Tryz.prog 131 #[.agg #[.int .i64 id,.int .i64 lv,.int .i64 kd,.int .i64 fr,.int .i64 un,.int .i64 ls,.int .i64 mo,.int .i64 ar,.int .i64 kn,.int .i64 kq,.int .i64 wo,.int .i64 wn,.slice WA (flen wl) wk,.int .i64 po,.int .i64 pn,.slice PA (flen pl) pc]] w fun e w'=>e=.returned (.bool b4)∧Below w.heap.size w w':=by
 have S0:=RB.new w #[.int .i64 id,.int .i64 lv,.int .i64 kd,.int .i64 fr,.int .i64 un,.int .i64 ls,.int .i64 mo,.int .i64 ar,.int .i64 kn,.int .i64 kq,.int .i64 wo,.int .i64 wn,.slice WA (flen wl) wk,.int .i64 po,.int .i64 pn,.slice PA (flen pl) pc]
 have S:=zh S0;have H1:=zh h1;have H2:=zh h2;have H3:=zh h3;have H4:=zh h4;have HW:=zh hwv;have HP:=zh hpv;clear S0 h1 h2 h3 h4 hwv hpv;go_enter Tryz.func131,Tryz.ntmps131
 go_upto_region 1 with fail
 generalize w.alloc (.cells #[.int .i64 id,.int .i64 lv,.int .i64 kd,.int .i64 fr,.int .i64 un,.int .i64 ls,.int .i64 mo,.int .i64 ar,.int .i64 kn,.int .i64 kq,.int .i64 wo,.int .i64 wn,.slice WA (flen wl) wk,.int .i64 po,.int .i64 pn,.slice PA (flen pl) pc] 65)=w0 at *
 go_cut [3] from 6 to 27 (fun s wx=>s=.bool b1∧RB w #[.int .i64 id,.int .i64 lv,.int .i64 kd,.int .i64 fr,.int .i64 un,.int .i64 ls,.int .i64 mo,.int .i64 ar,.int .i64 kn,.int .i64 kq,.int .i64 wo,.int .i64 wn,.slice WA (flen wl) wk,.int .i64 po,.int .i64 pn,.slice PA (flen pl) pc] wx)
 case first =>
  have e0:=S.out.cell 0 _ rfl
  go_wp2_with fail;refine (Z2g [1,id,1000000] #[.int .i64 1,.int .i64 id,.int .i64 1000000] w _ _ _ S.out rfl rfl (by simp) _).mono ?_
  rintro e wy ⟨rfl,hS⟩;clear e0 S;have S:=zh hS;clear hS;cases k0:Z0t [1,id,1000000] with
  | false =>
   have HK0:=zh k0;clear k0;go_wp2_with fail;go_meet
   refine ⟨?_,S.out⟩
   rw [H1.out,HK0.out]
   simp
  | true =>
   have HK0:=zh k0;clear k0;have e1:=S.out.cell 1 _ rfl
   go_wp2_with fail;refine (Z2g [0,lv,100] #[.int .i64 0,.int .i64 lv,.int .i64 100] w _ _ _ S.out rfl rfl (by simp) _).mono ?_
   rintro e wy ⟨rfl,hS⟩;clear e1 S;have S:=zh hS;clear hS;cases k1:Z0t [0,lv,100] with
   | false =>
    have HK1:=zh k1;clear k1;go_wp2_with fail;go_meet
    refine ⟨?_,S.out⟩
    rw [H1.out,HK0.out,HK1.out]
    simp
   | true =>
    have HK1:=zh k1;clear k1;have e2:=S.out.cell 2 _ rfl
    go_wp2_with fail;refine (Z2g [1,kd,20] #[.int .i64 1,.int .i64 kd,.int .i64 20] w _ _ _ S.out rfl rfl (by simp) _).mono ?_
    rintro e wy ⟨rfl,hS⟩;clear e2 S;have S:=zh hS;clear hS;cases k2:Z0t [1,kd,20] with
    | false =>
     have HK2:=zh k2;clear k2;go_wp2_with fail;go_meet
     refine ⟨?_,S.out⟩
     rw [H1.out,HK0.out,HK1.out,HK2.out]
     simp
    | true =>
     have HK2:=zh k2;clear k2;have e7:=S.out.cell 7 _ rfl
     go_wp2_with fail;refine (Z2g [1,ar,127] #[.int .i64 1,.int .i64 ar,.int .i64 127] w _ _ _ S.out rfl rfl (by simp) _).mono ?_
     rintro e wy ⟨rfl,hS⟩;clear e7 S;have S:=zh hS;clear hS;cases k3:Z0t [1,ar,127] with
     | false =>
      have HK3:=zh k3;clear k3;go_wp2_with fail;go_meet
      refine ⟨?_,S.out⟩
      rw [H1.out,HK0.out,HK1.out,HK2.out,HK3.out]
      simp
     | true =>
      have HK3:=zh k3;clear k3;go_wp2_with fail;go_meet
      refine ⟨?_,S.out⟩
      rw [H1.out,HK0.out,HK1.out,HK2.out,HK3.out]
      simp
 case rest =>
  obtain ⟨rfl,S1⟩:=hcut
  have S:=zh S1;clear S1;go_upto_region 2 with fail
  go_cut [4] from 28 to 44 (fun s wx=>s=.bool b2∧RB w #[.int .i64 id,.int .i64 lv,.int .i64 kd,.int .i64 fr,.int .i64 un,.int .i64 ls,.int .i64 mo,.int .i64 ar,.int .i64 kn,.int .i64 kq,.int .i64 wo,.int .i64 wn,.slice WA (flen wl) wk,.int .i64 po,.int .i64 pn,.slice PA (flen pl) pc] wx)
  case first =>
   have e3:=S.out.cell 3 _ rfl
   have e4:=S.out.cell 4 _ rfl
   go_wp2_with fail;refine (Z2g [0,fr,un,366] #[.int .i64 0,.int .i64 fr,.int .i64 un,.int .i64 366] w _ _ _ S.out rfl rfl (by simp) _).mono ?_
   rintro e wy ⟨rfl,hS⟩;clear e3 e4 S;have S:=zh hS;clear hS;cases k0:Z0t [0,fr,un,366] with
   | false =>
    have HK0:=zh k0;clear k0;go_wp2_with fail;go_meet
    exact ⟨by rw [H2.out,HK0.out];simp,S.out⟩
   | true =>
    have HK0:=zh k0;clear k0;have e3:=S.out.cell 3 _ rfl
    have e4:=S.out.cell 4 _ rfl
    by_cases hlt:fr<un
    · have dl:decide (fr<un)=true:=by simpa using hlt
      go_wp2_with fail;go_meet
      exact ⟨by rw [H2.out,HK0.out,dl];simp,S.out⟩
    · have dl:decide (fr<un)=false:=by simpa using hlt
      go_wp2_with fail;go_meet
      exact ⟨by rw [H2.out,HK0.out,dl];simp,S.out⟩
  case rest =>
   obtain ⟨rfl,S2⟩:=hcut
   have S:=zh S2;clear S2;go_upto_region 3 with fail
   go_cut [5] from 45 to 57 (fun s wx=>s=.bool b3∧RB w #[.int .i64 id,.int .i64 lv,.int .i64 kd,.int .i64 fr,.int .i64 un,.int .i64 ls,.int .i64 mo,.int .i64 ar,.int .i64 kn,.int .i64 kq,.int .i64 wo,.int .i64 wn,.slice WA (flen wl) wk,.int .i64 po,.int .i64 pn,.slice PA (flen pl) pc] wx)
   case first =>
    have e8:=S.out.cell 8 _ rfl
    have e9:=S.out.cell 9 _ rfl
    go_wp2_with fail;refine (Z12 kn kq _).mono ?_
    rintro e wy ⟨rfl,hb⟩;have S3:=S.out.on hb
    clear S e8 e9 hb;have S:=zh S3;clear S3;cases kr:ratB kn kq with
    | false =>
     have HR:=zh kr;clear kr;go_wp2_with fail;go_meet
     exact ⟨by rw [H3.out,HR.out];simp,S.out⟩
    | true =>
     have HR:=zh kr;clear kr;have e8:=S.out.cell 8 _ rfl
     have e9:=S.out.cell 9 _ rfl
     go_wp2_with fail;refine (Z2g [0,kn,kq] #[.int .i64 0,.int .i64 kn,.int .i64 kq] w _ _ _ S.out rfl rfl (by simp) _).mono ?_
     rintro e wy ⟨rfl,hS⟩;clear e8 e9 S;have S:=zh hS;clear hS;cases k0:Z0t [0,kn,kq] with
     | false =>
      have HK0:=zh k0;clear k0;go_wp2_with fail;go_meet
      exact ⟨by rw [H3.out,HR.out,HK0.out];simp,S.out⟩
     | true =>
      have HK0:=zh k0;clear k0;go_wp2_with fail;go_meet
      exact ⟨by rw [H3.out,HR.out,HK0.out];simp,S.out⟩
   case rest =>
    obtain ⟨rfl,S3⟩:=hcut
    have S:=zh S3;clear S3;cases b1 with
    | false =>
     have hb4:b4=false:=by rw [H4.out];simp
     have H5:=zh hb4;clear hb4;cases b2 <;> cases b3
     all_goals
      go_wp2_with fail;go_ret
      rw [H5.out]
      exact ⟨rfl,S.out.2⟩
    | true =>
     cases b2 with
     | false =>
      have hb4:b4=false:=by rw [H4.out];simp
      have H5:=zh hb4;clear hb4;cases b3
      all_goals
       go_wp2_with fail;go_ret
       rw [H5.out]
       exact ⟨rfl,S.out.2⟩
     | true =>
      cases b3 with
      | false =>
       have hb4:b4=false:=by rw [H4.out];simp
       have H5:=zh hb4;clear hb4;go_wp2_with fail;go_ret
       rw [H5.out]
       exact ⟨rfl,S.out.2⟩
      | true =>
       have e5:=S.out.cell 5 _ rfl
       have e6:=S.out.cell 6 _ rfl
       go_wp2_with fail;refine (Z2g [1,ls,mo,60] #[.int .i64 1,.int .i64 ls,.int .i64 mo,.int .i64 60] w _ _ _ S.out rfl rfl (by simp) _).mono ?_
       rintro e wy ⟨rfl,hS⟩;clear e5 e6 S;have S:=zh hS;clear hS;cases k0:Z0t [1,ls,mo,60] with
       | false =>
        have HK0:=zh k0;clear k0;go_wp2_with fail;go_ret
        rw [H4.out,HK0.out]
        exact ⟨by simp,S.out.2⟩
       | true =>
        have HK0:=zh k0;clear k0;have e10:=S.out.cell 10 _ rfl
        have e11:=S.out.cell 11 _ rfl
        have e12:=S.out.cell 12 _ rfl
        go_wp2_with fail;refine (Z3b wo wn wl (.slice WA (flen wl) wk) _ ((HW.out.on S.out.2).up S.out.2.size)).mono ?_
        rintro e wy ⟨rfl,hb⟩;have S4:=S.out.on hb
        clear S e10 e11 e12 hb;have S:=zh S4;clear S4;cases kv:Z0i wo wn wl with
        | false =>
         have HV:=zh kv;clear kv;go_wp2_with fail;go_ret
         rw [H4.out,HV.out]
         exact ⟨by simp,S.out.2⟩
        | true =>
         have HV:=zh kv;clear kv;have e13:=S.out.cell 13 _ rfl
         have e14:=S.out.cell 14 _ rfl
         have e15:=S.out.cell 15 _ rfl
         go_wp2_with fail;refine (Z3b po pn pl (.slice PA (flen pl) pc) _ ((HP.out.on S.out.2).up S.out.2.size)).mono ?_
         rintro e wy ⟨rfl,hb⟩;have S4:=S.out.on hb
         clear S e13 e14 e15 hb;have h5:b4=Z0i po pn pl:=by rw [H4.out,HK0.out,HV.out];simp
         rw [← h5]
         have S:=zh S4;have H5:=zh h5;clear S4 h5;go_wp2_with fail;go_ret
         exact ⟨rfl,S.out.2⟩
theorem Ze7 (r:Rt)(wv pv:Value)(w:World)(hwv:FoV w w.heap.size wv r.wl)(hpv:FoV w w.heap.size pv r.pl):Calls Tryz.prog 131 #[rtV r wv pv] w fun e w'=>e=.returned (.bool (Z3H r))∧Below w.heap.size w w':=by
 obtain ⟨WA,wk,rfl,_⟩:=id hwv
 obtain ⟨PA,pc,rfl,_⟩:=id hpv
 exact Zk1 r.id r.lv r.kd r.fr r.un r.ls r.mo r.ar r.kn r.kq r.wo r.wn r.po r.pn r.wl r.pl WA PA wk pc w _ _ _ _ hwv hpv rfl rfl rfl (Zfx r)
end
section
open Go.RowKit Lx Px Qx
theorem Z45 {r:Rt}(h:Z3H r=true):Z0i r.wo r.wn r.wl=true∧Z0i r.po r.pn r.pl=true:=by
 rw [Zfx] at h;simp only [Bool.and_eq_true] at h;exact ⟨h.1.2,h.2⟩
theorem Zk2 (r:Rt)(wv pv:Value)(w:World)(hwv:FoV w w.heap.size wv r.wl)(hpv:FoV w w.heap.size pv r.pl):Calls Tryz.prog 98 #[rtV r wv pv] w fun e w'=>e=.returned (.tuple #[.bool (Z14 r==0),.int .i64 (Z14 r)])∧Below w.heap.size w w':=by
 have hfo:=fun W h1 h2=>Ze7 r wv pv W h1 h2
 obtain ⟨WA,wk,rfl,_⟩:=id hwv
 obtain ⟨PA,pc,rfl,_⟩:=id hpv
 have S0:=RB.new w #[.int .i64 r.id,.int .i64 r.lv,.int .i64 r.kd,.int .i64 r.fr,.int .i64 r.un,.int .i64 r.ls,.int .i64 r.mo,.int .i64 r.ar,.int .i64 r.kn,.int .i64 r.kq,.int .i64 r.wo,.int .i64 r.wn,.slice WA (flen r.wl) wk,.int .i64 r.po,.int .i64 r.pn,.slice PA (flen r.pl) pc]
 have hE:Z14 r=if Z3H r then (if typE (r.wo,r.wn) r.wl=3∧typE (r.po,r.pn) r.pl=2 then 0 else 20) else 1:=rfl
 have hv:=@Z45 r
 rw [rtV] at hfo ⊢
 have S:=zh S0;have HW:=zh hwv;have HP:=zh hpv;have HF:=zh hfo;have HE:=zh hE;have HV:=zh hv;clear S0 hwv hpv hfo hE hv;go_enter Tryz.func98,Tryz.ntmps98
 go_upto_region 1 with fail
 generalize w.alloc (.cells #[.int .i64 r.id,.int .i64 r.lv,.int .i64 r.kd,.int .i64 r.fr,.int .i64 r.un,.int .i64 r.ls,.int .i64 r.mo,.int .i64 r.ar,.int .i64 r.kn,.int .i64 r.kq,.int .i64 r.wo,.int .i64 r.wn,.slice WA (flen r.wl) wk,.int .i64 r.po,.int .i64 r.pn,.slice PA (flen r.pl) pc] 65)=w0 at *
 have e0:=S.out.cell 0 _ rfl
 have e1:=S.out.cell 1 _ rfl
 have e2:=S.out.cell 2 _ rfl
 have e3:=S.out.cell 3 _ rfl
 have e4:=S.out.cell 4 _ rfl
 have e5:=S.out.cell 5 _ rfl
 have e6:=S.out.cell 6 _ rfl
 have e7:=S.out.cell 7 _ rfl
 have e8:=S.out.cell 8 _ rfl
 have e9:=S.out.cell 9 _ rfl
 have e10:=S.out.cell 10 _ rfl
 have e11:=S.out.cell 11 _ rfl
 have e12:=S.out.cell 12 _ rfl
 have e13:=S.out.cell 13 _ rfl
 have e14:=S.out.cell 14 _ rfl
 have e15:=S.out.cell 15 _ rfl
 go_wp2_with fail;refine (HF.out _ ((HW.out.on S.out.2).up S.out.2.size) ((HP.out.on S.out.2).up S.out.2.size)).mono ?_
 rintro e w1 ⟨rfl,hb⟩;have S1:=S.out.on hb
 clear e0 e1 e2 e3 e4 e5 e6 e7 e8 e9 e10 e11 e12 e13 e14 e15 S hb HF;have S:=zh S1;clear S1;cases hf:Z3H r with
 | false =>
  have h1:Z14 r=1:=by rw [HE.out,hf];rfl
  have H1:=zh h1;have HFF:=zh hf;clear h1 hf;go_wp2_with fail;go_ret2
  rw [H1.out]
  exact ⟨rfl,S.out.2⟩
 | true =>
  obtain ⟨v1,v2⟩:=HV.out hf
  obtain ⟨z1,i1⟩:∃ z,Z3u (r.wo,r.wn) r.wl=(typE (r.wo,r.wn) r.wl,z):=⟨_,by unfold Z3u;rw [if_pos v1]⟩
  obtain ⟨z2,i2⟩:∃ z,Z3u (r.po,r.pn) r.pl=(typE (r.po,r.pn) r.pl,z):=⟨_,by unfold Z3u;rw [if_pos v2]⟩
  have hE2:Z14 r=if typE (r.wo,r.wn) r.wl=3∧typE (r.po,r.pn) r.pl=2 then 0 else 20:=by rw [HE.out,hf];rfl
  have e10:=S.out.cell 10 _ rfl
  have e11:=S.out.cell 11 _ rfl
  have e12:=S.out.cell 12 _ rfl
  have I1:=zh i1;have I2:=zh i2;have HE2:=zh hE2;have V1:=zh v1;have V2:=zh v2;have HFF:=zh hf;clear i1 i2 hE2 v1 v2 hf HE HV;go_wp2_with fail;refine (Zdd r.wo r.wn r.wl (.slice WA (flen r.wl) wk) _ ((HW.out.on S.out.2).up S.out.2.size)).mono ?_
  rintro e w2 ⟨rfl,hb⟩;have S2:=S.out.on hb
  clear e10 e11 e12 S hb;have S:=zh S2;clear S2;have e13:=S.out.cell 13 _ rfl
  have e14:=S.out.cell 14 _ rfl
  have e15:=S.out.cell 15 _ rfl
  rw [I1.out]
  go_wp2_with fail;refine (Zdd r.po r.pn r.pl (.slice PA (flen r.pl) pc) _ ((HP.out.on S.out.2).up S.out.2.size)).mono ?_
  rintro e w3 ⟨rfl,hb⟩;have S3:=S.out.on hb
  clear e13 e14 e15 S hb;have S:=zh S3;clear S3;rw [I2.out]
  clear I1 I2;generalize typE (r.wo,r.wn) r.wl=x at *
  generalize typE (r.po,r.pn) r.pl=y at *
  by_cases hx:x=3
  · subst hx
    by_cases hy:y=2
    · subst hy
      have hr:Z14 r=0:=by rw [HE2.out];rfl
      have HR:=zh hr;clear hr;go_wp2_with fail;go_ret2
      rw [HR.out]
      exact ⟨rfl,S.out.2⟩
    · have hr:Z14 r=20:=by rw [HE2.out,if_neg (fun h=>hy h.2)]
      have dy:(y==2)=false:=by simpa using hy
      have dy2:(y != 2)=true:=by simpa using hy
      have HR:=zh hr;have HY:=zh hy;clear hr hy;go_wp2_with fail;go_ret2
      rw [HR.out]
      exact ⟨rfl,S.out.2⟩
  · have hr:Z14 r=20:=by rw [HE2.out,if_neg (fun h=>hx h.1)]
    have dx:(x==3)=false:=by simpa using hx
    have dx2:(x != 3)=true:=by simpa using hx
    have HR:=zh hr;have HX:=zh hx;clear hr hx;go_wp2_with fail;go_ret2
    rw [HR.out]
    exact ⟨rfl,S.out.2⟩
end
section
open Lx Px
namespace Qx
theorem Z1j {n d:Int}(h:ratB n d=true):1≤d∧d≤1000000∧-1000000000≤n∧n≤1000000000∧Nat.gcd n.natAbs d.natAbs=1:=by
 simp [ratB] at h;obtain ⟨⟨⟨⟨a,b⟩,c⟩,e⟩,g⟩:=h;exact ⟨a,b,c,e,g⟩
theorem Z7f {n d p q:Int}(hd:1≤d)(h:ratV n d=.ok p q):ratB p q=true:=by
 unfold ratV at h
 split at h
 · cases h
 · rename_i hc
   simp only [V.ok.injEq] at h
   obtain ⟨rfl,rfl⟩:=h
   have hg:0<Nat.gcd n.natAbs d.natAbs:=Nat.gcd_pos_of_pos_right _ (by omega)
   have hgcd:Nat.gcd (n.natAbs / Nat.gcd n.natAbs d.natAbs) (d.natAbs / Nat.gcd n.natAbs d.natAbs)=1:=Nat.gcd_div_gcd_div_gcd_of_pos_right (by omega)
   have hgd:=Nat.gcd_dvd_right n.natAbs d.natAbs
   unfold redN redD at *
   have e1:(n.tdiv (Nat.gcd n.natAbs d.natAbs:Nat)).natAbs=n.natAbs / Nat.gcd n.natAbs d.natAbs:=by rw [Int.natAbs_tdiv,Int.natAbs_natCast];rfl
   have e2:(d.tdiv (Nat.gcd n.natAbs d.natAbs:Nat)).natAbs=d.natAbs / Nat.gcd n.natAbs d.natAbs:=by rw [Int.natAbs_tdiv,Int.natAbs_natCast];rfl
   have e3:0<d.natAbs / Nat.gcd n.natAbs d.natAbs:=Nat.div_pos (Nat.le_of_dvd (by omega) hgd) hg
   have e4:0≤d.tdiv (Nat.gcd n.natAbs d.natAbs:Nat):=Int.tdiv_nonneg (by omega) (by omega)
   rw [← e1,← e2] at hgcd
   rw [← e2] at e3
   generalize n.tdiv (Nat.gcd n.natAbs d.natAbs:Nat)=p at *
   generalize d.tdiv (Nat.gcd n.natAbs d.natAbs:Nat)=q at *
   simp only [ratB,Bool.and_eq_true,decide_eq_true_eq,beq_iff_eq]
   omega
theorem Z5G {n d p q:Int}(hd:d≠0)(h:Z3d n d=.ok p q):ratB p q=true:=by
 unfold Z3d at h
 split at h
 · exact Z7f (by omega) h
 · exact Z7f (by omega) h
theorem Zad {b:Bool}{p q:Int}(h:truV b=.ok p q):ratB p q=true:=by
 cases b <;> (simp only [truV,Bool.false_eq_true,if_false,if_true,V.ok.injEq] at h;obtain ⟨rfl,rfl⟩:=h;decide)
theorem Zhn {op a b c d p q:Int}(h1:ratB a b=true)(h2:ratB c d=true)(h:appV op a b c d=.ok p q):ratB p q=true:=by
 obtain ⟨b1,_,_,_,_⟩:=Z1j h1
 obtain ⟨d1,_,_,_,_⟩:=Z1j h2
 have hbd:1≤b*d:=Int.mul_pos (by omega) (by omega)
 unfold appV at h
 repeat' split at h
 all_goals first
  | exact Z7f hbd h
  | exact Zad h
  | (simp only [V.ok.injEq] at h;obtain ⟨rfl,rfl⟩:=h;assumption)
  | skip
 unfold divV at h
 split at h
 · cases h
 · rename_i hc
   exact Z5G (Int.mul_ne_zero (by omega) hc) h
theorem ZcC {v:Vs}{op n:Int}{x y z:V}(hx:∀ p q,x=.ok p q→ratB p q=true)(hy:∀ p q,y=.ok p q→ratB p q=true)(hz:∀ p q,z=.ok p q→ratB p q=true){p q:Int}(h:opV v op n x y z=.ok p q):ratB p q=true:=by
 unfold opV at h
 split at h
 · exact Z5G (by decide) h
 · split at h
   · exact Z5G (by decide) h
   · cases x with
     | no e=>cases h
     | ok a b =>
      simp only at h
      split at h
      · exact Zad h
      · split at h
        · split at h
          · exact hy _ _ h
          · exact hz _ _ h
        · cases y with
          | no e=>cases h
          | ok c d=>exact Zhn (hx _ _ rfl) (hy _ _ rfl) h
theorem Z57 (v:Vs):∀ (f:Fo) (k:Nat) (p q:Int),valF v f k=.ok p q→ratB p q=true:=by
 intro f
 induction f with
 | nil=>intro k p q h;simp [valF] at h
 | node b o a l r ihl ihr =>
  intro k p q h
  cases k with
  | zero=>exact ZcC (ihl 0) (ihl 1) (ihl 2) h
  | succ k=>exact ihr k p q h
theorem Zae {v:Vs}{a:Int × Int}{l:Fo}{p q:Int}(h:valE v a l=.ok p q):ratB p q=true :=
 ZcC (Z57 v l 0) (Z57 v l 1) (Z57 v l 2) h
theorem Zfy {n d e:Int}(h:ratV n d=.no e):e=3∨e=22:=by
 unfold ratV at h
 split at h
 · simp only [V.no.injEq] at h;omega
 · cases h
theorem Z4u {n d e:Int}(h:Z3d n d=.no e):e=3∨e=22:=by
 unfold Z3d at h
 split at h <;> exact Zfy h
theorem Zfz {b:Bool}{e:Int}(h:truV b=.no e):e=3∨e=22:=by cases b <;> simp [truV] at h
theorem Z6p {op a b c d e:Int}(h:appV op a b c d=.no e):e=3∨e=22:=by
 unfold appV at h
 repeat' split at h
 all_goals first
  | exact Zfy h
  | exact Zfz h
  | (cases h;done)
  | skip
 unfold divV at h
 split at h
 · simp only [V.no.injEq] at h;omega
 · exact Z4u h
theorem Zk3 {v:Vs}{op n:Int}{x y z:V}(hx:∀ e,x=.no e→e=3∨e=22)(hy:∀ e,y=.no e→e=3∨e=22)(hz:∀ e,z=.no e→e=3∨e=22){e:Int}(h:opV v op n x y z=.no e):e=3∨e=22:=by
 unfold opV at h
 split at h
 · exact Z4u h
 · split at h
   · exact Z4u h
   · cases x with
     | no e'=>simp only [V.no.injEq] at h;subst h;exact hx _ rfl
     | ok a b =>
      simp only at h
      split at h
      · exact Zfz h
      · split at h
        · split at h
          · exact hy _ h
          · exact hz _ h
        · cases y with
          | no e'=>simp only [V.no.injEq] at h;subst h;exact hy _ rfl
          | ok c d=>exact Z6p h
theorem Zbm (v:Vs):∀ (f:Fo) (k:Nat) (e:Int),valF v f k=.no e→e=3∨e=22:=by
 intro f
 induction f with
 | nil=>intro k e h;simp only [valF,V.no.injEq] at h;omega
 | node b o a l r ihl ihr =>
  intro k e h
  cases k with
  | zero=>exact Zk3 (ihl 0) (ihl 1) (ihl 2) h
  | succ k=>exact ihr k e h
theorem Z58 {v:Vs}{a:Int × Int}{l:Fo}{e:Int}(h:valE v a l=.no e):e=3∨e=22 :=
 Zk3 (Zbm v l 0) (Zbm v l 1) (Zbm v l 2) h
theorem Zaf {n d m:Int}(hd:1≤d)(h0:0≤n)(h1:n≤m*d):0≤rndE n d∧rndE n d≤m:=by
 have e:=Int.mul_ediv_add_emod n d
 have r0:=Int.emod_nonneg n (show d≠0 by omega)
 have r1:=Int.emod_lt_of_pos n (show 0<d by omega)
 have q0:0≤n / d:=Int.ediv_nonneg h0 (by omega)
 have q1:n / d≤m:=by
  have:=Int.ediv_le_ediv (show 0<d by omega) h1
  rwa [Int.mul_ediv_cancel _ (by omega)] at this
 have q2:n % d≠0→n / d<m:=by
  intro hr
  by_cases c:n / d=m
  · rw [c,Int.mul_comm] at e;omega
  · omega
 unfold rndE
 split
 · have:=q2 (by omega);omega
 · omega
theorem Zr2 {n d:Int}(hd:1≤d)(h1:n≤1000000000):rndE n d≤1000000000:=by
 have e:=Int.mul_ediv_add_emod n d
 have r0:=Int.emod_nonneg n (show d≠0 by omega)
 have r1:=Int.emod_lt_of_pos n (show 0<d by omega)
 by_cases c:n / d<1000000000
 · unfold rndE;split <;> omega
 · have h2:1000000000≤n / d:=by omega
   have h3:d*1000000000≤d*(n / d):=Int.mul_le_mul_of_nonneg_left h2 (by omega)
   have hd1:d=1:=by omega
   subst hd1;unfold rndE;split <;> omega
theorem Z2h {r:Rt}(h:Z14 r=0):Z3H r=true:=by
 unfold Z14 at h
 cases hf:Z3H r with
 | true=>rfl
 | false=>rw [hf] at h;simp at h
theorem Z92 {n:Int}{r:Rt}(h0:0≤n)(hf:Z3H r=true):0≤Zbp n r∧Zbp n r≤n:=by
 simp only [Z3H,Bool.and_eq_true,decide_eq_true_eq] at hf
 have hq:=Z1j hf.1.1.1.1.1.1.1.2
 have hk:=hf.1.1.1.1.1.1.2
 have hk2:=hf.1.1.1.1.1.2
 exact Zaf hq.1 (Int.mul_nonneg h0 hk) (Int.mul_le_mul_of_nonneg_left hk2 h0)
def Bst (a:Ask)(night:Int)(l:List Rt):Option Rt→Prop
 | none=>∀ r∈l,apR r a night≠1
 | some b=>b∈l∧apR b a night=1∧∀ r∈l,apR r a night=1→r.lv<b.lv∨r.lv=b.lv∧b.id≤r.id
theorem Zr3 (a:Ask)(night:Int):∀ (l pre:List Rt) (o o':Option Rt),Bst a night pre o→Z48 a night o l=.ok o'→Bst a night (pre++l) o':=by
 intro l
 induction l with
 | nil=>intro pre o o' h e;simp only [Z48,Except.ok.injEq] at e;subst e;simpa using h
 | cons r l ih =>
  intro pre o o' h e
  unfold Z48 at e
  split at e
  · cases e
  · have hstep:Bst a night (pre++[r]) (if apR r a night=1∧Z4x r o=true then some r else o):=by
     split
     · rename_i hb
       obtain ⟨h1,h2⟩:=hb
       refine ⟨by simp,h1,?_⟩
       intro x hx hx1
       rw [List.mem_append,List.mem_singleton] at hx
       rcases hx with hx | rfl
       · cases o with
         | none=>exact absurd hx1 (h x hx)
         | some b =>
          have:=h.2.2 x hx hx1
          simp only [Z4x,Bool.or_eq_true,Bool.and_eq_true,decide_eq_true_eq] at h2
          omega
       · omega
     · rename_i hb
       cases o with
       | none =>
        intro x hx
        rw [List.mem_append,List.mem_singleton] at hx
        rcases hx with hx | rfl
        · exact h x hx
        · intro h1;exact hb ⟨h1,rfl⟩
       | some b =>
        refine ⟨by simp [h.1],h.2.1,?_⟩
        intro x hx hx1
        rw [List.mem_append,List.mem_singleton] at hx
        rcases hx with hx | rfl
        · exact h.2.2 x hx hx1
        · have hb2:¬ Z4x x (some b)=true:=fun hc=>hb ⟨hx1,hc⟩
          simp only [Z4x,Bool.or_eq_true,Bool.and_eq_true,decide_eq_true_eq] at hb2
          omega
    have:=ih (pre++[r]) _ o' hstep e
    simpa using this
theorem Znq (l:List Rt)(seen:List Int):useL seen l=true ↔ (∀ r∈l,Z14 r=0)∧(l.map Rt.id).Nodup∧∀ r∈l,r.id ∉ seen:=by
 induction l generalizing seen with
 | nil=>simp [useL]
 | cons r l ih =>
  simp only [useL,Bool.and_eq_true,beq_iff_eq,Bool.not_eq_true',ih,List.mem_cons,forall_eq_or_imp,List.map_cons,List.nodup_cons,List.mem_map,not_or,not_exists,not_and]
  have hc:seen.contains r.id=false ↔ r.id ∉ seen:=by rw [← Bool.not_eq_true,List.contains_iff_mem]
  rw [hc]
  constructor
  · rintro ⟨⟨h1,h2⟩,h3,h4,h5⟩
    exact ⟨⟨h1,h3⟩,⟨fun x hx e=>(h5 x hx).1 e,h4⟩,h2,fun x hx=>(h5 x hx).2⟩
  · rintro ⟨⟨h1,h3⟩,⟨h6,h4⟩,h2,h5⟩
    exact ⟨⟨h1,h2⟩,h3,h4,fun x hx=>⟨fun e=>h6 x hx e,h5 x hx⟩⟩
theorem Z31 (l:List Rt):useB l=true ↔ l.length≤100∧(∀ r∈l,Z14 r=0)∧(l.map Rt.id).Nodup:=by
 simp [useB,Znq]
theorem Z8e {l:List Rt}{a:Ask}{night c:Int}{r:Rt}(h:Z0z l a night=.ok c r):0≤c∧c≤1000000000∧r∈l:=by
 unfold Z0z at h
 cases hb:Z48 a night none l with
 | error e=>rw [hb] at h;cases h
 | ok o =>
  rw [hb] at h
  cases o with
  | none=>cases h
  | some r' =>
   have b1:=Zr3 a night l [] none (some r') (fun r h=>absurd h (by simp)) hb
   simp only at h
   cases hv:valE (Z1p a night) (r'.po,r'.pn) r'.pl with
   | no e=>rw [hv] at h;cases h
   | ok n d =>
    rw [hv] at h
    simp only at h
    split at h
    · cases h
    · rename_i hc
      simp only [N.ok.injEq] at h
      obtain ⟨rfl,rfl⟩:=h
      obtain ⟨d1,_,_,n1,_⟩:=Z1j (Zae hv)
      exact ⟨by omega,Zr2 d1 n1,by simpa using b1.1⟩
theorem ZcD {l:List Rt}{a:Ask}(hf:∀ r∈l,Z14 r=0):∀ (k:Nat) (night:Int) (cs:List Int) (kp:Int),Z0d l a k night=.ok (cs,kp) →
 cs.length=k∧0≤kp∧kp≤cs.sum∧cs.sum≤k*1000000000∧∀ i (h:i<cs.length),∃ r,Z0z l a (night+i)=.ok cs[i] r:=by
 intro k
 induction k with
 | zero=>intro night cs kp h;simp only [Z0d,Except.ok.injEq,Prod.mk.injEq] at h;obtain ⟨rfl,rfl⟩:=h;simp
 | succ k ih =>
  intro night cs kp h
  unfold Z0d at h
  cases hn:Z0z l a night with
  | no e=>rw [hn] at h;cases h
  | ok c r =>
   rw [hn] at h
   cases hr:Z0d l a k (night+1) with
   | error e=>rw [hr] at h;cases h
   | ok p =>
    obtain ⟨cs',kp'⟩:=p
    rw [hr] at h
    simp only [Except.ok.injEq,Prod.mk.injEq] at h
    obtain ⟨rfl,rfl⟩:=h
    obtain ⟨i1,i2,i3,i4,i5⟩:=ih (night+1) cs' kp' hr
    obtain ⟨c0,c1,c2⟩:=Z8e hn
    obtain ⟨p0,p1⟩:=Z92 c0 (Z2h (hf r c2))
    refine ⟨by simp [i1],by omega,by simp only [List.sum_cons];omega,by simp only [List.sum_cons];omega,?_⟩
    intro i hi
    cases i with
    | zero=>exact ⟨r,by simpa using hn⟩
    | succ i =>
     obtain ⟨r',hr'⟩:=i5 i (by simpa using hi)
     refine ⟨r',?_⟩
     rw [show night+((i+1:Nat):Int)=night+1+(i:Int) by omega]
     simpa using hr'
end Qx
end
section
open Go.RowKit Lx Px
theorem Z17 {P:Program}(w:World)(g o:Nat)(ty:TypeId)(cs:Array Value)(d:TypeDesc)(hc:∀ j v,cs[j]?=some v→w.cell? ⟨g,o+j,none⟩=some v)
 (hu:P.underlying ty=some d) (hd:(match d with | .struct _ | .array _ _=>true | _=>false)=true) (hi:(P.info? ty).map (·.size)=some cs.size) :
 (loadVar ty ⟨g,o,none⟩).run P w=.ok (.agg cs) w:=by
 have hl:(loadCells ⟨g,o,none⟩ cs.toList.length).run P w=.ok cs.toList.toArray w :=
  run_loadCells_list (P:=P) w ⟨g,o,none⟩ cs.toList (fun j v hv=>by
   have hadd:(⟨g,o,none⟩:Addr).add j=⟨g,o+j,none⟩:=by unfold Addr.add;split <;> simp_all
   rw [hadd]
   exact hc j v (by simpa using hv))
 cases hq:P.info? ty with
 | none=>simp [hq] at hi
 | some i =>
  have hs:i.size=cs.size:=by simpa [hq] using hi
  have hagg:(isAgg ty).run P w=.ok true w:=by
   unfold isAgg
   rw [Sem.run_bind,run_underlying hu w]
   cases d <;> simp_all
  simp only [Array.length_toList,Array.toArray_toList] at hl
  simp [loadVar,Sem.run_bind,hagg,sizeOf,typeInfo,hq,hs,hl]
theorem Tryz.infoRateSz:(Tryz.prog.info? 65).map (·.size)=some 16:=by kernel_rfl
theorem Z3v {ops:Array Oper}{rest:List Oper}{op:Oper}{a:Act}{w:World}{Q:Exit→Act→World→Prop}(hgd:op.guard=none)(x:Operand)(ho:op.op=.load 65 x)
 (g o:Nat) (hx:a.eval x=.pointer (some ⟨g,o,none⟩)) (cs:Array Value) (hs:cs.size=16) (hc:∀ j v,cs[j]?=some v→w.cell? ⟨g,o+j,none⟩=some v)
 (h:wpList Tryz.prog ops Q rest (a.put op.dst (.agg cs)) w):wpList Tryz.prog ops Q (op::rest) a w:=by
 refine wpList_plain hgd fun _ hK=>?_
 have hr:=Z17 w g o 65 cs _ hc Tryz.underlying65 rfl (by rw [Tryz.infoRateSz,hs])
 unfold Oper.wp execOp
 simp only [ho,hx,Instr.loadAt,Instr.sureAddr,Sem.run_bind,Sem.run_pure,Result.andThen_ok,hr]
 exact hK _ _ h
theorem Z9w {ops:Array Oper}{rest:List Oper}{op:Oper}{a:Act}{w:World}{Q:Exit→Act→World→Prop}(hgd:op.guard=none)(x:Operand)(ho:op.op=.load 65 x)
 (g:Nat) (hx:a.eval x=.pointer (some ⟨g,0,none⟩)) (cs:Array Value) (hs:cs.size=16) (hg:w.heap[g]?=some (.cells cs 65 (0,0)))
 (h:wpList Tryz.prog ops Q rest (a.put op.dst (.agg cs)) w):wpList Tryz.prog ops Q (op::rest) a w :=
 wpList_load_row hgd 65 x ho g hx _ cs _ _ hg Tryz.underlying65 rfl (by rw [Tryz.infoRateSz,hs]) h
theorem Z1x (w:World)(zs cs:Array Value)(t:TypeId):(w.alloc (.cells zs t (0,0))).setRow w.heap.size cs=w.alloc (.cells cs t (0,0)):=by
 unfold World.setRow World.alloc
 simp only
 congr 1
 apply Array.ext_getElem?
 intro k
 rw [Array.getElem?_modify]
 by_cases hk:w.heap.size=k
 · subst hk;simp
 · rw [if_neg hk,Array.getElem?_push,Array.getElem?_push,if_neg (fun e=>hk e.symm),if_neg (fun e=>hk e.symm)]
theorem Z3c {ops:Array Oper}{rest:List Oper}{op:Oper}{a:Act}{w:World}{Q:Exit→Act→World→Prop}(hgd:op.guard=none)(x y:Operand)(ho:op.op=.store 65 x y)
 (zs cs:Array Value) (hx:a.eval x=.pointer (some ⟨w.heap.size,0,none⟩)) (hy:a.eval y=.agg cs) (hz:zs.size=16) (hs:cs.size=16) (h1:cs.all (·.oneCell')=true)
 (h:wpList Tryz.prog ops Q rest (a.put op.dst undef) (w.alloc (.cells cs 65))):wpList Tryz.prog ops Q (op::rest) a (w.alloc (.cells zs 65)):=by
 refine wpList_store_row hgd 65 x y ho w.heap.size cs hx hy _ zs (za w _) (by rw [Tryz.infoRateSz,hs]) (by omega) h1 ?_
 rw [Z1x]
 exact h
end
end Go.Proofs.YtnepkoepbapgeaaGreatDoor
