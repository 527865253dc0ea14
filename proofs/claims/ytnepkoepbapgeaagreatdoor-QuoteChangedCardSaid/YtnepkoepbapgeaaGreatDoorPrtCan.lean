/-
  Several texts in one: QuoLaw2, QuoR12a, PrtCan.
-/
import Derived.Test.YtnepkoepbapgeaaGreatDoorQuoLd
import Derived.Test.YtnepkoepbapgeaaGreatDoorQuoR10a
import Derived.Test.YtnepkoepbapgeaaGreatDoorLexPlain8
import Derived.Deep.RegionWith
namespace Go.Proofs.YtnepkoepbapgeaaGreatDoor
set_option maxRecDepth 100000
section
open Lx Px
namespace Qx
theorem Qt.same_iff (a b:Qt):a.same b=true ↔ a.ver=b.ver∧a.time=b.time∧a.total=b.total∧a.keep=b.keep∧a.ask=b.ask∧a.nights=b.nights∧a.dig=b.dig:=by
 obtain ⟨a1,a2,a3,a4,a5,a6,a7,a8,a9⟩:=a
 obtain ⟨b1,b2,b3,b4,b5,b6,b7,b8,b9⟩:=b
 simp [Qt.same]
theorem Qt.same_says (a b:Qt):(decide (a.ask=b.ask)&&decide (a.dig=b.dig)&&decide (a.says=b.says))=a.same b:=by
 rw [Bool.eq_iff_iff,Qt.same_iff]
 simp only [Bool.and_eq_true,decide_eq_true_eq]
 constructor
 · rintro ⟨⟨h1,h2⟩,h3⟩
   unfold Qt.says at h3
   simp only [List.cons_append,List.nil_append,List.cons.injEq] at h3
   obtain ⟨e1,e2,e3,e4,_,_,_,_,e5,e6⟩:=h3
   have e7:a.nights=b.nights:=by
    have hl:a.nights.length=b.nights.length:=by omega
    exact (List.append_inj e6 hl).1
   exact ⟨e1,e2,e3,e4,h1,e7,h2⟩
 · rintro ⟨e1,e2,e3,e4,e5,e6,e7⟩
   refine ⟨⟨e5,e7⟩,?_⟩
   unfold Qt.says
   rw [e1,e2,e3,e4,e5,e6,e7]
theorem Z3f {v:Vr}{a:Ask}{t:Int}{q:Qt}(h:Z2G v a t=.ok q):q.ver=v.num∧q.time=t∧q.ask=a∧q.dig=v.dig∧Z0g v.rs a=.ok (q.nights,q.keep)∧q.total=q.nights.sum:=by
 unfold Z2G at h
 cases hp:Z0g v.rs a with
 | error e=>rw [hp] at h;cases h
 | ok p =>
  obtain ⟨ns,kp⟩:=p
  rw [hp] at h
  simp only [Except.ok.injEq] at h
  subst h;generalize v.dig=d
  exact ⟨rfl,rfl,rfl,rfl,rfl,rfl⟩
theorem Z6H {l:List Rt}{a:Ask}{ns:List Int}{kp:Int}(h:Z0g l a=.ok (ns,kp)):useB l=true∧a.okB=true∧Z0a l a (a.un - a.fr).toNat a.fr=.ok (ns,kp)∧ns.sum≤1000000000:=by
 unfold Z0g at h
 split at h
 · rename_i hc
   rw [Bool.and_eq_true] at hc
   cases hn:Z0a l a (a.un - a.fr).toNat a.fr with
   | error e=>rw [hn] at h;cases h
   | ok p =>
    obtain ⟨cs,k⟩:=p
    rw [hn] at h
    simp only at h
    split at h
    · cases h
    · simp only [Except.ok.injEq,Prod.mk.injEq] at h
      rename_i hs
      obtain ⟨e1,e2⟩:=h
      rw [e1] at hs
      rw [e1,e2]
      exact ⟨hc.1,hc.2,rfl,Int.not_lt.1 hs⟩
 · cases h
theorem Z1F {l:List Rt}{a:Ask}{ns:List Int}{kp:Int}(h:Z0g l a=.ok (ns,kp)) :
 (ns.length:Int)=a.un - a.fr∧0≤kp∧kp≤ns.sum∧ns.sum≤1000000000∧(∀ i (h:i<ns.length),∃ r,Z0v l a (a.fr+i)=.ok ns[i] r):=by
 obtain ⟨hu,ha,hn,hs⟩:=Z6H h
 obtain ⟨h1,h2,h3,h4,h5⟩:=Zb7 ((Z36 l).1 hu).2.1 _ _ _ _ hn
 have:a.fr<a.un:=by simp [Ask.okB] at ha;omega
 exact ⟨by omega,h2,h3,hs,h5⟩
theorem Z8p:∀ (l:List Int),(∀ x∈l,0≤x)→0≤l.sum∧∀ x∈l,x≤l.sum:=by
 intro l
 induction l with
 | nil=>intro _;simp
 | cons a l ih =>
  intro h
  obtain ⟨h1,h2⟩:=ih (fun x hx=>h x (by simp [hx]))
  have h0:=h a (by simp)
  simp only [List.sum_cons,List.mem_cons,forall_eq_or_imp]
  exact ⟨by omega,by omega,fun x hx=>by have:=h2 x hx;omega⟩
theorem Z7n {l:List Rt}{a:Ask}{ns:List Int}{kp:Int}(h:Z0g l a=.ok (ns,kp)):∀ x∈ns,0≤x∧x≤1000000000:=by
 intro x hx
 obtain ⟨_,_,_,_,h5⟩:=Z1F h
 obtain ⟨i,hi,rfl⟩:=List.getElem_of_mem hx
 obtain ⟨r,hr⟩:=h5 i hi
 exact ⟨(Z74 hr).1,(Z74 hr).2.1⟩
theorem Z7p {v:Vr}{a:Ask}{t s o:Int}{q:Qt}(h:Z5a v a t s o=(q,0)):v.okB=true∧a.okB=true∧Z2g t=true∧secB s=true∧secB o=true∧v.time≤t ∧
 ∃ w,Z2G v a t=.ok w∧q={ w with sE:=sigE s.toNat o.toNat w.says,sS:=sigS s.toNat o.toNat w.says }:=by
 unfold Z5a at h
 split at h
 · rename_i hc
   simp only [Bool.and_eq_true] at hc
   split at h
   · simp at h
   · rename_i ht
     cases hp:Z2G v a t with
     | error e =>
      rw [hp] at h
      simp only [Prod.mk.injEq] at h
      have:Z0g v.rs a=.error 0:=by
       unfold Z2G at hp
       cases hq:Z0g v.rs a with
       | ok p=>rw [hq] at hp;cases hp
       | error e'=>rw [hq] at hp;simp only [Except.error.injEq] at hp;rw [hp,h.2]
      exact absurd this (by
       intro hz
       exact price_err_ne hz)
     | ok w =>
      rw [hp] at h
      simp only [Prod.mk.injEq] at h
      exact ⟨hc.1.1.1.1,hc.1.1.1.2,hc.1.1.2,hc.1.2,hc.2,by omega,w,rfl,h.1.symm⟩
 · simp at h
where
 price_err_ne {l:List Rt} {a:Ask} (h:Z0g l a=.error 0):False:=by
  unfold Z0g at h
  split at h
  · cases hn:Z0a l a (a.un - a.fr).toNat a.fr with
    | error e =>
     rw [hn] at h
     simp only [Except.error.injEq] at h
     subst h;exact nights_err_ne _ _ hn
    | ok p =>
     rw [hn] at h
     simp only at h
     split at h
     · simp at h
     · cases h
  · simp at h
 nights_err_ne {l:List Rt} {a:Ask} (k:Nat) (night:Int) (h:Z0a l a k night=.error 0):False:=by
  induction k generalizing night with
  | zero=>simp [Z0a] at h
  | succ k ih =>
   unfold Z0a at h
   cases hn:Z0v l a night with
   | no e =>
    rw [hn] at h
    simp only [Except.error.injEq] at h
    subst h;exact night_err_ne hn
   | ok c r =>
    rw [hn] at h
    cases hr:Z0a l a k (night+1) with
    | error e=>rw [hr] at h;simp only [Except.error.injEq] at h;subst h;exact ih _ hr
    | ok p=>rw [hr] at h;cases h
 night_err_ne {l:List Rt} {a:Ask} {night:Int} (h:Z0v l a night=.no 0):False:=by
  unfold Z0v at h
  cases hb:Z3u a night none l with
  | error e =>
   rw [hb] at h
   simp only [N.no.injEq] at h
   subst h;exact best_err_ne l none hb
  | ok o =>
   rw [hb] at h
   cases o with
   | none=>simp at h
   | some r =>
    simp only at h
    cases hv:valE (Z1d a night) (r.po,r.pn) r.pl with
    | no e =>
     rw [hv] at h
     simp only [N.no.injEq] at h
     have:=Z4p hv
     omega
    | ok n d =>
     rw [hv] at h
     simp only at h
     split at h <;> simp at h
 best_err_ne {a:Ask} {night:Int} (l:List Rt) (o:Option Rt) (h:Z3u a night o l=.error 0):False:=by
  induction l generalizing o with
  | nil=>simp [Z3u] at h
  | cons r l ih =>
   unfold Z3u at h
   split at h
   · simp only [Except.error.injEq] at h;omega
   · exact ih _ h
end Qx
end
section
open Go.RowKit Lx Px Qx
theorem ZgA (n:Int)(w:World):Calls Tryz.prog 45 #[.int .i64 n] w fun e w'=>e=.returned (.bool (Z2g n))∧w=w':=by
 unfold Z2g
 obtain ⟨b1,h1⟩:∃ b,decide (0≤n)=b:=⟨_,rfl⟩
 obtain ⟨b2,h2⟩:∃ b,decide (n≤1000000000)=b:=⟨_,rfl⟩
 have h1':decide (n≥0)=b1:=h1
 rw [h1,h2]
 cases b1 <;> cases b2
 all_goals
  go_enter Tryz.func45,Tryz.ntmps45
  go_wp2_with fail;go_ret
  exact ⟨rfl,rfl⟩
theorem Z65 (n:Int)(w:World):Calls Tryz.prog 49 #[.int .i64 n] w fun e w'=>e=.returned (.bool (Z2g n))∧w=w':=by
 unfold Z2g
 obtain ⟨b1,h1⟩:∃ b,decide (0≤n)=b:=⟨_,rfl⟩
 obtain ⟨b2,h2⟩:∃ b,decide (n≤1000000000)=b:=⟨_,rfl⟩
 rw [h1,h2]
 cases b1 <;> cases b2
 all_goals
  go_enter Tryz.func49,Tryz.ntmps49
  go_wp2_with fail;go_ret
  exact ⟨rfl,rfl⟩
theorem Zc5 (n:Int)(w:World):Calls Tryz.prog 24 #[.int .i64 n] w fun e w'=>e=.returned (.bool (secB n))∧w=w':=by
 unfold secB
 obtain ⟨b1,h1⟩:∃ b,decide (1≤n)=b:=⟨_,rfl⟩
 obtain ⟨b2,h2⟩:∃ b,decide (n<1073741789)=b:=⟨_,rfl⟩
 have h1':decide (n≥1)=b1:=h1
 rw [h1,h2]
 cases b1 <;> cases b2
 all_goals
  go_enter Tryz.func24,Tryz.ntmps24
  go_wp2_with fail;go_ret
  exact ⟨rfl,rfl⟩
theorem take_ne {α:Type}{l m:List α}{k:Nat}(hk:k<l.length)(hm:k<m.length)(h:l[k]≠m[k]):l≠m:=by
 rintro rfl;exact h rfl
theorem Zav {α:Type}{l m:List α}{k:Nat}(hk:k<l.length)(hm:k<m.length)(h:l.take k=m.take k)(he:l[k]=m[k]):l.take (k+1)=m.take (k+1):=by
 rw [List.take_succ_eq_append_getElem hk,List.take_succ_eq_append_getElem hm,h,he]
theorem Zaw (v u:Value)(l m:List Int)(B:Nat)(w:World)(hv:Z02 w B v l)(hu:Z02 w B u m)(hB:B≤w.heap.size)(hbd:l.length≤1000000) :
 Calls Tryz.prog 71 #[v,u] w fun e w'=>e=.returned (.bool (decide (l=m)))∧Below w.heap.size w w':=by
 obtain ⟨A,c,rfl,hA⟩:=hv
 obtain ⟨A',c',rfl,hA'⟩:=hu
 by_cases hl:l.length=m.length
 · have d0:((l.length:Int) != (m.length:Int))=false:=by simp;omega
   have HA:=zh hA;have HB:=zh hA';have HL:=zh hl;clear hA hA' hl;go_enter Tryz.func71,Tryz.ntmps71
   go_wp2_with fail;go_loopw [5] (fun i wr=>Below w.heap.size w wr∧∃ k:Nat,k≤l.length∧i=.int .i64 k∧l.take k=m.take k) (fun i _=>l.length - (intOf i).toNat)
   case atStart=>exact ⟨Below.refl _ _,0,Nat.zero_le _,rfl,by simp⟩
   case round =>
    obtain ⟨hb,k,hk,rfl,ht⟩:=hrel
    by_cases hlt:k<l.length
    · have hlm:k<m.length:=by have:=HL.out;omega
      obtain ⟨b,o,rfl,hg,hc⟩:=HA.out (by intro e;rw [e] at hlt;simp at hlt)
      obtain ⟨b',o',rfl,hg',hc'⟩:=HB.out (by intro e;rw [e] at hlm;simp at hlm)
      have c1:=(hb.cell (p:=⟨b,o+k,none⟩) (by show b<w.heap.size;omega)).trans (hc k hlt)
      have c2:=(hb.cell (p:=⟨b',o'+k,none⟩) (by show b'<w.heap.size;omega)).trans (hc' k hlm)
      have dk:decide ((k:Int)<(l.length:Int))=true:=by simpa using hlt
      have dk2:(k:Int)<(m.length:Int):=by omega
      have hne:=take_ne hlt hlm
      have heq:=Zav hlt hlm ht
      generalize l[k]=x at *
      generalize m[k]=y at *
      clear hc hc';by_cases he:x=y
      · have d1:(x != y)=false:=by simpa using he
        have ht2:=heq he;have HT2:=zh ht2;have HBW:=zh hb;clear ht2 hb hne heq he ht;go_wp2_with fail;go_region
        go_wp2_with fail;go_roundw
        case rel=>exact ⟨HBW.out.drew,k+1,by omega,by go_num,HT2.out⟩
        case measure=>simp [intOf];omega
      · have d1:(x != y)=true:=by simpa using he
        have hr:decide (l=m)=false:=by simpa using hne he
        have HR:=zh hr;have HBW:=zh hb;clear hr hb hne heq he ht;go_wp2_with fail;go_region
        go_wp2_with fail;go_ret
        rw [HR.out]
        exact ⟨rfl,HBW.out.drew⟩
    · have hke:k=l.length:=by omega
      subst hke;have dk:decide ((l.length:Int)<(l.length:Int))=false:=by simp
      have hr:decide (l=m)=true:=by
       rw [List.take_length,HL.out,List.take_length] at ht
       simpa using ht
      have HR:=zh hr;have HBW:=zh hb;clear hr hb ht;go_wp2_with fail;go_ret
      rw [HR.out]
      exact ⟨rfl,HBW.out⟩
 · have d0:((l.length:Int) != (m.length:Int))=true:=by simp;omega
   have hr:decide (l=m)=false:=by simp;rintro rfl;exact hl rfl
   rw [hr]
   have HR:=zh hr;clear hr hl;go_enter Tryz.func71,Tryz.ntmps71
   go_wp2_with fail;go_ret
   exact ⟨rfl,Below.refl _ _⟩
end
section
open Go.RowKit Lx Px
set_option maxHeartbeats 4000000 in
theorem ZmA (r:Rt)(wv pv:Value)(w:World)(B:Nat)(hwv:FoV w B wv r.wl)(hpv:FoV w B pv r.pl)(hBw:B≤w.heap.size) :
 Calls Tryz.prog 88 #[rtV r wv pv] w fun e w'=>e=.returned (.bool r.can)∧Below w.heap.size w w':=by
 have hwv':=hwv
 have hpv':=hpv
 obtain ⟨WA,wc,rfl,hq1⟩:=hwv'
 obtain ⟨PA,pc,rfl,hq2⟩:=hpv'
 have HWV:=zh hwv;have HPV:=zh hpv;clear hwv hpv hq1 hq2;obtain ⟨id,lv,kd,fr,un,ls,mo,ar,kn,kq,wo,wn,wl,po,pn,pl⟩:=r
 suffices hall:∀ c:Bool,c=Rt.can ⟨id,lv,kd,fr,un,ls,mo,ar,kn,kq,wo,wn,wl,po,pn,pl⟩→Calls Tryz.prog 88 #[.agg #[.int .i64 id,.int .i64 lv,.int .i64 kd,.int .i64 fr,.int .i64 un,.int .i64 ls,.int .i64 mo,.int .i64 ar,.int .i64 kn,.int .i64 kq,.int .i64 wo,.int .i64 wn,.slice WA (flen wl) wc,.int .i64 po,.int .i64 pn,.slice PA (flen pl) pc]] w (fun e w'=>e=.returned (.bool c)∧Below w.heap.size w w') from hall _ rfl
 intro c hc
 have hwv:FoV w B (.slice WA (flen wl) wc) wl:=HWV.out
 have hpv:FoV w B (.slice PA (flen pl) pc) pl:=HPV.out
 clear HWV HPV;have HWV:=zh hwv;have HPV:=zh hpv;have hres:c=(([id,lv,kd,fr,un,ls,mo,ar].all numB&&(ratB kn kq&&(100 % kq==0))&&numB (100 / kq*kn)&&(Z0d wo wn wl&&Z0d po pn pl))):=by rw [hc];rfl
 simp only [List.all_cons,List.all_nil,Bool.and_true] at hres
 have HRES:=zh hres;clear hres hc hwv hpv;have hb0:=(Below.refl w.heap.size w).alloc (zn _) (.cells #[.int .i64 id,.int .i64 lv,.int .i64 kd,.int .i64 fr,.int .i64 un,.int .i64 ls,.int .i64 mo,.int .i64 ar,.int .i64 kn,.int .i64 kq,.int .i64 wo,.int .i64 wn,.slice WA (flen wl) wc,.int .i64 po,.int .i64 pn,.slice PA (flen pl) pc] 65)
 have hx0:=za w (.cells #[.int .i64 id,.int .i64 lv,.int .i64 kd,.int .i64 fr,.int .i64 un,.int .i64 ls,.int .i64 mo,.int .i64 ar,.int .i64 kn,.int .i64 kq,.int .i64 wo,.int .i64 wn,.slice WA (flen wl) wc,.int .i64 po,.int .i64 pn,.slice PA (flen pl) pc] 65)
 have H0:Hid (Z31 w #[.int .i64 id,.int .i64 lv,.int .i64 kd,.int .i64 fr,.int .i64 un,.int .i64 ls,.int .i64 mo,.int .i64 ar,.int .i64 kn,.int .i64 kq,.int .i64 wo,.int .i64 wn,.slice WA (flen wl) wc,.int .i64 po,.int .i64 pn,.slice PA (flen pl) pc] (w.alloc (.cells #[.int .i64 id,.int .i64 lv,.int .i64 kd,.int .i64 fr,.int .i64 un,.int .i64 ls,.int .i64 mo,.int .i64 ar,.int .i64 kn,.int .i64 kq,.int .i64 wo,.int .i64 wn,.slice WA (flen wl) wc,.int .i64 po,.int .i64 pn,.slice PA (flen pl) pc] 65))):=⟨hx0,hb0⟩
 clear hb0 hx0;go_enter Tryz.func88,Tryz.ntmps88
 go_wp2_with fail;refine (Z1a id _).mono ?_
 rintro e w' ⟨rfl,rfl⟩;cases h0:numB id with
 | false =>
  have hr:=HRES.out
  simp only [h0,Bool.false_and] at hr
  have HR2:=zh hr;clear hr h0;go_wp2_with fail;go_ret
  rw [HR2.out]
  exact ⟨rfl,H0.out.2⟩
 | true =>
  go_wp2_with fail;refine (Z1a lv _).mono ?_
  rintro e w' ⟨rfl,rfl⟩;cases h1:numB lv with
  | false =>
   have hr:=HRES.out
   simp only [h0,h1,Bool.false_and,Bool.true_and] at hr
   have HR2:=zh hr;clear hr h0 h1;go_wp2_with fail;go_ret
   rw [HR2.out]
   exact ⟨rfl,H0.out.2⟩
  | true =>
   go_wp2_with fail;refine (Z1a kd _).mono ?_
   rintro e w' ⟨rfl,rfl⟩;cases h2:numB kd with
   | false =>
    have hr:=HRES.out
    simp only [h0,h1,h2,Bool.false_and,Bool.true_and] at hr
    have HR2:=zh hr;clear hr h0 h1 h2;go_wp2_with fail;go_ret
    rw [HR2.out]
    exact ⟨rfl,H0.out.2⟩
   | true =>
    go_wp2_with fail;refine (Z1a fr _).mono ?_
    rintro e w' ⟨rfl,rfl⟩;cases h3:numB fr with
    | false =>
     have hr:=HRES.out
     simp only [h0,h1,h2,h3,Bool.false_and,Bool.true_and] at hr
     have HR2:=zh hr;clear hr h0 h1 h2 h3;go_wp2_with fail;go_ret
     rw [HR2.out]
     exact ⟨rfl,H0.out.2⟩
    | true =>
     go_wp2_with fail;refine (Z1a un _).mono ?_
     rintro e w' ⟨rfl,rfl⟩;cases h4:numB un with
     | false =>
      have hr:=HRES.out
      simp only [h0,h1,h2,h3,h4,Bool.false_and,Bool.true_and] at hr
      have HR2:=zh hr;clear hr h0 h1 h2 h3 h4;go_wp2_with fail;go_ret
      rw [HR2.out]
      exact ⟨rfl,H0.out.2⟩
     | true =>
      go_wp2_with fail;refine (Z1a ls _).mono ?_
      rintro e w' ⟨rfl,rfl⟩;cases h5:numB ls with
      | false =>
       have hr:=HRES.out
       simp only [h0,h1,h2,h3,h4,h5,Bool.false_and,Bool.true_and] at hr
       have HR2:=zh hr;clear hr h0 h1 h2 h3 h4 h5;go_wp2_with fail;go_ret
       rw [HR2.out]
       exact ⟨rfl,H0.out.2⟩
      | true =>
       go_wp2_with fail;refine (Z1a mo _).mono ?_
       rintro e w' ⟨rfl,rfl⟩;cases h6:numB mo with
       | false =>
        have hr:=HRES.out
        simp only [h0,h1,h2,h3,h4,h5,h6,Bool.false_and,Bool.true_and] at hr
        have HR2:=zh hr;clear hr h0 h1 h2 h3 h4 h5 h6;go_wp2_with fail;go_ret
        rw [HR2.out]
        exact ⟨rfl,H0.out.2⟩
       | true =>
        go_wp2_with fail;refine (Z1a ar _).mono ?_
        rintro e w' ⟨rfl,rfl⟩;cases h7:numB ar with
        | false =>
         have hr:=HRES.out
         simp only [h0,h1,h2,h3,h4,h5,h6,h7,Bool.false_and,Bool.true_and] at hr
         have HR2:=zh hr;clear hr h0 h1 h2 h3 h4 h5 h6 h7;go_wp2_with fail;go_ret
         rw [HR2.out]
         exact ⟨rfl,H0.out.2⟩
        | true =>
         go_wp2_with fail;have hr:=HRES.out
         simp only [h0,h1,h2,h3,h4,h5,h6,h7,Bool.true_and] at hr
         have HR2:=zh hr;clear hr HRES h0 h1 h2 h3 h4 h5 h6 h7;generalize w.alloc (.cells #[.int .i64 id,.int .i64 lv,.int .i64 kd,.int .i64 fr,.int .i64 un,.int .i64 ls,.int .i64 mo,.int .i64 ar,.int .i64 kn,.int .i64 kq,.int .i64 wo,.int .i64 wn,.slice WA (flen wl) wc,.int .i64 po,.int .i64 pn,.slice PA (flen pl) pc] 65)=W1 at *
         have c8:W1.cell? ⟨w.heap.size,8,none⟩=some (.int .i64 kn):=H0.out.cell 8 _ rfl
         have c9:W1.cell? ⟨w.heap.size,9,none⟩=some (.int .i64 kq):=H0.out.cell 9 _ rfl
         have hrt:=fun W=>Z5j kn kq W
         cases hrat:ratB kn kq with
         | false =>
          rw [hrat] at hrt
          have hr:=HR2.out
          rw [hrat] at hr
          simp only [Bool.false_and] at hr
          have HR3:=zh hr;have HRT:=zh hrt;clear hr hrt hrat HR2;go_cut [73] from 3 (fun s73 wx=>s73=.bool true∧Z31 w #[.int .i64 id,.int .i64 lv,.int .i64 kd,.int .i64 fr,.int .i64 un,.int .i64 ls,.int .i64 mo,.int .i64 ar,.int .i64 kn,.int .i64 kq,.int .i64 wo,.int .i64 wn,.slice WA (flen wl) wc,.int .i64 po,.int .i64 pn,.slice PA (flen pl) pc] wx)
          case first =>
           first | go_region_with ((go_at_call 126;refine (HRT.out _).mono ?_;rintro e w2 ⟨rfl,hb2⟩;have H2:=zh (H0.out.on (((Below.refl _ _).drew).trans hb2));clear hb2)) | fail
           all_goals go_wp2_with fail
           all_goals go_meet
           all_goals exact ⟨rfl,H2.out⟩
          case rest =>
           obtain ⟨rfl,h2⟩:=hcut
           have H2:=zh h2;clear h2;go_wp2_with fail;go_ret
           rw [HR3.out]
           exact ⟨rfl,H2.out.2⟩
         | true =>
          rw [hrat] at hrt
          have hq:=Z8f hrat;have hr:=HR2.out
          rw [hrat] at hr
          simp only [Bool.true_and] at hr
          have HR3:=zh hr;have HRT:=zh hrt;clear hr hrt hrat HR2;obtain ⟨h1,h2,h3,h4⟩:=hq
          have hqz:¬ kq=0:=by omega
          by_cases hmod:100 % kq=0
          · have hmb:(100 % kq != 0)=false:=by simpa using hmod
            have hmt:((100:Int).tmod kq != 0)=false:=by rw [Int.tmod_eq_emod_of_nonneg (by omega)];exact hmb
            have hq0:0≤100 / kq∧100 / kq≤100:=⟨Int.ediv_nonneg (by omega) (by omega),Int.ediv_le_self _ (by omega)⟩
            obtain ⟨q,hq⟩:∃ q,q=100 / kq:=⟨_,rfl⟩
            obtain ⟨pc2,hp⟩:∃ p,p=q*kn:=⟨_,rfl⟩
            have hpb : -100000000000≤pc2∧pc2≤100000000000:=by
             rw [hp,hq]
             have a1:=Z4E (x:=100 / kq) (y:=kn) (a:=100) (b:=1000000000) hq0.1 hq0.2 h3 h4 (by omega)
             omega
            rw [← hq] at hq0
            have e1:(100:Int).tdiv kq=q:=by rw [Int.tdiv_eq_ediv_of_nonneg (by omega),hq]
            have e2:(100:Int) / kq=q:=hq.symm
            have e3:IntKind.i64.wrap q=q:=IntWalk.i64_in _ (by omega)
            have e4:IntKind.i64.wrap (kn*q)=pc2:=by rw [Int.mul_comm,← hp];exact IntWalk.i64_in _ (by omega)
            have hr:=HR3.out
            rw [hmod,← hq,← hp] at hr
            simp only [beq_self_eq_true,Bool.true_and] at hr
            have HR4:=zh hr;have hnum:=fun W=>Z1a pc2 W
            have HNUM:=zh hnum;clear hr hmod hq hp HR3 hnum;obtain ⟨hq1,hq2⟩:=hq0
            obtain ⟨hp1,hp2⟩:=hpb
            have hz1:w.heap.size<W1.heap.size:=(zs H0.out.1)
            cases hnp:numB pc2 with
            | false =>
             have hr:=HR4.out
             rw [hnp] at hr
             simp only [Bool.false_and] at hr
             have HR5:=zh hr;have HNP:=zh hnp;clear hr hnp HR4;go_region_held3 (fun w'=>w'.cell? ⟨w.heap.size,8,none⟩=some (.int .i64 kn)∧w'.cell? ⟨w.heap.size,9,none⟩=some (.int .i64 kq)) (first | with_reducible exact ⟨c8,c9⟩ | with_reducible exact ⟨y8,y9⟩ | go_keep)
              (first
               | (go_at_call 126;refine (HRT.out _).mono ?_;rintro e w2 ⟨rfl,hb2⟩;have h2':=H0.out.on (((Below.refl _ _).drew).trans hb2);have y8:=h2'.cell 8 (.int .i64 kn) rfl;have y9:=h2'.cell 9 (.int .i64 kq) rfl;have H2:=zh h2';clear hb2 h2')
               | (go_at_call 125;refine (HNUM.out _).mono ?_;rintro e w3 ⟨rfl,rfl⟩;rw [HNP.out]))
             all_goals go_wp2_with fail
             all_goals go_ret
             all_goals rw [HR5.out]
             all_goals exact ⟨rfl,H2.out.2⟩
            | true =>
             have hr:=HR4.out
             rw [hnp] at hr
             simp only [Bool.true_and] at hr
             have HR5:=zh hr;have HNP:=zh hnp;clear hr hnp HR4;go_region_held3 (fun w'=>w'.cell? ⟨w.heap.size,8,none⟩=some (.int .i64 kn)∧w'.cell? ⟨w.heap.size,9,none⟩=some (.int .i64 kq)) (first | with_reducible exact ⟨c8,c9⟩ | with_reducible exact ⟨y8,y9⟩ | go_keep)
              (first
               | (go_at_call 126;refine (HRT.out _).mono ?_;rintro e w2 ⟨rfl,hb2⟩;have h2':=H0.out.on (((Below.refl _ _).drew).trans hb2);have y8:=h2'.cell 8 (.int .i64 kn) rfl;have y9:=h2'.cell 9 (.int .i64 kq) rfl;have H2:=zh h2';clear hb2 h2')
               | (go_at_call 125;refine (HNUM.out _).mono ?_;rintro e w3 ⟨rfl,rfl⟩;rw [HNP.out]))
             clear y8 y9 c8 c9;have hs2:=H2.out.2.size
             have c10:w2.cell? ⟨w.heap.size,10,none⟩=some (.int .i64 wo):=H2.out.cell 10 _ rfl
             have c11:w2.cell? ⟨w.heap.size,11,none⟩=some (.int .i64 wn):=H2.out.cell 11 _ rfl
             have c12:w2.cell? ⟨w.heap.size,12,none⟩=some (.slice WA (flen wl) wc):=H2.out.cell 12 _ rfl
             go_wp2_with fail;refine (Z4k wo wn wl (.slice WA (flen wl) wc) _ ((HWV.out.on (H2.out.2.mono hBw)).up (by omega))).mono ?_
             rintro e w4 ⟨rfl,hb4⟩;have H4:=zh (H2.out.on hb4)
             clear hb4 c10 c11 c12;cases hvw:Z0d wo wn wl with
             | false =>
              have hr:=HR5.out
              rw [hvw] at hr
              simp only [Bool.false_and] at hr
              have HR6:=zh hr;clear hr hvw;go_wp2_with fail;go_ret
              rw [HR6.out]
              exact ⟨rfl,H4.out.2⟩
             | true =>
              have hr:=HR5.out
              rw [hvw] at hr
              simp only [Bool.true_and] at hr
              have HR6:=zh hr;have hs4:=H4.out.2.size
              have c13:w4.cell? ⟨w.heap.size,13,none⟩=some (.int .i64 po):=H4.out.cell 13 _ rfl
              have c14:w4.cell? ⟨w.heap.size,14,none⟩=some (.int .i64 pn):=H4.out.cell 14 _ rfl
              have c15:w4.cell? ⟨w.heap.size,15,none⟩=some (.slice PA (flen pl) pc):=H4.out.cell 15 _ rfl
              clear hr hvw;go_wp2_with fail;refine (Z4k po pn pl (.slice PA (flen pl) pc) _ ((HPV.out.on (H4.out.2.mono hBw)).up (by omega))).mono ?_
              rintro e w5 ⟨rfl,hb5⟩;have H5:=zh (H4.out.on hb5)
              clear hb5 c13 c14 c15;go_wp2_with fail;go_ret
              rw [HR6.out]
              exact ⟨rfl,H5.out.2⟩
          · have hmb:(100 % kq != 0)=true:=by simpa using hmod
            have hmt:((100:Int).tmod kq != 0)=true:=by rw [Int.tmod_eq_emod_of_nonneg (by omega)];exact hmb
            have hmc:((100:Int) % kq==0)=false:=by simpa using hmod
            have hr:=HR3.out
            rw [hmc] at hr
            simp only [Bool.false_and] at hr
            have HR4:=zh hr;clear hr hmc hmod;go_cut [73] from 3 (fun s73 wx=>s73=.bool true∧Z31 w #[.int .i64 id,.int .i64 lv,.int .i64 kd,.int .i64 fr,.int .i64 un,.int .i64 ls,.int .i64 mo,.int .i64 ar,.int .i64 kn,.int .i64 kq,.int .i64 wo,.int .i64 wn,.slice WA (flen wl) wc,.int .i64 po,.int .i64 pn,.slice PA (flen pl) pc] wx)
            case first =>
             first | go_region_with ((go_at_call 126;refine (HRT.out _).mono ?_;rintro e w2 ⟨rfl,hb2⟩;have h2':=H0.out.on (((Below.refl _ _).drew).trans hb2);have y8:=h2'.cell 8 (.int .i64 kn) rfl;have y9:=h2'.cell 9 (.int .i64 kq) rfl;have H2:=zh h2';clear hb2 h2')) | fail
             all_goals go_wp2_with fail
             all_goals go_meet
             all_goals exact ⟨rfl,H2.out⟩
            case rest =>
             obtain ⟨rfl,h2⟩:=hcut
             have H2:=zh h2;clear h2;go_wp2_with fail;go_ret
             rw [HR4.out]
             exact ⟨rfl,H2.out.2⟩
end
end Go.Proofs.YtnepkoepbapgeaaGreatDoor
