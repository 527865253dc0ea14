/-
  Several texts in one: QuoLaw3, QuoLaw4, QuoPrice2, QuoPla.
-/
import Derived.Test.YtnepkoepbapgeaaGreatDoorPrtCan
import Derived.Test.YtnepkoepbapgeaaGreatDoorQuoPrice
import Derived.Test.YtnepkoepbapgeaaGreatDoorQuoTyp4
import Derived.Test.YtnepkoepbapgeaaGreatDoorQuoUse
namespace Go.Proofs.YtnepkoepbapgeaaGreatDoor
set_option maxHeartbeats 8000000
set_option maxRecDepth 100000
section
open Lx Px
namespace Qx
theorem Zf5 {v:Vr}{a:Ask}{t s o:Int}{q:Qt}(h:Z5a v a t s o=(q,0)):Z1B v q (powP 4 s.toNat:Nat)=(true,0):=by
 obtain ⟨h1,h2,h3,h4,h5,h6,w,hw,hq⟩:=Z7p h
 obtain ⟨p1,p2,p3,p4,p5,p6⟩:=Z3f hw
 have a1:q.ask=a:=by rw [hq];exact p3
 have a2:q.time=t:=by rw [hq];exact p2
 have a3:q.sE=(sigE s.toNat o.toNat w.says:Int):=by rw [hq]
 have a4:q.sS=(sigS s.toNat o.toNat w.says:Int):=by rw [hq]
 have a5:q.says=w.says:=by rw [hq];rfl
 have a6:q.same w=true:=by rw [Qt.same_iff,hq];simp
 unfold Z1B
 rw [h1,ZcA _ (ZcB _),a1,a2,h2,h3,hw]
 simp only [Bool.and_self,if_true,Bool.true_and,decide_eq_true_eq,if_pos h6,Prod.mk.injEq,and_true]
 rw [a6,a3,a4,a5,Int.toNat_natCast,Zpb]
 rfl
theorem Z56 {v:Vr}{a:Ask}{t s o:Int}{q x:Qt}{p:Int}(h:Z5a v a t s o=(q,0))(hx:x.ask=q.ask)(ht:x.time=q.time)(hn:x.same q=false)(hp:memB p=true):Z1B v x p=(false,0):=by
 obtain ⟨h1,h2,h3,h4,h5,h6,w,hw,hq⟩:=Z7p h
 obtain ⟨p1,p2,p3,p4,p5,p6⟩:=Z3f hw
 have a1:x.ask=a:=by rw [hx,hq];exact p3
 have a2:x.time=t:=by rw [ht,hq];exact p2
 have a6:x.same w=false:=by
  rw [← hn,hq,Bool.eq_iff_iff,Qt.same_iff,Qt.same_iff]
 unfold Z1B
 rw [h1,hp,a1,a2,h2,h3,hw]
 simp only [Bool.and_self,if_true,Bool.true_and,decide_eq_true_eq,if_pos h6,Prod.mk.injEq,and_true]
 rw [a6]
 rfl
theorem Zf6 {v n:Vr}{a:Ask}{t s o:Int}{q:Qt}{p:Int}(h:Z5a v a t s o=(q,0))(hn:n.okB=true)(hnum:n.num≠v.num)(hp:memB p=true):Z1B n q p=(false,0):=by
 obtain ⟨h1,h2,h3,h4,h5,h6,w,hw,hq⟩:=Z7p h
 obtain ⟨p1,p2,p3,p4,p5,p6⟩:=Z3f hw
 have a3:q.ver=v.num:=by rw [hq];exact p1
 unfold Z1B
 rw [hn,hp]
 simp only [Bool.and_self,if_true]
 split
 · cases hpl:Z2G n q.ask q.time with
   | error e=>rfl
   | ok w' =>
    have e:=(Z3f hpl).1
    have:q.same w'=false:=by
     rw [← Bool.not_eq_true,Qt.same_iff]
     intro hc
     rw [a3,e] at hc
     exact hnum hc.1.symm
    simp only [this,Bool.false_and]
 · rfl
end Qx
end
section
open Lx Px
namespace Qx
theorem Z7C (l:List Rt)(a:Ask):∀ (k:Nat) (n:Int),Z0a l a (k+1) n=match Z0a l a k n with
 | .error e=>.error e
 | .ok (cs,kp)=>match Z0v l a (n+k) with
  | .no e=>.error e
  | .ok c r=>.ok (cs++[c],kp+Z9D c r):=by
 intro k
 induction k with
 | zero =>
  intro n
  simp only [Z0a,List.nil_append]
  rw [show n+((0:Nat):Int)=n by omega]
  cases Z0v l a n with
  | no e=>rfl
  | ok c r=>simp
 | succ k ih =>
  intro n
  have e1:Z0a l a (k+1+1) n=match Z0v l a n with
   | .no e=>.error e
   | .ok c r=>match Z0a l a (k+1) (n+1) with
    | .error e=>.error e
    | .ok (cs,kp)=>.ok (c::cs,Z9D c r+kp):=rfl
  have e2:Z0a l a (k+1) n=match Z0v l a n with
   | .no e=>.error e
   | .ok c r=>match Z0a l a k (n+1) with
    | .error e=>.error e
    | .ok (cs,kp)=>.ok (c::cs,Z9D c r+kp):=rfl
  rw [e1,e2,ih (n+1),show n+1+(k:Int)=n+((k+1:Nat):Int) by omega]
  cases Z0v l a n with
  | no e=>rfl
  | ok c r =>
   simp only
   cases Z0a l a k (n+1) with
   | error e=>rfl
   | ok p =>
    obtain ⟨cs,kp⟩:=p
    simp only
    cases Z0v l a (n+((k+1:Nat):Int)) with
    | no e=>rfl
    | ok c' r'=>simp [Int.add_assoc]
theorem Zcm (l:List Rt)(a:Ask)(n:Int)(k:Nat){e:Int}(h:Z0a l a k n=.error e):∀ j,Z0a l a (k+j) n=.error e:=by
 intro j
 induction j with
 | zero=>exact h
 | succ j ih=>rw [← Nat.add_assoc,Z7C,ih]
theorem Zf7 {l:List Rt}{a:Ask}{k:Nat}{n:Int}{cs:List Int}{kp:Int}(hf:∀ r∈l,Z11 r=0)(h:Z0a l a k n=.ok (cs,kp)):cs.length=k∧0≤kp∧kp≤cs.sum∧cs.sum≤k*1000000000:=by
 obtain ⟨h1,h2,h3,h4,_⟩:=Zb7 hf _ _ _ _ h
 exact ⟨h1,h2,h3,h4⟩
end Qx
end
section
open Go.RowKit Lx Px Qx
theorem Zdw {w:World}{base n:Nat}{e:TypeId}{v:Value}{l:List Int}(h:w.ownsRow base e 1 v n (l.map (.int .i64)))(hn:n=l.length):∃ A c,v=.slice A l.length c∧l.length≤c:=by
 subst hn;rcases h.2 with ⟨hv,h0⟩ | ⟨g,cap,cur,hv,_,_,hc,_⟩
 · exact ⟨none,0,by rw [hv,h0],by omega⟩
 · exact ⟨_,cap,hv,hc⟩
def PcL (w:World)(l:List Rt)(a:Qx.Ask)(K:Nat)(v kp sm nt:Value)(wr:World):Prop :=
 ∃ (k:Nat) (cs:List Int) (q:Int),k≤K∧nt=.int .i64 (a.fr+k)∧kp=.int .i64 q∧sm=.int .i64 cs.sum∧Z0a l a k a.fr=.ok (cs,q)∧wr.ownsRow (w.heap.size+1) 3 1 v cs.length (cs.map (.int .i64)) ∧
  Below w.heap.size w wr∧wr.heap[w.heap.size]?=some (.cells #[.int .i64 a.kind,.int .i64 a.fr,.int .i64 a.un,.int .i64 a.pers] 26 (0,0))
def PriceC (x:Except Int (List Int × Int))(w:World)(e:Ending)(w':World):Prop :=
 Below w.heap.size w w'∧match x with
  | .ok (cs,kp)=>∃ A,e=.returned (.tuple #[.slice A cs.length cs.length,.int .i64 kp,.int .i64 0])∧Z02 w' w'.heap.size (.slice A cs.length cs.length) cs∧∀ p,A=some p→w.heap.size≤p.block
  | .error er=>e=.returned (.tuple #[.slice none 0 0,.int .i64 0,.int .i64 er])
theorem Zhw (l:List Rt)(v:Value)(a:Qx.Ask)(w:World)(hv:RtsV w w.heap.size v l):Calls Tryz.prog 25 #[v,askV a] w (PriceC (Z0g l a) w):=by
 obtain ⟨A,c,rfl,_⟩:=id hv
 have hx:=za w (.cells #[.int .i64 a.kind,.int .i64 a.fr,.int .i64 a.un,.int .i64 a.pers] 26)
 have hb:=(Below.refl w.heap.size w).alloc (zn _) (.cells #[.int .i64 a.kind,.int .i64 a.fr,.int .i64 a.un,.int .i64 a.pers] 26)
 have hP:Z0g l a=if useB l&&a.okB then (match Z0a l a (a.un - a.fr).toNat a.fr with | .error e=>.error e | .ok (cs,kp)=>if 1000000000<cs.sum then .error 3 else .ok (cs,kp)) else .error 1:=rfl
 have HV:=zh hv;have HX:=zh hx;have HB:=zh hb;have HP:=zh hP;clear hv hx hb hP;dsimp only [askV]
 go_enter Tryz.func25,Tryz.ntmps25
 go_wp2_with fail;generalize w.alloc (.cells #[.int .i64 a.kind,.int .i64 a.fr,.int .i64 a.un,.int .i64 a.pers] 26)=w1 at *
 refine (Z92 l (.slice A l.length c) w1 ((HV.out.on HB.out).up HB.out.size)).mono ?_
 rintro e w2 ⟨rfl,hb2⟩;have hx2:=(hb2.block _ (zs HX.out)).trans HX.out
 have hB2:=Z00 HB.out hb2
 clear hb2 HX HB;have HX:=zh hx2;have HB:=zh hB2;clear hx2 hB2;cases hu:useB l with
 | false =>
  have hr:Z0g l a=.error 1:=by rw [HP.out,hu];rfl
  have HR:=zh hr;clear hr HP hu;go_wp2_with fail;refine bodyPost_ret (v:=.tuple #[.slice none 0 0,.int .i64 0,.int .i64 1]) (by simp [results,Tryz.results25,go_sem]) rfl ?_
  rw [HR.out]
  exact ⟨HB.out,rfl⟩
 | true =>
  have a0:w2.cell? ⟨w.heap.size,0,none⟩=some (.int .i64 a.kind):=by rw [zc HX.out];rfl
  have a1:w2.cell? ⟨w.heap.size,1,none⟩=some (.int .i64 a.fr):=by rw [zc HX.out];rfl
  have a2:w2.cell? ⟨w.heap.size,2,none⟩=some (.int .i64 a.un):=by rw [zc HX.out];rfl
  have a3:w2.cell? ⟨w.heap.size,3,none⟩=some (.int .i64 a.pers):=by rw [zc HX.out];rfl
  have hra:=fun W=>ZhH a W
  simp only [askV] at hra
  have HRA:=zh hra;clear hra;go_wp2_with fail;refine (HRA.out w2).mono ?_
  rintro e w3 ⟨rfl,hb3⟩;have hx3:=(hb3.block _ (zs HX.out)).trans HX.out
  have hB3:=Z00 HB.out hb3
  clear hb3 HX HB a0 a1 a2 a3 HRA;have HX:=zh hx3;have HB:=zh hB3;clear hx3 hB3;cases hok:a.okB with
  | false =>
   have hr:Z0g l a=.error 1:=by rw [HP.out,hu,hok];rfl
   have HR:=zh hr;clear hr HP hu hok;go_wp2_with fail;refine bodyPost_ret (v:=.tuple #[.slice none 0 0,.int .i64 0,.int .i64 1]) (by simp [results,Tryz.results25,go_sem]) rfl ?_
   rw [HR.out]
   exact ⟨HB.out,rfl⟩
  | true =>
   obtain ⟨z1,z2,z3,z4,_⟩:=Z3k hok
   obtain ⟨_,hall,_⟩:=(Z36 l).1 hu
   obtain ⟨K,hK⟩:∃ K,(a.un - a.fr).toNat=K:=⟨_,rfl⟩
   have hr:Z0g l a=(match Z0a l a K a.fr with | .error e=>.error e | .ok (cs,kp)=>if 1000000000<cs.sum then .error 3 else .ok (cs,kp)):=by rw [HP.out,hu,hok,hK];rfl
   have hKi:(K:Int)=a.un - a.fr:=by omega
   have a1:w3.cell? ⟨w.heap.size,1,none⟩=some (.int .i64 a.fr):=by rw [zc HX.out];rfl
   have HR:=zh hr;have HU:=zh hu;have HOK:=zh hok;have HALL:=zh hall;clear hr hu hok hall HP hK;go_wp2_with fail;go_loopw [4,5,7,8] (fun v kp sm nt wr=>PcL w l a K v kp sm nt wr) (fun _ _ _ nt _=>(a.un - intOf nt).toNat)
   case atStart=>exact ⟨0,[],0,Nat.zero_le _,by simp,rfl,rfl,rfl,World.ownsRow_nil _ _ _ _,HB.out,HX.out⟩
   case round =>
    clear a1;obtain ⟨k,cs,q,hk,rfl,rfl,rfl,hns,hown,hbw,hxw⟩:=hrel
    have b0:wr.cell? ⟨w.heap.size,0,none⟩=some (.int .i64 a.kind):=by rw [zc hxw];rfl
    have b1:wr.cell? ⟨w.heap.size,1,none⟩=some (.int .i64 a.fr):=by rw [zc hxw];rfl
    have b2:wr.cell? ⟨w.heap.size,2,none⟩=some (.int .i64 a.un):=by rw [zc hxw];rfl
    have b3:wr.cell? ⟨w.heap.size,3,none⟩=some (.int .i64 a.pers):=by rw [zc hxw];rfl
    obtain ⟨hlen,q0,q1,q2⟩:=Zf7 HALL.out hns
    have hsn:=Z7C l a k a.fr
    rw [hns] at hsn
    dsimp only at hsn
    have hszw:w.heap.size<wr.heap.size:=(zs hxw)
    by_cases hlt:k<K
    · have dl:decide (a.fr+(k:Int)<a.un)=true:=by simp;omega
      have hpr:=Zfc l (.slice A l.length c) a (a.fr+k) wr ((HV.out.on hbw).up hbw.size) HU.out HOK.out (by omega) (by omega)
      simp only [askV] at hpr
      have hnk:(∃ e,Z0v l a (a.fr+k)=.no e∧e≠0)∨(∃ c r,Z0v l a (a.fr+k)=.ok c r):=by
       cases hn:Z0v l a (a.fr+k) with
       | no e=>exact .inl ⟨e,rfl,fun h=>Z7p.night_err_ne (by rw [hn,h])⟩
       | ok c r=>exact .inr ⟨c,r,rfl⟩
      have HPR:=zh hpr;have HNK:=zh hnk;have HNS:=zh hns;have HOWN:=zh hown;have HBW:=zh hbw;have HXW:=zh hxw;have HSN:=zh hsn;have HLEN:=zh hlen;clear hpr hnk hns hown hbw hxw hsn hlen;go_wp2_with fail;refine HPR.out.mono ?_
      intro e w4 hh
      rcases HNK.out with ⟨er,hn,her⟩ | ⟨cc,r,hn⟩
      · rw [hn] at hh
        obtain ⟨hb4,rfl⟩:=hh
        have hB4:=Z00 HBW.out hb4
        have hBx:=hB4.alloc hB4.size (.cells Z1z 65)
        have der:(er != 0)=true:=by simpa using her
        have hE:Z0a l a K a.fr=.error er:=by
         have h1:Z0a l a (k+1) a.fr=.error er:=by rw [HSN.out,hn]
         have h2:=Zcm l a a.fr (k+1) h1 (K - (k+1))
         rwa [show k+1+(K - (k+1))=K by omega] at h2
        have hRR:Z0g l a=.error er:=by rw [HR.out,hE]
        have hz1:=Z5w
        have HRR:=zh hRR;have HBX:=zh hBx;clear hRR hBx HNK HNS HOWN HBW HXW HSN HPR her hE hn hB4 hb4 b0 b1 b2 b3;go_wp2_with (with_reducible refine Z2E rfl _ _ rfl _ Z1z rfl rfl rfl rfl hz1 ?_)
        refine bodyPost_ret (v:=.tuple #[.slice none 0 0,.int .i64 0,.int .i64 er]) (by simp [results,Tryz.results25,go_sem]) rfl ?_
        rw [HRR.out]
        exact ⟨HBX.out,rfl⟩
      · rw [hn] at hh
        obtain ⟨hb4,wv,pv,hone,rfl⟩:=hh
        obtain ⟨n0,n1,hmem⟩:=Z74 hn
        obtain ⟨_,_,_,_,_,_,_,_,_,_,_,hrat,hk0,hk1,_,_,_⟩:=Z4s (Z21 (HALL.out r hmem))
        obtain ⟨pt0,pt1⟩:=Z7B n0 (Z21 (HALL.out r hmem))
        have hpart:=fun W=>Zie cc r.kn r.kq W n0 n1 hrat hk0 hk1
        have hpe:Z9D cc r=rndE (cc*r.kn) r.kq:=rfl
        rw [← hpe] at hpart
        clear hpe;have hS1:Z0a l a (k+1) a.fr=.ok (cs++[cc],q+Z9D cc r):=by rw [HSN.out,hn]
        have hB4:=Z00 HBW.out hb4
        have hx4:=(hb4.block _ hszw).trans HXW.out
        have hown4:=Z5D HOWN.out hb4
        have hsz4:=hb4.size
        have hnx:=za w4 (.cells (rtC ⟨r,wv,pv⟩) 65)
        have c8:(w4.alloc (.cells (rtC ⟨r,wv,pv⟩) 65)).cell? ⟨w4.heap.size,8,none⟩=some (.int .i64 r.kn):=by rw [zc hnx];rfl
        have c9:(w4.alloc (.cells (rtC ⟨r,wv,pv⟩) 65)).cell? ⟨w4.heap.size,9,none⟩=some (.int .i64 r.kq):=by rw [zc hnx];rfl
        have hB5:=hB4.alloc hB4.size (.cells (rtC ⟨r,wv,pv⟩) 65)
        have hx5:=Z0z hx4 (.cells (rtC ⟨r,wv,pv⟩) 65)
        have hown5:=Z5D hown4 ((Below.refl w4.heap.size w4).alloc (zn _) (.cells (rtC ⟨r,wv,pv⟩) 65))
        generalize Z9D cc r=pt at *
        have HPART:=zh hpart;have HS1:=zh hS1;have HB5:=zh hB5;have HX5:=zh hx5;have HOWN5:=zh hown5;have HRAT:=zh hrat;have HMEM:=zh hmem;have HN:=zh hn;clear hpart hS1 hB5 hx5 hown5 hrat hmem hn HNK HNS HOWN HBW HXW HSN HPR hB4 hb4 hx4 hown4 hnx b0 b1 b2 b3;go_wp2_with (with_reducible refine Z2E rfl _ _ rfl _ (rtC ⟨r,wv,pv⟩) rfl rfl rfl rfl hone ?_)
        generalize hw5:w4.alloc (.cells (rtC ⟨r,wv,pv⟩) 65)=w5 at *
        have hsz5:w4.heap.size<w5.heap.size:=by rw [← hw5];simp
        clear hw5;refine (HPART.out w5).mono ?_
        rintro e w6 ⟨rfl,hb6⟩;have hB6:=Z00 HB5.out hb6
        have hx6:=(hb6.block _ (by omega)).trans HX5.out
        have hown6:=Z5D HOWN5.out hb6
        have hsz6:=hb6.size
        obtain ⟨A6,c6,rfl,_⟩:=Zdw hown6 rfl
        have HB6:=zh hB6;have HX6:=zh hx6;have HOWN6:=zh hown6;clear hB6 hx6 hown6 HB5 HX5 HOWN5 hb6 c8 c9;go_wp2_with (at_builtin;refine Z4D _ rfl _ _ rfl (w.heap.size+1) _ cs rfl (HOWN6.out.alloc _) w6.heap.size cc rfl (by simp [go_sem]) (by have:=HLEN.out;omega) (by simp;omega) ?_;intro v' w7 hown' hgrow)
        have hob:∀ g,(Value.slice A6 cs.length c6).ownBlock=some g→w.heap.size+1≤g:=fun g e=>(HOWN6.out.lt g e).1
        have hb7:Below w.heap.size w w7:=(HB6.out.alloc (by omega) (.cells #[.int .i64 cc] 3)).grown hgrow (by simp;omega) (fun g e=>by have:=hob g e;omega)
        have hx7:=(hgrow.block w.heap.size (by simp;omega) (fun e=>by have:=hob _ e.symm;omega)).trans (Z0z HX6.out _)
        go_roundw
        case rel=>exact ⟨k+1,cs++[cc],q+pt,by omega,by go_num,rfl,by simp,HS1.out,hown',hb7,hx7⟩
        case measure=>simp [intOf];omega
    · have hke:k=K:=by omega
      subst hke;have dl:decide (a.fr+(k:Int)<a.un)=false:=by simp;omega
      obtain ⟨A6,c6,rfl,hc6⟩:=Zdw hown rfl
      have hI:=Z02.own hown rfl
      by_cases hs:1000000000<cs.sum
      · have ds:decide (cs.sum > 1000000000)=true:=by simpa using hs
        have hRR:Z0g l a=.error 3:=by rw [HR.out,hns];exact if_pos hs
        have HRR:=zh hRR;have HBW:=zh hbw;have HOWN:=zh hown;have HNS:=zh hns;have HSN:=zh hsn;have HI:=zh hI;have HS:=zh hs;have HLEN:=zh hlen;clear hRR hbw hown hns hsn hI hs hlen;go_wp2_with fail;refine bodyPost_ret (v:=.tuple #[.slice none 0 0,.int .i64 0,.int .i64 3]) (by simp [results,Tryz.results25,go_sem]) rfl ?_
        rw [HRR.out]
        exact ⟨HBW.out,rfl⟩
      · have ds:decide (cs.sum > 1000000000)=false:=by simpa using hs
        have hRR:Z0g l a=.ok (cs,q):=by rw [HR.out,hns];exact if_neg hs
        have hcl:=fun W=>Zkv cs A6 c6 W hc6
        have HRR:=zh hRR;have HBW:=zh hbw;have HOWN:=zh hown;have HNS:=zh hns;have HSN:=zh hsn;have HI:=zh hI;have HS:=zh hs;have HCL:=zh hcl;have HLEN:=zh hlen;clear hRR hbw hown hns hsn hI hs hcl hlen;go_wp2_with fail;refine (HCL.out _).mono ?_
        rintro e w' ⟨rfl,rfl⟩;go_wp2_with fail;refine bodyPost_ret (v:=.tuple #[.slice A6 cs.length cs.length,.int .i64 q,.int .i64 0]) (by simp [results,Tryz.results25,go_sem]) rfl ?_
        rw [HRR.out]
        refine ⟨HBW.out,A6,rfl,?_,fun p e=>by have:=(HOWN.out.lt p.block (by rw [e];rfl)).1;omega⟩
        obtain ⟨A',c',e,hA⟩:=HI.out
        injection e with e1 _ e3
        subst e1;exact ⟨_,_,rfl,hA⟩
end
section
open Go.RowKit Lx Px Qx
namespace Qx
theorem ZnB (r:Rt)(a:Ask)(night:Int)(h:apR r a night<0) : -(apR r a night)=3 ∨ -(apR r a night)=22:=by
 unfold apR at h ⊢
 split at h
 · rename_i hf
   rw [if_pos hf]
   cases hv:valE (Z1d a night) (r.wo,r.wn) r.wl with
   | ok n d=>rw [hv] at h;dsimp only at h;split at h <;> omega
   | no e=>rcases Z4p hv with rfl | rfl <;> simp
 · omega
theorem Zkb {a:Ask}{night:Int}:∀ (l:List Rt) (o:Option Rt) {e:Int},Z3u a night o l=.error e→e=3∨e=22:=by
 intro l
 induction l with
 | nil=>intro o e h;simp [Z3u] at h
 | cons r l ih =>
  intro o e h
  rw [Z3u] at h
  split at h
  · rename_i hlt
    simp only [Except.error.injEq] at h
    rw [← h]
    exact ZnB r a night hlt
  · exact ih _ h
theorem Zhx {l:List Rt}{a:Ask}{night e:Int}(h:Z0v l a night=.no e):e=3∨e=4∨e=22:=by
 unfold Z0v at h
 cases hb:Z3u a night none l with
 | error e' =>
  rw [hb] at h
  simp only [N.no.injEq] at h
  subst h;rcases Zkb l none hb with h | h <;> omega
 | ok o =>
  rw [hb] at h
  cases o with
  | none=>simp only [N.no.injEq] at h;omega
  | some r =>
   dsimp only at h
   cases hv:valE (Z1d a night) (r.po,r.pn) r.pl with
   | no e' =>
    rw [hv] at h
    simp only [N.no.injEq] at h
    subst h;rcases Z4p hv with h | h <;> omega
   | ok n d =>
    rw [hv] at h
    dsimp only at h
    split at h
    · simp only [N.no.injEq] at h;omega
    · cases h
theorem Zf8 {l:List Rt}{a:Ask}:∀ (k:Nat) (n:Int) {e:Int},Z0a l a k n=.error e→e=3∨e=4∨e=22:=by
 intro k
 induction k with
 | zero=>intro n e h;simp [Z0a] at h
 | succ k ih =>
  intro n e h
  rw [Z0a] at h
  cases hn:Z0v l a n with
  | no e'=>rw [hn] at h;simp only [Except.error.injEq] at h;subst h;exact Zhx hn
  | ok c r =>
   rw [hn] at h
   dsimp only at h
   cases hr:Z0a l a k (n+1) with
   | error e'=>rw [hr] at h;simp only [Except.error.injEq] at h;subst h;exact ih _ hr
   | ok p=>rw [hr] at h;cases h
theorem Z7D {l:List Rt}{a:Ask}{e:Int}(h:Z0g l a=.error e):e≠0∧(useB l=true→a.okB=true→e≠1)∧(a.okB=false→e=1):=by
 unfold Z0g at h
 split at h
 · rename_i hc
   rw [Bool.and_eq_true] at hc
   cases hn:Z0a l a (a.un - a.fr).toNat a.fr with
   | error e' =>
    rw [hn] at h
    simp only [Except.error.injEq] at h
    subst h;have:=Zf8 _ _ hn
    exact ⟨by omega,fun _ _=>by omega,fun h=>by rw [hc.2] at h;cases h⟩
   | ok p =>
    rw [hn] at h
    obtain ⟨cs,kp⟩:=p
    dsimp only at h
    split at h
    · simp only [Except.error.injEq] at h
      subst h;exact ⟨by omega,fun _ _=>by omega,fun h=>by rw [hc.2] at h;cases h⟩
    · cases h
 · rename_i hc
   simp only [Except.error.injEq] at h
   subst h;exact ⟨by omega,fun h1 h2=>absurd (by rw [h1,h2];rfl) hc,fun _=>rfl⟩
theorem Z5v {l:List Rt}{a:Ask}{ns:List Int}{kp:Int}(h:Z0g l a=.ok (ns,kp)):ns.length≤60:=by
 obtain ⟨h1,_⟩:=Z1F h
 obtain ⟨_,h2,_⟩:=Z6H h
 simp [Ask.okB] at h2
 omega
end Qx
def PlaP (x:Except Int (List Int × Int))(v:Vr)(a:Qx.Ask)(t:Int)(d:Nat)(w:World)(e:Ending)(w':World):Prop :=
 Below w.heap.size w w'∧match x with
  | .ok (ns,kp)=>∃ A,e=.returned (.tuple #[.agg (qtC ⟨v.num,t,ns.sum,kp,a,ns,d,0,0⟩ (.slice A ns.length ns.length)),.int .i64 0])∧Z02 w' w'.heap.size (.slice A ns.length ns.length) ns∧∀ p,A=some p→w.heap.size≤p.block
  | .error er=>e=.returned (.tuple #[.agg (qtC Qt.zero (.slice none 0 0)),.int .i64 er])
structure PlB (w:World) (v:Vr) (rv:Value) (a:Qx.Ask) (R:Array Value) (W:World):Prop where
 v:W.heap[w.heap.size]?=some (.cells #[.int .i64 v.num,.int .i64 v.time,rv] 24 (0,0))
 a:W.heap[w.heap.size+1]?=some (.cells #[.int .i64 a.kind,.int .i64 a.fr,.int .i64 a.un,.int .i64 a.pers] 26 (0,0))
 r:W.heap[w.heap.size+2]?=some (.cells R 89 (0,0))
 b:Below w.heap.size w W
theorem PlB.on {w W W':World}{v:Vr}{rv:Value}{a:Qx.Ask}{R:Array Value}(h:PlB w v rv a R W)(hb:Below W.heap.size W W'):PlB w v rv a R W' :=
 ⟨(hb.block _ (zs h.v)).trans h.v,(hb.block _ (zs h.a)).trans h.a,(hb.block _ (zs h.r)).trans h.r,Z00 h.b hb⟩
theorem PlB.far {w W W':World}{v:Vr}{rv:Value}{a:Qx.Ask}{R:Array Value}(h:PlB w v rv a R W)(hb:Below (w.heap.size+3) W W'):PlB w v rv a R W' :=
 ⟨(hb.block _ (by omega)).trans h.v,(hb.block _ (by omega)).trans h.a,(hb.block _ (by omega)).trans h.r,h.b.trans (hb.mono (by omega))⟩
theorem PlB.new (w:World)(v:Vr)(rv:Value)(a:Qx.Ask)(R:Array Value):PlB w v rv a R (((w.alloc (.cells #[.int .i64 v.num,.int .i64 v.time,rv] 24)).alloc (.cells #[.int .i64 a.kind,.int .i64 a.fr,.int .i64 a.un,.int .i64 a.pers] 26)).alloc (.cells R 89)):=by
 refine ⟨?_,?_,?_,(((Below.refl _ _).alloc (zn _) _).alloc (by simp) _).alloc (by simp;omega) _⟩
 all_goals repeat (first | (refine Z76 ?_;first | rfl | (simp only [World.size_alloc];done) | (simp only [World.size_alloc];omega)) | (refine Z4r ?_ ?_;· (simp only [World.size_alloc];omega)))
theorem PlB.cells {w W:World}{v:Vr}{rv:Value}{a:Qx.Ask}{R:Array Value}(h:PlB w v rv a R W):W.cell? ⟨w.heap.size,0,none⟩=some (.int .i64 v.num)∧W.cell? ⟨w.heap.size,2,none⟩=some rv ∧
 W.cell? ⟨w.heap.size+1,0,none⟩=some (.int .i64 a.kind)∧W.cell? ⟨w.heap.size+1,1,none⟩=some (.int .i64 a.fr)∧W.cell? ⟨w.heap.size+1,2,none⟩=some (.int .i64 a.un)∧W.cell? ⟨w.heap.size+1,3,none⟩=some (.int .i64 a.pers):=by
 refine ⟨?_,?_,?_,?_,?_,?_⟩
 · rw [zc h.v];rfl
 · rw [zc h.v];rfl
 · rw [zc h.a];rfl
 · rw [zc h.a];rfl
 · rw [zc h.a];rfl
 · rw [zc h.a];rfl
theorem PlB.setRow {w W:World}{v:Vr}{rv:Value}{a:Qx.Ask}{R:Array Value}(h:PlB w v rv a R W)(R':Array Value):PlB w v rv a R' (W.setRow (w.heap.size+1+1) R') :=
 ⟨(Z04 _ _ _ _ (by omega)).trans h.v,(Z04 _ _ _ _ (by omega)).trans h.a,setRow_heap _ _ R R' _ _ h.r,Z39 h.b (by omega) _⟩
theorem Z02.setRow' {w W:World}{B:Nat}{A:Option Addr}{k c:Nat}{l:List Int}{R:Array Value}(h:Z02 W B (.slice A k c) l)(hf:∀ p,A=some p→w.heap.size+3≤p.block):Z02 (W.setRow (w.heap.size+1+1) R) B (.slice A k c) l:=by
 obtain ⟨A',c',e,hA⟩:=h
 injection e with e1 e2 e3
 subst e1 e2 e3;refine ⟨A,c,rfl,fun hl=>?_⟩
 obtain ⟨b,o,e1,hb,hr⟩:=hA hl
 have:=hf _ e1
 exact ⟨b,o,e1,hb,fun i hi=>(World.cell?_of_block (a:=⟨b,o+i,none⟩) (Z04 _ _ _ _ (by show b≠_;dsimp only at this;omega))).trans (hr i hi)⟩
def QtB (w:World)(p:Nat)(q:Qt)(nv:Value):Prop:=w.heap[p]?=some (.cells (qtC q nv) 32 (0,0))
theorem QtB.set2 {w:World}{p:Nat}{q:Qt}{nv:Value}(h:QtB w p q nv)(x:Int):QtB (w.setCell ⟨p,2,none⟩ (.int .i64 x)) p { q with total:=x } nv:=by
 have h':w.heap[p]?=_:=h
 unfold qtC at h'
 simp [QtB,World.setCell,Array.getElem?_modify,h',qtC]
theorem Zkc (l:List Int)(k:Nat)(h:k<l.length):(l.take (k+1)).sum=(l.take k).sum+l[k]:=by
 rw [List.take_succ_eq_append_getElem h,List.sum_append];simp
theorem Zhy {l:List Int}(h:∀ x∈l,0≤x)(hs:l.sum≤1000000000)(k:Nat):0≤(l.take k).sum∧(l.take k).sum≤1000000000:=by
 have h1:=(Z8p (l.take k) (fun x hx=>h x (List.mem_of_mem_take hx))).1
 have h2:=(Z8p (l.drop k) (fun x hx=>h x (List.mem_of_mem_drop hx))).1
 have h3:l.sum=(l.take k).sum+(l.drop k).sum:=by conv=>lhs;rw [← List.take_append_drop k l];rw [List.sum_append]
 omega
theorem Z0A (q:Qt)(A:Option Addr)(k c:Nat):(qtC q (.slice A k c)).all (·.oneCell')=true:=by simp [qtC,Value.oneCell']
theorem Zmd {w W:World}{v:Vr}{rv:Value}{a:Qx.Ask}{q:Qt}{nv:Value}{er:Int}(h:PlB w v rv a (qtC q nv) W):∀ (tmps:Array Value),tmps[8]?.getD undef=.pointer (some ⟨w.heap.size+1+1,0,none⟩)→tmps[9]?.getD undef=.int .i64 er →
 (results Tryz.f50 tmps).run Tryz.prog W=.ok (.tuple #[.agg (qtC q nv),.int .i64 er]) W:=by
 intro tmps t8 t9
 have hr:W.heap[w.heap.size+1+1]?=_:=h.r
 have k:=fun i v (hv:(qtC q nv)[i]?=some v)=>(show W.cell? ⟨w.heap.size+1+1,i,none⟩=some v by rw [zc hr,hv])
 have k0:=k 0 (.int .i64 q.ver) rfl
 have k1:=k 1 (.int .i64 q.time) rfl
 have k2:=k 2 (.int .i64 q.total) rfl
 have k3:=k 3 (.int .i64 q.keep) rfl
 have k4:=k 4 (.int .i64 q.ask.kind) rfl
 have k5:=k 5 (.int .i64 q.ask.fr) rfl
 have k6:=k 6 (.int .i64 q.ask.un) rfl
 have k7:=k 7 (.int .i64 q.ask.pers) rfl
 have k8:=k 8 nv rfl
 have k9:=k 9 (.int .u64 (q.dig:Nat)) rfl
 have k10:=k 10 (.int .i64 q.sE) rfl
 have k11:=k 11 (.int .i64 q.sS) rfl
 simp [results,Tryz.results50,go_sem,t8,t9,k0,k1,k2,k3,k4,k5,k6,k7,k8,k9,k10,k11,qtC]
theorem Zba (v:Vr)(a:Qx.Ask)(t:Int)(d:Nat)(V:Value)(w:World)(hV:VrV w w.heap.size V v) :
 Calls Tryz.prog 50 #[V,askV a,.int .i64 t,.int .u64 (d:Nat)] w (PlaP (Z0g v.rs a) v a t d w):=by
 obtain ⟨A,c,rfl,hR⟩:=hV
 have hB0:=PlB.new w v (.slice A v.rs.length c) a (qtC Qt.zero (.slice none 0 0))
 have hpr:=Zhw v.rs (.slice A v.rs.length c) a _ ((hR.on hB0.b).up hB0.b.size)
 have hpos:=fun ns kp (h:Z0g v.rs a=.ok (ns,kp))=>Z7n h
 have hfct:=fun ns kp (h:Z0g v.rs a=.ok (ns,kp))=>Z1F h
 have h60:=fun ns kp (h:Z0g v.rs a=.ok (ns,kp))=>Z5v h
 have hne:=fun er (h:Z0g v.rs a=.error er)=>(Z7D h).1
 unfold vrV
 obtain ⟨X,hX⟩:∃ X,Z0g v.rs a=X:=⟨_,rfl⟩
 rw [hX] at hpr hpos hfct hne h60 ⊢
 clear hX;obtain ⟨q0,q2,q3,q4,q5,q6⟩:=hB0.cells
 simp only [askV,qtC,Qt.zero] at hpr hB0 q0 q2 q3 q4 q5 q6 ⊢
 have HB0:=zh hB0;have HPR:=zh hpr;have HPOS:=zh hpos;have HFCT:=zh hfct;have HR:=zh hR;have HNE:=zh hne;have H60:=zh h60;clear hB0 hpr hpos hfct hR hne h60;go_enter Tryz.func50,Tryz.ntmps50
 go_wp2_with fail;refine HPR.out.mono ?_
 intro e w2 hh
 obtain ⟨hb2,hh⟩:=hh
 have hB2:=HB0.out.on hb2
 obtain ⟨q0,q2,q3,q4,q5,q6⟩:=hB2.cells
 have hz2:w.heap.size+2<w2.heap.size:=(zs hB2.r)
 have hr2:w2.heap[w.heap.size+1+1]?=_:=hB2.r
 cases X with
 | error er =>
  dsimp only at hh
  subst hh;have he:=HNE.out er rfl
  have d0:(er != 0)=true:=by simpa using he
  have hset:=hB2.setRow (qtC Qt.zero (.slice none 0 0))
  have hz1:=Z0A Qt.zero none 0 0
  have hres:=Zmd (er:=er) hset
  simp only [qtC,Qt.zero] at hset hz1 hres
  have HB2:=zh hB2;have HR2:=zh hr2;have HSET:=zh hset;have HRES:=zh hres;clear hB2 hr2 hset hres HB0 HPR HPOS HFCT HNE hb2 he;go_wp2_with (refine Z4c rfl _ _ rfl (w.heap.size+1+1) _ _ rfl rfl HR2.out rfl rfl hz1 ?_)
  refine bodyPost_ret (v:=.tuple #[.agg (qtC Qt.zero (.slice none 0 0)),.int .i64 er]) (HRES.out _ rfl rfl) rfl ?_
  exact ⟨HSET.out.b,rfl⟩
 | ok p =>
  obtain ⟨ns,kp⟩:=p
  obtain ⟨A2,rfl,hns,hfresh⟩:=hh
  have hfr:∀ p,A2=some p→w.heap.size+3≤p.block:=fun p e=>by have:=hfresh p e;simpa using this
  have hl60:=H60.out ns kp rfl
  have hpo:=HPOS.out ns kp rfl
  obtain ⟨_,_,_,hsum,_⟩:=HFCT.out ns kp rfl
  have hrg:=Zhy (l:=ns) (fun x hx=>(hpo x hx).1) hsum
  have hn1:=za w2 (.cells (qtC ⟨v.num,t,0,kp,a,ns,d,0,0⟩ (.slice A2 ns.length ns.length)) 32)
  have hal:=(Below.refl w2.heap.size w2).alloc (zn _) (.cells (qtC ⟨v.num,t,0,kp,a,ns,d,0,0⟩ (.slice A2 ns.length ns.length)) 32)
  have hB3:=hB2.on hal
  have hns3:=hns
  have hz1:=Z0A ⟨v.num,t,0,kp,a,ns,d,0,0⟩ A2 ns.length ns.length
  simp only [qtC] at hn1 hB3 hz1 hns3
  have HB2:=zh hB2;have HR2:=zh hr2;have HN1:=zh hn1;have HB3:=zh hB3;have HNSB:=zh hns3;have HPO:=zh hpo;have HRG:=zh hrg;clear hB2 hr2 hn1 hB3 hns3 hpo hrg HB0 HPR HPOS HFCT HNE hb2 hal hns;go_wp2_with (refine Z0t rfl _ _ rfl _ _ rfl rfl rfl rfl hz1 ?_)
  generalize hw3:w2.alloc (.cells #[.int .i64 v.num,.int .i64 t,.int .i64 0,.int .i64 kp,.int .i64 a.kind,.int .i64 a.fr,.int .i64 a.un,.int .i64 a.pers,.slice A2 ns.length ns.length,.int .u64 (d:Nat),.int .i64 0,.int .i64 0] 32)=w3 at *
  have hb3:Below w2.heap.size w2 w3:=by rw [← hw3];exact (Below.refl w2.heap.size w2).alloc (zn _) _
  clear hw3;go_loopw [38] (fun i wr=>∃ k:Nat,k≤ns.length∧i=.int .i64 k∧Below w2.heap.size w2 wr∧QtB wr w2.heap.size ⟨v.num,t,(ns.take k).sum,kp,a,ns,d,0,0⟩ (.slice A2 ns.length ns.length)) (fun i _=>ns.length - (intOf i).toNat)
  case atStart=>exact ⟨0,Nat.zero_le _,rfl,hb3,HN1.out⟩
  case round =>
   clear HN1 hb3;obtain ⟨k,hk,rfl,hbr,hq⟩:=hrel
   have hB4:PlB w v (.slice A v.rs.length c) a (qtC Qt.zero (.slice none 0 0)) wr:=PlB.far HB2.out (hbr.mono (by omega))
   have hq':wr.heap[w2.heap.size]?=_:=hq
   have c2:wr.cell? ⟨w2.heap.size,2,none⟩=some (.int .i64 (ns.take k).sum):=by rw [zc hq'];rfl
   have f2:wr.frozen? ⟨w2.heap.size,2,none⟩=false:=by simp [World.frozen?,hq']
   obtain ⟨s0,s1⟩:=HRG.out k
   by_cases hlt:k<ns.length
   · have hI:Z02 wr w2.heap.size (.slice A2 ns.length ns.length) ns:=(HNSB.out).on hbr
     obtain ⟨b,o,rfl,hbl,hcc⟩:=Z5b hI (by intro e;rw [e] at hlt;simp at hlt)
     have ck:=hcc k hlt
     have hsn:=Zkc ns k hlt
     obtain ⟨x0,x1⟩:=HPO.out _ (List.getElem_mem hlt)
     have hset:=hq.set2 ((ns.take k).sum+ns[k])
     have hbS:=hbr.setCell (p:=⟨w2.heap.size,2,none⟩) (zn _) (.int .i64 ((ns.take k).sum+ns[k]))
     have dk:decide ((k:Int)<(ns.length:Int))=true:=by simpa using hlt
     generalize ns[k]=x at *
     generalize (ns.take k).sum=S at *
     have hw:IntKind.i64.wrap (S+x)=S+x:=IntWalk.i64_in _ (by omega)
     have HSET:=zh hset;have HBS:=zh hbS;have HSN:=zh hsn;have HBR:=zh hbr;have HB4:=zh hB4;clear hset hbS hsn hbr hB4 hcc hq hq' hI;go_wp2_with fail;go_roundw
     case rel=>exact ⟨k+1,by omega,by go_num,HBS.out,by rw [HSN.out];exact HSET.out⟩
     case measure=>simp [intOf];omega
   · have hke:k=ns.length:=by omega
     subst hke;have dk:decide ((ns.length:Int)<(ns.length:Int))=false:=by simp
     rw [List.take_length] at hq' c2
     have hI0:Z02 wr w2.heap.size (.slice A2 ns.length ns.length) ns:=(HNSB.out).on hbr
     have hset:=hB4.setRow (qtC ⟨v.num,t,ns.sum,kp,a,ns,d,0,0⟩ (.slice A2 ns.length ns.length))
     have hres:=Zmd (er:=0) hset
     have hz1:=Z0A ⟨v.num,t,ns.sum,kp,a,ns,d,0,0⟩ A2 ns.length ns.length
     have hr4:wr.heap[w.heap.size+1+1]?=_:=hB4.r
     have hI:Z02 (wr.setRow (w.heap.size+1+1) (qtC ⟨v.num,t,ns.sum,kp,a,ns,d,0,0⟩ (.slice A2 ns.length ns.length))) w2.heap.size (.slice A2 ns.length ns.length) ns  := hI0.setRow' hfr
     have hsz:w2.heap.size≤(wr.setRow (w.heap.size+1+1) (qtC ⟨v.num,t,ns.sum,kp,a,ns,d,0,0⟩ (.slice A2 ns.length ns.length))).heap.size:=by rw [Z3x];exact hbr.size
     simp only [qtC,Qt.zero] at hq' hset hres hz1 hr4 hI hsz
     have HSET:=zh hset;have HRES:=zh hres;have HR4:=zh hr4;have HQ:=zh hq';have HI:=zh hI;have HB4:=zh hB4;have HBR:=zh hbr;clear hset hres hr4 hq' hI hB4 hbr hq;go_wp2_with (first | (with_reducible refine Z0x rfl _ rfl w2.heap.size rfl _ rfl _ HQ.out ?_) | (refine Z4c rfl _ _ rfl (w.heap.size+1+1) _ _ rfl rfl HR4.out rfl rfl hz1 ?_))
     refine bodyPost_ret (v:=.tuple #[.agg (qtC ⟨v.num,t,ns.sum,kp,a,ns,d,0,0⟩ (.slice A2 ns.length ns.length)),.int .i64 0]) (HRES.out _ rfl rfl) rfl ?_
     exact ⟨HSET.out.b,A2,rfl,HI.out.up hsz,fun p e=>by have:=hfr p e;omega⟩
end
end Go.Proofs.YtnepkoepbapgeaaGreatDoor
