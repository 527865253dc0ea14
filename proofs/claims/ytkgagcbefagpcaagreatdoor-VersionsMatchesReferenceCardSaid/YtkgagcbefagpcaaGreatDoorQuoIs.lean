import Derived.Test.YtkgagcbefagpcaaGreatDoorQuoDgt
namespace Go.Proofs.YtkgagcbefagpcaaGreatDoor
open _root_.Go.Proofs.Tryz
open Value (int slice)
open IntKind (i64)
set_option maxHeartbeats 16000000
set_option maxRecDepth 100000
section
open Lx Px
namespace Qx
theorem Zs7 {v:Vr}{a:Ask}{t s o:Int}(G:v.okB=true)(B:a.okB=true)(F:Z18 t=true)(D:secB s=true)(C:secB o=true)(H:v.time<=t) : Z6D v a t s o=match Z1j v a t with
  | .error e=>(.zero,e)
  | .ok q=>({ q with sE:=sigE s.toNat o.toNat q.says,sS:=sigS s.toNat o.toNat q.says },0):=by
 unfold Z6D;rw [G,B,F,D,C];simp only [Bool.and_self,if_true];rw [zf (by omega)];cases Z1j v a t <;> rfl
theorem Zi0 {v:Vr}{a:Ask}{t s o:Int}{q:Qt}(h:Z6D v a t s o=(q,0)):Z0C v q (powP 4 s.toNat:Nat)=(true,0):=by
 obtain ⟨J,C,O,Y,X,I,w,hw,B⟩:=Z9j h;obtain ⟨V,H,M,S,T,U⟩:=Z7q hw;have D:q.ask=a:=by rw [B];exact M
 have G:q.time=t:=by rw [B];exact H
 have R:q.sE=(sigE s.toNat o.toNat w.says:Int):=by rw [B]
 have L:q.sS=(sigS s.toNat o.toNat w.says:Int):=by rw [B]
 have F:q.says=w.says:=by rw [B];rfl
 have N:q.same w=true:=by rw [Qt.same_iff,B];simp
 unfold Z0C;rw [J,ZmD _ (ZmE _),D,G,C,O,hw];simp only [Bool.and_self,if_true,Bool.true_and,decide_eq_true_eq,zp I,Prod.mk.injEq,and_true];rw [N,R,L,F,zB,Zsz];rfl
theorem Zem {v:Vr}{a:Ask}{t s o:Int}{q x:Qt}{p:Int}(h:Z6D v a t s o=(q,0))(I:x.ask=q.ask)(J:x.time=q.time)(S:x.same q=false)(N:memB p=true):Z0C v x p=(false,0):=by
 obtain ⟨L,C,R,Z,Y,H,w,hw,B⟩:=Z9j h;obtain ⟨X,G,M,T,U,V⟩:=Z7q hw;have D:x.ask=a:=by rw [I,B];exact M
 have F:x.time=t:=by rw [J,B];exact G
 have O:x.same w=false:=by rw [<- S,B,zA,Qt.same_iff,Qt.same_iff]
 unfold Z0C;rw [L,N,D,F,C,R,hw];simp only [Bool.and_self,if_true,Bool.true_and,decide_eq_true_eq,zp H,Prod.mk.injEq,and_true];rw [O];rfl
theorem ZkF (l:List Rt)(r:Rt):Z1C (l++[r])=Z1C l++(r.text++[10]):=by simp [Z1C]
end Qx
end
section
open Lx Px
namespace Qx
theorem Z64 (l:List Rt)(a:Ask):∀ (k:Nat) (n:Int),Z0a l a (k+1) n=match Z0a l a k n with
 | .error e=>.error e
 | .ok (cs,B)=>match Z0i l a (n+k) with
  | .no e=>.error e
  | .ok c r=>.ok (cs++[c],B+Z8a c r):=by
 intro k;induction k with
 | zero =>
  intro n;simp only [Z0a,zn2];rw [show n+((0:Nat):Int)=n by omega];cases Z0i l a n with
  | no e=>rfl
  | ok c r=>simp
 | succ k ih =>
  intro n;have C:Z0a l a (k+1+1) n=match Z0i l a n with
   | .no e=>.error e
   | .ok c r=>match Z0a l a (k+1) (n+1) with
    | .error e=>.error e
    | .ok (cs,B)=>.ok (c::cs,Z8a c r+B):=rfl
  have D:Z0a l a (k+1) n=match Z0i l a n with
   | .no e=>.error e
   | .ok c r=>match Z0a l a k (n+1) with
    | .error e=>.error e
    | .ok (cs,B)=>.ok (c::cs,Z8a c r+B):=rfl
  rw [C,D,ih (n+1),show n+1+(k:Int)=n+((k+1:Nat):Int) by omega];cases Z0i l a n with
  | no e=>rfl
  | ok c r =>
   simp only;cases Z0a l a k (n+1) with
   | error e=>rfl
   | ok p =>
    obtain ⟨cs,B⟩:=p;simp only;cases Z0i l a (n+((k+1:Nat):Int)) with
    | no e=>rfl
    | ok c' r'=>simp [Int.add_assoc]
theorem Z9d (l:List Rt)(a:Ask)(n:Int)(k:Nat){e:Int}(h:Z0a l a k n=.error e):∀ j,Z0a l a (k+j) n=.error e:=by
 intro j;induction j with
 | zero=>exact h
 | succ j ih=>rw [<- Nat.add_assoc,Z64,ih]
theorem Zag {l:List Rt}{a:Ask}{k:Nat}{n:Int}{cs:List Int}{B:Int}(D:∀ r∈l,Z17 r=0)(h:Z0a l a k n=.ok (cs,B)):cs.length=k/\0<=B/\B<=cs.sum/\cs.sum<=k*1000000000:=by
 obtain ⟨H,C,G,F,_⟩:=Zda D _ _ _ _ h;exact ⟨H,C,G,F⟩
end Qx
end
section
open Go.RowKit Lx Px Qx
theorem Z8j {w:World}{base n:Nat}{e:TypeId}{v:Value}{l:List Int}(h:w.ownsRow base e 1 v n (l.map (.int .i64)))(F:n=l.length):∃ A c,v=slice A l.length c/\l.length<=c:=by
 subst F;rcases h.2 with ⟨B,C⟩ | ⟨g,cap,G,B,_,_,D,_⟩
 . exact ⟨none,0,by rw [B,C],by omega⟩
 . exact ⟨_,cap,B,D⟩
def PcL (w:World)(l:List Rt)(a:Qx.Ask)(K:Nat)(v kp sm nt:Value)(wr:World):Prop := ∃ (k:Nat) (cs:List Int) (q:Int),k<=K/\nt=vI (a.fr+k)/\kp=vI q/\sm=vI cs.sum/\Z0a l a k a.fr=.ok (cs,q)/\wr.ownsRow (w.heap.size+1) 3 1 v cs.length (cs.map (.int .i64)) /\ Below w.heap.size w wr/\wr.heap[w.heap.size]?=some (.cells #[vI a.kind,vI a.fr,vI a.un,vI a.pers] 25 (0,0))
def PriceC (x:Except Int (List Int × Int))(w:World)(e:Ending)(w':World):Prop := Below w.heap.size w w'/\match x with
  | .ok (cs,kp)=>∃ A,e=.returned (.tuple #[slice A cs.length cs.length,vI kp,vI 0])/\Z03 w' w'.heap.size (slice A cs.length cs.length) cs/\∀ p,A=some p->w.heap.size<=p.block
  | .error er=>e=.returned (.tuple #[slice none 0 0,vI 0,vI er])
theorem ZkG (l:List Rt)(v:Value)(a:Qx.Ask)(w:World)(hv:RtsV w w.heap.size v l):Calls prog 62 #[v,askV a] w (PriceC (Z0c l a) w):=by
 obtain ⟨A,c,rfl,_⟩:=id hv;have hP:Z0c l a=if useB l&&a.okB then (match Z0a l a (a.un - a.fr).toNat a.fr with | .error e=>.error e | .ok (cs,kp)=>if 1000000000<cs.sum then .error 3 else .ok (cs,kp)) else .error 1:=rfl;have HV:=zh hv;have B:=zh (za w (.cells #[vI a.kind,vI a.fr,vI a.un,vI a.pers] 25));have C:=zh ((zr w.heap.size w).alloc (zn _) (.cells #[vI a.kind,vI a.fr,vI a.un,vI a.pers] 25));have Z:=zh hP;clear hv hP;dsimp only [askV];go_enter func62,ntmps62;go_wp2_with fail;generalize w.alloc (.cells #[vI a.kind,vI a.fr,vI a.un,vI a.pers] 25)=w1 at *
 refine (Zam l (slice A l.length c) w1 ((HV.o.on C.o).up C.o.size)).mono ?_;rintro e m ⟨rfl,bh⟩;have bJ:=(bh.block _ (zF2.1 B.o).1).trans B.o;have bs:=Z00 C.o bh;clear bh B C;have B:=zh bJ;have C:=zh bs;clear bJ bs;cases hu:useB l with
 | false =>
  have R:Z0c l a=.error 1:=by rw [Z.o,hu];rfl
  have U:=zh R;clear R Z hu;go_wp2_with fail;refine bodyPost_ret (v:=.tuple #[slice none 0 0,vI 0,vI 1]) (by simp [results,results62,go_sem]) rfl ?_;rw [U.o];exact ⟨C.o,rfl⟩
 | true =>
  have a0:m.cell? ⟨w.heap.size,0,none⟩=some (vI a.kind):=by rw [zH B.o];rfl
  have a1:m.cell? ⟨w.heap.size,1,none⟩=some (vI a.fr):=by rw [zH B.o];rfl
  have a2:m.cell? ⟨w.heap.size,2,none⟩=some (vI a.un):=by rw [zH B.o];rfl
  have a3:m.cell? ⟨w.heap.size,3,none⟩=some (vI a.pers):=by rw [zH B.o];rfl
  have bn:=λW=>Zmc a W;simp only [askV] at bn;have bB:=zh bn;clear bn;go_wp2_with fail;refine (bB.o m).mono ?_;rintro e w3 ⟨rfl,bd⟩;have bC:=(bd.block _ (zF2.1 B.o).1).trans B.o;have bA:=Z00 C.o bd;clear bd B C a0 a1 a2 a3 bB;have B:=zh bC;have C:=zh bA;clear bC bA;cases hok:a.okB with
  | false =>
   have R:Z0c l a=.error 1:=by rw [Z.o,hu,hok];rfl
   have U:=zh R;clear R Z hu hok;go_wp2_with fail;refine bodyPost_ret (v:=.tuple #[slice none 0 0,vI 0,vI 1]) (by simp [results,results62,go_sem]) rfl ?_;rw [U.o];exact ⟨C.o,rfl⟩
  | true =>
   obtain ⟨z1,z2,z3,z4,_⟩:=Z1w hok;obtain ⟨_,bQ,_⟩:=(Z1A l).1 hu;obtain ⟨K,hK⟩:∃ K,(a.un - a.fr).toNat=K:=⟨_,rfl⟩
   have R:Z0c l a=(match Z0a l a K a.fr with | .error e=>.error e | .ok (cs,kp)=>if 1000000000<cs.sum then .error 3 else .ok (cs,kp)):=by rw [Z.o,hu,hok,hK];rfl
   have cf:(K:Int)=a.un - a.fr:=by omega
   have a1:w3.cell? ⟨w.heap.size,1,none⟩=some (vI a.fr):=by rw [zH B.o];rfl
   obtain ⟨U,HU,b7,be⟩:=zh4 R hu hok bQ;clear R hu hok bQ Z hK;go_wp2_with fail;go_loopw [4,5,7,8] (λv kp sm nt wr=>PcL w l a K v kp sm nt wr) (λ_ _ _ nt _=>(a.un - intOf nt).toNat)
   case atStart=>exact ⟨0,[],0,Nat.zero_le _,by simp,rfl,rfl,rfl,World.ownsRow_nil _ _ _ _,C.o,B.o⟩
   case round =>
    clear a1;obtain ⟨k,cs,q,hk,rfl,rfl,rfl,F,I,N,T⟩:=hrel;have b0:wr.cell? ⟨w.heap.size,0,none⟩=some (vI a.kind):=by rw [zH T];rfl
    have b1:wr.cell? ⟨w.heap.size,1,none⟩=some (vI a.fr):=by rw [zH T];rfl
    have b2:wr.cell? ⟨w.heap.size,2,none⟩=some (vI a.un):=by rw [zH T];rfl
    have b3:wr.cell? ⟨w.heap.size,3,none⟩=some (vI a.pers):=by rw [zH T];rfl
    obtain ⟨X,q0,q1,q2⟩:=Zag be.o F;have M:=Z64 l a k a.fr;rw [F] at M;dsimp only at M;have cb:w.heap.size<wr.heap.size:=(zF2.1 T).1;by_cases hlt:k<K
    . have dl:decide (a.fr+(k:Int)<a.un)=true:=by simp;omega
      have bj:=Zhw l (slice A l.length c) a (a.fr+k) wr ((HV.o.on N).up N.size) HU.o b7.o (by omega) (by omega);simp only [askV] at bj;have bv:(∃ e,Z0i l a (a.fr+k)=.no e/\e≠0)\/(∃ c r,Z0i l a (a.fr+k)=.ok c r):=by
       cases D:Z0i l a (a.fr+k) with
       | no e=>exact .inl ⟨e,rfl,λh=>Z9j.night_err_ne (by rw [D,h])⟩
       | ok c r=>exact .inr ⟨c,r,rfl⟩
      obtain ⟨bb,bg,HNS,d,L,bq,Y,bc⟩:=zh8 bj bv F I N T M X;clear bj bv F I N T M X;go_wp2_with fail;refine bb.o.mono ?_;intro e G hh;rcases bg.o with ⟨er,D,bD⟩ | ⟨H,r,D⟩
      . rw [D] at hh;obtain ⟨S,rfl⟩:=hh;have V:=Z00 L.o S;have bF:=V.alloc V.size (.cells Z24 81);have ch:(er != 0)=true:=by simpa using bD
        have hE:Z0a l a K a.fr=.error er:=by
         have h1:Z0a l a (k+1) a.fr=.error er:=by rw [Y.o,D]
         have h2:=Z9d l a a.fr (k+1) h1 (K - (k+1));rwa [show k+1+(K - (k+1))=K by omega] at h2
        have J:Z0c l a=.error er:=by rw [U.o,hE]
        have b6:=Z6n;have f:=zh J;have bW:=zh bF;clear J bF bg HNS d L bq Y bb bD hE D V S b0 b1 b2 b3;go_wp2_with (with_reducible refine Z3u rfl _ _ rfl _ Z24 rfl rfl rfl rfl b6 ?_);refine bodyPost_ret (v:=.tuple #[slice none 0 0,vI 0,vI er]) (by simp [results,results62,go_sem]) rfl ?_;rw [f.o];exact ⟨bW.o,rfl⟩
      . rw [D] at hh;obtain ⟨S,O,pv,bT,rfl⟩:=hh;obtain ⟨n0,n1,ba⟩:=Z6y D;obtain ⟨_,_,_,_,_,_,_,_,_,_,_,bm,bY,bV,_,_,_⟩:=Z3e (Z12 (be.o r ba));obtain ⟨cm,ce⟩:=Z66 n0 (Z12 (be.o r ba));have bk:=λW=>Zkj H r.kn r.kq W n0 n1 bm bY bV;have bM:Z8a H r=rndE (H*r.kn) r.kq:=rfl;rw [<- bM] at bk;clear bM;have br:Z0a l a (k+1) a.fr=.ok (cs++[H],q+Z8a H r):=by rw [Y.o,D]
        have V:=Z00 L.o S;have bz:=(S.block _ cb).trans bq.o;have bG:=Z2u d.o S;have cj:=S.size;have bf:=za G (.cells (rtC ⟨r,O,pv⟩) 81);have c8:(G.alloc (.cells (rtC ⟨r,O,pv⟩) 81)).cell? ⟨G.heap.size,8,none⟩=some (vI r.kn):=by rw [zH bf];rfl
        have c9:(G.alloc (.cells (rtC ⟨r,O,pv⟩) 81)).cell? ⟨G.heap.size,9,none⟩=some (vI r.kq):=by rw [zH bf];rfl
        have bu:=V.alloc V.size (.cells (rtC ⟨r,O,pv⟩) 81);have bx:=Z0w bz (.cells (rtC ⟨r,O,pv⟩) 81);have bP:=Z2u bG ((zr G.heap.size G).alloc (zn _) (.cells (rtC ⟨r,O,pv⟩) 81));generalize Z8a H r=pt at *
        obtain ⟨bU,b5,bO,bL,bE,cg,ck,HN⟩:=zh8 bk br bu bx bP bm ba D;clear bk br bu bx bP bm ba D bg HNS d L bq Y bb V S bz bG bf b0 b1 b2 b3;go_wp2_with (with_reducible refine Z3u rfl _ _ rfl _ (rtC ⟨r,O,pv⟩) rfl rfl rfl rfl bT ?_);generalize bI:G.alloc (.cells (rtC ⟨r,O,pv⟩) 81)=w5 at *
        have cr:G.heap.size<w5.heap.size:=by rw [<- bI];simp
        clear bI;refine (bU.o w5).mono ?_;rintro e w6 ⟨rfl,j⟩;have bK:=Z00 bO.o j;have bH:=(j.block _ (by omega)).trans bL.o;have bp:=Z2u bE.o j;have cn:=j.size;obtain ⟨y,c6,rfl,_⟩:=Z8j bp rfl;obtain ⟨b9,ca,bN⟩:=zh3 bK bH bp;clear bK bH bp bO bL bE j c8 c9;go_wp2_with (at_builtin;refine Z2t _ rfl _ _ rfl (w.heap.size+1) _ cs rfl (bN.o.alloc _) w6.heap.size H rfl (by simp [go_sem]) (by have:=bc.o;omega) (by simp;omega) ?_;intro v' w7 b4 bR);have bt:∀ g,(Value.slice y cs.length c6).ownBlock=some g->w.heap.size+1<=g:=λg e=>(bN.o.lt g e).1;have cd:Below w.heap.size w w7:=(b9.o.alloc (by omega) (.cells #[vI H] 3)).grown bR (by simp;omega) (λg e=>by have:=bt g e;omega);have bZ:=(bR.block w.heap.size (by simp;omega) (λe=>by have:=bt _ e.symm;omega)).trans (Z0w ca.o _);go_roundw
        case rel=>exact ⟨k+1,cs++[H],q+pt,by omega,by go_num,rfl,by simp,b5.o,b4,cd,bZ⟩
        case measure=>simp [intOf];omega
    . have b8:k=K:=by omega
      subst b8;have dl:decide (a.fr+(k:Int)<a.un)=false:=by simp;omega
      obtain ⟨y,c6,rfl,bX⟩:=Z8j I rfl;have hI:=Z03.own I rfl;by_cases hs:1000000000<cs.sum
      . have ds:decide (cs.sum > 1000000000)=true:=by simpa using hs
        have J:Z0c l a=.error 3:=by rw [U.o,F];exact zp hs
        obtain ⟨f,L,d,HNS,Y,HI,HS,bc⟩:=zh8 J N I F M hI hs X;clear J N I F M hI hs X;go_wp2_with fail;refine bodyPost_ret (v:=.tuple #[slice none 0 0,vI 0,vI 3]) (by simp [results,results62,go_sem]) rfl ?_;rw [f.o];exact ⟨L.o,rfl⟩
      . have ds:decide (cs.sum > 1000000000)=false:=by simpa using hs
        have J:Z0c l a=.ok (cs,q):=by rw [U.o,F];exact zf hs
        obtain ⟨f,L,d,HNS,Y,HI,HS⟩:=zh7 J N I F M hI hs;have bS:=zh (λW=>Zpr cs y c6 W bX);have bc:=zh X;clear J N I F M hI hs X;go_wp2_with fail;refine (bS.o _).mono ?_;rintro e w' ⟨rfl,rfl⟩;go_wp2_with fail;refine bodyPost_ret (v:=.tuple #[slice y cs.length cs.length,vI q,vI 0]) (by simp [results,results62,go_sem]) rfl ?_;rw [f.o];refine ⟨L.o,y,rfl,?_,λp e=>by have:=(d.o.lt p.block (by rw [e];rfl)).1;omega⟩;obtain ⟨A',c',e,hA⟩:=HI.o;injection e with e1 _ e3
        subst e1;exact ⟨_,_,rfl,hA⟩
end
section
open Go.RowKit Lx Px Qx
namespace Qx
theorem Zs8 (r:Rt)(a:Ask)(B:Int)(h:apR r a B<0) : -(apR r a B)=3 \/ -(apR r a B)=22:=by
 unfold apR at h |-
 split at h
 . rename_i C;rw [zp C];cases hv:valE (Z0t a B) (r.wo,r.wn) r.wl with
   | ok n d=>rw [hv] at h;dsimp only at h;split at h <;> omega
   | no e=>rcases Z3B hv with rfl | rfl <;> simp
 . omega
theorem Zpx {a:Ask}{B:Int}:∀ (l:List Rt) (o:Option Rt) {e:Int},Z2b a B o l=.error e->e=3\/e=22:=by
 intro l;induction l with
 | nil=>intro o e h;simp [Z2b] at h
 | cons r l ih =>
  intro o e h;rw [Z2b] at h;split at h
  . rename_i C;simp only [Except.error.injEq] at h;rw [<- h];exact Zs8 r a B C
  . exact ih _ h
theorem ZkH {l:List Rt}{a:Ask}{B e:Int}(h:Z0i l a B=.no e):e=3\/e=4\/e=22:=by
 unfold Z0i at h;cases hb:Z2b a B none l with
 | error e' =>rw [hb] at h;simp only [N.no.injEq] at h;subst h;rcases Zpx l none hb with h | h <;> omega
 | ok o =>
  rw [hb] at h;cases o with
  | none=>simp only [N.no.injEq] at h;omega
  | some r =>
   dsimp only at h;cases hv:valE (Z0t a B) (r.po,r.pn) r.pl with
   | no e' =>rw [hv] at h;simp only [N.no.injEq] at h;subst h;rcases Z3B hv with h | h <;> omega
   | ok n d =>
    rw [hv] at h;dsimp only at h;split at h
    . simp only [N.no.injEq] at h;omega
    . cases h
theorem Zi1 {l:List Rt}{a:Ask}:∀ (k:Nat) (n:Int) {e:Int},Z0a l a k n=.error e->e=3\/e=4\/e=22:=by
 intro k;induction k with
 | zero=>intro n e h;simp [Z0a] at h
 | succ k ih =>
  intro n e h;rw [Z0a] at h;cases hn:Z0i l a n with
  | no e'=>rw [hn] at h;simp only [Except.error.injEq] at h;subst h;exact ZkH hn
  | ok c r =>
   rw [hn] at h;dsimp only at h;cases hr:Z0a l a k (n+1) with
   | error e'=>rw [hr] at h;simp only [Except.error.injEq] at h;subst h;exact ih _ hr
   | ok p=>rw [hr] at h;cases h
theorem Z4H {l:List Rt}{a:Ask}{e:Int}(h:Z0c l a=.error e):e≠0/\(useB l=true->a.okB=true->e≠1)/\(a.okB=false->e=1):=by
 unfold Z0c at h;split at h
 . rename_i B;rw [zd] at B;cases hn:Z0a l a (a.un - a.fr).toNat a.fr with
   | error e' =>rw [hn] at h;simp only [Except.error.injEq] at h;subst h;have:=Zi1 _ _ hn;exact ⟨by omega,λ_ _=>by omega,λh=>by rw [B.2] at h;cases h⟩
   | ok p =>
    rw [hn] at h;obtain ⟨cs,C⟩:=p;dsimp only at h;split at h
    . simp only [Except.error.injEq] at h;subst h;exact ⟨by omega,λ_ _=>by omega,λh=>by rw [B.2] at h;cases h⟩
    . cases h
 . rename_i B;simp only [Except.error.injEq] at h;subst h;exact ⟨by omega,λh1 h2=>absurd (by rw [h1,h2];rfl) B,λ_=>rfl⟩
theorem Z6s {l:List Rt}{a:Ask}{ns:List Int}{C:Int}(h:Z0c l a=.ok (ns,C)):ns.length<=60:=by
 obtain ⟨D,_⟩:=Z3t h;obtain ⟨_,B,_⟩:=Z8m h;simp [Ask.okB] at B;omega
end Qx
def PlaP (x:Except Int (List Int × Int))(v:Vr)(a:Qx.Ask)(t:Int)(d:Nat)(w:World)(e:Ending)(w':World):Prop := Below w.heap.size w w'/\match x with
  | .ok (ns,kp)=>∃ A,e=.returned (.tuple #[.agg (qtC ⟨v.num,t,ns.sum,kp,a,ns,d,0,0⟩ (slice A ns.length ns.length)),vI 0])/\Z03 w' w'.heap.size (slice A ns.length ns.length) ns/\∀ p,A=some p->w.heap.size<=p.block
  | .error er=>e=.returned (.tuple #[.agg (qtC Qt.zero (slice none 0 0)),vI er])
structure PlB (w:World) (v:Vr) (rv:Value) (a:Qx.Ask) (R:Array Value) (W:World):Prop where
 v:W.heap[w.heap.size]?=some (.cells #[vI v.num,vI v.time,rv] 36 (0,0))
 a:W.heap[w.heap.size+1]?=some (.cells #[vI a.kind,vI a.fr,vI a.un,vI a.pers] 25 (0,0))
 r:W.heap[w.heap.size+2]?=some (.cells R 66 (0,0))
 b:Below w.heap.size w W
theorem PlB.on {w W B:World}{v:Vr}{rv:Value}{a:Qx.Ask}{R:Array Value}(h:PlB w v rv a R W)(hb:Below W.heap.size W B):PlB w v rv a R B := ⟨(hb.block _ (zF2.1 h.v).1).trans h.v,(hb.block _ (zF2.1 h.a).1).trans h.a,(hb.block _ (zF2.1 h.r).1).trans h.r,Z00 h.b hb⟩
theorem PlB.far {w W B:World}{v:Vr}{rv:Value}{a:Qx.Ask}{R:Array Value}(h:PlB w v rv a R W)(hb:Below (w.heap.size+3) W B):PlB w v rv a R B := ⟨(hb.block _ (by omega)).trans h.v,(hb.block _ (by omega)).trans h.a,(hb.block _ (by omega)).trans h.r,h.b.trans (hb.mono (by omega))⟩
theorem PlB.new (w:World)(v:Vr)(rv:Value)(a:Qx.Ask)(R:Array Value):PlB w v rv a R (((w.alloc (.cells #[vI v.num,vI v.time,rv] 36)).alloc (.cells #[vI a.kind,vI a.fr,vI a.un,vI a.pers] 25)).alloc (.cells R 66)):=by
 refine ⟨?_,?_,?_,(((zr _ _).alloc (zn _) _).alloc (by simp) _).alloc (by simp;omega) _⟩
 all_goals repeat (first | (refine Z8g ?_;first | rfl | (simp only [zk];done) | (simp only [zk];omega)) | (refine Z5i ?_ ?_;· (simp only [zk];omega)))
theorem PlB.cells {w W:World}{v:Vr}{rv:Value}{a:Qx.Ask}{R:Array Value}(h:PlB w v rv a R W):W.cell? ⟨w.heap.size,0,none⟩=some (vI v.num)/\W.cell? ⟨w.heap.size,2,none⟩=some rv /\ W.cell? ⟨w.heap.size+1,0,none⟩=some (vI a.kind)/\W.cell? ⟨w.heap.size+1,1,none⟩=some (vI a.fr)/\W.cell? ⟨w.heap.size+1,2,none⟩=some (vI a.un)/\W.cell? ⟨w.heap.size+1,3,none⟩=some (vI a.pers):=by
 refine ⟨?_,?_,?_,?_,?_,?_⟩
 . rw [zH h.v];rfl
 . rw [zH h.v];rfl
 . rw [zH h.a];rfl
 . rw [zH h.a];rfl
 . rw [zH h.a];rfl
 . rw [zH h.a];rfl
theorem PlB.setRow {w W:World}{v:Vr}{rv:Value}{a:Qx.Ask}{R:Array Value}(h:PlB w v rv a R W)(R':Array Value):PlB w v rv a R' (W.setRow (w.heap.size+1+1) R') := ⟨(Z05 _ _ _ _ (by omega)).trans h.v,(Z05 _ _ _ _ (by omega)).trans h.a,setRow_heap _ _ R R' _ _ h.r,Z3A h.b (by omega) _⟩
theorem Z03.setRow' {w W:World}{B:Nat}{A:Option Addr}{k c:Nat}{l:List Int}{R:Array Value}(h:Z03 W B (slice A k c) l)(F:∀ p,A=some p->w.heap.size+3<=p.block):Z03 (W.setRow (w.heap.size+1+1) R) B (slice A k c) l:=by
 obtain ⟨H,c',e,D⟩:=h;injection e with C e2 e3
 subst C e2 e3;refine ⟨A,c,rfl,λhl=>?_⟩;obtain ⟨b,o,C,hb,G⟩:=D hl;have:=F _ C;exact ⟨b,o,C,hb,λi hi=>(World.cell?_of_block (a:=⟨b,o+i,none⟩) (Z05 _ _ _ _ (by show b≠_;dsimp only at this;omega))).trans (G i hi)⟩
def QtB (w:World)(p:Nat)(q:Qt)(nv:Value):Prop:=w.heap[p]?=some (.cells (qtC q nv) 31 (0,0))
theorem QtB.set2 {w:World}{p:Nat}{q:Qt}{B:Value}(h:QtB w p q B)(x:Int):QtB (w.setCell ⟨p,2,none⟩ (vI x)) p { q with total:=x } B:=by
 have C:w.heap[p]?=_:=h;unfold qtC at C;simp [QtB,World.setCell,zM,C,qtC]
theorem Zg8 (l:List Int)(k:Nat)(h:k<l.length):(l.take (k+1)).sum=(l.take k).sum+l[k]:=by
 rw [zT h,List.sum_append];simp
theorem Zm0 {l:List Int}(h:∀ x∈l,0<=x)(C:l.sum<=1000000000)(k:Nat):0<=(l.take k).sum/\(l.take k).sum<=1000000000:=by
 have B:=(Zaj (l.take k) (λx hx=>h x (List.mem_of_mem_take hx))).1;have F:=(Zaj (l.drop k) (λx hx=>h x (List.mem_of_mem_drop hx))).1;have D:l.sum=(l.take k).sum+(l.drop k).sum:=by conv=>lhs;rw [<- List.take_append_drop k l];rw [List.sum_append]
 omega
theorem Z0A (q:Qt)(A:Option Addr)(k c:Nat):(qtC q (slice A k c)).all (·.oneCell')=true:=by simp [qtC,Value.oneCell']
theorem ZqE {w W:World}{v:Vr}{rv:Value}{a:Qx.Ask}{q:Qt}{B:Value}{er:Int}(h:PlB w v rv a (qtC q B) W):∀ (tmps:Array Value),tmps[8]?.getD undef=.pointer (some ⟨w.heap.size+1+1,0,none⟩)->tmps[9]?.getD undef=vI er -> (results f38 tmps).run prog W=.ok (.tuple #[.agg (qtC q B),vI er]) W:=by
 intro tmps D H;have S:W.heap[w.heap.size+1+1]?=_:=h.r;have k:=λi v (hv:(qtC q B)[i]?=some v)=>(show W.cell? ⟨w.heap.size+1+1,i,none⟩=some v by rw [zH S,hv])
 have N:=k 0 (vI q.ver) rfl;have C:=k 1 (vI q.time) rfl;have M:=k 2 (vI q.total) rfl;have R:=k 3 (vI q.keep) rfl;have G:=k 4 (vI q.ask.kind) rfl;have O:=k 5 (vI q.ask.fr) rfl;have L:=k 6 (vI q.ask.un) rfl;have J:=k 7 (vI q.ask.pers) rfl;have I:=k 8 B rfl;have F:=k 9 (.int .u64 (q.dig:Nat)) rfl;have U:=k 10 (vI q.sE) rfl;have T:=k 11 (vI q.sS) rfl;simp [results,results38,go_sem,D,H,N,C,M,R,G,O,L,J,I,F,U,T,qtC]
theorem ZcB (v:Vr)(a:Qx.Ask)(t:Int)(d:Nat)(V:Value)(w:World)(hV:VrV w w.heap.size V v) : Calls prog 38 #[V,askV a,vI t,.int .u64 (d:Nat)] w (PlaP (Z0c v.rs a) v a t d w):=by
 obtain ⟨A,c,rfl,hR⟩:=hV;have N:=PlB.new w v (slice A v.rs.length c) a (qtC Qt.zero (slice none 0 0));have Z:=ZkG v.rs (slice A v.rs.length c) a _ ((hR.on N.b).up N.b.size);have bj:=λns C (h:Z0c v.rs a=.ok (ns,C))=>Z6w h;have bg:=λns C (h:Z0c v.rs a=.ok (ns,C))=>Z3t h;have m:=λns C (h:Z0c v.rs a=.ok (ns,C))=>Z6s h;have bh:=λer (h:Z0c v.rs a=.error er)=>(Z4H h).1;unfold vrV;obtain ⟨X,hX⟩:∃ X,Z0c v.rs a=X:=⟨_,rfl⟩
 rw [hX] at Z bj bg bh m |-
 clear hX;obtain ⟨q0,q2,q3,q4,q5,q6⟩:=N.cells;simp only [askV,qtC,Qt.zero] at Z N q0 q2 q3 q4 q5 q6 |-
 obtain ⟨y,g,j,bb,HR,f,bM⟩:=zh7 N Z bj bg hR bh m;clear N Z bj bg hR bh m;go_enter func38,ntmps38;go_wp2_with fail;refine g.o.mono ?_;intro e B T;obtain ⟨ba,T⟩:=T;have G:=y.o.on ba;obtain ⟨q0,q2,q3,q4,q5,q6⟩:=G.cells;have bO:w.heap.size+2<B.heap.size:=(zF2.1 G.r).1;have U:B.heap[w.heap.size+1+1]?=_:=G.r;cases X with
 | error er =>
  dsimp only at T;subst T;have he:=f.o er rfl;have d0:(er != 0)=true:=by simpa using he
  have F:=G.setRow (qtC Qt.zero (slice none 0 0));have I:=Z0A Qt.zero none 0 0;have L:=ZqE (er:=er) F;simp only [qtC,Qt.zero] at F I L;obtain ⟨bt,bA,R,be⟩:=zh4 G U F L;clear G U F L y g j bb f ba he;go_wp2_with (refine Z54 rfl _ _ rfl (w.heap.size+1+1) _ _ rfl rfl bA.o rfl rfl I ?_);refine bodyPost_ret (v:=.tuple #[.agg (qtC Qt.zero (slice none 0 0)),vI er]) (be.o _ rfl rfl) rfl ?_;exact ⟨R.o.b,rfl⟩
 | ok p =>
  obtain ⟨ns,C⟩:=p;obtain ⟨D,rfl,bq,bH⟩:=T;have bk:∀ p,D=some p->w.heap.size+3<=p.block:=λp e=>by have:=bH p e;simpa using this
  have bR:=bM.o ns C rfl;have bd:=j.o ns C rfl;obtain ⟨_,_,_,bC,_⟩:=bb.o ns C rfl;have bm:=Zm0 (l:=ns) (λx hx=>(bd x hx).1) bC;have hn1:=za B (.cells (qtC ⟨v.num,t,0,C,a,ns,d,0,0⟩ (slice D ns.length ns.length)) 31);have bz:=(zr B.heap.size B).alloc (zn _) (.cells (qtC ⟨v.num,t,0,C,a,ns,d,0,0⟩ (slice D ns.length ns.length)) 31);have q:=G.on bz;have bc:=bq;have I:=Z0A ⟨v.num,t,0,C,a,ns,d,0,0⟩ D ns.length ns.length;simp only [qtC] at hn1 q I bc;obtain ⟨bt,bA,bv,bP,br,bJ,bL⟩:=zh7 G U hn1 q bc bd bm;clear G U hn1 q bc bd bm y g j bb f ba bz bq;go_wp2_with (refine Z1g rfl _ _ rfl _ _ rfl rfl rfl rfl I ?_);generalize bB:B.alloc (.cells #[vI v.num,vI t,vI 0,vI C,vI a.kind,vI a.fr,vI a.un,vI a.pers,slice D ns.length ns.length,.int .u64 (d:Nat),vI 0,vI 0] 31)=w3 at *
  have bp:Below B.heap.size B w3:=by rw [<- bB];exact (zr B.heap.size B).alloc (zn _) _
  clear bB;go_loopw [38] (λi wr=>∃ k:Nat,k<=ns.length/\i=vI k/\Below B.heap.size B wr/\QtB wr B.heap.size ⟨v.num,t,(ns.take k).sum,C,a,ns,d,0,0⟩ (slice D ns.length ns.length)) (λi _=>ns.length - (intOf i).toNat)
  case atStart=>exact ⟨0,Nat.zero_le _,rfl,bp,bv.o⟩
  case round =>
   clear bv bp;obtain ⟨k,hk,rfl,H,Y⟩:=hrel;have O:PlB w v (slice A v.rs.length c) a (qtC Qt.zero (slice none 0 0)) wr:=PlB.far bt.o (H.mono (by omega));have J:wr.heap[B.heap.size]?=_:=Y;have c2:wr.cell? ⟨B.heap.size,2,none⟩=some (vI (ns.take k).sum):=by rw [zH J];rfl
   have f2:wr.frozen? ⟨B.heap.size,2,none⟩=false:=by simp [World.frozen?,J]
   obtain ⟨s0,s1⟩:=bL.o k;by_cases hlt:k<ns.length
   . have M:Z03 wr B.heap.size (slice D ns.length ns.length) ns:=(br.o).on H;obtain ⟨b,o,rfl,bQ,bu⟩:=Z4p M (by intro e;rw [e] at hlt;simp at hlt);have ck:=bu k hlt;have bs:=Zg8 ns k hlt;obtain ⟨x0,x1⟩:=bJ.o _ (List.getElem_mem hlt);have F:=Y.set2 ((ns.take k).sum+ns[k]);have bn:=H.setCell (p:=⟨B.heap.size,2,none⟩) (zn _) (vI ((ns.take k).sum+ns[k]));have dk:decide ((k:Int)<ns.length)=true:=by simpa using hlt
     generalize ns[k]=x at *
     generalize (ns.take k).sum=S at *
     have hw:IntKind.i64.wrap (S+x)=S+x:=zi _ (by omega);obtain ⟨R,bE,bF,bN,bD⟩:=zh5 F bn bs H O;clear F bn bs H O bu Y J M;go_wp2_with fail;go_roundw
     case rel=>exact ⟨k+1,by omega,by go_num,bE.o,by rw [bF.o];exact R.o⟩
     case measure=>simp [intOf];omega
   . have bI:k=ns.length:=by omega
     subst bI;have dk:decide ((ns.length:Int)<ns.length)=false:=by simp
     rw [List.take_length] at J c2;have bG:Z03 wr B.heap.size (slice D ns.length ns.length) ns:=(br.o).on H;have F:=O.setRow (qtC ⟨v.num,t,ns.sum,C,a,ns,d,0,0⟩ (slice D ns.length ns.length));have L:=ZqE (er:=0) F;have I:=Z0A ⟨v.num,t,ns.sum,C,a,ns,d,0,0⟩ D ns.length ns.length;have bf:wr.heap[w.heap.size+1+1]?=_:=O.r;have M:Z03 (wr.setRow (w.heap.size+1+1) (qtC ⟨v.num,t,ns.sum,C,a,ns,d,0,0⟩ (slice D ns.length ns.length))) B.heap.size (slice D ns.length ns.length) ns  := bG.setRow' bk;have bx:B.heap.size<=(wr.setRow (w.heap.size+1+1) (qtC ⟨v.num,t,ns.sum,C,a,ns,d,0,0⟩ (slice D ns.length ns.length))).heap.size:=by rw [Z4j];exact H.size
     simp only [qtC,Qt.zero] at J F L I bf M bx;obtain ⟨R,be,bK,HQ,HI,bD,bN⟩:=zh7 F L bf J M O H;clear F L bf J M O H Y;go_wp2_with (first | (with_reducible refine Z0G rfl _ rfl B.heap.size rfl _ rfl _ HQ.o ?_) | (refine Z54 rfl _ _ rfl (w.heap.size+1+1) _ _ rfl rfl bK.o rfl rfl I ?_));refine bodyPost_ret (v:=.tuple #[.agg (qtC ⟨v.num,t,ns.sum,C,a,ns,d,0,0⟩ (slice D ns.length ns.length)),vI 0]) (be.o _ rfl rfl) rfl ?_;exact ⟨R.o.b,D,rfl,HI.o.up bx,λp e=>by have:=bk p e;omega⟩
end
section
open Go.RowKit Lx Px Qx
namespace Qx
theorem ZqF (o b y:Nat)(h:y % 2=1):(o*b % mP)*(b*b % mP) ^ (y / 2) % mP=o*b ^ y % mP:=by
 have B:(b*b % mP) ^ (y / 2) % mP=b ^ (2*(y / 2)) % mP:=by rw [<- Nat.pow_mod,Nat.pow_mul,Nat.pow_two]
 rw [Nat.mul_mod,B];have ex:y=2*(y / 2)+1:=by omega
 conv=>rhs;rw [ex,Nat.pow_succ,show o*(b ^ (2*(y / 2))*b)=o*b*b ^ (2*(y / 2)) by rw [Nat.mul_assoc,Nat.mul_comm (b ^ _) b]]
 rw [Nat.mul_mod (o*b),Nat.mod_mod]
theorem Zm1 (o b y:Nat)(h:y % 2=0):o*(b*b % mP) ^ (y / 2) % mP=o*b ^ y % mP:=by
 have B:(b*b % mP) ^ (y / 2) % mP=b ^ (2*(y / 2)) % mP:=by rw [<- Nat.pow_mod,Nat.pow_mul,Nat.pow_two]
 rw [Nat.mul_mod,B,<- Nat.mul_mod];have ex:2*(y / 2)=y:=by omega
 rw [ex]
end Qx
def SigB (w:World)(p:Nat)(e s:Int):Prop:=w.heap[p]?=some (.cells #[vI e,vI s] 29 (0,0))
theorem SigB.lt {w:World}{p:Nat}{e s:Int}(h:SigB w p e s):p<w.heap.size:=(zF2.1 h).1
theorem SigB.on {w w':World}{p:Nat}{e s:Int}(h:SigB w p e s)(hb:Below w.heap.size w w'):SigB w' p e s:=(hb.block p h.lt).trans h
theorem SigB.cells {w:World}{p:Nat}{e s:Int}(h:SigB w p e s):w.cell? ⟨p,0,none⟩=some (vI e)/\w.cell? ⟨p,1,none⟩=some (vI s)/\w.frozen? ⟨p,0,none⟩=false/\w.frozen? ⟨p,1,none⟩=false:=by
 have B:w.heap[p]?=_:=h;refine ⟨?_,?_,?_,?_⟩
 . rw [zH h];rfl
 . rw [zH h];rfl
 . simp [World.frozen?,B]
 . simp [World.frozen?,B]
theorem SigB.set {w:World}{p:Nat}{e s:Int}(h:SigB w p e s)(e' B:Int):SigB ((w.setCell ⟨p,0,none⟩ (vI e')).setCell ⟨p,1,none⟩ (vI B)) p e' B:=by
 have C:w.heap[p]?=_:=h;simp [SigB,World.setCell,zM,C]
theorem SigB.new (w:World)(e s:Int):SigB (w.alloc (.cells #[vI e,vI s] 29)) w.heap.size e s:=za w _
def witQ (n lo:Int):Bool:=decide (lo<=n)&&decide (n<1073741789)
theorem Z3s (n lo:Int)(w:World):Calls prog 40 #[vI n,vI lo] w λe w'=>e=.returned (.bool (witQ n lo))/\w=w':=by
 unfold witQ;obtain ⟨C,B⟩:∃ b,decide (lo<=n)=b:=⟨_,rfl⟩
 obtain ⟨D,F⟩:∃ b,decide (n<1073741789)=b:=⟨_,rfl⟩
 rw [B,F];cases C <;> cases D
 all_goals go_enter func40,ntmps40;go_wp2_with fail;go_ret;exact ⟨rfl,rfl⟩
theorem ZcC (p x y:Nat)(w:World)(h:IntB w p x)(H:x<mP)(F:y<mP):Calls prog 65 #[.pointer (some ⟨p,0,none⟩),vI y] w λe w'=>e=.returned (.tuple #[])/\IntB w' p ((x*y % mP:Nat):Int)/\But p w w':=by
 unfold mP at H F;have c0:=h.c;have L:=h.fr;have M:(x:Int)*y<2147483579*2147483579:=by have:x*y<=2147483578*2147483578:=Nat.mul_le_mul (by omega) (by omega);have J:((x*y:Nat):Int)=(x:Int)*y:=Int.natCast_mul _ _;omega
 have G:(0:Int)<=x*y:=Int.mul_nonneg (by omega) (by omega);have hw:IntKind.i64.wrap ((x:Int)*y)=(x:Int)*y:=zi _ (by omega);have N:((x:Int)*y).tmod 2147483579=((x*y % mP:Nat):Int):=by rw [Int.tmod_eq_emod_of_nonneg G,<- Int.natCast_mul];unfold mP;omega
 have B:=h.set ((x*y % mP:Nat):Int);have C:=(But.refl p w).set (p:=⟨p,0,none⟩) rfl (vI ((x*y % mP:Nat):Int));generalize ((x*y % mP:Nat):Int)=z at *
 have D:=zh B;have I:=zh C;clear B C h;go_enter func65,ntmps65;go_wp2_with fail;go_end0;exact ⟨rfl,D.o,I.o⟩
theorem Z50 (a x:Nat)(w:World)(ha:a<mP)(hx:x<9223372036854775808):Calls prog 41 #[vI a,vI x] w λe w'=>e=.returned (vI (powP a x:Nat))/\Below w.heap.size w w':=by
 have O:=(zr w.heap.size w).alloc (zn _) (.cells #[vI (a:Int)] 3);have hb:=O.alloc O.size (.cells #[vI 1] 3);have hA:IntB ((w.alloc (.cells #[vI (a:Int)] 3)).alloc (.cells #[vI 1] 3)) w.heap.size (a:Nat):=(IntB.new w (a:Nat)).on ((zr _ _).alloc (zn _) _);have hO:IntB ((w.alloc (.cells #[vI (a:Int)] 3)).alloc (.cells #[vI 1] 3)) (w.heap.size+1) (1:Nat):=by have:=IntB.new (w.alloc (.cells #[vI (a:Int)] 3)) 1;rwa [zk] at this
 have bf:∀ (fn:Fn) (first cap:Array Value) (w:World),(Instr.makeFunc fn first cap).run prog w=.ok (.func fn first cap) w:=λ_ _ _ _=>rfl;obtain ⟨HB,HA,HO⟩:=zh3 hb hA hO;clear hb hA hO O;go_enter func41,ntmps41;go_wp2_with fail;generalize (w.alloc (.cells #[vI (a:Int)] 3)).alloc (.cells #[vI 1] 3)=w1 at *
 go_loopw [1] (λi wr=>∃ o b y:Nat,i=vI (y:Nat)/\y<9223372036854775808/\o<mP/\b<mP/\o*b ^ y % mP=powP a x/\IntB wr w.heap.size (b:Nat)/\IntB wr (w.heap.size+1) (o:Nat)/\Below w.heap.size w wr) (λi _=>(intOf i).toNat)
 case atStart=>exact ⟨1,a,x,rfl,hx,by decide,ha,by rw [Nat.one_mul];rfl,HA.o,HO.o,HB.o⟩
 case round =>
  obtain ⟨o,b,y,rfl,hy,R,hb,F,G,C,H⟩:=hrel;by_cases h0:y=0
  . subst h0;have bd:o=powP a x:=by rw [<- F,Nat.pow_zero,Nat.mul_one,Nat.mod_eq_of_lt R]
    subst bd;have c1:=C.c;have D:=zh H;clear H G C F;go_wp2_with fail;go_ret;exact ⟨rfl,D.o⟩
  . have d0:decide ((y:Int) > 0)=true:=by simp;omega
    have be:(y:Int).tdiv 2=((y / 2:Nat):Int):=by rw [Int.tdiv_eq_ediv_of_nonneg (by omega)];omega
    have A:(y:Int).tmod 2=((y % 2:Nat):Int):=by rw [Int.tmod_eq_emod_of_nonneg (by omega)];omega
    have ca:=G.c;have co:=C.c;have lz:=C.lt;have Y:=ZqF o b y;have T:=Zm1 o b y;have M:=λW (h:IntB W w.heap.size (b:Nat))=>ZcC w.heap.size b b W h hb hb;have bb:o*b % mP<mP:=Nat.mod_lt _ (by decide);have m:b*b % mP<mP:=Nat.mod_lt _ (by decide);by_cases h1:y % 2=1
    . have q:=ZcC (w.heap.size+1) o b wr C R hb;have I:=(Y h1).trans F;rw [h1] at A;generalize o*b % mP=o' at *
      generalize b*b % mP=g at *
      obtain ⟨l,S,L,N,D,f⟩:=zh6 q M G C H I;clear q M G C H I Y T F;go_wp2_with fail;refine l.o.mono ?_;rintro e w2 ⟨rfl,ba,B⟩;have V:=L.o.but B (by omega);have ca:=V.c;have r:=zh V;have bc:=zh ba;have Z:=zh (D.o.trans ((B.below (by omega)).mono (by omega)));clear V ba B l L N D co;go_wp2_with fail;refine (S.o _ r.o).mono ?_;rintro e w3 ⟨rfl,J,B⟩;have U:=zh J;have X:=zh (bc.o.but B (by omega));have d:=zh (Z.o.trans (B.below (by have:=Z.o.size;omega)));clear J B r bc Z;go_wp2_with fail;go_roundw
      case rel=>exact ⟨o',g,y / 2,rfl,by omega,bb,m,f.o,U.o,X.o,d.o⟩
      case measure=>simp [intOf];omega
    . have j:y % 2=0:=by omega
      have I:=(T j).trans F;rw [j] at A;generalize b*b % mP=g at *
      obtain ⟨S,L,N,D,f⟩:=zh5 M G C H I;clear M G C H I Y T F bb;go_wp2_with fail;refine (S.o _ L.o).mono ?_;rintro e w3 ⟨rfl,J,B⟩;have U:=zh J;have X:=zh (N.o.but B (by omega));have d:=zh (D.o.trans (B.below (by have:=D.o.size;omega)));clear J B L N D;go_wp2_with fail;go_roundw
      case rel=>exact ⟨o,g,y / 2,rfl,by omega,R,m,f.o,U.o,X.o,d.o⟩
      case measure=>simp [intOf];omega
theorem Z7n (a:Int)(w:World):Calls prog 28 #[vI a] w λe w'=>e=.returned (.bool (memB a))/\Below w.heap.size w w':=by
 unfold memB;by_cases h1:1<=a
 . have B:decide (1<=a)=true:=by simpa using h1
   by_cases h2:a<2147483579
   . have D:decide (a<2147483579)=true:=by simpa using h2
     rw [B,D];obtain ⟨n,rfl⟩:=zE2 (show 0<=a by omega);have C:=Z50 n mQ w (by unfold mP;omega) (by decide);have H:(((powP n mQ:Nat):Int)==1)=decide (powP n mQ=1):=by
      by_cases h:powP n mQ=1
      . rw [h];rfl
      . rw [decide_eq_false h];simpa using (by omega:((powP n mQ:Nat):Int)≠1)
     have F:((mQ:Nat):Int)=1073741789:=rfl;rw [F] at C;rw [show ((n:Int)).toNat=n from zB n];generalize powP n mQ=z at *
     have G:=zh C;clear C F;go_enter func28,ntmps28;go_wp2_with fail;refine (G.o).mono ?_;rintro e w' ⟨rfl,hb⟩;go_wp2_with fail;go_ret;exact ⟨by simp,hb⟩
   . have D:decide (a<2147483579)=false:=by simpa using h2
     rw [B,D];go_enter func28,ntmps28;go_wp2_with fail;go_ret;exact ⟨rfl,zr _ _⟩
 . have B:decide (1<=a)=false:=by simpa using h1
   rw [B];go_enter func28,ntmps28;go_wp2_with fail;go_ret;exact ⟨rfl,zr _ _⟩
theorem Zi2 (s:Int)(w:World)(h:secB s=true):Calls prog 19 #[vI s] w λe w'=>e=.returned (.tuple #[vI (powP 4 s.toNat:Nat),vI 0])/\Below w.heap.size w w':=by
 have hw:witQ s 1=true:=h;unfold secB at h;simp only [zd,decide_eq_true_eq] at h;obtain ⟨n,rfl⟩:=zE2 (show 0<=s by omega);have B:=λW=>Z3s n 1 W;rw [hw] at B;have C:=λW=>Z50 4 n W (by decide) (by omega);rw [show ((n:Int)).toNat=n from zB n];generalize powP 4 n=z at *
 have D:=zh C;have F:=zh B;clear C B;go_enter func19,ntmps19;go_wp2_with fail;refine (F.o _).mono ?_;rintro e w' ⟨rfl,rfl⟩;go_wp2_with fail;refine (D.o _).mono ?_;rintro e w' ⟨rfl,hb⟩;go_wp2_with fail;go_ret2;exact ⟨rfl,hb⟩
theorem Z6t (a p:Nat)(v:Value)(l:List Int)(B:Nat)(w:World)(ha:a<mP)(hp:p<mP)(R:Z03 w w.heap.size v l)(hl:l.length<=100000)(hr:∀ x∈l,-9223372036854775808<=x/\x<=9223372036854775807)(L:Tabs B w) : Calls prog 73 #[vI a,vI p,v] w λe w'=>e=.returned (vI (chal ((a:Int)::(p:Int)::l):Nat))/\Below w.heap.size w w':=by
 have bc:B<=w.heap.size:=L.2.2.1;unfold mP at ha hp;obtain ⟨A,c,rfl,_⟩:=id R;have S:=Za9 (slice none 0 0) [] w (BytV.nil _ _ _) (by simp);have be:=Z6C Z29 [] Z4n;have hE:chal ((a:Int)::(p:Int)::l)=Z56 (sumD []) ((a:Int)::(p:Int)::l) % 1073741789:=rfl;have f:=λV W hv' ht'=>Z99 (sumD []) V ((a:Int)::(p:Int)::l) B W be hv' (by simp;omega) (by
  intro x H;simp only [zD] at H;rcases H with rfl | rfl | H
  . omega
  . omega
  . exact hr x H) ht'
 have bm:=Zbi (sumD []) ((a:Int)::(p:Int)::l);rw [hE];have bj:0<=Z56 (sumD []) ((a:Int)::(p:Int)::l) % 1073741789/\Z56 (sumD []) ((a:Int)::(p:Int)::l) % 1073741789<1073741789:=⟨Nat.zero_le _,Nat.mod_lt _ (by decide)⟩
 generalize sumD []=s0 at *
 generalize Z56 s0 ((a:Int)::(p:Int)::l)=N at *
 have bk:((N:Nat):Int).tmod 1073741789=((N % 1073741789:Nat):Int):=by rw [Int.tmod_eq_emod_of_nonneg (by omega)];omega
 generalize N % 1073741789=M at *
 clear hE;obtain ⟨q,Y,X,r⟩:=zh4 S R L f;clear S R L f;go_enter func73,ntmps73;go_wp2_with fail;refine q.o.mono ?_;rintro e D ⟨rfl,C⟩;have d:=Y.o.on C;have bf:=C;have U:(D.alloc (.cells #[vI (a:Int),vI (p:Int)] 3)).ownsRow w.heap.size 3 1 (slice (some ⟨D.heap.size,0,none⟩) 2 2) 2 (([(a:Int),(p:Int)]:List Int).map (.int .i64)) := World.ownsRow_lit D #[vI (a:Int),vI (p:Int)] 2 C.size (by unfold maxLen;omega) rfl;have I:=(zr D.heap.size D).alloc (zn _) (.cells #[vI (a:Int),vI (p:Int)] 3);have J:=C.trans (I.mono C.size);have y:w.heap.size<=(D.alloc (.cells #[vI (a:Int),vI (p:Int)] 3)).heap.size:=J.size;have bg:w.heap.size<=D.heap.size:=C.size;have Z:=zh U;have T:=zh ((d.up C.size).on I);have m:=zh J;clear U J C d bf I q;go_wp2_with (at_builtin;refine Z27 rfl _ _ rfl w.heap.size _ _ [(a:Int),(p:Int)] rfl Z.o A l.length c l rfl T.o (by simp;omega) y ?_;intro v' F G bb);have O:Below w.heap.size w F:=m.o.grown bb y (λg e=>by cases e;exact bg);have bh:Z03 F F.heap.size v' ((a:Int)::(p:Int)::l):=Z03.own G rfl;obtain ⟨A6,c6,rfl,bn⟩:=Z45 G rfl;have HB3:=zh O;have ba:=zh (r.o _ F bh (X.o.on (O.mono bc)));have HO:=zh G;clear O G r bb Y T m Z X;go_wp2_with fail;refine ba.o.mono ?_;rintro e w4 ⟨rfl,j⟩;have bd:=zh (Z00 HB3.o j);clear j HB3 ba;go_wp2_with fail;go_ret;exact ⟨rfl,bd.o⟩
theorem Zbb (s o:Nat)(v:Value)(l:List Int)(B:Nat)(w:World)(hs:s<1073741789)(ho:o<1073741789)(N:Z03 w w.heap.size v l)(hl:l.length<=100000)(d:∀ x∈l,-9223372036854775808<=x/\x<=9223372036854775807)(F:Tabs B w) : Calls prog 61 #[vI s,vI o,v] w λe w'=>e=.returned (.agg #[vI (sigE s o l:Nat),vI (sigS s o l:Nat)])/\Below w.heap.size w w':=by
 have ba:B<=w.heap.size:=F.2.2.1;obtain ⟨A,c,rfl,_⟩:=id N;have hb:=(zr w.heap.size w).alloc (zn _) (.cells #[vI 0,vI 0] 29);have Z:=za w (.cells #[vI 0,vI 0] 29);have G:=λx (h:x<9223372036854775808) W=>Z50 4 x W (by decide) h;have m:=G o (by omega);have V:=G s (by omega);have L:=λW hv' ht'=>Z6t (powP 4 o) (powP 4 s) (slice A l.length c) l B W (Nat.mod_lt _ (by decide)) (Nat.mod_lt _ (by decide)) hv' hl d ht';have r:chal ((powP 4 o:Int)::(powP 4 s:Int)::l)=sigE s o l:=rfl;have g:sigS s o l=(o+sigE s o l*s) % 1073741789:=rfl;have bk:sigE s o l<1073741789:=Nat.mod_lt _ (by decide);rw [r] at L;rw [g];generalize powP 4 o=po at *
 generalize powP 4 s=ps at *
 generalize sigE s o l=E at *
 have hm:E*s<=1073741788*1073741788:=Nat.mul_le_mul (by omega) (by omega);have T:((E*s:Nat):Int)=(E:Int)*s:=Int.natCast_mul _ _;have bj:(0:Int)<=E*s:=by rw [<- T];omega
 have bg:IntKind.i64.wrap ((E:Int)*s)=(E:Int)*s:=zi _ (by omega);have be:IntKind.i64.wrap ((o:Int)+(E:Int)*s)=(o:Int)+(E:Int)*s:=zi _ (by omega);have bf:((o:Int)+(E:Int)*s).tmod 1073741789=(((o+E*s) % 1073741789:Nat):Int):=by rw [Int.tmod_eq_emod_of_nonneg (by omega),<- T];omega
 generalize (o+E*s) % 1073741789=S at *
 obtain ⟨y,H,bc,bb,Y,HV,HT⟩:=zh7 hb Z m V L N F;clear hb Z m V L N F G r g hm T d;go_enter func61,ntmps61;go_wp2_with fail;generalize w.alloc (.cells #[vI 0,vI 0] 29)=w1 at *
 refine (bc.o w1).mono ?_;rintro e w2 ⟨rfl,U⟩;have I:=zh ((U.block _ (zF2.1 H.o).1).trans H.o);have j:=zh (Z00 y.o U);clear U H y;go_wp2_with fail;refine (bb.o w2).mono ?_;rintro e w3 ⟨rfl,M⟩;have C:=Z00 j.o M;have R:=zh ((M.block _ (zF2.1 I.o).1).trans I.o);have q:=zh C;have f:=zh (Y.o w3 ((HV.o.on C).up C.size) (HT.o.on (C.mono ba)));clear C M I j Y;go_wp2_with fail;refine f.o.mono ?_;rintro e w4 ⟨rfl,J⟩;have D:SigB w4 w.heap.size 0 0:=(J.block _ (zF2.1 R.o).1).trans R.o;have X:=Z00 q.o J;obtain ⟨c0,c1,f0,f1⟩:=D.cells;have O:=D.set (E:Nat) (S:Nat);obtain ⟨k0,k1,_,_⟩:=O.cells;have bm:=zh D;have bd:=zh ((X.setCell (p:=⟨w.heap.size,0,none⟩) (zn _) (vI (E:Nat))).setCell (p:=⟨w.heap.size,1,none⟩) (zn _) (vI (S:Nat)));have bh:=zh O;clear D O J R q f X;go_wp2_with fail;refine bodyPost_ret (v:=.agg #[vI (E:Nat),vI (S:Nat)]) (by simp [results,results61,go_sem,k0,k1]) rfl ?_;exact ⟨rfl,bd.o⟩
def Zpy (s o:Int)(l:List Int):Value :=
 if secB s&&secB o then .tuple #[.agg #[vI (sigE s.toNat o.toNat l:Nat),vI (sigS s.toNat o.toNat l:Nat)],vI 0] else .tuple #[.agg #[vI 0,vI 0],vI 1]
theorem ZcD (s o:Int)(v:Value)(l:List Int)(B:Nat)(w:World)(H:Z03 w w.heap.size v l)(hl:l.length<=100000)(d:∀ x∈l,-9223372036854775808<=x/\x<=9223372036854775807)(G:Tabs B w) : Calls prog 37 #[vI s,vI o,v] w λe w'=>e=.returned (Zpy s o l)/\Below w.heap.size w w':=by
 have y:B<=w.heap.size:=G.2.2.1;obtain ⟨A,c,rfl,_⟩:=id H;have hb:=(zr w.heap.size w).alloc (zn _) (.cells #[vI 0,vI 0] 29);have F:SigB (w.alloc (.cells #[vI 0,vI 0] 29)) w.heap.size 0 0:=SigB.new w 0 0;have J:=λW=>Z3s s 1 W;have I:=λW=>Z3s o 1 W;have q:witQ s 1=secB s:=rfl;have g:witQ o 1=secB o:=rfl;rw [q] at J;rw [g] at I;have f:secB s=true->secB o=true->∀ W:World,Below w.heap.size w W->Calls prog 61 #[vI s,vI o,slice A l.length c] W λe w'=>e=.returned (.agg #[vI (sigE s.toNat o.toNat l:Nat),vI (sigS s.toNat o.toNat l:Nat)])/\Below W.heap.size W w':=by intro h1 h2 W hb;simp only [secB,zd,decide_eq_true_eq] at h1 h2;obtain ⟨a,rfl⟩:=zE2 (show 0<=s by omega);obtain ⟨b,rfl⟩:=zE2 (show 0<=o by omega);exact Zbb a b (slice A l.length c) l B W (by omega) (by omega) ((H.on hb).up hb.size) hl d (G.on (hb.mono y))
 unfold Zpy;generalize ((sigE s.toNat o.toNat l:Nat):Int)=E at *
 generalize ((sigS s.toNat o.toNat l:Nat):Int)=S at *
 generalize secB s=b1 at *
 generalize secB o=b2 at *
 clear q g d;obtain ⟨c0,c1,m,U⟩:=F.cells;have L:=F.set 0 0;obtain ⟨M,O,_,_⟩:=L.cells;obtain ⟨C,j,N,r,ba,HV,HT⟩:=zh7 hb F J I f H G;have X:=zh ((hb.setCell (p:=⟨w.heap.size,0,none⟩) (zn _) (vI 0)).setCell (p:=⟨w.heap.size,1,none⟩) (zn _) (vI 0));have bd:=zh L;clear hb F J I f H G L;cases b1 with
 | false =>go_enter func37,ntmps37;go_wp2_with fail;refine (N.o _).mono ?_;rintro e w' ⟨rfl,rfl⟩;go_wp2_with fail;refine bodyPost_ret (v:=.tuple #[.agg #[vI 0,vI 0],vI 1]) (by simp [results,results37,go_sem]) rfl ?_;exact ⟨rfl,by first | exact X.o | exact C.o⟩
 | true =>
  cases b2 with
  | false =>go_enter func37,ntmps37;go_wp2_with fail;refine (N.o _).mono ?_;rintro e w' ⟨rfl,rfl⟩;go_wp2_with fail;refine (r.o _).mono ?_;rintro e w' ⟨rfl,rfl⟩;go_wp2_with fail;refine bodyPost_ret (v:=.tuple #[.agg #[vI 0,vI 0],vI 1]) (by simp [results,results37,go_sem]) rfl ?_;exact ⟨rfl,by first | exact X.o | exact C.o⟩
  | true =>have V:=ba.o rfl rfl _ C.o;have Z:=zh V;clear V;go_enter func37,ntmps37;go_wp2_with fail;refine (N.o _).mono ?_;rintro e w' ⟨rfl,rfl⟩;go_wp2_with fail;refine (r.o _).mono ?_;rintro e w' ⟨rfl,rfl⟩;clear c0 c1 m U M O;go_wp2_with fail;refine Z.o.mono ?_;rintro e w4 ⟨rfl,R⟩;have D:=j.o.on R;have Y:=Z00 C.o R;obtain ⟨c0,c1,m,U⟩:=D.cells;have T:=D.set E S;obtain ⟨M,O,_,_⟩:=T.cells;have be:=zh D;have bb:=zh ((Y.setCell (p:=⟨w.heap.size,0,none⟩) (zn _) (vI E)).setCell (p:=⟨w.heap.size,1,none⟩) (zn _) (vI S));have bc:=zh T;clear D T R Y Z j C;go_wp2_with fail;refine bodyPost_ret (v:=.tuple #[.agg #[vI E,vI S],vI 0]) (by simp [results,results37,go_sem,M,O]) rfl ?_;exact ⟨rfl,bb.o⟩
end
section
open Go.RowKit Lx Px Qx
structure SgK (w:World) (e s:Int) (W:World):Prop where
 s:SigB W w.heap.size e s
 b:Below w.heap.size w W
theorem SgK.on {w W B:World}{e s:Int}(h:SgK w e s W)(hb:Below W.heap.size W B):SgK w e s B:=⟨h.s.on hb,Z00 h.b hb⟩
theorem SgK.drew {w W:World}{e s:Int}(h:SgK w e s W):SgK w e s W.drew:=h.on (zr _ _).drew
theorem Zi3 (p:Int)(e s:Int)(v:Value)(l:List Int)(B:Nat)(w:World)(d:memB p=true)(V:Z03 w w.heap.size v l)(hl:l.length<=100000)(y:∀ x∈l,-9223372036854775808<=x/\x<=9223372036854775807)(O:Tabs B w) : Calls prog 48 #[vI p,.agg #[vI e,vI s],v] w λex w'=>ex=.returned (.tuple #[.bool (verB p.toNat e s l),vI (if expB e&&expB s then 0 else 1)])/\Below w.heap.size w w':=by
 have bn:B<=w.heap.size:=O.2.2.1;obtain ⟨A,c,rfl,_⟩:=id V;have X:SgK w e s (w.alloc (.cells #[vI e,vI s] 29)):=⟨SigB.new w e s,(zr w.heap.size w).alloc (zn _) _⟩
 obtain ⟨c0,c1,_,_⟩:=X.s.cells;have G:=λW=>Z3s e 0 W;have L:=λW=>Z3s s 0 W;have bb:witQ e 0=expB e:=rfl;have ba:witQ s 0=expB s:=rfl;rw [bb] at G;rw [ba] at L;have S:=λW=>Z7n p W;rw [d] at S;obtain ⟨R,J⟩:∃ R,verB p.toNat e s l=R:=⟨_,rfl⟩
 rw [J];by_cases h1:expB e=true
 . by_cases h2:expB s=true
   . rw [h1] at G;rw [h2] at L;have be:R=decide ((chal ((Z7v p.toNat e.toNat s.toNat:Int)::(p.toNat:Int)::l):Int)=e):=by rw [<- J];unfold verB;rw [h1,h2];rfl
     rw [h1,h2];clear J;simp only [expB,zd,decide_eq_true_eq] at h1 h2;simp only [memB,zd,decide_eq_true_eq] at d;obtain ⟨a,rfl⟩:=zE2 (show 0<=e by omega);obtain ⟨b,rfl⟩:=zE2 (show 0<=s by omega);obtain ⟨q,rfl⟩:=zE2 (show 0<=p by omega);simp only [zB] at be d |-
     have bv:∀ W:World,Calls prog 41 #[vI 4,vI (b:Nat)] W λe w'=>e=.returned (vI (powP 4 b:Nat))/\Below W.heap.size W w':=λW=>Z50 4 b W (by decide) (by omega);have bA:(1073741789 - a) % 1073741789<1073741789:=Nat.mod_lt _ (by decide);have bm:=λW=>Z50 q ((1073741789 - a) % 1073741789) W (by unfold mP;omega) (by omega);have bC:IntKind.i64.wrap (1073741789 - (a:Int))=1073741789 - (a:Int):=zi _ (by omega);have bB:(1073741789 - (a:Int)).tmod 1073741789=(((1073741789 - a) % 1073741789:Nat):Int):=by rw [Int.tmod_eq_emod_of_nonneg (by omega)];omega
     have bt:Z7v q a b=powP 4 b*powP q ((1073741789 - a) % 1073741789) % 2147483579:=rfl;have l1:powP 4 b<2147483579:=Nat.mod_lt _ (by decide);have l2:powP q ((1073741789 - a) % 1073741789)<2147483579:=Nat.mod_lt _ (by decide);simp only [bt] at be;generalize powP 4 b=I at *
     generalize powP q ((1073741789 - a) % 1073741789)=H at *
     generalize (1073741789 - a) % 1073741789=x3 at *
     have hm:I*H<=2147483578*2147483578:=Nat.mul_le_mul (by omega) (by omega);have bq:((I*H:Nat):Int)=(I:Int)*H:=Int.natCast_mul _ _;have bD:IntKind.i64.wrap ((I:Int)*H)=(I:Int)*H:=zi _ (by omega);have bE:((I:Int)*H).tmod 2147483579=((I*H % 2147483579:Nat):Int):=by rw [Int.tmod_eq_emod_of_nonneg (by omega),<- bq];omega
     have l3:I*H % 2147483579<2147483579:=Nat.mod_lt _ (by decide);generalize I*H % 2147483579=bk at *
     have bz:=λW hv' ht'=>Z6t bk q (slice A l.length c) l B W l3 (by unfold mP;omega) hv' hl y ht';generalize chal ((bk:Int)::(q:Int)::l)=C at *
     have U:Hid (∀ wx,SgK w a b wx->wx.cell? ⟨w.heap.size,0,none⟩=some (vI a)/\wx.cell? ⟨w.heap.size,1,none⟩=some (vI b)/\SgK w a b wx):=λwx h=>⟨h.s.cells.1,h.s.cells.2.1,h⟩
     obtain ⟨M,Z,bd,f,r,m,bu,bh,bp,br⟩:=zh10 X G L S V O bv bm bz be;clear X G L S V O bv bm bz be bb ba y bt d l1 l2 hm bq l3;go_enter func48,ntmps48;go_wp2_with fail;generalize w.alloc (.cells #[vI (a:Int),vI (b:Int)] 29)=g at *
     refine (f.o g).mono ?_;rintro ex w2 ⟨rfl,N⟩;have F:=M.o.on N;obtain ⟨c0,c1,_,_⟩:=F.s.cells;have Y:=zh F;clear F M N;go_wp2_with fail;refine (Z.o _).mono ?_;rintro e w' ⟨rfl,rfl⟩;go_wp2_with fail;refine (bd.o _).mono ?_;rintro e w' ⟨rfl,rfl⟩;go_upto_region 3 with fail;go_region_held3 (λw'=>w'.cell? ⟨w.heap.size,0,none⟩=some (vI a)/\w'.cell? ⟨w.heap.size,1,none⟩=some (vI b)/\SgK w a b w') (first | (with_reducible exact U.o _ Y.o.drew) | (with_reducible exact U.o _ L6) | (with_reducible exact U.o _ L5) | fail) (first
       | (go_at_call 41;have D:=(‹_/\_/\SgK w a b _›).2.2;with_reducible refine (bu.o _).mono ?_;rintro ex w5 ⟨rfl,bs⟩;have L5:=D.on bs;clear bs D)
       | (go_at_call 41;have D:=(‹_/\_/\SgK w a b _›).2.2;with_reducible refine (bh.o _).mono ?_;rintro ex w6 ⟨rfl,bx⟩;have L6:=D.on bx;clear bx D))
     all_goals
      have bj:=zh ((‹_/\_/\SgK w a b _›).2.2);clear bu bh Z bd f Y c0 c1;try clear L5
      try clear L6
      by_cases hac:a=C
      . subst hac;have T:R=true:=by rw [br.o];simp
        subst T;go_wp2_with fail;go_region_held3 (λw'=>w'.cell? ⟨w.heap.size,0,none⟩=some (vI a)/\w'.cell? ⟨w.heap.size,1,none⟩=some (vI b)/\SgK w a b w') (first | (with_reducible exact U.o _ bj.o.drew) | (with_reducible exact U.o _ L8) | fail) (first
          | (go_at_call 73;have D:=(‹_/\_/\SgK w a b _›).2.2;refine (bp.o _ ((r.o.on D.b).up D.b.size) (m.o.on (D.b.mono bn))).mono ?_;rintro ex w8 ⟨rfl,j⟩;have L8:=D.on j;clear j D))
        have bg:=zh ((‹_/\_/\SgK w a b _›).2.2);go_wp2_with fail;go_ret2;exact ⟨rfl,bg.o.b⟩
      . have d1:((a:Int)==(C:Int))=false:=by simp;omega
        have d2:¬ ((a:Int)=(C:Int)):=by omega
        have d3:decide ((a:Int)=(C:Int))=false:=by simp;omega
        have T:R=false:=by rw [br.o];simp;omega
        subst T;go_wp2_with fail;go_region_held3 (λw'=>w'.cell? ⟨w.heap.size,0,none⟩=some (vI a)/\w'.cell? ⟨w.heap.size,1,none⟩=some (vI b)/\SgK w a b w') (first | (with_reducible exact U.o _ bj.o.drew) | (with_reducible exact U.o _ L8) | fail) (first
          | (go_at_call 73;have D:=(‹_/\_/\SgK w a b _›).2.2;refine (bp.o _ ((r.o.on D.b).up D.b.size) (m.o.on (D.b.mono bn))).mono ?_;rintro ex w8 ⟨rfl,j⟩;have L8:=D.on j;clear j D))
        have bg:=zh ((‹_/\_/\SgK w a b _›).2.2);go_wp2_with fail;go_ret2;exact ⟨rfl,bg.o.b⟩
   . have bf:expB s=false:=by simpa using h2
     have T:R=false:=by rw [<- J];unfold verB;rw [bf];simp
     subst T;rw [h1] at G;rw [bf] at L;rw [h1,bf];obtain ⟨M,Z,bd,f,r,m,HR⟩:=zh7 X G L S V O J;clear X G L S V O J bb ba y d h2 bf;go_enter func48,ntmps48;go_wp2_with fail;generalize w.alloc (.cells #[vI e,vI s] 29)=g at *
     refine (f.o g).mono ?_;rintro ex w2 ⟨rfl,N⟩;have F:=M.o.on N;obtain ⟨c0,c1,_,_⟩:=F.s.cells;have Y:=zh F;clear F M N;go_wp2_with fail;refine (Z.o _).mono ?_;rintro e w' ⟨rfl,rfl⟩;go_wp2_with fail;refine (bd.o _).mono ?_;rintro e w' ⟨rfl,rfl⟩;go_wp2_with fail;go_ret2;exact ⟨rfl,Y.o.b⟩
 . have bc:expB e=false:=by simpa using h1
   have T:R=false:=by rw [<- J];unfold verB;rw [bc];simp
   subst T;rw [bc] at G;rw [bc];obtain ⟨M,Z,f,r,m,HR⟩:=zh6 X G S V O J;clear X G S V O J bb ba y d h1 bc L;go_enter func48,ntmps48;go_wp2_with fail;generalize w.alloc (.cells #[vI e,vI s] 29)=g at *
   refine (f.o g).mono ?_;rintro ex w2 ⟨rfl,N⟩;have F:=M.o.on N;obtain ⟨c0,c1,_,_⟩:=F.s.cells;have Y:=zh F;clear F M N;go_wp2_with fail;refine (Z.o _).mono ?_;rintro e w' ⟨rfl,rfl⟩;go_wp2_with fail;go_ret2;exact ⟨rfl,Y.o.b⟩
end
section
open Go.RowKit Lx Px Qx
namespace Qx
theorem Zs9 {v:Vr}{a:Ask}{t s o:Int}(h:¬ (v.okB=true/\a.okB=true/\Z18 t=true/\secB s=true/\secB o=true)):Z6D v a t s o=(.zero,1):=by
 unfold Z6D;rw [zf];intro B;simp only [zd] at B;exact h ⟨B.1.1.1.1,B.1.1.1.2,B.1.1.2,B.1.2,B.2⟩
theorem Zg9 {v:Vr}{a:Ask}{t s o:Int}(G:v.okB=true)(B:a.okB=true)(F:Z18 t=true)(D:secB s=true)(C:secB o=true):Z6D v a t s o=if t<v.time then (.zero,6) else match Z1j v a t with
 | .error e=>(.zero,e)
 | .ok q=>({ q with sE:=sigE s.toNat o.toNat q.says,sS:=sigS s.toNat o.toNat q.says },0):=by
 unfold Z6D;rw [zp (by rw [G,B,F,D,C];rfl)];by_cases h:t<v.time
 . rw [zp h,zp h]
 . rw [zf h,zf h];cases Z1j v a t <;> rfl
theorem Z6u {v:Vr}(h:v.okB=true):useB v.rs=true/\0<=v.time/\v.time<=1000000000/\1<=v.num/\v.num<=1000000:=by
 unfold Vr.okB at h;simp only [zd,decide_eq_true_eq,Z18] at h;exact ⟨h.1.2,h.1.1.2.1,h.1.1.2.2,h.1.1.1.1,h.1.1.1.2⟩
theorem Z8k {v:Vr}{a:Ask}{t:Int}{ns:List Int}{B:Int}(h:Z0c v.rs a=.ok (ns,B)):Z1j v a t=.ok ⟨v.num,t,ns.sum,B,a,ns,v.dig,0,0⟩:=by unfold Z1j;rw [h]
theorem Zbc {v:Vr}{a:Ask}{t e:Int}(h:Z0c v.rs a=.error e):Z1j v a t=.error e:=by unfold Z1j;rw [h]
theorem Z9e (v:Vr):v.dig<18446744073709551616:=Zbi _ _
end Qx
structure MkB (w:World) (v:Vr) (rv:Value) (a:Qx.Ask) (R:Array Value) (W:World):Prop where
 v:W.heap[w.heap.size]?=some (.cells #[vI v.num,vI v.time,rv] 36 (0,0))
 a:W.heap[w.heap.size+1]?=some (.cells #[vI a.kind,vI a.fr,vI a.un,vI a.pers] 25 (0,0))
 r:W.heap[w.heap.size+2]?=some (.cells R 31 (0,0))
 b:Below w.heap.size w W
theorem MkB.on {w W B:World}{v:Vr}{rv:Value}{a:Qx.Ask}{R:Array Value}(h:MkB w v rv a R W)(hb:Below W.heap.size W B):MkB w v rv a R B := ⟨(hb.block _ (zF2.1 h.v).1).trans h.v,(hb.block _ (zF2.1 h.a).1).trans h.a,(hb.block _ (zF2.1 h.r).1).trans h.r,Z00 h.b hb⟩
theorem MkB.far {w W B:World}{v:Vr}{rv:Value}{a:Qx.Ask}{R:Array Value}(h:MkB w v rv a R W)(hb:Below (w.heap.size+3) W B):MkB w v rv a R B := ⟨(hb.block _ (by omega)).trans h.v,(hb.block _ (by omega)).trans h.a,(hb.block _ (by omega)).trans h.r,h.b.trans (hb.mono (by omega))⟩
theorem MkB.new (w:World)(v:Vr)(rv:Value)(a:Qx.Ask)(R:Array Value):MkB w v rv a R (((w.alloc (.cells #[vI v.num,vI v.time,rv] 36)).alloc (.cells #[vI a.kind,vI a.fr,vI a.un,vI a.pers] 25)).alloc (.cells R 31)):=by
 refine ⟨?_,?_,?_,(((zr _ _).alloc (zn _) _).alloc (by simp) _).alloc (by simp;omega) _⟩
 all_goals repeat (first | (refine Z8g ?_;first | rfl | (simp only [zk];done) | (simp only [zk];omega)) | (refine Z5i ?_ ?_;· (simp only [zk];omega)))
theorem MkB.cells {w W:World}{v:Vr}{rv:Value}{a:Qx.Ask}{R:Array Value}(h:MkB w v rv a R W):W.cell? ⟨w.heap.size,0,none⟩=some (vI v.num)/\W.cell? ⟨w.heap.size,1,none⟩=some (vI v.time)/\W.cell? ⟨w.heap.size,2,none⟩=some rv /\ W.cell? ⟨w.heap.size+1,0,none⟩=some (vI a.kind)/\W.cell? ⟨w.heap.size+1,1,none⟩=some (vI a.fr)/\W.cell? ⟨w.heap.size+1,2,none⟩=some (vI a.un)/\W.cell? ⟨w.heap.size+1,3,none⟩=some (vI a.pers):=by
 refine ⟨?_,?_,?_,?_,?_,?_,?_⟩
 . rw [zH h.v];rfl
 . rw [zH h.v];rfl
 . rw [zH h.v];rfl
 . rw [zH h.a];rfl
 . rw [zH h.a];rfl
 . rw [zH h.a];rfl
 . rw [zH h.a];rfl
theorem MkB.setRow {w W:World}{v:Vr}{rv:Value}{a:Qx.Ask}{R:Array Value}(h:MkB w v rv a R W)(R':Array Value):MkB w v rv a R' (W.setRow (w.heap.size+1+1) R') := ⟨(Z05 _ _ _ _ (by omega)).trans h.v,(Z05 _ _ _ _ (by omega)).trans h.a,setRow_heap _ _ R R' _ _ h.r,Z3A h.b (by omega) _⟩
theorem Z80 {w W:World}{v:Vr}{rv:Value}{a:Qx.Ask}{q:Qt}{B:Value}{er:Int}(h:MkB w v rv a (qtC q B) W):∀ (tmps:Array Value),tmps[10]?.getD undef=.pointer (some ⟨w.heap.size+1+1,0,none⟩)->tmps[11]?.getD undef=vI er -> (results f18 tmps).run prog W=.ok (.tuple #[.agg (qtC q B),vI er]) W:=by
 intro tmps D H;have S:W.heap[w.heap.size+1+1]?=_:=h.r;have k:=λi v (hv:(qtC q B)[i]?=some v)=>(show W.cell? ⟨w.heap.size+1+1,i,none⟩=some v by rw [zH S,hv])
 have N:=k 0 (vI q.ver) rfl;have C:=k 1 (vI q.time) rfl;have M:=k 2 (vI q.total) rfl;have R:=k 3 (vI q.keep) rfl;have G:=k 4 (vI q.ask.kind) rfl;have O:=k 5 (vI q.ask.fr) rfl;have L:=k 6 (vI q.ask.un) rfl;have J:=k 7 (vI q.ask.pers) rfl;have I:=k 8 B rfl;have F:=k 9 (.int .u64 (q.dig:Nat)) rfl;have U:=k 10 (vI q.sE) rfl;have T:=k 11 (vI q.sS) rfl;simp [results,results18,go_sem,D,H,N,C,M,R,G,O,L,J,I,F,U,T,qtC]
theorem Z4h (w:World)(B:Nat):QtV w B (.agg (qtC Qt.zero (slice none 0 0))) Qt.zero:=⟨none,0,rfl,Z03.nil _ _ _⟩
theorem Zsa {Q:Qt}{v:Vr}{t B:Int}{a:Qx.Ask}{ns:List Int}{d:Nat}(D:ns.length<=60)(C:(⟨v.num,t,ns.sum,B,a,ns,d,0,0⟩:Qt)=Q):Q.says.length<=1000:=by
 subst C;simp [Qt.says];omega
theorem Zpz {Q:Qt}{v:Vr}{t D:Int}{a:Qx.Ask}{ns:List Int}{d:Nat}(_hub:useB v.rs=true)(F:useB v.rs=true/\a.okB=true/\Z0a v.rs a (a.un - a.fr).toNat a.fr=.ok (ns,D)/\ns.sum<=1000000000)(C:Z0c v.rs a=.ok (ns,D))(S:0<=t/\t<=1000000000)(X:1<=v.num/\v.num<=1000000)(U:d<18446744073709551616) (G:(⟨v.num,t,ns.sum,D,a,ns,d,0,0⟩:Qt)=Q):∀ x∈Q.says,-9223372036854775808<=x/\x<=9223372036854775807:=by
 subst G;obtain ⟨J,g,R,f,_⟩:=Z3t C;have M:=Z6s C;have H:=Z6w C;obtain ⟨I,O,Y,T,L,V,Z,N⟩:=Z1w F.2.1;intro x B;simp only [Qt.says,zC,zD,List.not_mem_nil,or_false] at B;rcases B with (B | B) | B
 . rcases B with rfl | rfl | rfl | rfl | rfl | rfl | rfl | rfl | rfl
   all_goals (try dsimp only);omega
 . have:=H x B;omega
 . rcases B with rfl | rfl
   all_goals omega
def MkP (x:Qt × Int)(w:World)(e:Ending)(w':World):Prop := ∃ QV,e=.returned (.tuple #[QV,vI x.2])/\QtV w' w'.heap.size QV x.1/\Below w.heap.size w w'
theorem ZcE (v:Vr)(a:Qx.Ask)(t s o:Int)(V:Value)(w:World)(hV:VrV w w.heap.size V v)(ht:Tabs w.heap.size w) : Calls prog 18 #[V,askV a,vI t,vI s,vI o] w (MkP (Z6D v a t s o) w):=by
 have bv:=λW (hb:Below w.heap.size w W)=>Z7i v V W (by obtain ⟨A,c,rfl,h⟩:=hV;exact ⟨A,c,rfl,(h.on hb).up hb.size⟩) (Z0v ht hb);have bj:=λW (hb:Below w.heap.size w W)=>ZcB v a t v.dig V W (by obtain ⟨A,c,rfl,h⟩:=hV;exact ⟨A,c,rfl,(h.on hb).up hb.size⟩);have b4:=λW l U (hb:Below w.heap.size w W) h1 h2 h3=>ZcD s o U l w.heap.size W h1 h2 h3 (ht.on hb);have bW:=λW=>Z7r t W;have bE:=@Zs9 v a t s o;have bz:=@Zg9 v a t s o;have bV:=λe (h:Z0c v.rs a=.error e)=>Z4H h;have b5:=λns G (h:Z0c v.rs a=.ok (ns,G))=>Z8m h;obtain ⟨A,c,rfl,hR⟩:=hV;have bg:=MkB.new w v (slice A v.rs.length c) a (qtC Qt.zero (slice none 0 0));obtain ⟨M,N⟩:∃ M,Z6D v a t s o=M:=⟨_,rfl⟩
 rw [N] at bE bz |-
 clear N;unfold vrV at bv bj |-
 obtain ⟨q0,q1,q2,g,y,q,m⟩:=bg.cells;simp only [askV,qtC,Qt.zero] at bj bg q0 q1 q2 g y q m |-
 obtain ⟨HB,b0,bM,bL,bO,bn,b2,ca,bK,HR,HT⟩:=zh11 bg bv bj b4 bW bE bz bV b5 hR ht;clear bg bv bj b4 bW bE bz bV b5 hR ht;go_enter func18,ntmps18;go_wp2_with fail;refine (b0.o _ HB.o.b).mono ?_;rintro e w2 ⟨bZ,rfl⟩;have bu:=HB.o.on bZ;obtain ⟨q0,q1,q2,g,y,q,m⟩:=bu.cells;have HB2:=zh bu;clear bu bZ HB b0;cases h1:v.okB with
 | false =>obtain rfl:=bn.o (λh=>by rw [h1] at h;simp at h);simp only [Bool.false_eq_true,if_false,if_true,Option.getD_none];have B:=HB2.o.setRow (qtC Qt.zero (slice none 0 0));have C:=Z80 (er:=1) B;have D:=HB2.o.r;have F:=Z0A Qt.zero none 0 0;simp only [qtC,Qt.zero] at B C D F;obtain ⟨J,L,O⟩:=zh3 B C D;clear B C D;go_wp2_with (refine Z0x rfl _ _ rfl (w.heap.size+1+1) _ _ rfl rfl O.o rfl rfl F ?_);refine bodyPost_ret (v:=.tuple #[.agg (qtC Qt.zero (slice none 0 0)),vI 1]) (L.o _ rfl rfl) rfl ?_;exact ⟨_,rfl,Z4h _ _,J.o.b⟩
 | true =>
  simp only [if_true,Option.getD_some];obtain ⟨bY,cv,cx,cn,ck⟩:=Z6u h1;go_wp2_with fail;refine (bO.o _).mono ?_;rintro e w' ⟨rfl,rfl⟩;cases h2:Z18 t with
  | false =>obtain rfl:=bn.o (λh=>by rw [h2] at h;simp at h);have B:=HB2.o.setRow (qtC Qt.zero (slice none 0 0));have C:=Z80 (er:=1) B;have D:=HB2.o.r;have F:=Z0A Qt.zero none 0 0;simp only [qtC,Qt.zero] at B C D F;obtain ⟨J,L,O⟩:=zh3 B C D;clear B C D;go_wp2_with (refine Z0x rfl _ _ rfl (w.heap.size+1+1) _ _ rfl rfl O.o rfl rfl F ?_);refine bodyPost_ret (v:=.tuple #[.agg (qtC Qt.zero (slice none 0 0)),vI 1]) (L.o _ rfl rfl) rfl ?_;exact ⟨_,rfl,Z4h _ _,J.o.b⟩
  | true =>
   have cd:0<=t/\t<=1000000000:=by simpa [Z18] using h2
   have d:=bL.o w2 [] (slice none 0 0) HB2.o.b (Z03.nil _ _ _) (by simp) (by simp);unfold Zpy at d;by_cases h3:(secB s&&secB o)=true
   . rw [zp h3] at d;obtain ⟨bS,b6⟩:=Bool.and_eq_true_iff.1 h3;generalize ((sigE s.toNat o.toNat []:Nat):Int)=E0 at d;generalize ((sigS s.toNat o.toNat []:Nat):Int)=S0 at d;have bf:=zh d;clear d;go_wp2_with fail;refine (bf.o).mono ?_;rintro e w3 ⟨rfl,ba⟩;have bp:=HB2.o.on (ba.trans (((zr w3.heap.size w3).alloc (zn _) (.cells #[vI E0,vI S0] 29)).mono ba.size));obtain ⟨q0,q1,q2,g,y,q,m⟩:=bp.cells;have f:=zh bp;have bq:=zh (bM.o _ bp.b);clear bp ba bf bM bO HB2;go_wp2_with fail;refine bq.o.mono ?_;intro e w5 hh;obtain ⟨br,hh⟩:=hh;have bc:=f.o.on br;cases hX:Z0c v.rs a with
     | error er =>
      rw [hX] at hh;dsimp only at hh;subst hh;obtain ⟨e0,e1,e2⟩:=ca.o er hX;have S:=bc.on ((zr w5.heap.size w5).alloc (zn _) (.cells (qtC Qt.zero (slice none 0 0)) 66));have Z:=Z0A Qt.zero none 0 0;obtain ⟨q0,q1,q2,g,y,q,m⟩:=S.cells;simp only [qtC,Qt.zero,Int.natCast_zero] at S Z q0 q1 q2 g y q m |-
      have T:=zh S;clear S bc f bq br;cases h4:a.okB with
      | false =>obtain rfl:=e2 h4;obtain rfl:=bn.o (λh=>by rw [h4] at h;simp at h);have B:=T.o.setRow (qtC Qt.zero (slice none 0 0));have C:=Z80 (er:=1) B;have D:=T.o.r;have F:=Z0A Qt.zero none 0 0;simp only [qtC,Qt.zero] at B C D F;obtain ⟨J,L,O⟩:=zh3 B C D;clear B C D;go_wp2_with (first | (refine Z0j rfl _ _ rfl _ _ rfl rfl rfl rfl Z ?_) | refine Z0x rfl _ _ rfl (w.heap.size+1+1) _ _ rfl rfl O.o rfl rfl F ?_);refine bodyPost_ret (v:=.tuple #[.agg (qtC Qt.zero (slice none 0 0)),vI 1]) (L.o _ rfl rfl) rfl ?_;exact ⟨_,rfl,Z4h _ _,J.o.b⟩
      | true =>
       have N:=b2.o h1 h4 h2 bS b6;have cg:=e1 bY h4;have d1:(er==1)=false:=by simpa using cg
       have d2:(er != 0)=true:=by simpa using e0
       by_cases h5:t<v.time
       . have d3:decide (t<v.time)=true:=by simpa using h5
         rw [zp h5] at N;subst N;have B:=T.o.setRow (qtC Qt.zero (slice none 0 0));have C:=Z80 (er:=6) B;have D:=T.o.r;have F:=Z0A Qt.zero none 0 0;simp only [qtC,Qt.zero] at B C D F;obtain ⟨J,L,O⟩:=zh3 B C D;clear B C D;go_wp2_with (first | (refine Z0j rfl _ _ rfl _ _ rfl rfl rfl rfl Z ?_) | refine Z0x rfl _ _ rfl (w.heap.size+1+1) _ _ rfl rfl O.o rfl rfl F ?_);refine bodyPost_ret (v:=.tuple #[.agg (qtC Qt.zero (slice none 0 0)),vI 6]) (L.o _ rfl rfl) rfl ?_;exact ⟨_,rfl,Z4h _ _,J.o.b⟩
       . have d3:decide (t<v.time)=false:=by simpa using h5
         rw [zf h5,Zbc hX] at N;subst N;have B:=T.o.setRow (qtC Qt.zero (slice none 0 0));have C:=Z80 (er:=er) B;have D:=T.o.r;have F:=Z0A Qt.zero none 0 0;simp only [qtC,Qt.zero] at B C D F;obtain ⟨J,L,O⟩:=zh3 B C D;clear B C D;go_wp2_with (first | (refine Z0j rfl _ _ rfl _ _ rfl rfl rfl rfl Z ?_) | refine Z0x rfl _ _ rfl (w.heap.size+1+1) _ _ rfl rfl O.o rfl rfl F ?_);refine bodyPost_ret (v:=.tuple #[.agg (qtC Qt.zero (slice none 0 0)),vI er]) (L.o _ rfl rfl) rfl ?_;exact ⟨_,rfl,Z4h _ _,J.o.b⟩
     | ok p =>
      obtain ⟨ns,G⟩:=p;rw [hX] at hh;obtain ⟨H,rfl,bC,ce⟩:=hh;have h4:=(bK.o ns G hX).2.1;have N:=b2.o h1 h4 h2 bS b6;have cs:=Z6s hX;have S:=bc.on ((zr w5.heap.size w5).alloc (zn _) (.cells (qtC ⟨v.num,t,ns.sum,G,a,ns,v.dig,0,0⟩ (slice H ns.length ns.length)) 66));have Z:=Z0A ⟨v.num,t,ns.sum,G,a,ns,v.dig,0,0⟩ H ns.length ns.length;obtain ⟨q0,q1,q2,g,y,q,m⟩:=S.cells;by_cases h5:t<v.time
      . have d3:decide (t<v.time)=true:=by simpa using h5
        rw [zp h5] at N;subst N;simp only [qtC] at S Z q0 q1 q2 g y q m |-
        have T:=zh S;clear S bc f bq br;have B:=T.o.setRow (qtC Qt.zero (slice none 0 0));have C:=Z80 (er:=6) B;have D:=T.o.r;have F:=Z0A Qt.zero none 0 0;simp only [qtC,Qt.zero] at B C D F;obtain ⟨J,L,O⟩:=zh3 B C D;clear B C D;go_wp2_with (first | (refine Z0j rfl _ _ rfl _ _ rfl rfl rfl rfl Z ?_) | refine Z0x rfl _ _ rfl (w.heap.size+1+1) _ _ rfl rfl O.o rfl rfl F ?_);refine bodyPost_ret (v:=.tuple #[.agg (qtC Qt.zero (slice none 0 0)),vI 6]) (L.o _ rfl rfl) rfl ?_;exact ⟨_,rfl,Z4h _ _,J.o.b⟩
      . have d3:decide (t<v.time)=false:=by simpa using h5
        rw [zf h5,Z8k hX] at N;dsimp only at N;have bF:=Z9e v;generalize v.dig=I at *
        obtain ⟨Q,j⟩:∃ Q:Qt,(⟨v.num,t,ns.sum,G,a,ns,I,0,0⟩:Qt)=Q:=⟨_,rfl⟩
        have bN:=Zpz bY (bK.o ns G hX) hX cd ⟨cn,ck⟩ bF j;have cD:=Zsa cs j;have cA:Q.nights=ns:=by rw [<- j]
        have cy:Q.dig<18446744073709551616:=by rw [<- j];exact bF
        rw [j] at N;have bx:=za w5 (.cells (qtC ⟨v.num,t,ns.sum,G,a,ns,I,0,0⟩ (slice H ns.length ns.length)) 66);have bd:=(zr w5.heap.size w5).alloc (zn _) (.cells (qtC ⟨v.num,t,ns.sum,G,a,ns,I,0,0⟩ (slice H ns.length ns.length)) 66);have b8:∀ p,H=some p->w.heap.size+3<=p.block:=λp e=>by have h1:=ce p e;have h2:=(zF2.1 f.o.r).1;omega
        have ct:(⟨v.num,t,ns.sum,G,a,ns,I,0,0⟩:Qt).says=Q.says:=by rw [j]
        have b3:QtV (w5.alloc (.cells (qtC ⟨v.num,t,ns.sum,G,a,ns,I,0,0⟩ (slice H ns.length ns.length)) 66)) (w5.alloc (.cells (qtC ⟨v.num,t,ns.sum,G,a,ns,I,0,0⟩ (slice H ns.length ns.length)) 66)).heap.size (.agg (qtC ⟨v.num,t,ns.sum,G,a,ns,I,0,0⟩ (slice H ns.length ns.length))) ⟨v.num,t,ns.sum,G,a,ns,I,0,0⟩:=⟨H,ns.length,rfl,(bC.on bd).up bd.size⟩
        have bs:=Z8p ⟨v.num,t,ns.sum,G,a,ns,I,0,0⟩ _ _ b3 bF (by show ns.length<=50000;omega);rw [ct] at bs;simp only [qtC] at S Z q0 q1 q2 g y q m bx bs bd |-
        obtain ⟨T,bT,be,cb,HQ,cm,cu⟩:=zh7 S bs bx bC j bN bc.r;clear S bs bx bC j bN bc f bq br b3;go_wp2_with (first | (refine Z0j rfl _ _ rfl _ _ rfl rfl rfl rfl Z ?_) | (with_reducible refine Z9m rfl _ rfl w5.heap.size rfl _ rfl _ be.o ?_));generalize w5.alloc (.cells #[vI v.num,vI t,vI ns.sum,vI G,vI a.kind,vI a.fr,vI a.un,vI a.pers,slice H ns.length ns.length,.int .u64 (I:Nat),vI 0,vI 0] 66)=w6 at *
        refine bT.o.mono ?_;rintro e w7 ⟨r7,rfl,bJ,bt⟩;have bA:=T.o.on bt;have bm:=bL.o w7 Q.says r7 bA.b bJ (by omega) cm.o;unfold Zpy at bm;rw [zp h3] at bm;have bU:=(bt.block _ (zF2.1 be.o).1).trans be.o;have ch:((sigE s.toNat o.toNat Q.says:Nat):Int)=((sigE s.toNat o.toNat Q.says:Nat):Int):=rfl;generalize ((sigE s.toNat o.toNat Q.says:Nat):Int)=X at *
        generalize ((sigS s.toNat o.toNat Q.says:Nat):Int)=Y at *
        have cH:w5.heap.size<w6.heap.size:=(zF2.1 be.o).1;have b7:Below w5.heap.size w5 w7:=bd.trans (bt.mono (by omega));obtain ⟨bP,bX,bh⟩:=zh3 bm bA bU;clear bm bA bU bt bJ bT T be ch bd;go_wp2_with fail;refine bP.o.mono ?_;rintro e w8 ⟨rfl,bk⟩;have bH:=bX.o.on bk;have bb:=(bk.block _ (zF2.1 bh.o).1).trans bh.o;have cB:w5.heap.size<w7.heap.size:=(zF2.1 bh.o).1;have cr:Below w5.heap.size w5 w8:=b7.trans (bk.mono (by omega));have b1:w.heap.size+3<=w5.heap.size:=by have:=(zF2.1 cu.o).1;omega
        have cI:w8.cell? ⟨w5.heap.size,10,none⟩=some (vI 0):=by rw [zH bb];rfl
        have cE:w8.cell? ⟨w5.heap.size,11,none⟩=some (vI 0):=by rw [zH bb];rfl
        have cz:w8.frozen? ⟨w5.heap.size,10,none⟩=false:=by simp [World.frozen?,bb]
        have cG:w8.frozen? ⟨w5.heap.size,11,none⟩=false:=by simp [World.frozen?,bb]
        have bB:((w8.setCell ⟨w5.heap.size,10,none⟩ (vI X)).setCell ⟨w5.heap.size,11,none⟩ (vI Y)).heap[w5.heap.size]?=some (.cells (qtC ⟨v.num,t,ns.sum,G,a,ns,I,X,Y⟩ (slice H ns.length ns.length)) 66 (0,0)):=by simp [World.setCell,zM,bb,qtC]
        have bI:=bH.far (((zr (w.heap.size+3) w8).setCell (p:=⟨w5.heap.size,10,none⟩) b1 (vI X)).setCell (p:=⟨w5.heap.size,11,none⟩) b1 (vI Y));have bR:=(cr.setCell (p:=⟨w5.heap.size,10,none⟩) (zn _) (vI X)).setCell (p:=⟨w5.heap.size,11,none⟩) (zn _) (vI Y);have bD:=(cb.o.on bR).setRow' (R:=qtC ⟨v.num,t,ns.sum,G,a,ns,I,X,Y⟩ (slice H ns.length ns.length)) b8;have B:=bI.setRow (qtC ⟨v.num,t,ns.sum,G,a,ns,I,X,Y⟩ (slice H ns.length ns.length));have C:=Z80 (er:=0) B;have bG:=bI.r;have F:=Z0A ⟨v.num,t,ns.sum,G,a,ns,I,X,Y⟩ H ns.length ns.length;have bQ:=(Z4j ((w8.setCell ⟨w5.heap.size,10,none⟩ (vI X)).setCell ⟨w5.heap.size,11,none⟩ (vI Y)) (w.heap.size+1+1) (qtC ⟨v.num,t,ns.sum,G,a,ns,I,X,Y⟩ (slice H ns.length ns.length)))
        have b9:=bR.size;simp only [qtC] at bB B C bG F bD bQ;obtain ⟨cf,J,L,cj,cc,cF,cC⟩:=zh7 bB B C bG bD bH bb;clear bB B C bG bD bH bb bk bI bP bX bh;go_wp2_with (first | (with_reducible refine Z0G rfl _ rfl w5.heap.size rfl _ rfl _ cf.o ?_) | (refine Z0x rfl _ _ rfl (w.heap.size+1+1) _ _ rfl rfl cj.o rfl rfl F ?_));refine bodyPost_ret (v:=.tuple #[.agg (qtC ⟨v.num,t,ns.sum,G,a,ns,I,X,Y⟩ (slice H ns.length ns.length)),vI 0]) (L.o _ rfl rfl) rfl ?_;obtain rfl:=HQ.o;subst N;exact ⟨_,rfl,⟨H,ns.length,rfl,cc.o.up (zt b9 (Nat.le_of_eq bQ.symm))⟩,J.o.b⟩
   . rw [zf h3] at d;obtain rfl:=bn.o (λh=>h3 (by rw [h.2.2.2.1,h.2.2.2.2];rfl));have bf:=zh d;clear d;go_wp2_with fail;refine (bf.o).mono ?_;rintro e w3 ⟨rfl,ba⟩;have f:=zh (HB2.o.on (ba.trans (((zr w3.heap.size w3).alloc (zn _) (.cells #[vI 0,vI 0] 29)).mono ba.size)));clear ba bf;have B:=f.o.setRow (qtC Qt.zero (slice none 0 0));have C:=Z80 (er:=1) B;have D:=f.o.r;have F:=Z0A Qt.zero none 0 0;simp only [qtC,Qt.zero] at B C D F;obtain ⟨J,L,O⟩:=zh3 B C D;clear B C D;go_wp2_with (refine Z0x rfl _ _ rfl (w.heap.size+1+1) _ _ rfl rfl O.o rfl rfl F ?_);refine bodyPost_ret (v:=.tuple #[.agg (qtC Qt.zero (slice none 0 0)),vI 1]) (L.o _ rfl rfl) rfl ?_;exact ⟨_,rfl,Z4h _ _,J.o.b⟩
end
section
open Go.RowKit Lx Px Qx
theorem Zsb (l m:List Int):(l==m)=decide (l=m):=by
 by_cases h:l=m
 . subst h;simp
 . rw [decide_eq_false h];simpa using h
theorem Zm2 (v u:Value)(l m:List Int)(B:Nat)(w:World)(I:Z03 w B v l)(M:Z03 w B u m)(N:l.length<=1000000)(O:m.length<=1000000) : Calls prog 72 #[v,u] w λe w'=>e=.returned (.bool (decide (l=m)))/\Below w.heap.size w w':=by
 obtain ⟨A,c,rfl,F⟩:=I;obtain ⟨C,c',rfl,G⟩:=M;by_cases h0:l=[]
 . subst h0;refine (Tryz.slices_Equal_int_empty A C c m.length c' w (by omega)).mono ?_;rintro e w' ⟨rfl,rfl⟩;refine ⟨?_,zr _ _⟩;cases m <;> simp
 . by_cases h1:l.length=m.length
   . obtain ⟨b,o,rfl,_,H⟩:=F h0;obtain ⟨L,D,rfl,_,J⟩:=G (by intro e;subst e;simp at h1;exact h0 h1);refine (Tryz.slices_Equal_int b o l.length c L D m.length c' l m w (zn _) (zn _) (by omega) (by omega) (λj hj=>by rw [H j hj,List.getD_eq_getElem?_getD,zv hj];rfl) (λj hj=>by rw [J j hj,List.getD_eq_getElem?_getD,zv hj];rfl)).mono ?_;rintro e w' ⟨rfl,q,rfl⟩;refine ⟨?_,⟨rfl,rfl,rfl,zn _,λ_ _=>rfl⟩⟩;rw [List.take_length,List.take_length,Zsb]
   . refine (Tryz.slices_Equal_int_lens A C l.length c m.length c' w h1).mono ?_;rintro e w' ⟨rfl,rfl⟩;refine ⟨?_,zr _ _⟩;rw [decide_eq_false (by rintro rfl;exact h1 rfl)]
structure IsK (w:World) (P:Array Value) (PV:Value) (pn:List Int) (Q:Array Value) (QV:Value) (qn:List Int) (W:World):Prop where
 p:W.heap[w.heap.size]?=some (.cells P 66 (0,0))
 q:W.heap[w.heap.size+1]?=some (.cells Q 66 (0,0))
 i:Z03 W W.heap.size PV pn
 j:Z03 W W.heap.size QV qn
 b:Below w.heap.size w W
theorem IsK.on {w W D:World}{P Q:Array Value}{B C:Value}{G F:List Int}(h:IsK w P B G Q C F W)(hb:Below W.heap.size W D):IsK w P B G Q C F D := ⟨(hb.block _ (zF2.1 h.p).1).trans h.p,(hb.block _ (zF2.1 h.q).1).trans h.q,(h.i.on hb).up hb.size,(h.j.on hb).up hb.size,Z00 h.b hb⟩
theorem IsK.drew {w W:World}{P Q:Array Value}{B D:Value}{F C:List Int}(h:IsK w P B F Q D C W):IsK w P B F Q D C W.drew:=h.on (zr _ _).drew
theorem IsK.new (w:World){P Q:Array Value}{B C:Value}{F D:List Int}(h:Z03 w w.heap.size B F)(G:Z03 w w.heap.size C D):IsK w P B F Q C D ((w.alloc (.cells P 66)).alloc (.cells Q 66)):=by
 have hb:=((zr w.heap.size w).alloc (zn _) (.cells P 66)).alloc (by simp) (.cells Q 66);refine ⟨Z0w (za w _) _,?_,(h.on hb).up hb.size,(G.on hb).up hb.size,hb⟩;have:=za (w.alloc (.cells P 66)) (.cells Q 66);rwa [zk] at this
theorem IsK.cp {w W:World}{P Q:Array Value}{B C:Value}{G F:List Int}(h:IsK w P B G Q C F W)(i:Nat)(v:Value)(D:P[i]?=some v):W.cell? ⟨w.heap.size,i,none⟩=some v:=by rw [zH h.p,D]
theorem IsK.cq {w W:World}{P Q:Array Value}{B C:Value}{G F:List Int}(h:IsK w P B G Q C F W)(i:Nat)(v:Value)(D:Q[i]?=some v):W.cell? ⟨w.heap.size+1,i,none⟩=some v:=by rw [zH h.q,D]
theorem Zi4 (p q:Qt)(V U:Value)(w:World)(hV:QtV w w.heap.size V p)(hU:QtV w w.heap.size U q)(hd:p.dig<18446744073709551616)(bF:q.dig<18446744073709551616)(hn:p.nights.length<=50000)(bE:q.nights.length<=50000) : Calls prog 47 #[V,U] w λe w'=>e=.returned (.bool (p.same q))/\Below w.heap.size w w':=by
 obtain ⟨D,F,rfl,hI⟩:=hV;obtain ⟨G,H,rfl,hJ⟩:=hU;have bz:=λW (h:Z03 W W.heap.size (slice D p.nights.length F) p.nights)=>Z8p p (qtV p (slice D p.nights.length F)) W ⟨D,F,rfl,h⟩ hd hn;have bA:=λW (h:Z03 W W.heap.size (slice G q.nights.length H) q.nights)=>Z8p q (qtV q (slice G q.nights.length H)) W ⟨G,H,rfl,h⟩ bF bE;have bR:p.says.length<=1000000:=by simp [Qt.says];omega
 have bP:q.says.length<=1000000:=by simp [Qt.says];omega
 have bB:=λW v u (h1:Z03 W W.heap.size v p.says) (h2:Z03 W W.heap.size u q.says)=>Zm2 v u p.says q.says W.heap.size W h1 h2 bR bP;have br:=Qt.same_says p q;obtain ⟨R,hR⟩:∃ R,p.same q=R:=⟨_,rfl⟩
 rw [hR] at br |-
 clear hR;generalize decide (p.says=q.says)=bs at *
 generalize p.says=bN at *
 generalize q.says=bU at *
 obtain ⟨pv,m,l,d,⟨N,M,J,L⟩,C,I,S,Y⟩:=p;obtain ⟨Z,T,X,y,⟨k2,f2,u2,s2⟩,B,qd,g,f⟩:=q;simp only [qtV] at bz bA hI hJ |-
 simp only at br hd bF hn bE;have bC:=IsK.new w (P:=#[vI pv,vI m,vI l,vI d,vI N,vI M,vI J,vI L,slice D C.length F,.int .u64 (I:Nat),vI S,vI Y]) (Q:=#[vI Z,vI T,vI X,vI y,vI k2,vI f2,vI u2,vI s2,slice G B.length H,.int .u64 (qd:Nat),vI g,vI f]) hI hJ
 have ba:Hid (∀ wx,IsK w #[vI pv,vI m,vI l,vI d,vI N,vI M,vI J,vI L,slice D C.length F,.int .u64 (I:Nat),vI S,vI Y] (slice D C.length F) C #[vI Z,vI T,vI X,vI y,vI k2,vI f2,vI u2,vI s2,slice G B.length H,.int .u64 (qd:Nat),vI g,vI f] (slice G B.length H) B wx->wx.cell? ⟨w.heap.size,0,none⟩=some (vI pv)/\wx.cell? ⟨w.heap.size,1,none⟩=some (vI m)/\wx.cell? ⟨w.heap.size,2,none⟩=some (vI l)/\wx.cell? ⟨w.heap.size,3,none⟩=some (vI d)/\wx.cell? ⟨w.heap.size,4,none⟩=some (vI N)/\wx.cell? ⟨w.heap.size,5,none⟩=some (vI M)/\wx.cell? ⟨w.heap.size,6,none⟩=some (vI J)/\wx.cell? ⟨w.heap.size,7,none⟩=some (vI L)/\wx.cell? ⟨w.heap.size,8,none⟩=some (slice D C.length F)/\wx.cell? ⟨w.heap.size,9,none⟩=some (.int .u64 (I:Nat))/\wx.cell? ⟨w.heap.size,10,none⟩=some (vI S)/\wx.cell? ⟨w.heap.size,11,none⟩=some (vI Y)/\wx.cell? ⟨w.heap.size+1,0,none⟩=some (vI Z)/\wx.cell? ⟨w.heap.size+1,1,none⟩=some (vI T)/\wx.cell? ⟨w.heap.size+1,2,none⟩=some (vI X)/\wx.cell? ⟨w.heap.size+1,3,none⟩=some (vI y)/\wx.cell? ⟨w.heap.size+1,4,none⟩=some (vI k2)/\wx.cell? ⟨w.heap.size+1,5,none⟩=some (vI f2)/\wx.cell? ⟨w.heap.size+1,6,none⟩=some (vI u2)/\wx.cell? ⟨w.heap.size+1,7,none⟩=some (vI s2)/\wx.cell? ⟨w.heap.size+1,8,none⟩=some (slice G B.length H)/\wx.cell? ⟨w.heap.size+1,9,none⟩=some (.int .u64 (qd:Nat))/\wx.cell? ⟨w.heap.size+1,10,none⟩=some (vI g)/\wx.cell? ⟨w.heap.size+1,11,none⟩=some (vI f)/\IsK w #[vI pv,vI m,vI l,vI d,vI N,vI M,vI J,vI L,slice D C.length F,.int .u64 (I:Nat),vI S,vI Y] (slice D C.length F) C #[vI Z,vI T,vI X,vI y,vI k2,vI f2,vI u2,vI s2,slice G B.length H,.int .u64 (qd:Nat),vI g,vI f] (slice G B.length H) B wx):=λwx h=>⟨h.cp 0 _ rfl,h.cp 1 _ rfl,h.cp 2 _ rfl,h.cp 3 _ rfl,h.cp 4 _ rfl,h.cp 5 _ rfl,h.cp 6 _ rfl,h.cp 7 _ rfl,h.cp 8 _ rfl,h.cp 9 _ rfl,h.cp 10 _ rfl,h.cp 11 _ rfl,h.cq 0 _ rfl,h.cq 1 _ rfl,h.cq 2 _ rfl,h.cq 3 _ rfl,h.cq 4 _ rfl,h.cq 5 _ rfl,h.cq 6 _ rfl,h.cq 7 _ rfl,h.cq 8 _ rfl,h.cq 9 _ rfl,h.cq 10 _ rfl,h.cq 11 _ rfl,h⟩
 have bT:Hid (∀ wx,IsK w #[vI pv,vI m,vI l,vI d,vI N,vI M,vI J,vI L,slice D C.length F,.int .u64 (I:Nat),vI S,vI Y] (slice D C.length F) C #[vI Z,vI T,vI X,vI y,vI k2,vI f2,vI u2,vI s2,slice G B.length H,.int .u64 (qd:Nat),vI g,vI f] (slice G B.length H) B wx->Calls prog 39 #[.agg #[vI pv,vI m,vI l,vI d,vI N,vI M,vI J,vI L,slice D C.length F,.int .u64 (I:Nat),vI S,vI Y]] wx λe w'=>∃ r,e=.returned r/\Z03 w' w'.heap.size r bN/\Below wx.heap.size wx w'):=λwx h=>bz wx h.i;have bS:Hid (∀ wx,IsK w #[vI pv,vI m,vI l,vI d,vI N,vI M,vI J,vI L,slice D C.length F,.int .u64 (I:Nat),vI S,vI Y] (slice D C.length F) C #[vI Z,vI T,vI X,vI y,vI k2,vI f2,vI u2,vI s2,slice G B.length H,.int .u64 (qd:Nat),vI g,vI f] (slice G B.length H) B wx->Calls prog 39 #[.agg #[vI Z,vI T,vI X,vI y,vI k2,vI f2,vI u2,vI s2,slice G B.length H,.int .u64 (qd:Nat),vI g,vI f]] wx λe w'=>∃ r,e=.returned r/\Z03 w' w'.heap.size r bU/\Below wx.heap.size wx w'):=λwx h=>bA wx h.j;obtain ⟨O,bL,bb⟩:=zh3 bC bB br;clear bC bB br bz bA hI hJ;by_cases h0:N=k2
 . subst h0;by_cases h1:M=f2
   . subst h1;by_cases h2:J=u2
     . subst h2;by_cases h3:L=s2
       . subst h3;by_cases hdd:I=qd
         . subst hdd;obtain rfl:R=bs:=by rw [<- bb.o];simp
           go_enter func47,ntmps47;go_wp2_with fail;go_region_held3 (λw'=>w'.cell? ⟨w.heap.size,0,none⟩=some (vI pv)/\w'.cell? ⟨w.heap.size,1,none⟩=some (vI m)/\w'.cell? ⟨w.heap.size,2,none⟩=some (vI l)/\w'.cell? ⟨w.heap.size,3,none⟩=some (vI d)/\w'.cell? ⟨w.heap.size,4,none⟩=some (vI N)/\w'.cell? ⟨w.heap.size,5,none⟩=some (vI M)/\w'.cell? ⟨w.heap.size,6,none⟩=some (vI J)/\w'.cell? ⟨w.heap.size,7,none⟩=some (vI L)/\w'.cell? ⟨w.heap.size,8,none⟩=some (slice D C.length F)/\w'.cell? ⟨w.heap.size,9,none⟩=some (.int .u64 (I:Nat))/\w'.cell? ⟨w.heap.size,10,none⟩=some (vI S)/\w'.cell? ⟨w.heap.size,11,none⟩=some (vI Y)/\w'.cell? ⟨w.heap.size+1,0,none⟩=some (vI Z)/\w'.cell? ⟨w.heap.size+1,1,none⟩=some (vI T)/\w'.cell? ⟨w.heap.size+1,2,none⟩=some (vI X)/\w'.cell? ⟨w.heap.size+1,3,none⟩=some (vI y)/\w'.cell? ⟨w.heap.size+1,4,none⟩=some (vI N)/\w'.cell? ⟨w.heap.size+1,5,none⟩=some (vI M)/\w'.cell? ⟨w.heap.size+1,6,none⟩=some (vI J)/\w'.cell? ⟨w.heap.size+1,7,none⟩=some (vI L)/\w'.cell? ⟨w.heap.size+1,8,none⟩=some (slice G B.length H)/\w'.cell? ⟨w.heap.size+1,9,none⟩=some (.int .u64 (I:Nat))/\w'.cell? ⟨w.heap.size+1,10,none⟩=some (vI g)/\w'.cell? ⟨w.heap.size+1,11,none⟩=some (vI f)/\IsK w #[vI pv,vI m,vI l,vI d,vI N,vI M,vI J,vI L,slice D C.length F,.int .u64 (I:Nat),vI S,vI Y] (slice D C.length F) C #[vI Z,vI T,vI X,vI y,vI N,vI M,vI J,vI L,slice G B.length H,.int .u64 (I:Nat),vI g,vI f] (slice G B.length H) B w') (first | (with_reducible exact ba.o _ O.o.drew) | (with_reducible exact ba.o _ L6) | (with_reducible exact ba.o _ L5) | (with_reducible exact ba.o _ L7) | fail) (first
             | (go_at_call 39;have A:=(‹_/\_/\_/\_/\_/\_/\_/\_/\_/\_/\_/\_/\_/\_/\_/\_/\_/\_/\_/\_/\_/\_/\_/\_/\IsK w #[vI pv,vI m,vI l,vI d,vI N,vI M,vI J,vI L,slice D C.length F,.int .u64 (I:Nat),vI S,vI Y] (slice D C.length F) C #[vI Z,vI T,vI X,vI y,vI N,vI M,vI J,vI L,slice G B.length H,.int .u64 (I:Nat),vI g,vI f] (slice G B.length H) B _›).2.2.2.2.2.2.2.2.2.2.2.2.2.2.2.2.2.2.2.2.2.2.2.2;with_reducible refine (bT.o _ A).mono ?_;rintro ex w5 ⟨r5,rfl,bG,bu⟩;have L5:=A.on bu;have bI:=zh bG;clear bG;try (have bJ:=(bH.o.on bu).up bu.size;have bO:=zh bJ;clear bJ);clear bu A)
             | (go_at_call 39;have A:=(‹_/\_/\_/\_/\_/\_/\_/\_/\_/\_/\_/\_/\_/\_/\_/\_/\_/\_/\_/\_/\_/\_/\_/\_/\IsK w #[vI pv,vI m,vI l,vI d,vI N,vI M,vI J,vI L,slice D C.length F,.int .u64 (I:Nat),vI S,vI Y] (slice D C.length F) C #[vI Z,vI T,vI X,vI y,vI N,vI M,vI J,vI L,slice G B.length H,.int .u64 (I:Nat),vI g,vI f] (slice G B.length H) B _›).2.2.2.2.2.2.2.2.2.2.2.2.2.2.2.2.2.2.2.2.2.2.2.2;with_reducible refine (bS.o _ A).mono ?_;rintro ex w6 ⟨r6,rfl,bD,bk⟩;have L6:=A.on bk;have bH:=zh bD;clear bD;try (have bK:=(bI.o.on bk).up bk.size;have bQ:=zh bK;clear bK);clear bk A)
             | (go_at_call 72;have A:=(‹_/\_/\_/\_/\_/\_/\_/\_/\_/\_/\_/\_/\_/\_/\_/\_/\_/\_/\_/\_/\_/\_/\_/\_/\IsK w #[vI pv,vI m,vI l,vI d,vI N,vI M,vI J,vI L,slice D C.length F,.int .u64 (I:Nat),vI S,vI Y] (slice D C.length F) C #[vI Z,vI T,vI X,vI y,vI N,vI M,vI J,vI L,slice G B.length H,.int .u64 (I:Nat),vI g,vI f] (slice G B.length H) B _›).2.2.2.2.2.2.2.2.2.2.2.2.2.2.2.2.2.2.2.2.2.2.2.2;(first | (refine (bL.o _ _ _ bI.o bO.o).mono ?_) | (refine (bL.o _ _ _ bQ.o bH.o).mono ?_));rintro ex w7 ⟨rfl,bM⟩;have L7:=A.on bM;clear bM A))
           all_goals have A:=(‹_/\_/\_/\_/\_/\_/\_/\_/\_/\_/\_/\_/\_/\_/\_/\_/\_/\_/\_/\_/\_/\_/\_/\_/\IsK w #[vI pv,vI m,vI l,vI d,vI N,vI M,vI J,vI L,slice D C.length F,.int .u64 (I:Nat),vI S,vI Y] (slice D C.length F) C #[vI Z,vI T,vI X,vI y,vI N,vI M,vI J,vI L,slice G B.length H,.int .u64 (I:Nat),vI g,vI f] (slice G B.length H) B _›).2.2.2.2.2.2.2.2.2.2.2.2.2.2.2.2.2.2.2.2.2.2.2.2;go_wp2_with fail;go_ret;exact ⟨rfl,A.b⟩
         . have d1:((I:Int)==(qd:Int))=false:=by simp;omega
           have d2:¬ ((I:Int)=(qd:Int)):=by omega
           obtain rfl:R=false:=by rw [<- bb.o];simp [hdd]
           obtain ⟨c0,c1,c2,c3,c4,c5,c6,c7,c8,c9,bv,bp,bh,bq,bm,bf,bd,bx,bn,bt,be,bc,bj,bg,_⟩:=ba.o _ O.o;have HD:=zh O.o.drew.b;clear O;go_enter func47,ntmps47;go_wp2_with fail;go_region
           all_goals go_wp2_with fail;go_ret;exact ⟨rfl,HD.o⟩
       . have d1:(L==s2)=false:=by simpa using h3
         obtain rfl:R=false:=by rw [<- bb.o];simp [h3]
         obtain ⟨c0,c1,c2,c3,c4,c5,c6,c7,c8,c9,bv,bp,bh,bq,bm,bf,bd,bx,bn,bt,be,bc,bj,bg,_⟩:=ba.o _ O.o;have HD:=zh O.o.drew.b;clear O;go_enter func47,ntmps47;go_wp2_with fail;go_region
         all_goals go_wp2_with fail;go_ret;exact ⟨rfl,HD.o⟩
     . have d1:(J==u2)=false:=by simpa using h2
       obtain rfl:R=false:=by rw [<- bb.o];simp [h2]
       obtain ⟨c0,c1,c2,c3,c4,c5,c6,c7,c8,c9,bv,bp,bh,bq,bm,bf,bd,bx,bn,bt,be,bc,bj,bg,_⟩:=ba.o _ O.o;have HD:=zh O.o.drew.b;clear O;go_enter func47,ntmps47;go_wp2_with fail;go_region
       all_goals go_wp2_with fail;go_ret;exact ⟨rfl,HD.o⟩
   . have d1:(M==f2)=false:=by simpa using h1
     obtain rfl:R=false:=by rw [<- bb.o];simp [h1]
     obtain ⟨c0,c1,c2,c3,c4,c5,c6,c7,c8,c9,bv,bp,bh,bq,bm,bf,bd,bx,bn,bt,be,bc,bj,bg,_⟩:=ba.o _ O.o;have HD:=zh O.o.drew.b;clear O;go_enter func47,ntmps47;go_wp2_with fail;go_region
     all_goals go_wp2_with fail;go_ret;exact ⟨rfl,HD.o⟩
 . have d1:(N==k2)=false:=by simpa using h0
   obtain rfl:R=false:=by rw [<- bb.o];simp [h0]
   obtain ⟨c0,c1,c2,c3,c4,c5,c6,c7,c8,c9,bv,bp,bh,bq,bm,bf,bd,bx,bn,bt,be,bc,bj,bg,_⟩:=ba.o _ O.o;have HD:=zh O.o.drew.b;clear O;go_enter func47,ntmps47;go_wp2_with fail;go_region
   all_goals go_wp2_with fail;go_ret;exact ⟨rfl,HD.o⟩
end
