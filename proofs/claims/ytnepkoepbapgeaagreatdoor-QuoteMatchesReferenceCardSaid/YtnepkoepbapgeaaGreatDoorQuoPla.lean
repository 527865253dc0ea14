import Derived.Test.YtnepkoepbapgeaaGreatDoorQuoPrice
import Derived.Test.YtnepkoepbapgeaaGreatDoorQuoUse
namespace Go.Proofs.YtnepkoepbapgeaaGreatDoor
open _root_.Go.Proofs.Tryz
open Value (int slice)
open IntKind (i64)
set_option maxHeartbeats 8000000
set_option maxRecDepth 100000
section
open Lx Px
namespace Qx
theorem Zra {v:Vr}{a:Ask}{t s o:Int}(B:v.okB=true)(D:a.okB=true)(C:Z1E t=true)(G:secB s=true)(F:secB o=true)(H:v.time<=t) : Z48 v a t s o=match Z14 v a t with
  | .error e=>(.zero,e)
  | .ok q=>({ q with sE:=sigE s.toNat o.toNat q.says,sS:=sigS s.toNat o.toNat q.says },0):=by
 unfold Z48;rw [B,D,C,G,F];simp only [Bool.and_self,if_true];rw [zf (by omega)];cases Z14 v a t <;> rfl
theorem Zhb {v:Vr}{a:Ask}{t s o:Int}{q:Qt}(h:Z48 v a t s o=(q,0)):Z1b v q (powP 4 s.toNat:Nat)=(true,0):=by
 obtain ⟨J,M,G,T,V,N,w,hw,B⟩:=Z8r h;obtain ⟨U,I,R,Y,X,S⟩:=Z71 hw;have D:q.ask=a:=by rw [B];exact R
 have L:q.time=t:=by rw [B];exact I
 have O:q.sE=(sigE s.toNat o.toNat w.says:Int):=by rw [B]
 have H:q.sS=(sigS s.toNat o.toNat w.says:Int):=by rw [B]
 have C:q.says=w.says:=by rw [B];rfl
 have F:q.same w=true:=by rw [Qt.same_iff,B];simp
 unfold Z1b;rw [J,ZkB _ (ZkC _),D,L,M,G,hw];simp only [Bool.and_self,if_true,Bool.true_and,decide_eq_true_eq,zp N,Prod.mk.injEq,and_true];rw [F,O,H,C,zB,Zru];rfl
theorem Ze3 {v:Vr}{a:Ask}{t s o:Int}{q x:Qt}{p:Int}(h:Z48 v a t s o=(q,0))(D:x.ask=q.ask)(R:x.time=q.time)(J:x.same q=false)(C:memB p=true):Z1b v x p=(false,0):=by
 obtain ⟨L,N,H,U,X,O,w,hw,B⟩:=Z8r h;obtain ⟨V,I,S,Z,Y,T⟩:=Z71 hw;have F:x.ask=a:=by rw [D,B];exact S
 have M:x.time=t:=by rw [R,B];exact I
 have G:x.same w=false:=by rw [<- J,B,zA,Qt.same_iff,Qt.same_iff]
 unfold Z1b;rw [L,C,F,M,N,H,hw];simp only [Bool.and_self,if_true,Bool.true_and,decide_eq_true_eq,zp O,Prod.mk.injEq,and_true];rw [G];rfl
theorem Zk5 (l:List Rt)(r:Rt):Z1C (l++[r])=Z1C l++(r.text++[10]):=by simp [Z1C]
end Qx
end
section
open Lx Px
namespace Qx
theorem Z5G (l:List Rt)(a:Ask):∀ (k:Nat) (n:Int),Z0c l a (k+1) n=match Z0c l a k n with
 | .error e=>.error e
 | .ok (cs,B)=>match Z0m l a (n+k) with
  | .no e=>.error e
  | .ok c r=>.ok (cs++[c],B+Z7C c r):=by
 intro k;induction k with
 | zero =>
  intro n;simp only [Z0c,zn2];rw [show n+((0:Nat):Int)=n by omega];cases Z0m l a n with
  | no e=>rfl
  | ok c r=>simp
 | succ k ih =>
  intro n;have C:Z0c l a (k+1+1) n=match Z0m l a n with
   | .no e=>.error e
   | .ok c r=>match Z0c l a (k+1) (n+1) with
    | .error e=>.error e
    | .ok (cs,B)=>.ok (c::cs,Z7C c r+B):=rfl
  have D:Z0c l a (k+1) n=match Z0m l a n with
   | .no e=>.error e
   | .ok c r=>match Z0c l a k (n+1) with
    | .error e=>.error e
    | .ok (cs,B)=>.ok (c::cs,Z7C c r+B):=rfl
  rw [C,D,ih (n+1),show n+1+(k:Int)=n+((k+1:Nat):Int) by omega];cases Z0m l a n with
  | no e=>rfl
  | ok c r =>
   simp only;cases Z0c l a k (n+1) with
   | error e=>rfl
   | ok p =>
    obtain ⟨cs,B⟩:=p;simp only;cases Z0m l a (n+((k+1:Nat):Int)) with
    | no e=>rfl
    | ok c' r'=>simp [Int.add_assoc]
theorem Z8G (l:List Rt)(a:Ask)(n:Int)(k:Nat){e:Int}(h:Z0c l a k n=.error e):∀ j,Z0c l a (k+j) n=.error e:=by
 intro j;induction j with
 | zero=>exact h
 | succ j ih=>rw [<- Nat.add_assoc,Z5G,ih]
theorem Za2 {l:List Rt}{a:Ask}{k:Nat}{n:Int}{cs:List Int}{B:Int}(G:∀ r∈l,Z15 r=0)(h:Z0c l a k n=.ok (cs,B)):cs.length=k/\0<=B/\B<=cs.sum/\cs.sum<=k*1000000000:=by
 obtain ⟨C,F,D,H,_⟩:=Zd2 G _ _ _ _ h;exact ⟨C,F,D,H⟩
end Qx
end
section
open Go.RowKit Lx Px Qx
theorem Z86 {w:World}{base n:Nat}{e:TypeId}{v:Value}{l:List Int}(h:w.ownsRow base e 1 v n (l.map (.int .i64)))(D:n=l.length):∃ A c,v=slice A l.length c/\l.length<=c:=by
 subst D;rcases h.2 with ⟨B,F⟩ | ⟨g,cap,G,B,_,_,C,_⟩
 · exact ⟨none,0,by rw [B,F],by omega⟩
 · exact ⟨_,cap,B,C⟩
def PcL (w:World)(l:List Rt)(a:Qx.Ask)(K:Nat)(v kp sm nt:Value)(wr:World):Prop := ∃ (k:Nat) (cs:List Int) (q:Int),k<=K/\nt=int i64 (a.fr+k)/\kp=int i64 q/\sm=int i64 cs.sum/\Z0c l a k a.fr=.ok (cs,q)/\wr.ownsRow (w.heap.size+1) 3 1 v cs.length (cs.map (.int .i64)) /\ Below w.heap.size w wr/\wr.heap[w.heap.size]?=some (.cells #[int i64 a.kind,int i64 a.fr,int i64 a.un,int i64 a.pers] 26 (0,0))
def PriceC (x:Except Int (List Int × Int))(w:World)(e:Ending)(w':World):Prop := Below w.heap.size w w'/\match x with
  | .ok (cs,kp)=>∃ A,e=.returned (.tuple #[slice A cs.length cs.length,int i64 kp,int i64 0])/\Z03 w' w'.heap.size (slice A cs.length cs.length) cs/\∀ p,A=some p->w.heap.size<=p.block
  | .error er=>e=.returned (.tuple #[slice none 0 0,int i64 0,int i64 er])
theorem Zk6 (l:List Rt)(v:Value)(a:Qx.Ask)(w:World)(hv:RtsV w w.heap.size v l):Calls prog 25 #[v,askV a] w (PriceC (Z0d l a) w):=by
 obtain ⟨A,c,rfl,_⟩:=id hv;have hx:=za w (.cells #[int i64 a.kind,int i64 a.fr,int i64 a.un,int i64 a.pers] 26);have hb:=(zr w.heap.size w).alloc (zn _) (.cells #[int i64 a.kind,int i64 a.fr,int i64 a.un,int i64 a.pers] 26);have hP:Z0d l a=if useB l&&a.okB then (match Z0c l a (a.un - a.fr).toNat a.fr with | .error e=>.error e | .ok (cs,kp)=>if 1000000000<cs.sum then .error 3 else .ok (cs,kp)) else .error 1:=rfl;have HV:=zh hv;have B:=zh hx;have D:=zh hb;have Y:=zh hP;clear hv hx hb hP;dsimp only [askV];go_enter func25,ntmps25;go_wp2_with fail;generalize w.alloc (.cells #[int i64 a.kind,int i64 a.fr,int i64 a.un,int i64 a.pers] 26)=w1 at *
 refine (Zab l (slice A l.length c) w1 ((HV.out.on D.out).up D.out.size)).mono ?_;rintro e f ⟨rfl,bf⟩;have bR:=(bf.block _ (zs B.out)).trans B.out;have bM:=Z00 D.out bf;clear bf B D;have B:=zh bR;have D:=zh bM;clear bR bM;cases hu:useB l with
 | false =>
  have N:Z0d l a=.error 1:=by rw [Y.out,hu];rfl
  have U:=zh N;clear N Y hu;go_wp2_with fail;refine bodyPost_ret (v:=.tuple #[slice none 0 0,int i64 0,int i64 1]) (by simp [results,results25,go_sem]) rfl ?_;rw [U.out];exact ⟨D.out,rfl⟩
 | true =>
  have a0:f.cell? ⟨w.heap.size,0,none⟩=some (int i64 a.kind):=by rw [zc B.out];rfl
  have a1:f.cell? ⟨w.heap.size,1,none⟩=some (int i64 a.fr):=by rw [zc B.out];rfl
  have a2:f.cell? ⟨w.heap.size,2,none⟩=some (int i64 a.un):=by rw [zc B.out];rfl
  have a3:f.cell? ⟨w.heap.size,3,none⟩=some (int i64 a.pers):=by rw [zc B.out];rfl
  have bq:=λW=>Zkj a W;simp only [askV] at bq;have bx:=zh bq;clear bq;go_wp2_with fail;refine (bx.out f).mono ?_;rintro e w3 ⟨rfl,be⟩;have bG:=(be.block _ (zs B.out)).trans B.out;have bA:=Z00 D.out be;clear be B D a0 a1 a2 a3 bx;have B:=zh bG;have D:=zh bA;clear bG bA;cases hok:a.okB with
  | false =>
   have N:Z0d l a=.error 1:=by rw [Y.out,hu,hok];rfl
   have U:=zh N;clear N Y hu hok;go_wp2_with fail;refine bodyPost_ret (v:=.tuple #[slice none 0 0,int i64 0,int i64 1]) (by simp [results,results25,go_sem]) rfl ?_;rw [U.out];exact ⟨D.out,rfl⟩
  | true =>
   obtain ⟨z1,z2,z3,z4,_⟩:=Z1u hok;obtain ⟨_,bC,_⟩:=(Z2d l).1 hu;obtain ⟨K,hK⟩:∃ K,(a.un - a.fr).toNat=K:=⟨_,rfl⟩
   have N:Z0d l a=(match Z0c l a K a.fr with | .error e=>.error e | .ok (cs,kp)=>if 1000000000<cs.sum then .error 3 else .ok (cs,kp)):=by rw [Y.out,hu,hok,hK];rfl
   have cf:(K:Int)=a.un - a.fr:=by omega
   have a1:w3.cell? ⟨w.heap.size,1,none⟩=some (int i64 a.fr):=by rw [zc B.out];rfl
   have U:=zh N;have HU:=zh hu;have bX:=zh hok;have bn:=zh bC;clear N hu hok bC Y hK;go_wp2_with fail;go_loopw [4,5,7,8] (λv kp sm nt wr=>PcL w l a K v kp sm nt wr) (λ_ _ _ nt _=>(a.un - intOf nt).toNat)
   case atStart=>exact ⟨0,[],0,Nat.zero_le _,by simp,rfl,rfl,rfl,World.ownsRow_nil _ _ _ _,D.out,B.out⟩
   case round =>
    clear a1;obtain ⟨k,cs,q,hk,rfl,rfl,rfl,F,L,M,T⟩:=hrel;have b0:wr.cell? ⟨w.heap.size,0,none⟩=some (int i64 a.kind):=by rw [zc T];rfl
    have b1:wr.cell? ⟨w.heap.size,1,none⟩=some (int i64 a.fr):=by rw [zc T];rfl
    have b2:wr.cell? ⟨w.heap.size,2,none⟩=some (int i64 a.un):=by rw [zc T];rfl
    have b3:wr.cell? ⟨w.heap.size,3,none⟩=some (int i64 a.pers):=by rw [zc T];rfl
    obtain ⟨X,q0,q1,q2⟩:=Za2 bn.out F;have S:=Z5G l a k a.fr;rw [F] at S;dsimp only at S;have bW:w.heap.size<wr.heap.size:=(zs T)
    by_cases hlt:k<K
    · have dl:decide (a.fr+(k:Int)<a.un)=true:=by simp;omega
      have bj:=Zhh l (slice A l.length c) a (a.fr+k) wr ((HV.out.on M).up M.size) HU.out bX.out (by omega) (by omega);simp only [askV] at bj;have bB:(∃ e,Z0m l a (a.fr+k)=.no e/\e≠0)\/(∃ c r,Z0m l a (a.fr+k)=.ok c r):=by
       cases C:Z0m l a (a.fr+k) with
       | no e=>exact .inl ⟨e,rfl,λh=>Z8r.night_err_ne (by rw [C,h])⟩
       | ok c r=>exact .inr ⟨c,r,rfl⟩
      have bg:=zh bj;have bb:=zh bB;have ba:=zh F;have d:=zh L;have I:=zh M;have bm:=zh T;have Z:=zh S;have bd:=zh X;clear bj bB F L M T S X;go_wp2_with fail;refine bg.out.mono ?_;intro e H hh;rcases bb.out with ⟨er,C,bL⟩ | ⟨G,r,C⟩
      · rw [C] at hh;obtain ⟨J,rfl⟩:=hh;have V:=Z00 I.out J;have bE:=V.alloc V.size (.cells Z29 65);have cn:(er != 0)=true:=by simpa using bL
        have hE:Z0c l a K a.fr=.error er:=by
         have h1:Z0c l a (k+1) a.fr=.error er:=by rw [Z.out,C]
         have h2:=Z8G l a a.fr (k+1) h1 (K - (k+1));rwa [show k+1+(K - (k+1))=K by omega] at h2
        have R:Z0d l a=.error er:=by rw [U.out,hE]
        have b5:=Z6q;have j:=zh R;have b6:=zh bE;clear R bE bb ba d I bm Z bg bL hE C V J b0 b1 b2 b3;go_wp2_with (with_reducible refine Z3u rfl _ _ rfl _ Z29 rfl rfl rfl rfl b5 ?_);refine bodyPost_ret (v:=.tuple #[slice none 0 0,int i64 0,int i64 er]) (by simp [results,results25,go_sem]) rfl ?_;rw [j.out];exact ⟨b6.out,rfl⟩
      · rw [C] at hh;obtain ⟨J,O,pv,b4,rfl⟩:=hh;obtain ⟨n0,n1,hmem⟩:=Z6z C;obtain ⟨_,_,_,_,_,_,_,_,_,_,_,bp,bY,b8,_,_,_⟩:=Z3e (Z0G (bn.out r hmem));obtain ⟨cg,cj⟩:=Z62 n0 (Z0G (bn.out r hmem));have bk:=λW=>Zkw G r.kn r.kq W n0 n1 bp bY b8;have bF:Z7C G r=rndE (G*r.kn) r.kq:=rfl;rw [<- bF] at bk;clear bF;have bz:Z0c l a (k+1) a.fr=.ok (cs++[G],q+Z7C G r):=by rw [Z.out,C]
        have V:=Z00 I.out J;have br:=(J.block _ bW).trans bm.out;have bv:=Z2v d.out J;have cr:=J.size;have bc:=za H (.cells (rtC ⟨r,O,pv⟩) 65);have c8:(H.alloc (.cells (rtC ⟨r,O,pv⟩) 65)).cell? ⟨H.heap.size,8,none⟩=some (int i64 r.kn):=by rw [zc bc];rfl
        have c9:(H.alloc (.cells (rtC ⟨r,O,pv⟩) 65)).cell? ⟨H.heap.size,9,none⟩=some (int i64 r.kq):=by rw [zc bc];rfl
        have bO:=V.alloc V.size (.cells (rtC ⟨r,O,pv⟩) 65);have bD:=Z0A br (.cells (rtC ⟨r,O,pv⟩) 65);have bt:=Z2v bv ((zr H.heap.size H).alloc (zn _) (.cells (rtC ⟨r,O,pv⟩) 65));generalize Z7C G r=pt at *
        have bT:=zh bk;have bZ:=zh bz;have bI:=zh bO;have bP:=zh bD;have bK:=zh bt;have ch:=zh bp;have ct:=zh hmem;have HN:=zh C;clear bk bz bO bD bt bp hmem C bb ba d I bm Z bg V J br bv bc b0 b1 b2 b3;go_wp2_with (with_reducible refine Z3u rfl _ _ rfl _ (rtC ⟨r,O,pv⟩) rfl rfl rfl rfl b4 ?_);generalize bH:H.alloc (.cells (rtC ⟨r,O,pv⟩) 65)=w5 at *
        have cm:H.heap.size<w5.heap.size:=by rw [<- bH];simp
        clear bH;refine (bT.out w5).mono ?_;rintro e w6 ⟨rfl,m⟩;have bQ:=Z00 bI.out m;have bu:=(m.block _ (by omega)).trans bP.out;have bh:=Z2v bK.out m;have ck:=m.size;obtain ⟨y,c6,rfl,_⟩:=Z86 bh rfl;have bU:=zh bQ;have cb:=zh bu;have bN:=zh bh;clear bQ bu bh bI bP bK m c8 c9;go_wp2_with (at_builtin;refine Z2u _ rfl _ _ rfl (w.heap.size+1) _ cs rfl (bN.out.alloc _) w6.heap.size G rfl (by simp [go_sem]) (by have:=bd.out;omega) (by simp;omega) ?_;intro v' w7 bV bJ);have bS:∀ g,(Value.slice y cs.length c6).ownBlock=some g->w.heap.size+1<=g:=λg e=>(bN.out.lt g e).1;have b9:Below w.heap.size w w7:=(bU.out.alloc (by omega) (.cells #[int i64 G] 3)).grown bJ (by simp;omega) (λg e=>by have:=bS g e;omega);have cd:=(bJ.block w.heap.size (by simp;omega) (λe=>by have:=bS _ e.symm;omega)).trans (Z0A cb.out _);go_roundw
        case rel=>exact ⟨k+1,cs++[G],q+pt,by omega,by go_num,rfl,by simp,bZ.out,bV,b9,cd⟩
        case measure=>simp [intOf];omega
    · have b7:k=K:=by omega
      subst b7;have dl:decide (a.fr+(k:Int)<a.un)=false:=by simp;omega
      obtain ⟨y,c6,rfl,ce⟩:=Z86 L rfl;have hI:=Z03.own L rfl;by_cases hs:1000000000<cs.sum
      · have ds:decide (cs.sum > 1000000000)=true:=by simpa using hs
        have R:Z0d l a=.error 3:=by rw [U.out,F];exact zp hs
        have j:=zh R;have I:=zh M;have d:=zh L;have ba:=zh F;have Z:=zh S;have HI:=zh hI;have HS:=zh hs;have bd:=zh X;clear R M L F S hI hs X;go_wp2_with fail;refine bodyPost_ret (v:=.tuple #[slice none 0 0,int i64 0,int i64 3]) (by simp [results,results25,go_sem]) rfl ?_;rw [j.out];exact ⟨I.out,rfl⟩
      · have ds:decide (cs.sum > 1000000000)=false:=by simpa using hs
        have R:Z0d l a=.ok (cs,q):=by rw [U.out,F];exact zf hs
        have bs:=λW=>Zp5 cs y c6 W ce;have j:=zh R;have I:=zh M;have d:=zh L;have ba:=zh F;have Z:=zh S;have HI:=zh hI;have HS:=zh hs;have ca:=zh bs;have bd:=zh X;clear R M L F S hI hs bs X;go_wp2_with fail;refine (ca.out _).mono ?_;rintro e w' ⟨rfl,rfl⟩;go_wp2_with fail;refine bodyPost_ret (v:=.tuple #[slice y cs.length cs.length,int i64 q,int i64 0]) (by simp [results,results25,go_sem]) rfl ?_;rw [j.out];refine ⟨I.out,y,rfl,?_,λp e=>by have:=(d.out.lt p.block (by rw [e];rfl)).1;omega⟩;obtain ⟨A',c',e,hA⟩:=HI.out;injection e with e1 _ e3
        subst e1;exact ⟨_,_,rfl,hA⟩
end
section
open Go.RowKit Lx Px Qx
namespace Qx
theorem Zrb (r:Rt)(a:Ask)(B:Int)(h:apR r a B<0) : -(apR r a B)=3 \/ -(apR r a B)=22:=by
 unfold apR at h |-
 split at h
 · rename_i C;rw [zp C];cases hv:valE (Z0w a B) (r.wo,r.wn) r.wl with
   | ok n d=>rw [hv] at h;dsimp only at h;split at h <;> omega
   | no e=>rcases Z3B hv with rfl | rfl <;> simp
 · omega
theorem Znq {a:Ask}{B:Int}:∀ (l:List Rt) (o:Option Rt) {e:Int},Z2g a B o l=.error e->e=3\/e=22:=by
 intro l;induction l with
 | nil=>intro o e h;simp [Z2g] at h
 | cons r l ih =>
  intro o e h;rw [Z2g] at h;split at h
  · rename_i C;simp only [Except.error.injEq] at h;rw [<- h];exact Zrb r a B C
  · exact ih _ h
theorem Zk7 {l:List Rt}{a:Ask}{B e:Int}(h:Z0m l a B=.no e):e=3\/e=4\/e=22:=by
 unfold Z0m at h;cases hb:Z2g a B none l with
 | error e' =>rw [hb] at h;simp only [N.no.injEq] at h;subst h;rcases Znq l none hb with h | h <;> omega
 | ok o =>
  rw [hb] at h;cases o with
  | none=>simp only [N.no.injEq] at h;omega
  | some r =>
   dsimp only at h;cases hv:valE (Z0w a B) (r.po,r.pn) r.pl with
   | no e' =>rw [hv] at h;simp only [N.no.injEq] at h;subst h;rcases Z3B hv with h | h <;> omega
   | ok n d =>
    rw [hv] at h;dsimp only at h;split at h
    · simp only [N.no.injEq] at h;omega
    · cases h
theorem Zhc {l:List Rt}{a:Ask}:∀ (k:Nat) (n:Int) {e:Int},Z0c l a k n=.error e->e=3\/e=4\/e=22:=by
 intro k;induction k with
 | zero=>intro n e h;simp [Z0c] at h
 | succ k ih =>
  intro n e h;rw [Z0c] at h;cases hn:Z0m l a n with
  | no e'=>rw [hn] at h;simp only [Except.error.injEq] at h;subst h;exact Zk7 hn
  | ok c r =>
   rw [hn] at h;dsimp only at h;cases hr:Z0c l a k (n+1) with
   | error e'=>rw [hr] at h;simp only [Except.error.injEq] at h;subst h;exact ih _ hr
   | ok p=>rw [hr] at h;cases h
theorem Z45 {l:List Rt}{a:Ask}{e:Int}(h:Z0d l a=.error e):e≠0/\(useB l=true->a.okB=true->e≠1)/\(a.okB=false->e=1):=by
 unfold Z0d at h;split at h
 · rename_i B;rw [zd] at B;cases hn:Z0c l a (a.un - a.fr).toNat a.fr with
   | error e' =>rw [hn] at h;simp only [Except.error.injEq] at h;subst h;have:=Zhc _ _ hn;exact ⟨by omega,λ_ _=>by omega,λh=>by rw [B.2] at h;cases h⟩
   | ok p =>
    rw [hn] at h;obtain ⟨cs,C⟩:=p;dsimp only at h;split at h
    · simp only [Except.error.injEq] at h;subst h;exact ⟨by omega,λ_ _=>by omega,λh=>by rw [B.2] at h;cases h⟩
    · cases h
 · rename_i B;simp only [Except.error.injEq] at h;subst h;exact ⟨by omega,λh1 h2=>absurd (by rw [h1,h2];rfl) B,λ_=>rfl⟩
theorem Z6n {l:List Rt}{a:Ask}{ns:List Int}{B:Int}(h:Z0d l a=.ok (ns,B)):ns.length<=60:=by
 obtain ⟨D,_⟩:=Z3k h;obtain ⟨_,C,_⟩:=Z80 h;simp [Ask.okB] at C;omega
end Qx
def PlaP (x:Except Int (List Int × Int))(v:Vr)(a:Qx.Ask)(t:Int)(d:Nat)(w:World)(e:Ending)(w':World):Prop := Below w.heap.size w w'/\match x with
  | .ok (ns,kp)=>∃ A,e=.returned (.tuple #[.agg (qtC ⟨v.num,t,ns.sum,kp,a,ns,d,0,0⟩ (slice A ns.length ns.length)),int i64 0])/\Z03 w' w'.heap.size (slice A ns.length ns.length) ns/\∀ p,A=some p->w.heap.size<=p.block
  | .error er=>e=.returned (.tuple #[.agg (qtC Qt.zero (slice none 0 0)),int i64 er])
structure PlB (w:World) (v:Vr) (rv:Value) (a:Qx.Ask) (R:Array Value) (W:World):Prop where
 v:W.heap[w.heap.size]?=some (.cells #[int i64 v.num,int i64 v.time,rv] 24 (0,0))
 a:W.heap[w.heap.size+1]?=some (.cells #[int i64 a.kind,int i64 a.fr,int i64 a.un,int i64 a.pers] 26 (0,0))
 r:W.heap[w.heap.size+2]?=some (.cells R 89 (0,0))
 b:Below w.heap.size w W
theorem PlB.on {w W B:World}{v:Vr}{rv:Value}{a:Qx.Ask}{R:Array Value}(h:PlB w v rv a R W)(hb:Below W.heap.size W B):PlB w v rv a R B := ⟨(hb.block _ (zs h.v)).trans h.v,(hb.block _ (zs h.a)).trans h.a,(hb.block _ (zs h.r)).trans h.r,Z00 h.b hb⟩
theorem PlB.far {w W B:World}{v:Vr}{rv:Value}{a:Qx.Ask}{R:Array Value}(h:PlB w v rv a R W)(hb:Below (w.heap.size+3) W B):PlB w v rv a R B := ⟨(hb.block _ (by omega)).trans h.v,(hb.block _ (by omega)).trans h.a,(hb.block _ (by omega)).trans h.r,h.b.trans (hb.mono (by omega))⟩
theorem PlB.new (w:World)(v:Vr)(rv:Value)(a:Qx.Ask)(R:Array Value):PlB w v rv a R (((w.alloc (.cells #[int i64 v.num,int i64 v.time,rv] 24)).alloc (.cells #[int i64 a.kind,int i64 a.fr,int i64 a.un,int i64 a.pers] 26)).alloc (.cells R 89)):=by
 refine ⟨?_,?_,?_,(((zr _ _).alloc (zn _) _).alloc (by simp) _).alloc (by simp;omega) _⟩
 all_goals repeat (first | (refine Z88 ?_;first | rfl | (simp only [zk];done) | (simp only [zk];omega)) | (refine Z5h ?_ ?_;· (simp only [zk];omega)))
theorem PlB.cells {w W:World}{v:Vr}{rv:Value}{a:Qx.Ask}{R:Array Value}(h:PlB w v rv a R W):W.cell? ⟨w.heap.size,0,none⟩=some (int i64 v.num)/\W.cell? ⟨w.heap.size,2,none⟩=some rv /\ W.cell? ⟨w.heap.size+1,0,none⟩=some (int i64 a.kind)/\W.cell? ⟨w.heap.size+1,1,none⟩=some (int i64 a.fr)/\W.cell? ⟨w.heap.size+1,2,none⟩=some (int i64 a.un)/\W.cell? ⟨w.heap.size+1,3,none⟩=some (int i64 a.pers):=by
 refine ⟨?_,?_,?_,?_,?_,?_⟩
 · rw [zc h.v];rfl
 · rw [zc h.v];rfl
 · rw [zc h.a];rfl
 · rw [zc h.a];rfl
 · rw [zc h.a];rfl
 · rw [zc h.a];rfl
theorem PlB.setRow {w W:World}{v:Vr}{rv:Value}{a:Qx.Ask}{R:Array Value}(h:PlB w v rv a R W)(R':Array Value):PlB w v rv a R' (W.setRow (w.heap.size+1+1) R') := ⟨(Z06 _ _ _ _ (by omega)).trans h.v,(Z06 _ _ _ _ (by omega)).trans h.a,setRow_heap _ _ R R' _ _ h.r,Z1B h.b (by omega) _⟩
theorem Z03.setRow' {w W:World}{B:Nat}{A:Option Addr}{k c:Nat}{l:List Int}{R:Array Value}(h:Z03 W B (slice A k c) l)(D:∀ p,A=some p->w.heap.size+3<=p.block):Z03 (W.setRow (w.heap.size+1+1) R) B (slice A k c) l:=by
 obtain ⟨H,c',e,G⟩:=h;injection e with C e2 e3
 subst C e2 e3;refine ⟨A,c,rfl,λhl=>?_⟩;obtain ⟨b,o,C,hb,F⟩:=G hl;have:=D _ C;exact ⟨b,o,C,hb,λi hi=>(World.cell?_of_block (a:=⟨b,o+i,none⟩) (Z06 _ _ _ _ (by show b≠_;dsimp only at this;omega))).trans (F i hi)⟩
def QtB (w:World)(p:Nat)(q:Qt)(nv:Value):Prop:=w.heap[p]?=some (.cells (qtC q nv) 32 (0,0))
theorem QtB.set2 {w:World}{p:Nat}{q:Qt}{nv:Value}(h:QtB w p q nv)(x:Int):QtB (w.setCell ⟨p,2,none⟩ (int i64 x)) p { q with total:=x } nv:=by
 have B:w.heap[p]?=_:=h;unfold qtC at B;simp [QtB,World.setCell,zM,B,qtC]
theorem Zfm (l:List Int)(k:Nat)(h:k<l.length):(l.take (k+1)).sum=(l.take k).sum+l[k]:=by
 rw [zT h,List.sum_append];simp
theorem Zk8 {l:List Int}(h:∀ x∈l,0<=x)(D:l.sum<=1000000000)(k:Nat):0<=(l.take k).sum/\(l.take k).sum<=1000000000:=by
 have F:=(Z9n (l.take k) (λx hx=>h x (List.mem_of_mem_take hx))).1;have C:=(Z9n (l.drop k) (λx hx=>h x (List.mem_of_mem_drop hx))).1;have B:l.sum=(l.take k).sum+(l.drop k).sum:=by conv=>lhs;rw [<- List.take_append_drop k l];rw [List.sum_append]
 omega
theorem Z0z (q:Qt)(A:Option Addr)(k c:Nat):(qtC q (slice A k c)).all (·.oneCell')=true:=by simp [qtC,Value.oneCell']
theorem Zpz {w W:World}{v:Vr}{rv:Value}{a:Qx.Ask}{q:Qt}{nv:Value}{er:Int}(h:PlB w v rv a (qtC q nv) W):∀ (tmps:Array Value),tmps[8]?.getD undef=.pointer (some ⟨w.heap.size+1+1,0,none⟩)->tmps[9]?.getD undef=int i64 er -> (results f50 tmps).run prog W=.ok (.tuple #[.agg (qtC q nv),int i64 er]) W:=by
 intro tmps G D;have T:W.heap[w.heap.size+1+1]?=_:=h.r;have k:=λi v (hv:(qtC q nv)[i]?=some v)=>(show W.cell? ⟨w.heap.size+1+1,i,none⟩=some v by rw [zc T,hv])
 have B:=k 0 (int i64 q.ver) rfl;have O:=k 1 (int i64 q.time) rfl;have N:=k 2 (int i64 q.total) rfl;have S:=k 3 (int i64 q.keep) rfl;have I:=k 4 (int i64 q.ask.kind) rfl;have J:=k 5 (int i64 q.ask.fr) rfl;have C:=k 6 (int i64 q.ask.un) rfl;have F:=k 7 (int i64 q.ask.pers) rfl;have M:=k 8 nv rfl;have L:=k 9 (.int .u64 (q.dig:Nat)) rfl;have R:=k 10 (int i64 q.sE) rfl;have H:=k 11 (int i64 q.sS) rfl;simp [results,results50,go_sem,G,D,B,O,N,S,I,J,C,F,M,L,R,H,qtC]
theorem Zcr (v:Vr)(a:Qx.Ask)(t:Int)(d:Nat)(V:Value)(w:World)(hV:VrV w w.heap.size V v) : Calls prog 50 #[V,askV a,int i64 t,.int .u64 (d:Nat)] w (PlaP (Z0d v.rs a) v a t d w):=by
 obtain ⟨A,c,rfl,m⟩:=hV;have O:=PlB.new w v (slice A v.rs.length c) a (qtC Qt.zero (slice none 0 0));have Y:=Zk6 v.rs (slice A v.rs.length c) a _ ((m.on O.b).up O.b.size);have bb:=λns C (h:Z0d v.rs a=.ok (ns,C))=>Z69 h;have bg:=λns C (h:Z0d v.rs a=.ok (ns,C))=>Z3k h;have bc:=λns C (h:Z0d v.rs a=.ok (ns,C))=>Z6n h;have hne:=λer (h:Z0d v.rs a=.error er)=>(Z45 h).1;unfold vrV;obtain ⟨X,hX⟩:∃ X,Z0d v.rs a=X:=⟨_,rfl⟩
 rw [hX] at Y bb bg hne bc |-
 clear hX;obtain ⟨q0,q2,q3,q4,q5,q6⟩:=O.cells;simp only [askV,qtC,Qt.zero] at Y O q0 q2 q3 q4 q5 q6 |-
 have bf:=zh O;have ba:=zh Y;have bd:=zh bb;have be:=zh bg;have HR:=zh m;have bj:=zh hne;have bD:=zh bc;clear O Y bb bg m hne bc;go_enter func50,ntmps50;go_wp2_with fail;refine ba.out.mono ?_;intro e B R;obtain ⟨y,R⟩:=R;have H:=bf.out.on y;obtain ⟨q0,q2,q3,q4,q5,q6⟩:=H.cells;have bP:w.heap.size+2<B.heap.size:=(zs H.r)
 have U:B.heap[w.heap.size+1+1]?=_:=H.r;cases X with
 | error er =>
  dsimp only at R;subst R;have he:=bj.out er rfl;have d0:(er != 0)=true:=by simpa using he
  have F:=H.setRow (qtC Qt.zero (slice none 0 0));have I:=Z0z Qt.zero none 0 0;have L:=Zpz (er:=er) F;simp only [qtC,Qt.zero] at F I L;have bv:=zh H;have bu:=zh U;have T:=zh F;have bh:=zh L;clear H U F L bf ba bd be bj y he;go_wp2_with (refine Z56 rfl _ _ rfl (w.heap.size+1+1) _ _ rfl rfl bu.out rfl rfl I ?_);refine bodyPost_ret (v:=.tuple #[.agg (qtC Qt.zero (slice none 0 0)),int i64 er]) (bh.out _ rfl rfl) rfl ?_;exact ⟨T.out.b,rfl⟩
 | ok p =>
  obtain ⟨ns,C⟩:=p;obtain ⟨D,rfl,bx,bF⟩:=R;have bp:∀ p,D=some p->w.heap.size+3<=p.block:=λp e=>by have:=bF p e;simpa using this
  have bR:=bD.out ns C rfl;have j:=bd.out ns C rfl;obtain ⟨_,_,_,bN,_⟩:=be.out ns C rfl;have bq:=Zk8 (l:=ns) (λx hx=>(j x hx).1) bN;have g:=za B (.cells (qtC ⟨v.num,t,0,C,a,ns,d,0,0⟩ (slice D ns.length ns.length)) 32);have bn:=(zr B.heap.size B).alloc (zn _) (.cells (qtC ⟨v.num,t,0,C,a,ns,d,0,0⟩ (slice D ns.length ns.length)) 32);have q:=H.on bn;have f:=bx;have I:=Z0z ⟨v.num,t,0,C,a,ns,d,0,0⟩ D ns.length ns.length;simp only [qtC] at g q I f;have bv:=zh H;have bu:=zh U;have bt:=zh g;have bO:=zh q;have bA:=zh f;have bG:=zh j;have bE:=zh bq;clear H U g q f j bq bf ba bd be bj y bn bx;go_wp2_with (refine Z0h rfl _ _ rfl _ _ rfl rfl rfl rfl I ?_);generalize bz:B.alloc (.cells #[int i64 v.num,int i64 t,int i64 0,int i64 C,int i64 a.kind,int i64 a.fr,int i64 a.un,int i64 a.pers,slice D ns.length ns.length,.int .u64 (d:Nat),int i64 0,int i64 0] 32)=w3 at *
  have bs:Below B.heap.size B w3:=by rw [<- bz];exact (zr B.heap.size B).alloc (zn _) _
  clear bz;go_loopw [38] (λi wr=>∃ k:Nat,k<=ns.length/\i=int i64 k/\Below B.heap.size B wr/\QtB wr B.heap.size ⟨v.num,t,(ns.take k).sum,C,a,ns,d,0,0⟩ (slice D ns.length ns.length)) (λi _=>ns.length - (intOf i).toNat)
  case atStart=>exact ⟨0,Nat.zero_le _,rfl,bs,bt.out⟩
  case round =>
   clear bt bs;obtain ⟨k,hk,rfl,G,Z⟩:=hrel;have N:PlB w v (slice A v.rs.length c) a (qtC Qt.zero (slice none 0 0)) wr:=PlB.far bv.out (G.mono (by omega));have J:wr.heap[B.heap.size]?=_:=Z;have c2:wr.cell? ⟨B.heap.size,2,none⟩=some (int i64 (ns.take k).sum):=by rw [zc J];rfl
   have f2:wr.frozen? ⟨B.heap.size,2,none⟩=false:=by simp [World.frozen?,J]
   obtain ⟨s0,s1⟩:=bE.out k;by_cases hlt:k<ns.length
   · have M:Z03 wr B.heap.size (slice D ns.length ns.length) ns:=(bA.out).on G;obtain ⟨b,o,rfl,bQ,br⟩:=Z4j M (by intro e;rw [e] at hlt;simp at hlt);have ck:=br k hlt;have bB:=Zfm ns k hlt;obtain ⟨x0,x1⟩:=bG.out _ (List.getElem_mem hlt);have F:=Z.set2 ((ns.take k).sum+ns[k]);have bm:=G.setCell (p:=⟨B.heap.size,2,none⟩) (zn _) (int i64 ((ns.take k).sum+ns[k]));have dk:decide ((k:Int)<(ns.length:Int))=true:=by simpa using hlt
     generalize ns[k]=x at *
     generalize (ns.take k).sum=S at *
     have hw:IntKind.i64.wrap (S+x)=S+x:=zi _ (by omega);have T:=zh F;have bC:=zh bm;have bJ:=zh bB;have bK:=zh G;have bH:=zh N;clear F bm bB G N br Z J M;go_wp2_with fail;go_roundw
     case rel=>exact ⟨k+1,by omega,by go_num,bC.out,by rw [bJ.out];exact T.out⟩
     case measure=>simp [intOf];omega
   · have bL:k=ns.length:=by omega
     subst bL;have dk:decide ((ns.length:Int)<(ns.length:Int))=false:=by simp
     rw [List.take_length] at J c2;have bM:Z03 wr B.heap.size (slice D ns.length ns.length) ns:=(bA.out).on G;have F:=N.setRow (qtC ⟨v.num,t,ns.sum,C,a,ns,d,0,0⟩ (slice D ns.length ns.length));have L:=Zpz (er:=0) F;have I:=Z0z ⟨v.num,t,ns.sum,C,a,ns,d,0,0⟩ D ns.length ns.length;have hr4:wr.heap[w.heap.size+1+1]?=_:=N.r;have M:Z03 (wr.setRow (w.heap.size+1+1) (qtC ⟨v.num,t,ns.sum,C,a,ns,d,0,0⟩ (slice D ns.length ns.length))) B.heap.size (slice D ns.length ns.length) ns  := bM.setRow' bp;have bk:B.heap.size<=(wr.setRow (w.heap.size+1+1) (qtC ⟨v.num,t,ns.sum,C,a,ns,d,0,0⟩ (slice D ns.length ns.length))).heap.size:=by rw [Z3j];exact G.size
     simp only [qtC,Qt.zero] at J F L I hr4 M bk;have T:=zh F;have bh:=zh L;have bI:=zh hr4;have HQ:=zh J;have HI:=zh M;have bH:=zh N;have bK:=zh G;clear F L hr4 J M N G Z;go_wp2_with (first | (with_reducible refine Z0g rfl _ rfl B.heap.size rfl _ rfl _ HQ.out ?_) | (refine Z56 rfl _ _ rfl (w.heap.size+1+1) _ _ rfl rfl bI.out rfl rfl I ?_));refine bodyPost_ret (v:=.tuple #[.agg (qtC ⟨v.num,t,ns.sum,C,a,ns,d,0,0⟩ (slice D ns.length ns.length)),int i64 0]) (bh.out _ rfl rfl) rfl ?_;exact ⟨T.out.b,D,rfl,HI.out.up bk,λp e=>by have:=bp p e;omega⟩
end
end Go.Proofs.YtnepkoepbapgeaaGreatDoor
