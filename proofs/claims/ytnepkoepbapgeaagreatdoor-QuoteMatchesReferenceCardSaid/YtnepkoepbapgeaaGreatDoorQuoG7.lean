import Derived.Test.YtnepkoepbapgeaaGreatDoorQuoG6
namespace Go.Proofs.YtnepkoepbapgeaaGreatDoor
open _root_.Go.Proofs.Tryz
open Value (int slice)
open IntKind (i64)
set_option maxRecDepth 100000
open Go.RowKit Lx Px Qx
def Zpy (x:Except Int (List Int × Int))(w:World)(e:Ending)(w':World):Prop := Below w.heap.size w w'/\match x with
  | .ok (cs,kp)=>∃ A c,e=.returned (.tuple #[slice A cs.length c,int i64 kp,int i64 0])/\Z03 w' w'.heap.size (slice A cs.length c) cs/\cs.length<=60/\∀ p,A=some p->w.heap.size<=p.block
  | .error er=>e=.returned (.tuple #[slice none 0 0,int i64 0,int i64 er])
set_option maxHeartbeats 3000000 in
theorem ZgG (l:List Rt)(v:Value)(a:Qx.Ask)(w:World)(hv:RtsV w w.heap.size v l):Calls prog 89 #[v,askV a] w (Zpy (Z0d l a) w):=by
 obtain ⟨A,c,rfl,_⟩:=id hv;have hx:=za w (.cells #[int i64 a.kind,int i64 a.fr,int i64 a.un,int i64 a.pers] 26);have hb:=(zr w.heap.size w).alloc (zn _) (.cells #[int i64 a.kind,int i64 a.fr,int i64 a.un,int i64 a.pers] 26);have hP:Z0d l a=if useB l&&a.okB then (match Z0c l a (a.un - a.fr).toNat a.fr with | .error e=>.error e | .ok (cs,kp)=>if 1000000000<cs.sum then .error 3 else .ok (cs,kp)) else .error 1:=rfl;obtain ⟨O,bB⟩:∃ O,Z0d l a=O:=⟨_,rfl⟩
 rw [bB] at hP |-
 have HV:=zh hv;have H:=zh hx;have C:=zh hb;have T:=zh hP;clear hv hx hb hP bB;dsimp only [askV];go_enter func89,ntmps89;go_wp2_with fail;generalize w.alloc (.cells #[int i64 a.kind,int i64 a.fr,int i64 a.un,int i64 a.pers] 26)=w1 at *
 refine (Z4x l (slice A l.length c) w1 ((HV.out.on C.out).up C.out.size)).mono ?_;rintro e Z ⟨rfl,bc⟩;have X:=(bc.block _ (zs H.out)).trans H.out;have bL:=Z00 C.out bc;clear bc H C;have a0:Z.cell? ⟨w.heap.size,0,none⟩=some (int i64 a.kind):=by rw [zc X];rfl
 have a1:Z.cell? ⟨w.heap.size,1,none⟩=some (int i64 a.fr):=by rw [zc X];rfl
 have a2:Z.cell? ⟨w.heap.size,2,none⟩=some (int i64 a.un):=by rw [zc X];rfl
 have a3:Z.cell? ⟨w.heap.size,3,none⟩=some (int i64 a.pers):=by rw [zc X];rfl
 have bj:=λW=>Z6s a W;simp only [askV] at bj;have bs:=zh bj;have H:=zh X;have C:=zh bL;clear bj X bL;go_wp2_with fail;refine (bs.out Z).mono ?_;rintro e w3 ⟨rfl,bb⟩;have bD:=(bb.block _ (zs H.out)).trans H.out;have bx:=Z00 C.out bb;clear bb H C a0 a1 a2 a3 bs;have H:=zh bD;have C:=zh bx;clear bD bx;cases hu:useB l with
 | false =>
  have U:O=.error 1:=by rw [T.out,hu];rfl
  subst U;clear T hu;go_wp2_with fail;exact bodyPost_ret (v:=.tuple #[slice none 0 0,int i64 0,int i64 1]) (by simp [results,results89,go_sem]) rfl ⟨C.out,rfl⟩
 | true =>
  cases hok:a.okB with
  | false =>
   have U:O=.error 1:=by rw [T.out,hu,hok];rfl
   subst U;clear T hu hok;go_wp2_with fail;exact bodyPost_ret (v:=.tuple #[slice none 0 0,int i64 0,int i64 1]) (by simp [results,results89,go_sem]) rfl ⟨C.out,rfl⟩
  | true =>
   obtain ⟨z1,z2,z3,z4,_⟩:=Z1u hok;obtain ⟨cf,bz,bq⟩:=(Z2d l).1 hu;obtain ⟨K,hK⟩:∃ K,(a.un - a.fr).toNat=K:=⟨_,rfl⟩
   have U:O=(match Z0c l a K a.fr with | .error e=>.error e | .ok (cs,kp)=>if 1000000000<cs.sum then .error 3 else .ok (cs,kp)):=by rw [T.out,hu,hok,hK];rfl
   have ca:(K:Int)=a.un - a.fr:=by omega
   have a1:w3.cell? ⟨w.heap.size,1,none⟩=some (int i64 a.fr):=by rw [zc H.out];rfl
   have HR:=zh U;have HU:=zh hu;have bW:=zh hok;have bh:=zh bz;have bX:=zh bq;clear U hu hok bz bq T hK;go_wp2_with fail;go_loopw [9,10,11,12] (λv sm kp nt wr=>PcL w l a K v kp sm nt wr) (λ_ _ _ nt _=>(a.un - intOf nt).toNat)
   case atStart=>exact ⟨0,[],0,Nat.zero_le _,by simp,rfl,rfl,rfl,World.ownsRow_nil _ _ _ _,C.out,H.out⟩
   case round =>
    clear a1;obtain ⟨k,cs,q,hk,rfl,rfl,rfl,B,F,G,M⟩:=hrel;have b0:wr.cell? ⟨w.heap.size,0,none⟩=some (int i64 a.kind):=by rw [zc M];rfl
    have b1:wr.cell? ⟨w.heap.size,1,none⟩=some (int i64 a.fr):=by rw [zc M];rfl
    have b2:wr.cell? ⟨w.heap.size,2,none⟩=some (int i64 a.un):=by rw [zc M];rfl
    have b3:wr.cell? ⟨w.heap.size,3,none⟩=some (int i64 a.pers):=by rw [zc M];rfl
    obtain ⟨S,q0,q1,q2⟩:=Za2 bh.out B;have I:=Z5G l a k a.fr;rw [B] at I;dsimp only at I;have bV:w.heap.size<wr.heap.size:=(zs M)
    by_cases hlt:k<K
    · have dl:decide (a.fr+(k:Int)<a.un)=true:=by simp;omega
      have N:=ZgF l (slice A l.length c) a (a.fr+k) wr ((HV.out.on G).up G.size) HU.out bW.out (by omega) (by omega);simp only [askV] at N;have bY:(∃ e,Z0m l a (a.fr+k)=.no e/\e≠0)\/(∃ c r,Z0m l a (a.fr+k)=.ok c r):=by
       cases D:Z0m l a (a.fr+k) with
       | no e=>exact .inl ⟨e,rfl,λh=>Z8r.night_err_ne (by rw [D,h])⟩
       | ok c r=>exact .inr ⟨c,r,rfl⟩
      rcases bY with ⟨er,D,bJ⟩ | ⟨J,r,D⟩
      · rw [D] at N;dsimp only [Zjy] at N;have cj:(er != 0)=true:=by simpa using bJ
        have hE:Z0c l a K a.fr=.error er:=by
         have h1:Z0c l a (k+1) a.fr=.error er:=by rw [I,D]
         have h2:=Z8G l a a.fr (k+1) h1 (K - (k+1));rwa [show k+1+(K - (k+1))=K by omega] at h2
        have hRR:O=.error er:=by rw [HR.out,hE]
        subst hRR;have f:=zh N;have bg:=zh B;have V:=zh F;have L:=zh G;have bf:=zh M;have Y:=zh S;clear N B F G M S bJ hE D I HR;go_wp2_with fail;refine f.out.mono ?_;rintro e w4 ⟨rfl,R⟩;have y:=Z00 L.out R;have j:=zh y;clear y R L f b0 b1 b2 b3;go_wp2_with fail;exact bodyPost_ret (v:=.tuple #[slice none 0 0,int i64 0,int i64 er]) (by simp [results,results89,go_sem]) rfl ⟨j.out,rfl⟩
      · rw [D] at N;dsimp only [Zjy] at N;obtain ⟨n0,n1,ba⟩:=Z6z D;obtain ⟨_,_,_,_,_,_,_,_,_,_,_,bR,bv,bK,_,_,_⟩:=Z3e (Z0G (bh.out r ba));obtain ⟨cb,cd⟩:=Z62 n0 (Z0G (bh.out r ba));have be:=λW=>Zgz J r.kn r.kq W n0 n1 bR bv bK;have bC:Z7C J r=rndE (J*r.kn) r.kq:=rfl;rw [<- bC] at be;clear bC;have bE:=λW (hb:Below w.heap.size w W)=>Zjx l r (slice A l.length c) W ((HV.out.on hb).up hb.size) (by omega) bX.out ba;have bu:Z0c l a (k+1) a.fr=.ok (cs++[J],q+Z7C J r):=by rw [I,D]
        generalize Z7C J r=pt at *
        generalize r.id=ri at *
        generalize r.kn=ce at *
        generalize r.kq=cm at *
        have f:=zh N;have bg:=zh B;have V:=zh F;have L:=zh G;have bf:=zh M;have Y:=zh S;have bG:=zh bE;have bk:=zh be;have bZ:=zh bu;clear N B F G M S bE be bu bR bv bK D I ba;go_wp2_with fail;refine f.out.mono ?_;rintro e w4 ⟨rfl,R⟩;have y:=Z00 L.out R;have bm:=(R.block _ bV).trans bf.out;have br:=Z2v V.out R;have ck:=R.size;have j:=zh y;have bQ:=zh bm;have bt:=zh br;clear y bm br R L f bf V b0 b1 b2 b3;go_wp2_with fail;refine (bG.out w4 j.out).mono ?_;rintro e w5 ⟨rfl,m⟩;have bN:=Z00 j.out m;have bA:=(m.block _ (by omega)).trans bQ.out;have bn:=Z2v bt.out m;have ch:=m.size;have bF:=zh bN;have bO:=zh bA;have bI:=zh bn;clear bN bA bn m j bQ bt bG;go_wp2_with fail;refine (bk.out w5).mono ?_;rintro e w6 ⟨rfl,d⟩;have bP:=Z00 bF.out d;have bp:=(d.block _ (by omega)).trans bO.out;have bd:=Z2v bI.out d;have cg:=d.size;obtain ⟨A6,c6,rfl,_⟩:=Z86 bd rfl;have bT:=zh bP;have b8:=zh bp;have bM:=zh bd;clear bP bp bd bF bO bI d bk;go_wp2_with (at_builtin;refine Z2u _ rfl _ _ rfl (w.heap.size+1) _ cs rfl (bM.out.alloc _) w6.heap.size J rfl (by simp [go_sem]) (by have:=Y.out;omega) (by simp;omega) ?_;intro v' w7 bU bH);have bS:∀ g,(Value.slice A6 cs.length c6).ownBlock=some g->w.heap.size+1<=g:=λg e=>(bM.out.lt g e).1;have b7:Below w.heap.size w w7:=(bT.out.alloc (by omega) (.cells #[int i64 J] 3)).grown bH (by simp;omega) (λg e=>by have:=bS g e;omega);have b9:=(bH.block w.heap.size (by simp;omega) (λe=>by have:=bS _ e.symm;omega)).trans (Z0A b8.out _);go_roundw
        case rel=>exact ⟨k+1,cs++[J],q+pt,by omega,by go_num,rfl,by simp,bZ.out,bU,b7,b9⟩
        case measure=>simp [intOf];omega
    · have b6:k=K:=by omega
      subst b6;have dl:decide (a.fr+(k:Int)<a.un)=false:=by simp;omega
      obtain ⟨A6,c6,rfl,cn⟩:=Z86 F rfl;have hI:=Z03.own F rfl;by_cases hs:1000000000<cs.sum
      · have ds:decide (cs.sum > 1000000000)=true:=by simpa using hs
        have b4:decide (1000000000<cs.sum)=true:=by simpa using hs
        have hRR:O=.error 3:=by rw [HR.out,B];exact zp hs
        subst hRR;have L:=zh G;have V:=zh F;have bg:=zh B;have b5:=zh I;have HI:=zh hI;have HS:=zh hs;have Y:=zh S;clear G F B I hI hs S;go_wp2_with fail;exact bodyPost_ret (v:=.tuple #[slice none 0 0,int i64 0,int i64 3]) (by simp [results,results89,go_sem]) rfl ⟨L.out,rfl⟩
      · have ds:decide (cs.sum > 1000000000)=false:=by simpa using hs
        have b4:decide (1000000000<cs.sum)=false:=by simpa using hs
        have hRR:O=.ok (cs,q):=by rw [HR.out,B];exact zf hs
        subst hRR;have L:=zh G;have V:=zh F;have bg:=zh B;have b5:=zh I;have HI:=zh hI;have HS:=zh hs;have Y:=zh S;clear G F B I hI hs S;go_wp2_with fail;refine bodyPost_ret (v:=.tuple #[slice A6 cs.length c6,int i64 q,int i64 0]) (by simp [results,results89,go_sem]) rfl ⟨L.out,A6,c6,rfl,?_,by have:=Y.out;omega,λp e=>by have:=(V.out.lt p.block (by rw [e];rfl)).1;omega⟩;exact HI.out
theorem Znh (l:List Int)(v:Value)(w:World)(M:Z03 w w.heap.size v l)(r:l.length<=1000)(C:∀ x∈l,0<=x/\x<=1000000000) : Calls prog 90 #[v] w λe w'=>e=.returned (int i64 l.sum)/\w=w':=by
 obtain ⟨A,c,rfl,F⟩:=M;have B:∀ m:List Int,(∀ x∈m,0<=x/\x<=1000000000)->0<=m.sum/\m.sum<=m.length*1000000000:=by
  intro m;induction m with
  | nil=>intro _;simp
  | cons x m ih =>intro h;obtain ⟨h1,h2⟩:=h x (by simp);obtain ⟨f,X⟩:=ih (λy hy=>h y (by simp [hy]));simp only [List.sum_cons,zw];omega
 have H:=λk=>B (l.take k) (λx hx=>C x (List.mem_of_mem_take hx));have N:=zh F;have L:=zh C;have I:=zh H;have HSB:=zh B;clear F C H B;go_enter func90,ntmps90;go_wp2_with fail;go_loop [3,4] (λs i=>∃ k:Nat,k<=l.length/\i=int i64 k/\s=int i64 (l.take k).sum) (λ_ i=>l.length - (intOf i).toNat)
 case atStart=>exact ⟨0,Nat.zero_le _,rfl,by simp⟩
 case round =>
  obtain ⟨k,hk,rfl,rfl⟩:=hrel;obtain ⟨Z,O⟩:=I.out k;rw [List.length_take] at O;by_cases hlt:k<l.length
  · obtain ⟨g,o,rfl,U,D⟩:=N.out (by intro e;rw [e] at hlt;simp at hlt);have V:w.cell? ⟨g,o+k,none⟩=some (int i64 l[k]):=D k hlt;have G:=Zfm l k hlt;obtain ⟨d,T⟩:=L.out l[k] (List.getElem_mem hlt);have J:decide ((k:Int)<(l.length:Int))=true:=by simpa using hlt
    have j:(0:Int)<=(k:Int):=by omega
    have Y:(k:Int)<(l.length:Int):=by omega
    clear D;generalize l[k]=z at *
    have q:IntKind.i64.wrap ((l.take k).sum+z)=(l.take k).sum+z:=zi _ (by omega);have R:=zh G;clear G;go_wp2_with fail;go_round
    case rel=>exact ⟨k+1,by omega,by go_num,by rw [R.out]⟩
    case measure=>simp [intOf];omega
  · have S:k=l.length:=by omega
    subst S;have J:decide ((l.length:Int)<(l.length:Int))=false:=by simp
    rw [List.take_length];go_wp2_with fail;go_ret;exact ⟨rfl,rfl⟩
end Go.Proofs.YtnepkoepbapgeaaGreatDoor
