import Derived.Test.YtnepkoepbapgeaaGreatDoorQuoAkb
import Derived.Test.YtnepkoepbapgeaaGreatDoorQuoPla
import Derived.Lib.QuietBelow
namespace Go.Proofs.YtnepkoepbapgeaaGreatDoor
open _root_.Go.Proofs.Tryz
open Value (int slice)
open IntKind (i64)
set_option maxHeartbeats 16000000
set_option maxRecDepth 100000
open Go.RowKit Lx Px Qx Go.Sort
theorem Zjx (l:List Rt)(r:Rt)(v:Value)(w:World)(I:RtsV w w.heap.size v l)(S:l.length<=1000)(U:(l.map Rt.id).Nodup)(G:r∈l) : Calls prog 130 #[v,int i64 r.id] w λe w'=>e=.returned (.agg #[int i64 r.kn,int i64 r.kq])/\Below w.heap.size w w':=by
 obtain ⟨A,c,rfl,_⟩:=id I;have M:=λk (hk:k<l.length) (h:l[k].id=r.id)=>ZrC U (List.getElem_mem hk) G h;obtain ⟨q,f,R⟩:=List.getElem_of_mem G;have N:Below w.heap.size w (w.alloc (.cells #[int i64 0,int i64 0] 60)):=(zr _ _).alloc (zn _) _;have Y:=RatB.new w 0 0;have X:=zh N;have L:=zh Y;have HV:=zh I;have m:=zh M;have y:=zh R;clear N Y I M R U G;go_enter func130,ntmps130;go_upto_region 1 with fail;generalize w.alloc (.cells #[int i64 0,int i64 0] 60)=W1 at *
 go_wp2_with fail;go_loopw [5] (λi wr=>∃ k:Nat,k<=l.length/\i=int i64 k/\(∀ j (hj:j<l.length),j<k->l[j].id≠r.id)/\RatB wr w.heap.size 0 0/\Below w.heap.size w wr) (λi _=>l.length - (intOf i).toNat)
 case atStart=>exact ⟨0,Nat.zero_le _,rfl,λj _ h=>absurd h (by omega),L.out,X.out⟩
 case round =>
  clear L X;obtain ⟨k,hk,rfl,C,B,D⟩:=hrel;by_cases hlt:k<l.length
  · obtain ⟨g,o,WA,PA,wk,pc,rfl,hg,d,f2,T⟩:=Z4q (HV.out.on D) hlt;have F:=Z5w T;have c0:wr.cell? ⟨g,o+k*16,none⟩=some (int i64 l[k].id):=F 0 _ rfl;have c8:wr.cell? ⟨g,o+k*16+8,none⟩=some (int i64 l[k].kn):=F 8 _ rfl;have c9:wr.cell? ⟨g,o+k*16+9,none⟩=some (int i64 l[k].kq):=F 9 _ rfl;have dl:decide ((k:Int)<(l.length:Int))=true:=by simpa using hlt
    have i0:(0:Int)<=(k:Int):=by omega
    have i1:(k:Int)<(l.length:Int):=by omega
    have z0:=B.c0;have Z:=B.c1;have y0:=B.fr 0;have y1:=B.fr 1;have S:=B.lt;clear F T d f2;by_cases he:l[k].id=r.id
    · have J:=m.out k hlt he;rw [J] at c0 c8 c9;have H:=zh D;have V:=zh B;have bb:=zh C;have bd:=zh J;have HE:=zh he;clear D B C J he;go_wp2_with fail;exact bodyPost_ret (v:=.agg #[int i64 r.kn,int i64 r.kq]) (by simp [results,results130,go_sem,z0,Z]) rfl ⟨rfl,Z01 H.out (zn _) _ _⟩
    · have de:(l[k].id==r.id)=false:=by simpa using he
      have O:∀ j (hj:j<l.length),j<k+1->l[j].id≠r.id:=λj hj hjk=>by
       by_cases hjk2:j=k
       · subst hjk2;exact he
       · exact C j hj (by omega)
      have H:=zh D;have V:=zh B;have bb:=zh C;have ba:=zh O;have HE:=zh he;clear D B C O he;generalize l[k].id=bc at *
      generalize l[k].kn=be at *
      generalize l[k].kq=bf at *
      go_wp2_with fail;go_roundw
      case rel=>exact ⟨k+1,by omega,by go_num,ba.out,V.out,H.out⟩
      case measure=>simp [intOf];omega
  · exact absurd (by rw [y.out]) (C q f (by omega))
def Zjy:N->Value
 | .ok c r=>.tuple #[int i64 c,int i64 r.id,int i64 0]
 | .no e=>.tuple #[int i64 0,int i64 0,int i64 e]
theorem Zjz (l:List Rt)(a:Qx.Ask)(n:Int)(o:Option Rt){k:Nat}(hk:k<l.length) : Z2g a n o (l.drop k)=if apR l[k] a n<0 then .error (-(apR l[k] a n)) else Z2g a n (if apR l[k] a n=1/\Z46 l[k] o=true then some l[k] else o) (l.drop (k+1)):=by
 rw [List.drop_eq_getElem_cons hk];rfl
theorem Znf {l:List Rt}{a:Qx.Ask}{n e:Int}(h:Z2g a n none l=.error e):Z0m l a n=.no e:=by unfold Z0m;rw [h]
theorem Zng {l:List Rt}{a:Qx.Ask}{n:Int}(h:Z2g a n none l=.ok none):Z0m l a n=.no 4:=by unfold Z0m;rw [h]
theorem ZjA {l:List Rt}{a:Qx.Ask}{n:Int}{r:Rt}(h:Z2g a n none l=.ok (some r)):Z0m l a n=match valE (Z0w a n) (r.po,r.pn) r.pl with | .no e=>.no e | .ok m d=>if rndE m d<0 then .no 22 else .ok (rndE m d) r:=by unfold Z0m;rw [h];rfl
theorem AkB.f {p:Nat}{a:Qx.Ask}{W:World}(h:AkB p a W):p<W.heap.size:=(zs h.h)
structure NgB (w:World) (a:Qx.Ask) (wx:World):Prop where
 a:AkB w.heap.size a wx
 b:Below w.heap.size w wx
theorem NgB.on {w B C:World}{a:Qx.Ask}(h:NgB w a B)(hb:Below B.heap.size B C):NgB w a C:=⟨h.a.on hb,Z00 h.b hb⟩
theorem NgB.drew {w B:World}{a:Qx.Ask}(h:NgB w a B):NgB w a B.drew:=h.on (zr _ _).drew
theorem NgB.alloc {w B:World}{a:Qx.Ask}(h:NgB w a B)(o:Obj):NgB w a (B.alloc o):=h.on ((zr _ _).alloc (zn _) _)
theorem NgB.set {w B:World}{a:Qx.Ask}(h:NgB w a B){b:Nat}(hb:w.heap.size+1<=b)(o:Nat)(v:Value):NgB w a (B.setCell ⟨b,o,none⟩ v) := ⟨⟨(zg _ _ _ _ (by show _≠b;omega)).trans h.a.h⟩,h.b.setCell (p:=⟨b,o,none⟩) (by show _<=b;omega) _⟩
theorem NgB.lt {w B:World}{a:Qx.Ask}(h:NgB w a B):w.heap.size<B.heap.size:=h.a.f
def BestAt (l:List Rt)(o:Option Rt)(b:Value):Prop:=(o=none/\b=int i64 (-1))\/∃ (j:Nat) (hj:j<l.length),o=some l[j]/\b=int i64 j
theorem ZgF (l:List Rt)(v:Value)(a:Qx.Ask)(n:Int)(w:World)(hv:RtsV w w.heap.size v l)(hu:useB l=true)(bf:a.okB=true)(h0:a.fr<=n)(B:n<a.un) : Calls prog 128 #[v,askV a,int i64 n] w λe w'=>e=.returned (Zjy (Z0m l a n))/\Below w.heap.size w w':=by
 obtain ⟨A,c,rfl,_⟩:=id hv;obtain ⟨dr,bE,b3⟩:=(Z2d l).1 hu;obtain ⟨a1,a2,a3,a4,a5,a6,a7,a8⟩:=Z1u bf;have bI:=λW (hb:Below w.heap.size w W)=>Z4x l (slice A l.length c) W ((hv.on hb).up hb.size);rw [hu] at bI;have bt:=λW=>Z6s a W;rw [bf] at bt;have bX:=λW=>Z52 n a.fr (a.un - 1) W;have da:Z18 n a.fr (a.un - 1)=true:=by unfold Z18;simp;omega
 rw [da] at bX;have wu:IntKind.i64.wrap (a.un - 1)=a.un - 1:=zi _ (by omega);have bC:=λW=>Zcb a n W bf h0 B;have cr:=Z5j bf h0 B;have Y:=λe=>@Znf l a n e;have bx:=@Zng l a n;have cM:=λr=>@ZjA l a n r;obtain ⟨NV,bu⟩:∃ NV,Z0m l a n=NV:=⟨_,rfl⟩
 rw [bu] at Y bx;have cx:∀ r,Z2g a n none l=.ok (some r)->NV=match valE (Z0w a n) (r.po,r.pn) r.pl with | .no e=>.no e | .ok m d=>if rndE m d<0 then .no 22 else .ok (rndE m d) r:=λr h=>by rw [<- bu];exact cM r h
 rw [bu];have bk:=λo k (hk:k<l.length)=>Zjz l a n o hk;have bH:=λ(k:Nat) (hk:k<l.length) (wv pv:Value) (W:World) (hw:FoV W W.heap.size wv l[k].wl) (hp:FoV W W.heap.size pv l[k].pl)=>Zcc l[k] wv pv a n W hw hp (bE _ (List.getElem_mem hk)) bf h0 B;have cR:=(zr w.heap.size w).alloc (zn _) (.cells #[int i64 a.kind,int i64 a.fr,int i64 a.un,int i64 a.pers] 26);have b8:AkB w.heap.size a (w.alloc (.cells #[int i64 a.kind,int i64 a.fr,int i64 a.un,int i64 a.pers] 26)):=⟨za _ _⟩
 simp only [askV] at bt bC bH;have HV:=zh hv;have cL:=zh bI;have cG:=zh bt;have cF:=zh bX;have ch:=zh bC;have cY:=zh cr;have bV:=zh Y;have b0:=zh bx;have bW:=zh cx;have cD:=zh bk;have cK:=zh bH;have bU:=zh cR;have cy:=zh b8;have dh:=zh bE;have dp:=zh b3;have HU:=zh hu;have dn:=zh bf;clear hv bI bt bX bC cr Y bx cx bk bH cR b8 bE b3 hu bf cM bu;dsimp only [askV];go_enter func128,ntmps128;go_upto_region 1 with fail;generalize w.alloc (.cells #[int i64 a.kind,int i64 a.fr,int i64 a.un,int i64 a.pers] 26)=w1 at *
 go_wp2_with fail;refine (cL.out w1 bU.out).mono ?_;rintro e w2 ⟨rfl,bJ⟩;have cE:=Z00 bU.out bJ;have bP:=cy.out.on bJ;obtain ⟨k0,k1,k2,k3⟩:=bP.c;have cj:=zh cE;have cf:=zh bP;clear cE bP bJ bU cy cL;go_wp2_with fail;refine (cG.out _).mono ?_;rintro e w3 ⟨rfl,bG⟩;have cb:=Z00 cj.out bG;have bT:=cf.out.on bG;clear k0 k1 k2 k3;obtain ⟨k0,k1,k2,k3⟩:=bT.c;have b9:=zh cb;have b6:=zh bT;clear cb bT bG cj cf cG;go_wp2_with fail;refine (cF.out _).mono ?_;rintro e w' ⟨rfl,rfl⟩;go_wp2_with fail;go_loopw [11,12] (λb i wr=>∃ (k:Nat) (o:Option Rt),k<=l.length/\i=int i64 k/\Hid (Z2g a n none l=Z2g a n o (l.drop k))/\BestAt l o b/\NgB w a wr) (λ_ i _=>l.length - (intOf i).toNat)
 case atStart=>exact ⟨0,none,Nat.zero_le _,rfl,rfl,.inl ⟨rfl,rfl⟩,b6.out,b9.out⟩
 case round =>
  clear b6 b9 k0 k1 k2 k3 cF;obtain ⟨k,ob,hk,rfl,bv,bB,bb⟩:=hrel;obtain ⟨k0,k1,k2,k3⟩:=bb.a.c;have ba:=bb.b;by_cases hlt:k<l.length
  · obtain ⟨g,o,WA,PA,wk,pc,rfl,hg,f1,f2,hc⟩:=Z4q (HV.out.on ba) hlt;have F:=Z5w hc;have c0:wr.cell? ⟨g,o+k*16,none⟩=some (int i64 l[k].id):=F 0 _ rfl;have c1:wr.cell? ⟨g,o+k*16+1,none⟩=some (int i64 l[k].lv):=F 1 _ rfl;have c2:wr.cell? ⟨g,o+k*16+2,none⟩=some (int i64 l[k].kd):=F 2 _ rfl;have c3:wr.cell? ⟨g,o+k*16+3,none⟩=some (int i64 l[k].fr):=F 3 _ rfl;have c4:wr.cell? ⟨g,o+k*16+4,none⟩=some (int i64 l[k].un):=F 4 _ rfl;have c5:wr.cell? ⟨g,o+k*16+5,none⟩=some (int i64 l[k].ls):=F 5 _ rfl;have c6:wr.cell? ⟨g,o+k*16+6,none⟩=some (int i64 l[k].mo):=F 6 _ rfl;have c7:wr.cell? ⟨g,o+k*16+7,none⟩=some (int i64 l[k].ar):=F 7 _ rfl;have c8:wr.cell? ⟨g,o+k*16+8,none⟩=some (int i64 l[k].kn):=F 8 _ rfl;have c9:wr.cell? ⟨g,o+k*16+9,none⟩=some (int i64 l[k].kq):=F 9 _ rfl;have cQ:wr.cell? ⟨g,o+k*16+10,none⟩=some (int i64 l[k].wo):=F 10 _ rfl;have cm:wr.cell? ⟨g,o+k*16+11,none⟩=some (int i64 l[k].wn):=F 11 _ rfl;have cH:wr.cell? ⟨g,o+k*16+12,none⟩=some (slice WA (flen l[k].wl) wk):=F 12 _ rfl;have cu:wr.cell? ⟨g,o+k*16+13,none⟩=some (int i64 l[k].po):=F 13 _ rfl;have ck:wr.cell? ⟨g,o+k*16+14,none⟩=some (int i64 l[k].pn):=F 14 _ rfl;have cJ:wr.cell? ⟨g,o+k*16+15,none⟩=some (slice PA (flen l[k].pl) pc):=F 15 _ rfl;have dl:decide ((k:Int)<(l.length:Int))=true:=by simpa using hlt
    have i0:(0:Int)<=(k:Int):=by omega
    have i1:(k:Int)<(l.length:Int):=by omega
    have bk:=cD.out ob k hlt;have cP:=ZaC l[k] a n;have bp:=λd os=>Calls.regrown_of (cK.out k hlt (slice WA (flen l[k].wl) wk) (slice PA (flen l[k].pl) pc) (grow (redrawn wr d) os) ((f1.up ba.size).on (below_regrown wr d os) |>.up (below_regrown wr d os).size) ((f2.up ba.size).on (below_regrown wr d os) |>.up (below_regrown wr d os).size));unfold rtV apO at bp;generalize apR l[k] a n=X at *
    obtain ⟨is,bK⟩:∃ is,(X==1)=is:=⟨_,rfl⟩
    obtain ⟨er,Y⟩:∃ er,(if X<0 then -X else 0)=er:=⟨_,rfl⟩
    rw [bK,Y] at bp;have bD:=zh bp;have bs:=zh ba;have bd:=zh bb;have O:=zh bv;have bg:=zh bB;have br:=zh bk;have bj:=zh bK;have bm:=zh Y;have bM:=zh cP;clear bp ba bb bv bB bk bK Y cP F hc f1 f2;go_wp2_with fail;have y0:=cell_regrown c0;have y1:=cell_regrown c1;have y2:=cell_regrown c2;have y3:=cell_regrown c3;have y4:=cell_regrown c4;have y5:=cell_regrown c5;have y6:=cell_regrown c6;have y7:=cell_regrown c7;have y8:=cell_regrown c8;have y9:=cell_regrown c9;have cZ:=cell_regrown cQ;have cW:=cell_regrown cm;have cU:=cell_regrown cH;have dd:=cell_regrown cu;have dg:=cell_regrown ck;have cX:=cell_regrown cJ;have z0:=cell_regrown k0;have z1:=cell_regrown k1;have z2:=cell_regrown k2;have z3:=cell_regrown k3;refine wp_region_quiet_below (by kernel_rfl) (by kernel_rfl) ?_
    repeat (first | go_big_quiet_step (exact bD.out _ _) | quiet_step (exact bD.out _ _))
    refine wpQuiet_nil ?_;intro _ L;obtain ⟨⟨D,C⟩,M⟩:=L;subst M;have Z:=y0 D C;have U:=y1 D C;have cv:=bd.out.on (below_regrown wr D C);have ce:=below_regrown wr D C;generalize grow (redrawn wr D) C=w5 at *
    clear bD y0 c0 y1 c1 y2 c2 y3 c3 y4 c4 y5 c5 y6 c6 y7 c7 y8 c8 y9 c9 cZ cQ cW cm cU cH dd cu dg ck cX cJ z0 z1 z2 z3 k0 k1 k2 k3;have N:=zh cv;have cO:=zh ce;clear cv ce;by_cases J:X<0
    · have B:=br.out;rw [zp J] at B;have H:=bV.out (-X) (O.out.out.trans B);have h3:=bm.out;rw [zp J] at h3;subst H;have de:(er != 0)=true:=by have:er≠0:=(by omega);simpa using this
      clear B bm bj J;subst h3;go_wp2_with fail;exact bodyPost_ret (v:=.tuple #[int i64 0,int i64 0,int i64 (-X)]) (by simp [results,results128,go_sem]) rfl ⟨rfl,N.out.b⟩
    · have B:=br.out;rw [zf J] at B;have h3:=bm.out;rw [zf J] at h3;subst h3;rcases bM.out with h0 | h0 | h0
      · subst h0;have h4:=bj.out;rw [show ((0:Int)==1)=false from rfl] at h4;subst h4;rw [zf (by rintro ⟨h,_⟩;cases h)] at B;have S:=zh (O.out.out.trans B);clear B bm bj bM J br O;go_wp2_with fail;refine wp_region_quiet_below (by kernel_rfl) (by kernel_rfl) ?_
        repeat (first | go_big_quiet_step (fail) | quiet_step (fail))
        refine wpQuiet_nil ?_;intro _ L;obtain ⟨⟨D,C⟩,M⟩:=L;subst M;have I:=N.out.on (below_regrown w5 D C);generalize grow (redrawn w5 D) C=w7 at *
        have R:=zh I;clear I N Z U;go_wp2_with fail;go_roundw
        case rel=>exact ⟨k+1,ob,by omega,by go_num,S,bg.out,R.out⟩
        case measure=>simp [intOf];omega
      · subst h0;have h4:=bj.out;rw [show ((1:Int)==1)=true from rfl] at h4;subst h4;clear bm bj bM J br;rcases bg.out with ⟨rfl,rfl⟩ | ⟨j,hj,rfl,rfl⟩
        · rw [zp ⟨rfl,rfl⟩] at B;have S:=zh (O.out.out.trans B);clear B O bg;go_wp2_with fail;refine wp_region_quiet_below (by kernel_rfl) (by kernel_rfl) ?_
          repeat (first | go_big_quiet_step (fail) | quiet_step (fail))
          refine wpQuiet_nil ?_;intro _ L;obtain ⟨⟨D,C⟩,M⟩:=L;subst M;have I:=N.out.on (below_regrown w5 D C);generalize grow (redrawn w5 D) C=w7 at *
          have R:=zh I;clear I N Z U;go_wp2_with fail;go_roundw
          case rel=>exact ⟨k+1,some l[k],by omega,by go_num,S,.inr ⟨k,hlt,rfl,rfl⟩,R.out⟩
          case measure=>simp [intOf];omega
        · obtain ⟨g',o',_,_,_,_,e',_,_,_,cc⟩:=Z4q (HV.out.on bs.out) hj;injection e' with e'
          injection e' with e'1 e'2
          subst e'1 e'2;have bA:=Z5w cc;have d0:wr.cell? ⟨g,o+j*16,none⟩=some (int i64 l[j].id):=bA 0 _ rfl;have d1:wr.cell? ⟨g,o+j*16+1,none⟩=some (int i64 l[j].lv):=bA 1 _ rfl;have v0:=(cO.out.cell (World.block_lt_of_cell? _ _ d0)).trans d0;have v1:=(cO.out.cell (World.block_lt_of_cell? _ _ d1)).trans d1;clear bA cc d0 d1;have j0:(0:Int)<=(j:Int):=by omega
          have j1:(j:Int)<(l.length:Int):=by omega
          have dj:decide ((j:Int)<0)=false:=by simp
          have b4:Z46 l[k] (some l[j])=(decide (l[j].lv<l[k].lv) || decide (l[k].lv=l[j].lv)&&decide (l[k].id<l[j].id)):=rfl;rw [b4] at B;obtain ⟨t1,cN⟩:∃ t,decide (l[j].lv<l[k].lv)=t:=⟨_,rfl⟩
          obtain ⟨t2,bS⟩:∃ t,decide (l[k].lv=l[j].lv)=t:=⟨_,rfl⟩
          obtain ⟨t3,db⟩:∃ t,decide (l[k].id<l[j].id)=t:=⟨_,rfl⟩
          rw [cN,bS,db] at B;have dt:(l[k].lv==l[j].lv)=t2:=by rw [<- bS,zA];simp
          have dk:decide (l[k].lv > l[j].lv)=t1:=cN;have be:=zh B;clear B b4 bS;generalize l[k].lv=dm at *
          generalize l[j].lv=du at *
          generalize l[k].id=ds at *
          generalize l[j].id=dv at *
          cases t1 with
          | true =>
           have B:=be.out;rw [zp ⟨rfl,rfl⟩] at B;have S:=zh (O.out.out.trans B);clear B O bg be;go_wp2_with fail;have p0:=cell_regrown Z;have p1:=cell_regrown U;have p2:=cell_regrown v0;have p3:=cell_regrown v1;refine wp_region_quiet_below (by kernel_rfl) (by kernel_rfl) ?_
           repeat (first | go_big_quiet_step (fail) | quiet_step (fail))
           refine wpQuiet_nil ?_;intro _ L;obtain ⟨⟨D,C⟩,M⟩:=L;subst M;have I:=N.out.on (below_regrown w5 D C);generalize grow (redrawn w5 D) C=w7 at *
           have R:=zh I;clear I N Z U v0 v1 p0 p1 p2 p3;go_wp2_with fail;go_roundw
           case rel=>exact ⟨k+1,some l[k],by omega,by go_num,S,.inr ⟨k,hlt,rfl,rfl⟩,R.out⟩
           case measure=>simp [intOf];omega
          | false =>
           cases t2 with
           | false =>
            have B:=be.out;rw [zf (by rintro ⟨_,h⟩;cases h)] at B;have S:=zh (O.out.out.trans B);clear B O be;go_wp2_with fail;have p0:=cell_regrown Z;have p1:=cell_regrown U;have p2:=cell_regrown v0;have p3:=cell_regrown v1;refine wp_region_quiet_below (by kernel_rfl) (by kernel_rfl) ?_
            repeat (first | go_big_quiet_step (fail) | quiet_step (fail))
            refine wpQuiet_nil ?_;intro _ L;obtain ⟨⟨D,C⟩,M⟩:=L;subst M;have I:=N.out.on (below_regrown w5 D C);generalize grow (redrawn w5 D) C=w7 at *
            have R:=zh I;clear I N Z U v0 v1 p0 p1 p2 p3;go_wp2_with fail;go_roundw
            case rel=>exact ⟨k+1,some l[j],by omega,by go_num,S,bg.out,R.out⟩
            case measure=>simp [intOf];omega
           | true =>
            cases t3 with
            | true =>
             have B:=be.out;rw [zp ⟨rfl,rfl⟩] at B;have S:=zh (O.out.out.trans B);clear B O bg be;go_wp2_with fail;have p0:=cell_regrown Z;have p1:=cell_regrown U;have p2:=cell_regrown v0;have p3:=cell_regrown v1;refine wp_region_quiet_below (by kernel_rfl) (by kernel_rfl) ?_
             repeat (first | go_big_quiet_step (fail) | quiet_step (fail))
             refine wpQuiet_nil ?_;intro _ L;obtain ⟨⟨D,C⟩,M⟩:=L;subst M;have I:=N.out.on (below_regrown w5 D C);generalize grow (redrawn w5 D) C=w7 at *
             have R:=zh I;clear I N Z U v0 v1 p0 p1 p2 p3;go_wp2_with fail;go_roundw
             case rel=>exact ⟨k+1,some l[k],by omega,by go_num,S,.inr ⟨k,hlt,rfl,rfl⟩,R.out⟩
             case measure=>simp [intOf];omega
            | false =>
             have B:=be.out;rw [zf (by rintro ⟨_,h⟩;cases h)] at B;have S:=zh (O.out.out.trans B);clear B O be;go_wp2_with fail;have p0:=cell_regrown Z;have p1:=cell_regrown U;have p2:=cell_regrown v0;have p3:=cell_regrown v1;refine wp_region_quiet_below (by kernel_rfl) (by kernel_rfl) ?_
             repeat (first | go_big_quiet_step (fail) | quiet_step (fail))
             refine wpQuiet_nil ?_;intro _ L;obtain ⟨⟨D,C⟩,M⟩:=L;subst M;have I:=N.out.on (below_regrown w5 D C);generalize grow (redrawn w5 D) C=w7 at *
             have R:=zh I;clear I N Z U v0 v1 p0 p1 p2 p3;go_wp2_with fail;go_roundw
             case rel=>exact ⟨k+1,some l[j],by omega,by go_num,S,bg.out,R.out⟩
             case measure=>simp [intOf];omega
      · exact absurd h0 J
  · have dc:k=l.length:=by omega
    subst dc;have dl:decide ((l.length:Int)<(l.length:Int))=false:=by simp
    have bR:=bv.out;rw [List.drop_length] at bR;have bq:Z2g a n none l=.ok ob:=bR;clear bR bv;rcases bB with ⟨rfl,rfl⟩ | ⟨j,hj,rfl,rfl⟩
    · have H:=b0.out bq;subst H;have bd:=zh bb;have bs:=zh ba;clear bb ba bV b0 bW bq;go_wp2_with fail;exact bodyPost_ret (v:=.tuple #[int i64 0,int i64 0,int i64 4]) (by simp [results,results128,go_sem]) rfl ⟨rfl,bd.out.b⟩
    · have H:=bW.out l[j] bq;obtain ⟨g,o,WA,PA,wk,pc,rfl,hg,f1,f2,hc⟩:=Z4q HV.out hj;have F:=Z5w hc;have cg:=dh.out l[j] (List.getElem_mem hj);obtain ⟨_,vp⟩:=Z2r (Z0G cg);obtain ⟨cs,cT⟩:=Z4k vp;have cI:w.cell? ⟨g,o+j*16,none⟩=some (int i64 l[j].id):=F 0 _ rfl;have cA:w.cell? ⟨g,o+j*16+13,none⟩=some (int i64 l[j].po):=F 13 _ rfl;have cB:w.cell? ⟨g,o+j*16+14,none⟩=some (int i64 l[j].pn):=F 14 _ rfl;have cC:w.cell? ⟨g,o+j*16+15,none⟩=some (slice PA (flen l[j].pl) pc):=F 15 _ rfl;have bc:∀ W,Below w.heap.size w W->Calls prog 170 #[.agg #[int i64 l[j].po,int i64 l[j].pn,slice PA (flen l[j].pl) pc],vsV (Z0w a n)] W (RetV (valE (Z0w a n) (l[j].po,l[j].pn) l[j].pl) W):=λW hb=>Zfh l[j].po l[j].pn l[j].pl W (slice PA (flen l[j].pl) pc) W.heap.size (Z0w a n) ((f2.on hb).up hb.size) (zn _) cs cT cY.out;have bN:∀ p q,valE (Z0w a n) (l[j].po,l[j].pn) l[j].pl=.ok p q->ratB p q=true:=λp q h=>Z7m h;have bO:∀ e,valE (Z0w a n) (l[j].po,l[j].pn) l[j].pl=.no e->e=3\/e=22:=λe h=>Z3B h;unfold RetV at bc;obtain ⟨r,hr⟩:∃ r,l[j]=r:=⟨_,rfl⟩
      have bz:=λW (hb:Below w.heap.size w W)=>(hb.cell (World.block_lt_of_cell? _ _ cI)).trans cI;rw [hr] at cA cB cC bc bN bO H bz;generalize valE (Z0w a n) (r.po,r.pn) r.pl=V at *
      obtain ⟨po,b2⟩:∃ x,r.po=x:=⟨_,rfl⟩
      obtain ⟨pn,cd⟩:∃ x,r.pn=x:=⟨_,rfl⟩
      obtain ⟨pl,ca⟩:∃ x,r.pl=x:=⟨_,rfl⟩
      rw [b2] at cA bc;rw [cd] at cB bc;rw [ca] at cC bc;have i0:(0:Int)<=(j:Int):=by omega
      have i1:(j:Int)<(l.length:Int):=by omega
      have dj:decide ((j:Int)<0)=false:=by simp
      obtain ⟨x,hx⟩:∃ x,vN V=x:=⟨_,rfl⟩
      obtain ⟨y,hy⟩:∃ y,vD V=y:=⟨_,rfl⟩
      obtain ⟨er,Y⟩:∃ er,vE V=er:=⟨_,rfl⟩
      have bL:=Zjv V bO;rw [hx,hy,Y] at bc bL;have HMS:Hid (∀ wx,NgB w a wx->wx.cell? ⟨g,o+j*16+13,none⟩=some (int i64 po)/\wx.cell? ⟨g,o+j*16+14,none⟩=some (int i64 pn)/\wx.cell? ⟨g,o+j*16+15,none⟩=some (slice PA (flen pl) pc)/\wx.cell? ⟨w.heap.size,0,none⟩=some (int i64 a.kind)/\wx.cell? ⟨w.heap.size,1,none⟩=some (int i64 a.fr)/\wx.cell? ⟨w.heap.size,2,none⟩=some (int i64 a.un)/\wx.cell? ⟨w.heap.size,3,none⟩=some (int i64 a.pers)/\NgB w a wx):=λwx h=>by obtain ⟨k0,k1,k2,k3⟩:=h.a.c;exact ⟨(h.b.cell (World.block_lt_of_cell? _ _ cA)).trans cA,(h.b.cell (World.block_lt_of_cell? _ _ cB)).trans cB,(h.b.cell (World.block_lt_of_cell? _ _ cC)).trans cC,k0,k1,k2,k3,h⟩
      have cn:=zh bc;have bF:=zh bL;have b5:=zh bN;have df:=zh bz;have bd:=zh bb;have bs:=zh ba;have bZ:=zh H;clear bc bL bN bz bb ba H hx hy Y b2 cd ca hc F f1 f2 cg vp cs cT cI cA cB cC bO hr bq b0 bW bV cD cK;go_upto_region 16 with fail;have cV:w.heap.size<wr.heap.size:=bd.out.lt
      go_region_held3 (λw'=>w'.cell? ⟨g,o+j*16+13,none⟩=some (int i64 po)/\w'.cell? ⟨g,o+j*16+14,none⟩=some (int i64 pn)/\w'.cell? ⟨g,o+j*16+15,none⟩=some (slice PA (flen pl) pc)/\w'.cell? ⟨w.heap.size,0,none⟩=some (int i64 a.kind)/\w'.cell? ⟨w.heap.size,1,none⟩=some (int i64 a.fr)/\w'.cell? ⟨w.heap.size,2,none⟩=some (int i64 a.un)/\w'.cell? ⟨w.heap.size,3,none⟩=some (int i64 a.pers)/\NgB w a w') (first | (with_reducible exact HMS.out _ bd.out.drew) | (with_reducible exact HMS.out _ (bd.out.alloc _).drew) | (with_reducible exact HMS.out _ L6) | (with_reducible exact HMS.out _ L5) | (with_reducible exact HMS.out _ (L6.alloc _)) | (with_reducible exact HMS.out _ (L5.alloc _)) | (exact HMS.out _ ((‹_/\_/\_/\_/\_/\_/\_/\NgB w a _›).2.2.2.2.2.2.2.alloc _)) | (exact HMS.out _ ((L6.set (b:=wr.heap.size) (by omega) 0 _).set (b:=wr.heap.size) (by omega) 1 _)) | (exact HMS.out _ ((L6.set (b:=w5.heap.size) (by have:=L5.lt;omega) 0 _).set (b:=w5.heap.size) (by have:=L5.lt;omega) 1 _)) | fail) (first
        | (go_at_call 171;have hA:=(‹_/\_/\_/\_/\_/\_/\_/\NgB w a _›).2.2.2.2.2.2.2;refine (ch.out _).mono ?_;rintro e w5 ⟨rfl,bQ⟩;have L5:=hA.on bQ;try (have G:=(bQ.block wr.heap.size (by simp [go_sem])).trans (za wr (.cells #[int i64 0,int i64 0] 60));have cz:Hid (RatB w5 wr.heap.size 0 0):=G;clear G);clear bQ hA)
        | (go_at_call 170;have hA:=(‹_/\_/\_/\_/\_/\_/\_/\NgB w a _›).2.2.2.2.2.2.2;refine (cn.out _ hA.b).mono ?_;rintro e f ⟨rfl,bh⟩;have L6:=hA.on bh;first | (have G:=cz.out.on bh;have bn:=zh G;have z0:=G.c0;have z1:=G.c1;have y0:=G.fr 0;have y1:=G.fr 1;clear G bh hA) | (have G:RatB f w5.heap.size 0 0:=(bh.block w5.heap.size (by simp [go_sem])).trans (za w5 (.cells #[int i64 0,int i64 0] 60));have bn:=zh G;have z0:=G.c0;have z1:=G.c1;have y0:=G.fr 0;have y1:=G.fr 1;clear G bh hA) | (clear bh hA)))
      all_goals
       first
        | (have T:RatB ((f.setCell ⟨wr.heap.size,0,none⟩ (int i64 x)).setCell ⟨wr.heap.size,1,none⟩ (int i64 y)) wr.heap.size x y:=Z2s bn.out x y
           have C7:NgB w a ((f.setCell ⟨wr.heap.size,0,none⟩ (int i64 x)).setCell ⟨wr.heap.size,1,none⟩ (int i64 y)):=(L6.set (b:=wr.heap.size) (by omega) 0 _).set (b:=wr.heap.size) (by omega) 1 _
           clear z0 z1 y0 y1 bn;generalize (f.setCell ⟨wr.heap.size,0,none⟩ (int i64 x)).setCell ⟨wr.heap.size,1,none⟩ (int i64 y)=w7 at *
           generalize wr.heap.size=b7 at T |-)
        | (have T:RatB ((f.setCell ⟨w5.heap.size,0,none⟩ (int i64 x)).setCell ⟨w5.heap.size,1,none⟩ (int i64 y)) w5.heap.size x y:=Z2s bn.out x y
           have C7:NgB w a ((f.setCell ⟨w5.heap.size,0,none⟩ (int i64 x)).setCell ⟨w5.heap.size,1,none⟩ (int i64 y)):=(L6.set (b:=w5.heap.size) (by have:=L5.lt;omega) 0 _).set (b:=w5.heap.size) (by have:=L5.lt;omega) 1 _
           clear z0 z1 y0 y1 bn;generalize (f.setCell ⟨w5.heap.size,0,none⟩ (int i64 x)).setCell ⟨w5.heap.size,1,none⟩ (int i64 y)=w7 at *
           generalize w5.heap.size=b7 at T |-)
        | (have T:=RatB.new f x y
           have C7:=L6.alloc (.cells #[int i64 x,int i64 y] 60)
           generalize f.alloc (.cells #[int i64 x,int i64 y] 60)=w7 at *
           generalize f.heap.size=b7 at T |-)
       clear L6 L5 bd bs cV HMS cn ch
       (try clear cz);have r0:=T.c0;have r1:=T.c1;replace C7:=zh C7;replace T:=zh T;by_cases he:er=0
       · subst he;have J:=bF.out.1 rfl;have H:=bZ.out;rw [J] at H;dsimp only at H;have cS:=b5.out x y J;have bY:=λW=>ZdA x y W cS;obtain ⟨z,G⟩:∃ z,rndE x y=z:=⟨_,rfl⟩
         rw [G] at bY H;have ct:=zh bY;clear bY J cS G bZ bF b5;go_wp2_with fail;refine (ct.out _).mono ?_;rintro e w8 ⟨rfl,b1⟩;have C8:=C7.out.on b1;replace C8:=zh C8;clear b1 r0 r1 T C7 ct;by_cases hz0:z<0
         · have dz:decide (z<0)=true:=by simpa using hz0
           rw [zp hz0] at H;subst H;clear hz0;go_wp2_with fail;exact bodyPost_ret (v:=.tuple #[int i64 0,int i64 0,int i64 22]) (by simp [results,results128,go_sem]) rfl ⟨rfl,C8.out.b⟩
         · have dz:decide (z<0)=false:=by simpa using hz0
           rw [zf hz0] at H;subst H;have e0:=df.out w8 C8.out.b;clear hz0;go_wp2_with fail;have p0:=cell_regrown e0;refine wp_region_quiet_below (by kernel_rfl) (by kernel_rfl) ?_
           repeat (first | go_big_quiet_step (fail) | quiet_step (fail))
           refine wpQuiet_nil ?_;intro _ L;obtain ⟨⟨D,C⟩,M⟩:=L;subst M;have C9:=C8.out.on (below_regrown w8 D C);generalize grow (redrawn w8 D) C=w9 at *
           replace C9:=zh C9;clear e0 p0;go_wp2_with fail;exact bodyPost_ret (v:=.tuple #[int i64 z,int i64 r.id,int i64 0]) (by simp [results,results128,go_sem]) rfl ⟨rfl,C9.out.b⟩
       · have J:=bF.out.2 he;have H:=bZ.out;rw [J] at H;dsimp only at H;subst H;have de:(er != 0)=true:=by simpa using he
         clear J he;go_wp2_with fail;exact bodyPost_ret (v:=.tuple #[int i64 0,int i64 0,int i64 er]) (by simp [results,results128,go_sem]) rfl ⟨rfl,C7.out.b⟩
end Go.Proofs.YtnepkoepbapgeaaGreatDoor
