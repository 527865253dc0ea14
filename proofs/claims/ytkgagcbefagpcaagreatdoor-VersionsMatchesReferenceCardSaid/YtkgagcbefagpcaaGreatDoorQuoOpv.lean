import Derived.Test.YtkgagcbefagpcaaGreatDoorQuoAkb
import Derived.Test.YtkgagcbefagpcaaGreatDoorQuoGc
namespace Go.Proofs.YtkgagcbefagpcaaGreatDoor
open _root_.Go.Proofs.Tryz
open Value (int slice)
open IntKind (i64)
set_option maxHeartbeats 16000000
set_option maxRecDepth 100000
section
open Go.RowKit Lx Px Qx Go.Sort
theorem Zm3 (l:List Rt)(r:Rt)(v:Value)(w:World)(I:RtsV w w.heap.size v l)(hl:l.length<=1000)(R:(l.map Rt.id).Nodup)(G:r∈l) : Calls prog 105 #[v,vI r.id] w λe w'=>e=.returned (.agg #[vI r.kn,vI r.kq])/\Below w.heap.size w w':=by
 obtain ⟨A,c,rfl,_⟩:=id I;obtain ⟨q,hq,S⟩:=List.getElem_of_mem G;have T:Below w.heap.size w (w.alloc (.cells #[vI 0,vI 0] 76)):=(zr _ _).alloc (zn _) _;have U:=zh T;have O:=zh (RatB.new w 0 0);have X:=zh I;have HINJ:=zh (λk (hk:k<l.length) (h:l[k].id=r.id)=>Zsk R (List.getElem_mem hk) G h);have ba:=zh S;clear T I S R G;go_enter func105,ntmps105;go_upto_region 1 with fail;generalize w.alloc (.cells #[vI 0,vI 0] 76)=W1 at *
 go_wp2_with fail;go_loopw [5] (λi wr=>∃ k:Nat,k<=l.length/\i=vI k/\(∀ j (hj:j<l.length),j<k->l[j].id≠r.id)/\RatB wr w.heap.size 0 0/\Below w.heap.size w wr) (λi _=>l.length - (intOf i).toNat)
 case atStart=>exact ⟨0,Nat.zero_le _,rfl,λj _ h=>absurd h (by omega),O.o,U.o⟩
 case round =>
  clear O U;obtain ⟨k,hk,rfl,C,B,D⟩:=hrel;by_cases hlt:k<l.length
  . obtain ⟨g,o,WA,PA,wk,pc,rfl,hg,V,f2,M⟩:=Z4s (X.o.on D) hlt;have F:=Z5B M;have c0:wr.cell? ⟨g,o+k*16,none⟩=some (vI l[k].id):=F 0 _ rfl;have y:wr.cell? ⟨g,o+k*16+8,none⟩=some (vI l[k].kn):=F 8 _ rfl;have Z:wr.cell? ⟨g,o+k*16+9,none⟩=some (vI l[k].kq):=F 9 _ rfl;have dl:decide ((k:Int)<l.length)=true:=by simpa using hlt
    have i0:(0:Int)<=k:=by omega
    have i1:(k:Int)<l.length:=by omega
    have f:=B.c0;have d:=B.c1;have y0:=B.fr 0;have y1:=B.fr 1;have hl:=B.lt;clear F M V f2;by_cases he:l[k].id=r.id
    . have J:=HINJ.o k hlt he;rw [J] at c0 y Z;obtain ⟨H,L,m,bb,HE⟩:=zh5 D B C J he;clear D B C J he;go_wp2_with fail;exact bodyPost_ret (v:=.agg #[vI r.kn,vI r.kq]) (by simp [results,results105,go_sem,f,d]) rfl ⟨rfl,Z01 H.o (zn _) _ _⟩
    . have de:(l[k].id==r.id)=false:=by simpa using he
      have N:∀ j (hj:j<l.length),j<k+1->l[j].id≠r.id:=λj hj hjk=>by
       by_cases hjk2:j=k
       . subst hjk2;exact he
       . exact C j hj (by omega)
      obtain ⟨H,L,m,Y,HE⟩:=zh5 D B C N he;clear D B C N he;generalize l[k].id=bd at *
      generalize l[k].kn=bc at *
      generalize l[k].kq=be at *
      go_wp2_with fail;go_roundw
      case rel=>exact ⟨k+1,by omega,by go_num,Y.o,L.o,H.o⟩
      case measure=>simp [intOf];omega
  . exact absurd (by rw [ba.o]) (C q hq (by omega))
def Zm4:N->Value
 | .ok c r=>.tuple #[vI c,vI r.id,vI 0]
 | .no e=>.tuple #[vI 0,vI 0,vI e]
theorem Zm5 (l:List Rt)(a:Qx.Ask)(n:Int)(o:Option Rt){k:Nat}(hk:k<l.length) : Z2b a n o (l.drop k)=if apR l[k] a n<0 then .error (-(apR l[k] a n)) else Z2b a n (if apR l[k] a n=1/\Z4a l[k] o=true then some l[k] else o) (l.drop (k+1)):=by
 rw [List.drop_eq_getElem_cons hk];rfl
theorem ZpA {l:List Rt}{a:Qx.Ask}{n e:Int}(h:Z2b a n none l=.error e):Z0i l a n=.no e:=by unfold Z0i;rw [h]
theorem ZpB {l:List Rt}{a:Qx.Ask}{n:Int}(h:Z2b a n none l=.ok none):Z0i l a n=.no 4:=by unfold Z0i;rw [h]
theorem Zm6 {l:List Rt}{a:Qx.Ask}{n:Int}{r:Rt}(h:Z2b a n none l=.ok (some r)):Z0i l a n=match valE (Z0t a n) (r.po,r.pn) r.pl with | .no e=>.no e | .ok m d=>if rndE m d<0 then .no 22 else .ok (rndE m d) r:=by unfold Z0i;rw [h];rfl
theorem AkB.f {p:Nat}{a:Qx.Ask}{W:World}(h:AkB p a W):p<W.heap.size:=(zF2.1 h.h).1
structure NgB (w:World) (a:Qx.Ask) (wx:World):Prop where
 a:AkB w.heap.size a wx
 b:Below w.heap.size w wx
theorem NgB.on {w B C:World}{a:Qx.Ask}(h:NgB w a B)(hb:Below B.heap.size B C):NgB w a C:=⟨h.a.on hb,Z00 h.b hb⟩
theorem NgB.drew {w B:World}{a:Qx.Ask}(h:NgB w a B):NgB w a B.drew:=h.on (zr _ _).drew
theorem NgB.alloc {w B:World}{a:Qx.Ask}(h:NgB w a B)(o:Obj):NgB w a (B.alloc o):=h.on ((zr _ _).alloc (zn _) _)
theorem NgB.set {w B:World}{a:Qx.Ask}(h:NgB w a B){b:Nat}(hb:w.heap.size+1<=b)(o:Nat)(v:Value):NgB w a (B.setCell ⟨b,o,none⟩ v) := ⟨⟨(zg _ _ _ _ (by show _≠b;omega)).trans h.a.h⟩,h.b.setCell (p:=⟨b,o,none⟩) (by show _<=b;omega) _⟩
theorem NgB.lt {w B:World}{a:Qx.Ask}(h:NgB w a B):w.heap.size<B.heap.size:=h.a.f
def BestAt (l:List Rt)(o:Option Rt)(b:Value):Prop:=(o=none/\b=vI (-1))\/∃ (j:Nat) (hj:j<l.length),o=some l[j]/\b=vI j
theorem Zi5 (l:List Rt)(v:Value)(a:Qx.Ask)(n:Int)(w:World)(hv:RtsV w w.heap.size v l)(hu:useB l=true)(bf:a.okB=true)(h0:a.fr<=n)(B:n<a.un) : Calls prog 103 #[v,askV a,vI n] w λe w'=>e=.returned (Zm4 (Z0i l a n))/\Below w.heap.size w w':=by
 obtain ⟨A,c,rfl,_⟩:=id hv;obtain ⟨ds,bS,cb⟩:=(Z1A l).1 hu;obtain ⟨a1,a2,a3,a4,a5,a6,a7,a8⟩:=Z1w bf;have bX:=λW (hb:Below w.heap.size w W)=>Z51 l (slice A l.length c) W ((hv.on hb).up hb.size);rw [hu] at bX;have bp:=λW=>Z8n a W;rw [bf] at bp;have bF:=λW=>Z52 n a.fr (a.un - 1) W;have dd:Z1d n a.fr (a.un - 1)=true:=by unfold Z1d;simp;omega
 rw [dd] at bF;have wu:IntKind.i64.wrap (a.un - 1)=a.un - 1:=zi _ (by omega);have b0:=λW=>Zcq a n W bf h0 B;have cg:=Z5j bf h0 B;have U:=λe=>@ZpA l a n e;have bT:=@ZpB l a n;have cr:=λr=>@Zm6 l a n r;obtain ⟨NV,bt⟩:∃ NV,Z0i l a n=NV:=⟨_,rfl⟩
 rw [bt] at U bT;have cu:∀ r,Z2b a n none l=.ok (some r)->NV=match valE (Z0t a n) (r.po,r.pn) r.pl with | .no e=>.no e | .ok m d=>if rndE m d<0 then .no 22 else .ok (rndE m d) r:=λr h=>by rw [<- bt];exact cr r h
 rw [bt];have bk:=λo k (hk:k<l.length)=>Zm5 l a n o hk;have bz:=λ(k:Nat) (hk:k<l.length) (wv pv:Value) (W:World) (hw:FoV W W.heap.size wv l[k].wl) (hp:FoV W W.heap.size pv l[k].pl)=>Zcr l[k] wv pv a n W hw hp (bS _ (List.getElem_mem hk)) bf h0 B;have b1:=(zr w.heap.size w).alloc (zn _) (.cells #[vI a.kind,vI a.fr,vI a.un,vI a.pers] 25);have cJ:AkB w.heap.size a (w.alloc (.cells #[vI a.kind,vI a.fr,vI a.un,vI a.pers] 25)):=⟨za _ _⟩
 simp only [askV] at bp b0 bz;obtain ⟨HV,cs,b2,b3,cD,da,bZ,bY,bL,ck,cm,bJ,cd,cX,dk,HU⟩:=zh16 hv bX bp bF b0 cg U bT cu bk bz b1 cJ bS cb hu;have dm:=zh bf;clear hv bX bp bF b0 cg U bT cu bk bz b1 cJ bS cb hu bf cr bt;dsimp only [askV];go_enter func103,ntmps103;go_upto_region 1 with fail;generalize w.alloc (.cells #[vI a.kind,vI a.fr,vI a.un,vI a.pers] 25)=w1 at *
 go_wp2_with fail;refine (cs.o w1 bJ.o).mono ?_;rintro e w2 ⟨rfl,bP⟩;have bV:=cd.o.on bP;obtain ⟨k0,k1,k2,k3⟩:=bV.c;have cj:=zh (Z00 bJ.o bP);have ca:=zh bV;clear bV bP bJ cd cs;go_wp2_with fail;refine (b2.o _).mono ?_;rintro e w3 ⟨rfl,bI⟩;have bH:=ca.o.on bI;clear k0 k1 k2 k3;obtain ⟨k0,k1,k2,k3⟩:=bH.c;have cH:=zh (Z00 cj.o bI);have cf:=zh bH;clear bH bI cj ca b2;go_wp2_with fail;refine (b3.o _).mono ?_;rintro e w' ⟨rfl,rfl⟩;go_wp2_with fail;go_loopw [11,12] (λb i wr=>∃ (k:Nat) (o:Option Rt),k<=l.length/\i=vI k/\Hid (Z2b a n none l=Z2b a n o (l.drop k))/\BestAt l o b/\NgB w a wr) (λ_ i _=>l.length - (intOf i).toNat)
 case atStart=>exact ⟨0,none,Nat.zero_le _,rfl,rfl,.inl ⟨rfl,rfl⟩,cf.o,cH.o⟩
 case round =>
  clear cf cH k0 k1 k2 k3 b3;obtain ⟨k,ob,hk,rfl,bs,bN,bc⟩:=hrel;obtain ⟨k0,k1,k2,k3⟩:=bc.a.c;have ba:=bc.b;by_cases hlt:k<l.length
  . obtain ⟨g,o,WA,PA,wk,pc,rfl,hg,f1,f2,hc⟩:=Z4s (HV.o.on ba) hlt;have F:=Z5B hc;have c0:wr.cell? ⟨g,o+k*16,none⟩=some (vI l[k].id):=F 0 _ rfl;have c1:wr.cell? ⟨g,o+k*16+1,none⟩=some (vI l[k].lv):=F 1 _ rfl;have c2:wr.cell? ⟨g,o+k*16+2,none⟩=some (vI l[k].kd):=F 2 _ rfl;have c3:wr.cell? ⟨g,o+k*16+3,none⟩=some (vI l[k].fr):=F 3 _ rfl;have c4:wr.cell? ⟨g,o+k*16+4,none⟩=some (vI l[k].un):=F 4 _ rfl;have c5:wr.cell? ⟨g,o+k*16+5,none⟩=some (vI l[k].ls):=F 5 _ rfl;have c6:wr.cell? ⟨g,o+k*16+6,none⟩=some (vI l[k].mo):=F 6 _ rfl;have c7:wr.cell? ⟨g,o+k*16+7,none⟩=some (vI l[k].ar):=F 7 _ rfl;have c8:wr.cell? ⟨g,o+k*16+8,none⟩=some (vI l[k].kn):=F 8 _ rfl;have c9:wr.cell? ⟨g,o+k*16+9,none⟩=some (vI l[k].kq):=F 9 _ rfl;have cQ:wr.cell? ⟨g,o+k*16+10,none⟩=some (vI l[k].wo):=F 10 _ rfl;have cx:wr.cell? ⟨g,o+k*16+11,none⟩=some (vI l[k].wn):=F 11 _ rfl;have ce:wr.cell? ⟨g,o+k*16+12,none⟩=some (slice WA (flen l[k].wl) wk):=F 12 _ rfl;have cE:wr.cell? ⟨g,o+k*16+13,none⟩=some (vI l[k].po):=F 13 _ rfl;have cv:wr.cell? ⟨g,o+k*16+14,none⟩=some (vI l[k].pn):=F 14 _ rfl;have b8:wr.cell? ⟨g,o+k*16+15,none⟩=some (slice PA (flen l[k].pl) pc):=F 15 _ rfl;have dl:decide ((k:Int)<l.length)=true:=by simpa using hlt
    have i0:(0:Int)<=k:=by omega
    have i1:(k:Int)<l.length:=by omega
    have bk:=ck.o ob k hlt;have cP:=Zb7 l[k] a n;have bu:=λd os=>Calls.regrown_of (cm.o k hlt (slice WA (flen l[k].wl) wk) (slice PA (flen l[k].pl) pc) (grow (redrawn wr d) os) ((f1.up ba.size).on (below_regrown wr d os) |>.up (below_regrown wr d os).size) ((f2.up ba.size).on (below_regrown wr d os) |>.up (below_regrown wr d os).size));unfold rtV apO at bu;generalize apR l[k] a n=X at *
    obtain ⟨is,bB⟩:∃ is,(X==1)=is:=⟨_,rfl⟩
    obtain ⟨er,U⟩:∃ er,(if X<0 then -X else 0)=er:=⟨_,rfl⟩
    rw [bB,U] at bu;obtain ⟨bU,bv,bd,N,bg,bq,bm,bj,bE⟩:=zh9 bu ba bc bs bN bk bB U cP;clear bu ba bc bs bN bk bB U cP F hc f1 f2;go_wp2_with fail;have y0:=cell_regrown c0;have y1:=cell_regrown c1;have y2:=cell_regrown c2;have y3:=cell_regrown c3;have y4:=cell_regrown c4;have y5:=cell_regrown c5;have y6:=cell_regrown c6;have y7:=cell_regrown c7;have y8:=cell_regrown c8;have y9:=cell_regrown c9;have cY:=cell_regrown cQ;have db:=cell_regrown cx;have cS:=cell_regrown ce;have cT:=cell_regrown cE;have df:=cell_regrown cv;have dc:=cell_regrown b8;have z0:=cell_regrown k0;have z1:=cell_regrown k1;have z2:=cell_regrown k2;have z3:=cell_regrown k3;refine wp_region_quiet_below (by kernel_rfl) (by kernel_rfl) ?_
    repeat (first | go_big_quiet_step (exact bU.o _ _) | quiet_step (exact bU.o _ _))
    refine wpQuiet_nil ?_;intro _ J;obtain ⟨⟨D,C⟩,L⟩:=J;subst L;have T:=y0 D C;have Y:=y1 D C;have ct:=bd.o.on (below_regrown wr D C);have cy:=below_regrown wr D C;generalize grow (redrawn wr D) C=w5 at *
    clear bU y0 c0 y1 c1 y2 c2 y3 c3 y4 c4 y5 c5 y6 c6 y7 c7 y8 c8 y9 c9 cY cQ db cx cS ce cT cE df cv dc b8 z0 z1 z2 z3 k0 k1 k2 k3;have O:=zh ct;have cN:=zh cy;clear ct cy;by_cases M:X<0
    . have B:=bq.o;rw [zp M] at B;have G:=bZ.o (-X) (N.o.o.trans B);have h3:=bj.o;rw [zp M] at h3;subst G;have de:(er != 0)=true:=by have:er≠0:=(by omega);simpa using this
      clear B bj bm M;subst h3;go_wp2_with fail;exact bodyPost_ret (v:=.tuple #[vI 0,vI 0,vI (-X)]) (by simp [results,results103,go_sem]) rfl ⟨rfl,O.o.b⟩
    . have B:=bq.o;rw [zf M] at B;have h3:=bj.o;rw [zf M] at h3;subst h3;rcases bE.o with h0 | h0 | h0
      . subst h0;have h4:=bm.o;rw [show ((0:Int)==1)=false from rfl] at h4;subst h4;rw [zf (by rintro ⟨h,_⟩;cases h)] at B;have R:=zh (N.o.o.trans B);clear B bj bm bE M bq N;go_wp2_with fail;refine wp_region_quiet_below (by kernel_rfl) (by kernel_rfl) ?_
        repeat (first | go_big_quiet_step (fail) | quiet_step (fail))
        refine wpQuiet_nil ?_;intro _ J;obtain ⟨⟨D,C⟩,L⟩:=J;subst L;have I:=O.o.on (below_regrown w5 D C);generalize grow (redrawn w5 D) C=w7 at *
        have S:=zh I;clear I O T Y;go_wp2_with fail;go_roundw
        case rel=>exact ⟨k+1,ob,by omega,by go_num,R,bg.o,S.o⟩
        case measure=>simp [intOf];omega
      . subst h0;have h4:=bm.o;rw [show ((1:Int)==1)=true from rfl] at h4;subst h4;clear bj bm bE M bq;rcases bg.o with ⟨rfl,rfl⟩ | ⟨j,hj,rfl,rfl⟩
        . rw [zp ⟨rfl,rfl⟩] at B;have R:=zh (N.o.o.trans B);clear B N bg;go_wp2_with fail;refine wp_region_quiet_below (by kernel_rfl) (by kernel_rfl) ?_
          repeat (first | go_big_quiet_step (fail) | quiet_step (fail))
          refine wpQuiet_nil ?_;intro _ J;obtain ⟨⟨D,C⟩,L⟩:=J;subst L;have I:=O.o.on (below_regrown w5 D C);generalize grow (redrawn w5 D) C=w7 at *
          have S:=zh I;clear I O T Y;go_wp2_with fail;go_roundw
          case rel=>exact ⟨k+1,some l[k],by omega,by go_num,R,.inr ⟨k,hlt,rfl,rfl⟩,S.o⟩
          case measure=>simp [intOf];omega
        . obtain ⟨g',o',_,_,_,_,e',_,_,_,cn⟩:=Z4s (HV.o.on bv.o) hj;injection e' with e'
          injection e' with e'1 e'2
          subst e'1 e'2;have bM:=Z5B cn;have d0:wr.cell? ⟨g,o+j*16,none⟩=some (vI l[j].id):=bM 0 _ rfl;have d1:wr.cell? ⟨g,o+j*16+1,none⟩=some (vI l[j].lv):=bM 1 _ rfl;have v0:=(cN.o.cell (World.block_lt_of_cell? _ _ d0)).trans d0;have v1:=(cN.o.cell (World.block_lt_of_cell? _ _ d1)).trans d1;clear bM cn d0 d1;have j0:(0:Int)<=j:=by omega
          have j1:(j:Int)<l.length:=by omega
          have dj:decide ((j:Int)<0)=false:=by simp
          have b5:Z4a l[k] (some l[j])=(decide (l[j].lv<l[k].lv) || decide (l[k].lv=l[j].lv)&&decide (l[k].id<l[j].id)):=rfl;rw [b5] at B;obtain ⟨t1,cL⟩:∃ t,decide (l[j].lv<l[k].lv)=t:=⟨_,rfl⟩
          obtain ⟨t2,bA⟩:∃ t,decide (l[k].lv=l[j].lv)=t:=⟨_,rfl⟩
          obtain ⟨t3,cU⟩:∃ t,decide (l[k].id<l[j].id)=t:=⟨_,rfl⟩
          rw [cL,bA,cU] at B;have dh:(l[k].lv==l[j].lv)=t2:=by rw [<- bA,zA];simp
          have dn:decide (l[k].lv > l[j].lv)=t1:=cL;have be:=zh B;clear B b5 bA;generalize l[k].lv=dr at *
          generalize l[j].lv=dg at *
          generalize l[k].id=dp at *
          generalize l[j].id=dt at *
          cases t1 with
          | true =>
           have B:=be.o;rw [zp ⟨rfl,rfl⟩] at B;have R:=zh (N.o.o.trans B);clear B N bg be;go_wp2_with fail;have p0:=cell_regrown T;have p1:=cell_regrown Y;have p2:=cell_regrown v0;have p3:=cell_regrown v1;refine wp_region_quiet_below (by kernel_rfl) (by kernel_rfl) ?_
           repeat (first | go_big_quiet_step (fail) | quiet_step (fail))
           refine wpQuiet_nil ?_;intro _ J;obtain ⟨⟨D,C⟩,L⟩:=J;subst L;have I:=O.o.on (below_regrown w5 D C);generalize grow (redrawn w5 D) C=w7 at *
           have S:=zh I;clear I O T Y v0 v1 p0 p1 p2 p3;go_wp2_with fail;go_roundw
           case rel=>exact ⟨k+1,some l[k],by omega,by go_num,R,.inr ⟨k,hlt,rfl,rfl⟩,S.o⟩
           case measure=>simp [intOf];omega
          | false =>
           cases t2 with
           | false =>
            have B:=be.o;rw [zf (by rintro ⟨_,h⟩;cases h)] at B;have R:=zh (N.o.o.trans B);clear B N be;go_wp2_with fail;have p0:=cell_regrown T;have p1:=cell_regrown Y;have p2:=cell_regrown v0;have p3:=cell_regrown v1;refine wp_region_quiet_below (by kernel_rfl) (by kernel_rfl) ?_
            repeat (first | go_big_quiet_step (fail) | quiet_step (fail))
            refine wpQuiet_nil ?_;intro _ J;obtain ⟨⟨D,C⟩,L⟩:=J;subst L;have I:=O.o.on (below_regrown w5 D C);generalize grow (redrawn w5 D) C=w7 at *
            have S:=zh I;clear I O T Y v0 v1 p0 p1 p2 p3;go_wp2_with fail;go_roundw
            case rel=>exact ⟨k+1,some l[j],by omega,by go_num,R,bg.o,S.o⟩
            case measure=>simp [intOf];omega
           | true =>
            cases t3 with
            | true =>
             have B:=be.o;rw [zp ⟨rfl,rfl⟩] at B;have R:=zh (N.o.o.trans B);clear B N bg be;go_wp2_with fail;have p0:=cell_regrown T;have p1:=cell_regrown Y;have p2:=cell_regrown v0;have p3:=cell_regrown v1;refine wp_region_quiet_below (by kernel_rfl) (by kernel_rfl) ?_
             repeat (first | go_big_quiet_step (fail) | quiet_step (fail))
             refine wpQuiet_nil ?_;intro _ J;obtain ⟨⟨D,C⟩,L⟩:=J;subst L;have I:=O.o.on (below_regrown w5 D C);generalize grow (redrawn w5 D) C=w7 at *
             have S:=zh I;clear I O T Y v0 v1 p0 p1 p2 p3;go_wp2_with fail;go_roundw
             case rel=>exact ⟨k+1,some l[k],by omega,by go_num,R,.inr ⟨k,hlt,rfl,rfl⟩,S.o⟩
             case measure=>simp [intOf];omega
            | false =>
             have B:=be.o;rw [zf (by rintro ⟨_,h⟩;cases h)] at B;have R:=zh (N.o.o.trans B);clear B N be;go_wp2_with fail;have p0:=cell_regrown T;have p1:=cell_regrown Y;have p2:=cell_regrown v0;have p3:=cell_regrown v1;refine wp_region_quiet_below (by kernel_rfl) (by kernel_rfl) ?_
             repeat (first | go_big_quiet_step (fail) | quiet_step (fail))
             refine wpQuiet_nil ?_;intro _ J;obtain ⟨⟨D,C⟩,L⟩:=J;subst L;have I:=O.o.on (below_regrown w5 D C);generalize grow (redrawn w5 D) C=w7 at *
             have S:=zh I;clear I O T Y v0 v1 p0 p1 p2 p3;go_wp2_with fail;go_roundw
             case rel=>exact ⟨k+1,some l[j],by omega,by go_num,R,bg.o,S.o⟩
             case measure=>simp [intOf];omega
      . exact absurd h0 M
  . have cZ:k=l.length:=by omega
    subst cZ;have dl:decide ((l.length:Int)<l.length)=false:=by simp
    have bK:=bs.o;rw [List.drop_length] at bK;have br:Z2b a n none l=.ok ob:=bK;clear bK bs;rcases bN with ⟨rfl,rfl⟩ | ⟨j,hj,rfl,rfl⟩
    . have G:=bY.o br;subst G;have bd:=zh bc;have bv:=zh ba;clear bc ba bZ bY bL br;go_wp2_with fail;exact bodyPost_ret (v:=.tuple #[vI 0,vI 0,vI 4]) (by simp [results,results103,go_sem]) rfl ⟨rfl,bd.o.b⟩
    . have G:=bL.o l[j] br;obtain ⟨g,o,WA,PA,wk,pc,rfl,hg,f1,f2,hc⟩:=Z4s HV.o hj;have F:=Z5B hc;have cF:=cX.o l[j] (List.getElem_mem hj);obtain ⟨_,vp⟩:=Z2k (Z12 cF);obtain ⟨cM,cK⟩:=Z4q vp;have cI:w.cell? ⟨g,o+j*16,none⟩=some (vI l[j].id):=F 0 _ rfl;have cA:w.cell? ⟨g,o+j*16+13,none⟩=some (vI l[j].po):=F 13 _ rfl;have cB:w.cell? ⟨g,o+j*16+14,none⟩=some (vI l[j].pn):=F 14 _ rfl;have cC:w.cell? ⟨g,o+j*16+15,none⟩=some (slice PA (flen l[j].pl) pc):=F 15 _ rfl;have bb:∀ W,Below w.heap.size w W->Calls prog 140 #[.agg #[vI l[j].po,vI l[j].pn,slice PA (flen l[j].pl) pc],vsV (Z0t a n)] W (RetV (valE (Z0t a n) (l[j].po,l[j].pn) l[j].pl) W):=λW hb=>Zfz l[j].po l[j].pn l[j].pl W (slice PA (flen l[j].pl) pc) W.heap.size (Z0t a n) ((f2.on hb).up hb.size) (zn _) cM cK da.o;have bG:∀ p q,valE (Z0t a n) (l[j].po,l[j].pn) l[j].pl=.ok p q->ratB p q=true:=λp q h=>Z7t h;have bR:∀ e,valE (Z0t a n) (l[j].po,l[j].pn) l[j].pl=.no e->e=3\/e=22:=λe h=>Z3B h;unfold RetV at bb;obtain ⟨r,hr⟩:∃ r,l[j]=r:=⟨_,rfl⟩
      have bC:=λW (hb:Below w.heap.size w W)=>(hb.cell (World.block_lt_of_cell? _ _ cI)).trans cI;rw [hr] at cA cB cC bb bG bR G bC;generalize valE (Z0t a n) (r.po,r.pn) r.pl=V at *
      obtain ⟨po,cG⟩:∃ x,r.po=x:=⟨_,rfl⟩
      obtain ⟨pn,b4⟩:∃ x,r.pn=x:=⟨_,rfl⟩
      obtain ⟨pl,b6⟩:∃ x,r.pl=x:=⟨_,rfl⟩
      rw [cG] at cA bb;rw [b4] at cB bb;rw [b6] at cC bb;have i0:(0:Int)<=j:=by omega
      have i1:(j:Int)<l.length:=by omega
      have dj:decide ((j:Int)<0)=false:=by simp
      obtain ⟨x,hx⟩:∃ x,vN V=x:=⟨_,rfl⟩
      obtain ⟨y,hy⟩:∃ y,vD V=y:=⟨_,rfl⟩
      obtain ⟨er,U⟩:∃ er,vE V=er:=⟨_,rfl⟩
      have bx:=Zk6 V bR;rw [hx,hy,U] at bb bx;have Z:Hid (∀ wx,NgB w a wx->wx.cell? ⟨g,o+j*16+13,none⟩=some (vI po)/\wx.cell? ⟨g,o+j*16+14,none⟩=some (vI pn)/\wx.cell? ⟨g,o+j*16+15,none⟩=some (slice PA (flen pl) pc)/\wx.cell? ⟨w.heap.size,0,none⟩=some (vI a.kind)/\wx.cell? ⟨w.heap.size,1,none⟩=some (vI a.fr)/\wx.cell? ⟨w.heap.size,2,none⟩=some (vI a.un)/\wx.cell? ⟨w.heap.size,3,none⟩=some (vI a.pers)/\NgB w a wx):=λwx h=>by obtain ⟨k0,k1,k2,k3⟩:=h.a.c;exact ⟨(h.b.cell (World.block_lt_of_cell? _ _ cA)).trans cA,(h.b.cell (World.block_lt_of_cell? _ _ cB)).trans cB,(h.b.cell (World.block_lt_of_cell? _ _ cC)).trans cC,k0,k1,k2,k3,h⟩
      obtain ⟨cR,bQ,ch,cW,bd,bv,bD⟩:=zh7 bb bx bG bC bc ba G;clear bb bx bG bC bc ba G hx hy U cG b4 b6 hc F f1 f2 cF vp cM cK cI cA cB cC bR hr br bY bL bZ ck cm;go_upto_region 16 with fail;have cV:w.heap.size<wr.heap.size:=bd.o.lt
      go_region_held3 (λw'=>w'.cell? ⟨g,o+j*16+13,none⟩=some (vI po)/\w'.cell? ⟨g,o+j*16+14,none⟩=some (vI pn)/\w'.cell? ⟨g,o+j*16+15,none⟩=some (slice PA (flen pl) pc)/\w'.cell? ⟨w.heap.size,0,none⟩=some (vI a.kind)/\w'.cell? ⟨w.heap.size,1,none⟩=some (vI a.fr)/\w'.cell? ⟨w.heap.size,2,none⟩=some (vI a.un)/\w'.cell? ⟨w.heap.size,3,none⟩=some (vI a.pers)/\NgB w a w') (first | (with_reducible exact Z.o _ bd.o.drew) | (with_reducible exact Z.o _ (bd.o.alloc _).drew) | (with_reducible exact Z.o _ L6) | (with_reducible exact Z.o _ L5) | (with_reducible exact Z.o _ (L6.alloc _)) | (with_reducible exact Z.o _ (L5.alloc _)) | (exact Z.o _ ((‹_/\_/\_/\_/\_/\_/\_/\NgB w a _›).2.2.2.2.2.2.2.alloc _)) | (exact Z.o _ ((L6.set (b:=wr.heap.size) (by omega) 0 _).set (b:=wr.heap.size) (by omega) 1 _)) | (exact Z.o _ ((L6.set (b:=w5.heap.size) (by have:=L5.lt;omega) 0 _).set (b:=w5.heap.size) (by have:=L5.lt;omega) 1 _)) | fail) (first
        | (go_at_call 141;have hA:=(‹_/\_/\_/\_/\_/\_/\_/\NgB w a _›).2.2.2.2.2.2.2;refine (cD.o _).mono ?_;rintro e w5 ⟨rfl,bW⟩;have L5:=hA.on bW;try (have H:=(bW.block wr.heap.size (by simp [go_sem])).trans (za wr (.cells #[vI 0,vI 0] 76));have cO:Hid (RatB w5 wr.heap.size 0 0):=H;clear H);clear bW hA)
        | (go_at_call 140;have hA:=(‹_/\_/\_/\_/\_/\_/\_/\NgB w a _›).2.2.2.2.2.2.2;refine (cR.o _ hA.b).mono ?_;rintro e w6 ⟨rfl,bh⟩;have L6:=hA.on bh;first | (have H:=cO.o.on bh;have bn:=zh H;have z0:=H.c0;have z1:=H.c1;have y0:=H.fr 0;have y1:=H.fr 1;clear H bh hA) | (have H:RatB w6 w5.heap.size 0 0:=(bh.block w5.heap.size (by simp [go_sem])).trans (za w5 (.cells #[vI 0,vI 0] 76));have bn:=zh H;have z0:=H.c0;have z1:=H.c1;have y0:=H.fr 0;have y1:=H.fr 1;clear H bh hA) | (clear bh hA)))
      all_goals
       first
        | (have f:RatB ((w6.setCell ⟨wr.heap.size,0,none⟩ (vI x)).setCell ⟨wr.heap.size,1,none⟩ (vI y)) wr.heap.size x y:=Z2m bn.o x y
           have C7:NgB w a ((w6.setCell ⟨wr.heap.size,0,none⟩ (vI x)).setCell ⟨wr.heap.size,1,none⟩ (vI y)):=(L6.set (b:=wr.heap.size) (by omega) 0 _).set (b:=wr.heap.size) (by omega) 1 _
           clear z0 z1 y0 y1 bn;generalize (w6.setCell ⟨wr.heap.size,0,none⟩ (vI x)).setCell ⟨wr.heap.size,1,none⟩ (vI y)=w7 at *
           generalize wr.heap.size=b7 at f |-)
        | (have f:RatB ((w6.setCell ⟨w5.heap.size,0,none⟩ (vI x)).setCell ⟨w5.heap.size,1,none⟩ (vI y)) w5.heap.size x y:=Z2m bn.o x y
           have C7:NgB w a ((w6.setCell ⟨w5.heap.size,0,none⟩ (vI x)).setCell ⟨w5.heap.size,1,none⟩ (vI y)):=(L6.set (b:=w5.heap.size) (by have:=L5.lt;omega) 0 _).set (b:=w5.heap.size) (by have:=L5.lt;omega) 1 _
           clear z0 z1 y0 y1 bn;generalize (w6.setCell ⟨w5.heap.size,0,none⟩ (vI x)).setCell ⟨w5.heap.size,1,none⟩ (vI y)=w7 at *
           generalize w5.heap.size=b7 at f |-)
        | (have f:=RatB.new w6 x y
           have C7:=L6.alloc (.cells #[vI x,vI y] 76)
           generalize w6.alloc (.cells #[vI x,vI y] 76)=w7 at *
           generalize w6.heap.size=b7 at f |-)
       clear L6 L5 bd bv cV Z cR cD
       (try clear cO);have r0:=f.c0;have r1:=f.c1;replace C7:=zh C7;replace f:=zh f;by_cases he:er=0
       . subst he;have M:=bQ.o.1 rfl;have G:=bD.o;rw [M] at G;dsimp only at G;have cz:=ch.o x y M;have bO:=λW=>Ze9 x y W cz;obtain ⟨z,H⟩:∃ z,rndE x y=z:=⟨_,rfl⟩
         rw [H] at bO G;have b9:=zh bO;clear bO M cz H bD bQ ch;go_wp2_with fail;refine (b9.o _).mono ?_;rintro e w8 ⟨rfl,cc⟩;have C8:=C7.o.on cc;replace C8:=zh C8;clear cc r0 r1 f C7 b9;by_cases hz0:z<0
         . have dz:decide (z<0)=true:=by simpa using hz0
           rw [zp hz0] at G;subst G;clear hz0;go_wp2_with fail;exact bodyPost_ret (v:=.tuple #[vI 0,vI 0,vI 22]) (by simp [results,results103,go_sem]) rfl ⟨rfl,C8.o.b⟩
         . have dz:decide (z<0)=false:=by simpa using hz0
           rw [zf hz0] at G;subst G;have e0:=cW.o w8 C8.o.b;clear hz0;go_wp2_with fail;have p0:=cell_regrown e0;refine wp_region_quiet_below (by kernel_rfl) (by kernel_rfl) ?_
           repeat (first | go_big_quiet_step (fail) | quiet_step (fail))
           refine wpQuiet_nil ?_;intro _ J;obtain ⟨⟨D,C⟩,L⟩:=J;subst L;have C9:=C8.o.on (below_regrown w8 D C);generalize grow (redrawn w8 D) C=w9 at *
           replace C9:=zh C9;clear e0 p0;go_wp2_with fail;exact bodyPost_ret (v:=.tuple #[vI z,vI r.id,vI 0]) (by simp [results,results103,go_sem]) rfl ⟨rfl,C9.o.b⟩
       . have M:=bQ.o.2 he;have G:=bD.o;rw [M] at G;dsimp only at G;subst G;have de:(er != 0)=true:=by simpa using he
         clear M he;go_wp2_with fail;exact bodyPost_ret (v:=.tuple #[vI 0,vI 0,vI er]) (by simp [results,results103,go_sem]) rfl ⟨rfl,C7.o.b⟩
end
section
open Go.RowKit Lx Px Qx
def ZqG (x:Except Int (List Int × Int))(w:World)(e:Ending)(w':World):Prop := Below w.heap.size w w'/\match x with
  | .ok (cs,kp)=>∃ A c,e=.returned (.tuple #[slice A cs.length c,vI kp,vI 0])/\Z03 w' w'.heap.size (slice A cs.length c) cs/\cs.length<=60/\∀ p,A=some p->w.heap.size<=p.block
  | .error er=>e=.returned (.tuple #[slice none 0 0,vI 0,vI er])
theorem Zi6 (l:List Rt)(v:Value)(a:Qx.Ask)(w:World)(hv:RtsV w w.heap.size v l):Calls prog 75 #[v,askV a] w (ZqG (Z0c l a) w):=by
 obtain ⟨A,c,rfl,_⟩:=id hv;have hx:=za w (.cells #[vI a.kind,vI a.fr,vI a.un,vI a.pers] 25);have hb:=(zr w.heap.size w).alloc (zn _) (.cells #[vI a.kind,vI a.fr,vI a.un,vI a.pers] 25);have hP:Z0c l a=if useB l&&a.okB then (match Z0a l a (a.un - a.fr).toNat a.fr with | .error e=>.error e | .ok (cs,kp)=>if 1000000000<cs.sum then .error 3 else .ok (cs,kp)) else .error 1:=rfl;obtain ⟨R,bG⟩:∃ R,Z0c l a=R:=⟨_,rfl⟩
 rw [bG] at hP |-
 obtain ⟨HV,H,C,U⟩:=zh4 hv hx hb hP;clear hv hx hb hP bG;dsimp only [askV];go_enter func75,ntmps75;go_wp2_with fail;generalize w.alloc (.cells #[vI a.kind,vI a.fr,vI a.un,vI a.pers] 25)=w1 at *
 refine (Z51 l (slice A l.length c) w1 ((HV.o.on C.o).up C.o.size)).mono ?_;rintro e m ⟨rfl,be⟩;have T:=(be.block _ (zF2.1 H.o).1).trans H.o;have bm:=Z00 C.o be;clear be H C;have a0:m.cell? ⟨w.heap.size,0,none⟩=some (vI a.kind):=by rw [zH T];rfl
 have a1:m.cell? ⟨w.heap.size,1,none⟩=some (vI a.fr):=by rw [zH T];rfl
 have a2:m.cell? ⟨w.heap.size,2,none⟩=some (vI a.un):=by rw [zH T];rfl
 have a3:m.cell? ⟨w.heap.size,3,none⟩=some (vI a.pers):=by rw [zH T];rfl
 have bg:=λW=>Z8n a W;simp only [askV] at bg;obtain ⟨bt,H,C⟩:=zh3 bg T bm;clear bg T bm;go_wp2_with fail;refine (bt.o m).mono ?_;rintro e w3 ⟨rfl,bb⟩;have bu:=(bb.block _ (zF2.1 H.o).1).trans H.o;have bs:=Z00 C.o bb;clear bb H C a0 a1 a2 a3 bt;have H:=zh bu;have C:=zh bs;clear bu bs;cases hu:useB l with
 | false =>
  have X:R=.error 1:=by rw [U.o,hu];rfl
  subst X;clear U hu;go_wp2_with fail;exact bodyPost_ret (v:=.tuple #[slice none 0 0,vI 0,vI 1]) (by simp [results,results75,go_sem]) rfl ⟨C.o,rfl⟩
 | true =>
  cases hok:a.okB with
  | false =>
   have X:R=.error 1:=by rw [U.o,hu,hok];rfl
   subst X;clear U hu hok;go_wp2_with fail;exact bodyPost_ret (v:=.tuple #[slice none 0 0,vI 0,vI 1]) (by simp [results,results75,go_sem]) rfl ⟨C.o,rfl⟩
  | true =>
   obtain ⟨z1,z2,z3,z4,_⟩:=Z1w hok;obtain ⟨cd,bL,bv⟩:=(Z1A l).1 hu;obtain ⟨K,hK⟩:∃ K,(a.un - a.fr).toNat=K:=⟨_,rfl⟩
   have X:R=(match Z0a l a K a.fr with | .error e=>.error e | .ok (cs,kp)=>if 1000000000<cs.sum then .error 3 else .ok (cs,kp)):=by rw [U.o,hu,hok,hK];rfl
   have b8:(K:Int)=a.un - a.fr:=by omega
   have a1:w3.cell? ⟨w.heap.size,1,none⟩=some (vI a.fr):=by rw [zH H.o];rfl
   obtain ⟨HR,HU,bV,bd,bO⟩:=zh5 X hu hok bL bv;clear X hu hok bL bv U hK;go_wp2_with fail;go_loopw [9,10,11,12] (λv sm kp nt wr=>PcL w l a K v kp sm nt wr) (λ_ _ _ nt _=>(a.un - intOf nt).toNat)
   case atStart=>exact ⟨0,[],0,Nat.zero_le _,by simp,rfl,rfl,rfl,World.ownsRow_nil _ _ _ _,C.o,H.o⟩
   case round =>
    clear a1;obtain ⟨k,cs,q,hk,rfl,rfl,rfl,B,D,G,L⟩:=hrel;have b0:wr.cell? ⟨w.heap.size,0,none⟩=some (vI a.kind):=by rw [zH L];rfl
    have b1:wr.cell? ⟨w.heap.size,1,none⟩=some (vI a.fr):=by rw [zH L];rfl
    have b2:wr.cell? ⟨w.heap.size,2,none⟩=some (vI a.un):=by rw [zH L];rfl
    have b3:wr.cell? ⟨w.heap.size,3,none⟩=some (vI a.pers):=by rw [zH L];rfl
    obtain ⟨O,q0,q1,q2⟩:=Zag bd.o B;have F:=Z64 l a k a.fr;rw [B] at F;dsimp only at F;have bZ:w.heap.size<wr.heap.size:=(zF2.1 L).1;by_cases hlt:k<K
    . have dl:decide (a.fr+(k:Int)<a.un)=true:=by simp;omega
      have M:=Zi5 l (slice A l.length c) a (a.fr+k) wr ((HV.o.on G).up G.size) HU.o bV.o (by omega) (by omega);simp only [askV] at M;have bQ:(∃ e,Z0i l a (a.fr+k)=.no e/\e≠0)\/(∃ c r,Z0i l a (a.fr+k)=.ok c r):=by
       cases I:Z0i l a (a.fr+k) with
       | no e=>exact .inl ⟨e,rfl,λh=>Z9j.night_err_ne (by rw [I,h])⟩
       | ok c r=>exact .inr ⟨c,r,rfl⟩
      rcases bQ with ⟨er,I,bx⟩ | ⟨N,r,I⟩
      . rw [I] at M;dsimp only [Zm4] at M;have b9:(er != 0)=true:=by simpa using bx
        have hE:Z0a l a K a.fr=.error er:=by
         have h1:Z0a l a (k+1) a.fr=.error er:=by rw [F,I]
         have h2:=Z9d l a a.fr (k+1) h1 (K - (k+1));rwa [show k+1+(K - (k+1))=K by omega] at h2
        have Y:R=.error er:=by rw [HR.o,hE]
        subst Y;obtain ⟨d,bc,V,J,bj,f⟩:=zh6 M B D G L O;clear M B D G L O bx hE I F HR;go_wp2_with fail;refine d.o.mono ?_;rintro e w4 ⟨rfl,S⟩;have Z:=zh (Z00 J.o S);clear S J d b0 b1 b2 b3;go_wp2_with fail;exact bodyPost_ret (v:=.tuple #[slice none 0 0,vI 0,vI er]) (by simp [results,results75,go_sem]) rfl ⟨Z.o,rfl⟩
      . rw [I] at M;dsimp only [Zm4] at M;obtain ⟨n0,n1,ba⟩:=Z6y I;obtain ⟨_,_,_,_,_,_,_,_,_,_,_,bH,br,bq,_,_,_⟩:=Z3e (Z12 (bd.o r ba));obtain ⟨ce,b5⟩:=Z66 n0 (Z12 (bd.o r ba));have bf:=λW=>Zhs N r.kn r.kq W n0 n1 bH br bq;have bF:Z8a N r=rndE (N*r.kn) r.kq:=rfl;rw [<- bF] at bf;clear bF;have bI:=λW (hb:Below w.heap.size w W)=>Zm3 l r (slice A l.length c) W ((HV.o.on hb).up hb.size) (by omega) bO.o ba;have bk:Z0a l a (k+1) a.fr=.ok (cs++[N],q+Z8a N r):=by rw [F,I]
        generalize Z8a N r=pt at *
        generalize r.id=ri at *
        generalize r.kn=b7 at *
        generalize r.kq=cb at *
        obtain ⟨d,bc,V,J,bj,f,bD,bp,bU⟩:=zh9 M B D G L O bI bf bk;clear M B D G L O bI bf bk bH br bq I F ba;go_wp2_with fail;refine d.o.mono ?_;rintro e w4 ⟨rfl,S⟩;have ca:=S.size;have Z:=zh (Z00 J.o S);have bM:=zh ((S.block _ bZ).trans bj.o);have bz:=zh (Z2u V.o S);clear S J d bj V b0 b1 b2 b3;go_wp2_with fail;refine (bD.o w4 Z.o).mono ?_;rintro e w5 ⟨rfl,y⟩;have cg:=y.size;have bK:=zh (Z00 Z.o y);have bE:=zh ((y.block _ (by omega)).trans bM.o);have bA:=zh (Z2u bz.o y);clear y Z bM bz bD;go_wp2_with fail;refine (bp.o w5).mono ?_;rintro e w6 ⟨rfl,j⟩;have bC:=Z00 bK.o j;have bB:=(j.block _ (by omega)).trans bE.o;have bh:=Z2u bA.o j;have cf:=j.size;obtain ⟨A6,c6,rfl,_⟩:=Z8j bh rfl;obtain ⟨bX,bY,bJ⟩:=zh3 bC bB bh;clear bC bB bh bK bE bA j bp;go_wp2_with (at_builtin;refine Z2t _ rfl _ _ rfl (w.heap.size+1) _ cs rfl (bJ.o.alloc _) w6.heap.size N rfl (by simp [go_sem]) (by have:=f.o;omega) (by simp;omega) ?_;intro v' w7 bT bN);have bn:∀ g,(Value.slice A6 cs.length c6).ownBlock=some g->w.heap.size+1<=g:=λg e=>(bJ.o.lt g e).1;have b4:Below w.heap.size w w7:=(bX.o.alloc (by omega) (.cells #[vI N] 3)).grown bN (by simp;omega) (λg e=>by have:=bn g e;omega);have bS:=(bN.block w.heap.size (by simp;omega) (λe=>by have:=bn _ e.symm;omega)).trans (Z0w bY.o _);go_roundw
        case rel=>exact ⟨k+1,cs++[N],q+pt,by omega,by go_num,rfl,by simp,bU.o,bT,b4,bS⟩
        case measure=>simp [intOf];omega
    . have bW:k=K:=by omega
      subst bW;have dl:decide (a.fr+(k:Int)<a.un)=false:=by simp;omega
      obtain ⟨A6,c6,rfl,b6⟩:=Z8j D rfl;have hI:=Z03.own D rfl;by_cases hs:1000000000<cs.sum
      . have ds:decide (cs.sum > 1000000000)=true:=by simpa using hs
        have bP:decide (1000000000<cs.sum)=true:=by simpa using hs
        have Y:R=.error 3:=by rw [HR.o,B];exact zp hs
        subst Y;obtain ⟨J,V,bc,bR,HI,HS,f⟩:=zh7 G D B F hI hs O;clear G D B F hI hs O;go_wp2_with fail;exact bodyPost_ret (v:=.tuple #[slice none 0 0,vI 0,vI 3]) (by simp [results,results75,go_sem]) rfl ⟨J.o,rfl⟩
      . have ds:decide (cs.sum > 1000000000)=false:=by simpa using hs
        have bP:decide (1000000000<cs.sum)=false:=by simpa using hs
        have Y:R=.ok (cs,q):=by rw [HR.o,B];exact zf hs
        subst Y;obtain ⟨J,V,bc,bR,HI,HS,f⟩:=zh7 G D B F hI hs O;clear G D B F hI hs O;go_wp2_with fail;refine bodyPost_ret (v:=.tuple #[slice A6 cs.length c6,vI q,vI 0]) (by simp [results,results75,go_sem]) rfl ⟨J.o,A6,c6,rfl,?_,by have:=f.o;omega,λp e=>by have:=(V.o.lt p.block (by rw [e];rfl)).1;omega⟩;exact HI.o
theorem ZpC (l:List Int)(v:Value)(w:World)(O:Z03 w w.heap.size v l)(Z:l.length<=1000)(C:∀ x∈l,0<=x/\x<=1000000000) : Calls prog 76 #[v] w λe w'=>e=.returned (vI l.sum)/\w=w':=by
 obtain ⟨A,c,rfl,F⟩:=O;have B:∀ m:List Int,(∀ x∈m,0<=x/\x<=1000000000)->0<=m.sum/\m.sum<=m.length*1000000000:=by
  intro m;induction m with
  | nil=>intro _;simp
  | cons x m ih =>intro h;obtain ⟨Y,S⟩:=h x (by simp);obtain ⟨q,h4⟩:=ih (λy hy=>h y (by simp [hy]));simp only [List.sum_cons,zw];omega
 have R:=zh F;have N:=zh C;have I:=zh (λk=>B (l.take k) (λx hx=>C x (List.mem_of_mem_take hx)));have U:=zh B;clear F C B;go_enter func76,ntmps76;go_wp2_with fail;go_loop [3,4] (λs i=>∃ k:Nat,k<=l.length/\i=vI k/\s=vI (l.take k).sum) (λ_ i=>l.length - (intOf i).toNat)
 case atStart=>exact ⟨0,Nat.zero_le _,rfl,by simp⟩
 case round =>
  obtain ⟨k,hk,rfl,rfl⟩:=hrel;obtain ⟨d,J⟩:=I.o k;rw [List.length_take] at J;by_cases hlt:k<l.length
  . obtain ⟨g,o,rfl,hg,G⟩:=R.o (by intro e;rw [e] at hlt;simp at hlt);have r:w.cell? ⟨g,o+k,none⟩=some (vI l[k]):=G k hlt;have D:=Zg8 l k hlt;obtain ⟨V,T⟩:=N.o l[k] (List.getElem_mem hlt);have M:decide ((k:Int)<l.length)=true:=by simpa using hlt
    have f:(0:Int)<=k:=by omega
    have X:(k:Int)<l.length:=by omega
    clear G;generalize l[k]=z at *
    have j:IntKind.i64.wrap ((l.take k).sum+z)=(l.take k).sum+z:=zi _ (by omega);have L:=zh D;clear D;go_wp2_with fail;go_round
    case rel=>exact ⟨k+1,by omega,by go_num,by rw [L.o]⟩
    case measure=>simp [intOf];omega
  . have H:k=l.length:=by omega
    subst H;have M:decide ((l.length:Int)<l.length)=false:=by simp
    rw [List.take_length];go_wp2_with fail;go_ret;exact ⟨rfl,rfl⟩
end
section
open Go.RowKit Lx Px Qx
attribute [local irreducible] Qx.Vr.dig
structure PnB (w:World) (v:Vr) (rv:Value) (a:Qx.Ask) (W:World):Prop where
 x:VxB w.heap.size v rv W
 a:AkB (w.heap.size+1) a W
 b:Below w.heap.size w W
theorem PnB.on {w W B:World}{v:Vr}{rv:Value}{a:Qx.Ask}(h:PnB w v rv a W)(hb:Below W.heap.size W B):PnB w v rv a B:=⟨h.x.on hb,h.a.on hb,Z00 h.b hb⟩
theorem PnB.drew {w W:World}{v:Vr}{rv:Value}{a:Qx.Ask}(h:PnB w v rv a W):PnB w v rv a W.drew:=h.on (zr _ _).drew
theorem PnB.set {w W:World}{v:Vr}{rv:Value}{a:Qx.Ask}(h:PnB w v rv a W){b:Nat}(hb:w.heap.size+2<=b)(o:Nat)(u:Value):PnB w v rv a (W.setCell ⟨b,o,none⟩ u) := ⟨h.x.far ((zr (w.heap.size+2) W).setCell (p:=⟨b,o,none⟩) hb _) (by omega),⟨(zg _ _ _ _ (by show _≠b;omega)).trans h.a.h⟩,h.b.setCell (p:=⟨b,o,none⟩) (by show _<=b;omega) _⟩
theorem Zsc (w:World)(v:Vr)(A:Option Addr)(c:Nat)(a:Qx.Ask)(C:RtsV w w.heap.size (slice A v.rs.length c) v.rs) : PnB w v (slice A v.rs.length c) a (((w.alloc (.cells #[vI v.num,vI v.time,slice A v.rs.length c] 36)).alloc (.cells #[vI a.kind,vI a.fr,vI a.un,vI a.pers] 25)).alloc (.cells #[vI 0,vI 0,vI 0,vI 0,vI 0,vI 0,vI 0,vI 0,slice none 0 0,.int .u64 0,vI 0,vI 0] 31))/\(((w.alloc (.cells #[vI v.num,vI v.time,slice A v.rs.length c] 36)).alloc (.cells #[vI a.kind,vI a.fr,vI a.un,vI a.pers] 25)).alloc (.cells #[vI 0,vI 0,vI 0,vI 0,vI 0,vI 0,vI 0,vI 0,slice none 0 0,.int .u64 0,vI 0,vI 0] 31)).heap[w.heap.size+2]?=some (.cells #[vI 0,vI 0,vI 0,vI 0,vI 0,vI 0,vI 0,vI 0,slice none 0 0,.int .u64 0,vI 0,vI 0] 31 (0,0)):=by
 have D:VxB w.heap.size v (slice A v.rs.length c) (w.alloc (.cells #[vI v.num,vI v.time,slice A v.rs.length c] 36)):=VxB.new C;have F:=(zr w.heap.size w).alloc (zn _) (.cells #[vI v.num,vI v.time,slice A v.rs.length c] 36);have B:AkB (w.heap.size+1) a ((w.alloc (.cells #[vI v.num,vI v.time,slice A v.rs.length c] 36)).alloc (.cells #[vI a.kind,vI a.fr,vI a.un,vI a.pers] 25)):=by have:=za (w.alloc (.cells #[vI v.num,vI v.time,slice A v.rs.length c] 36)) (.cells #[vI a.kind,vI a.fr,vI a.un,vI a.pers] 25);exact ⟨by simpa using this⟩
 have c1:=(zr (w.alloc (.cells #[vI v.num,vI v.time,slice A v.rs.length c] 36)).heap.size (w.alloc (.cells #[vI v.num,vI v.time,slice A v.rs.length c] 36))).alloc (zn _) (.cells #[vI a.kind,vI a.fr,vI a.un,vI a.pers] 25);have c2:=(zr ((w.alloc (.cells #[vI v.num,vI v.time,slice A v.rs.length c] 36)).alloc (.cells #[vI a.kind,vI a.fr,vI a.un,vI a.pers] 25)).heap.size ((w.alloc (.cells #[vI v.num,vI v.time,slice A v.rs.length c] 36)).alloc (.cells #[vI a.kind,vI a.fr,vI a.un,vI a.pers] 25))).alloc (zn _) (.cells #[vI 0,vI 0,vI 0,vI 0,vI 0,vI 0,vI 0,vI 0,slice none 0 0,.int .u64 0,vI 0,vI 0] 31);refine ⟨⟨(D.on c1).on c2,B.on c2,Z00 (Z00 F c1) c2⟩,?_⟩;have:=za ((w.alloc (.cells #[vI v.num,vI v.time,slice A v.rs.length c] 36)).alloc (.cells #[vI a.kind,vI a.fr,vI a.un,vI a.pers] 25)) (.cells #[vI 0,vI 0,vI 0,vI 0,vI 0,vI 0,vI 0,vI 0,slice none 0 0,.int .u64 0,vI 0,vI 0] 31);simpa using this
theorem Zm7 {W F:World}{B n c:Nat}{A:Option Addr}{l:List Int}(h:Z03 W B (slice A n c) l)(H:∀ p,A=some p->F.heap[p.block]?=W.heap[p.block]?):Z03 F B (slice A n c) l:=by
 obtain ⟨L,c',e,J⟩:=h;injection e with C e2 e3
 subst C e3;refine ⟨A,c,by rw [e2],λhl=>?_⟩;obtain ⟨b,o,C,hb,I⟩:=J hl;refine ⟨b,o,C,hb,λi hi'=>?_⟩;have G:=H _ C;have D:=I i hi';unfold World.cell? at D |-
 dsimp only at G D |-
 rw [G];exact D
def PlnR (x:Except Int Qt)(w:World)(e:Ending)(w':World):Prop := Below w.heap.size w w'/\match x with
  | .ok q=>∃ A c,e=.returned (.tuple #[.agg (qtC q (slice A q.nights.length c)),vI 0])/\Z03 w' w'.heap.size (slice A q.nights.length c) q.nights/\∀ p,A=some p->w.heap.size<=p.block
  | .error er=>e=.returned (.tuple #[.agg (qtC Qt.zero (slice none 0 0)),vI er])
theorem Zi7 (v:Vr)(a:Qx.Ask)(t:Int)(V:Value)(w:World)(hV:VrV w w.heap.size V v)(bD:v.okB=true) : Calls prog 51 #[V,askV a,vI t] w (PlnR (Z1j v a t) w):=by
 obtain ⟨A,c,rfl,T⟩:=hV;obtain ⟨f,g⟩:=Zsc w v A c a T;have J:=λW (h:PnB w v (slice A v.rs.length c) a W)=>Zi6 v.rs (slice A v.rs.length c) a W (h.x.r.up (zl h.x.lt));have be:=λW (h:PnB w v (slice A v.rs.length c) a W)=>Zpw v _ W h.x.v bD;have j:=λe (h:Z0c v.rs a=.error e)=>Zbc (t:=t) h;have l:=λns I (h:Z0c v.rs a=.ok (ns,I))=>Z8k (t:=t) h;have ba:=λe (h:Z0c v.rs a=.error e)=>(Z4H h).1;have q:=λns I (h:Z0c v.rs a=.ok (ns,I))=>Z6w h;obtain ⟨PQ,hPQ⟩:∃ PQ,Z1j v a t=PQ:=⟨_,rfl⟩
 rw [hPQ] at j l |-
 rcases hX:Z0c v.rs a with er | ⟨ns,I⟩
 all_goals
  simp only [askV] at J |-
  rw [hX] at J;unfold ZqG at J;dsimp only at J
 . have hq:=j er hX;have he:=ba er hX;subst hq;have de:(er != 0)=true:=by simpa using he
   obtain ⟨H,N,R,HR⟩:=zh4 f g J T;clear f g J T j l ba q hPQ hX he be;unfold vrV;go_enter func51,ntmps51;go_upto_region 1 with fail;generalize ((w.alloc (.cells #[vI v.num,vI v.time,slice A v.rs.length c] 36)).alloc (.cells #[vI a.kind,vI a.fr,vI a.un,vI a.pers] 25)).alloc (.cells #[vI 0,vI 0,vI 0,vI 0,vI 0,vI 0,vI 0,vI 0,slice none 0 0,.int .u64 0,vI 0,vI 0] 31)=w1 at *
   obtain ⟨Y,Z,S⟩:=H.o.x.cells;obtain ⟨U,X,d,O⟩:=H.o.a.c;go_wp2_with fail;refine (R.o w1 H.o).mono ?_;rintro e D ⟨M,rfl⟩;have B:=(M.block _ (zF2.1 N.o).1).trans N.o;have bh:=zh (H.o.on M);clear M H R Y Z S U X d O;have z0:D.cell? ⟨w.heap.size+2,0,none⟩=some (vI 0):=by rw [zH B];rfl
   have f0:=zO B 0;have z1:D.cell? ⟨w.heap.size+2,1,none⟩=some (vI 0):=by rw [zH B];rfl
   have f1:=zO B 1;have z2:D.cell? ⟨w.heap.size+2,2,none⟩=some (vI 0):=by rw [zH B];rfl
   have f2:=zO B 2;have z3:D.cell? ⟨w.heap.size+2,3,none⟩=some (vI 0):=by rw [zH B];rfl
   have f3:=zO B 3;have z4:D.cell? ⟨w.heap.size+2,4,none⟩=some (vI 0):=by rw [zH B];rfl
   have f4:=zO B 4;have z5:D.cell? ⟨w.heap.size+2,5,none⟩=some (vI 0):=by rw [zH B];rfl
   have f5:=zO B 5;have y:D.cell? ⟨w.heap.size+2,6,none⟩=some (vI 0):=by rw [zH B];rfl
   have f6:=zO B 6;have z7:D.cell? ⟨w.heap.size+2,7,none⟩=some (vI 0):=by rw [zH B];rfl
   have f7:=zO B 7;have z8:D.cell? ⟨w.heap.size+2,8,none⟩=some (slice none 0 0):=by rw [zH B];rfl
   have f8:=zO B 8;have z9:D.cell? ⟨w.heap.size+2,9,none⟩=some (.int .u64 0):=by rw [zH B];rfl
   have f9:=zO B 9;have bg:D.cell? ⟨w.heap.size+2,10,none⟩=some (vI 0):=by rw [zH B];rfl
   have bC:=zO B 10;have bb:D.cell? ⟨w.heap.size+2,11,none⟩=some (vI 0):=by rw [zH B];rfl
   have bI:=zO B 11;clear B;go_wp2_with fail;refine bodyPost_ret (v:=.tuple #[.agg (qtC Qt.zero (slice none 0 0)),vI er]) (by simp [results,results51,go_sem,qtC,Qt.zero,z0,z1,z2,z3,z4,z5,y,z7,z8,z9,bg,bb]) rfl ⟨?_,rfl⟩;refine PnB.b (v:=v) (rv:=slice A v.rs.length c) (a:=a) ?_
   repeat (refine PnB.set ?_ (zn _) _ _)
   exact bh.o
 . have hq:=l ns I hX;subst hq;have bx:=q ns I hX;have bk:=λV W h hl=>ZpC ns V W h hl bx;generalize v.dig=m at *
   obtain ⟨H,N,R,HR,bG,bn⟩:=zh6 f g J T be bk;clear f g J T be bk j l ba q hPQ hX bx;unfold vrV;go_enter func51,ntmps51;go_upto_region 1 with fail;generalize ((w.alloc (.cells #[vI v.num,vI v.time,slice A v.rs.length c] 36)).alloc (.cells #[vI a.kind,vI a.fr,vI a.un,vI a.pers] 25)).alloc (.cells #[vI 0,vI 0,vI 0,vI 0,vI 0,vI 0,vI 0,vI 0,slice none 0 0,.int .u64 0,vI 0,vI 0] 31)=w1 at *
   obtain ⟨Y,Z,S⟩:=H.o.x.cells;obtain ⟨U,X,d,O⟩:=H.o.a.c;go_wp2_with fail;refine (R.o w1 H.o).mono ?_;rintro e D ⟨M,L,c2,rfl,hI,bL,bj⟩;have bt:=H.o.on M;have bq:=(zF2.1 N.o).1;have bu:∀ p,L=some p->p.block≠w.heap.size+2:=λp e=>by have:=bj p e;omega
   have bp:∀ p,L=some p->w.heap.size<=p.block:=λp e=>by have:=bj p e;have:=H.o.b.size;omega
   have B:=(M.block _ bq).trans N.o;have bs:w.heap.size+2<D.heap.size:=(zF2.1 B).1;have bv:=λW (hb:Below D.heap.size D W)=>(hI.on hb).up hb.size;have br:=(zr D.heap.size D).drew;have bm:∀ W:World,W.heap[w.heap.size+2]?=some (.cells #[vI 0,vI 0,vI 0,vI 0,vI 0,vI 0,vI 0,vI 0,slice none 0 0,.int .u64 0,vI 0,vI 0] 31 (0,0)) -> (storeVar 31 ⟨w.heap.size+2,0,none⟩ (.agg #[vI v.num,vI t,vI ns.sum,vI I,vI a.kind,vI a.fr,vI a.un,vI a.pers,slice L ns.length c2,.int .u64 (m:Nat),vI 0,vI 0])).run prog W=.ok () (W.setRow (w.heap.size+2) #[vI v.num,vI t,vI ns.sum,vI I,vI a.kind,vI a.fr,vI a.un,vI a.pers,slice L ns.length c2,.int .u64 (m:Nat),vI 0,vI 0]):=λW h =>run_storeVar_row W _ 31 _ _ _ h (by rw [Tryz.infoQtSz];rfl) rfl (Z0A ⟨v.num,t,ns.sum,I,a,ns,m,0,0⟩ L ns.length c2);have bf:Hid (∀ wx,PnB w v (slice A v.rs.length c) a wx->wx.cell? ⟨w.heap.size,0,none⟩=some (vI v.num)/\wx.cell? ⟨w.heap.size,1,none⟩=some (vI v.time)/\wx.cell? ⟨w.heap.size,2,none⟩=some (slice A v.rs.length c)/\wx.cell? ⟨w.heap.size+1,0,none⟩=some (vI a.kind)/\wx.cell? ⟨w.heap.size+1,1,none⟩=some (vI a.fr)/\wx.cell? ⟨w.heap.size+1,2,none⟩=some (vI a.un)/\wx.cell? ⟨w.heap.size+1,3,none⟩=some (vI a.pers)/\PnB w v (slice A v.rs.length c) a wx):=λwx h=>by obtain ⟨Y,Z,S⟩:=h.x.cells;obtain ⟨U,X,d,O⟩:=h.a.c;exact ⟨Y,Z,S,U,X,d,O,h⟩
   obtain ⟨bh,bF,bd,bz,bE,bJ,bB,bH⟩:=zh8 bt B bv br bs bm bu bp;clear bt B bv br bs bm bu bp M H R N hI bq Y Z S U X d O;go_upto_region 4 with fail;go_region_held3 (λw'=>w'.cell? ⟨w.heap.size,0,none⟩=some (vI v.num)/\w'.cell? ⟨w.heap.size,1,none⟩=some (vI v.time)/\w'.cell? ⟨w.heap.size,2,none⟩=some (slice A v.rs.length c)/\w'.cell? ⟨w.heap.size+1,0,none⟩=some (vI a.kind)/\w'.cell? ⟨w.heap.size+1,1,none⟩=some (vI a.fr)/\w'.cell? ⟨w.heap.size+1,2,none⟩=some (vI a.un)/\w'.cell? ⟨w.heap.size+1,3,none⟩=some (vI a.pers)/\PnB w v (slice A v.rs.length c) a w') (first | (with_reducible exact bf.o _ bh.o.drew) | (with_reducible exact bf.o _ L8) | (exact bf.o _ ((((((((((((L8.set (b:=w.heap.size+2) (zn _) 0 _).set (b:=w.heap.size+2) (zn _) 1 _).set (b:=w.heap.size+2) (zn _) 2 _).set (b:=w.heap.size+2) (zn _) 3 _).set (b:=w.heap.size+2) (zn _) 4 _).set (b:=w.heap.size+2) (zn _) 5 _).set (b:=w.heap.size+2) (zn _) 6 _).set (b:=w.heap.size+2) (zn _) 7 _).set (b:=w.heap.size+2) (zn _) 8 _).set (b:=w.heap.size+2) (zn _) 9 _).set (b:=w.heap.size+2) (zn _) 10 _).set (b:=w.heap.size+2) (zn _) 11 _)) | fail) (first
     | (go_at_call 76;first | (refine (bn.o _ _ (bd.o _ Q8) (by omega)).mono ?_;rintro ex w6 ⟨rfl,rfl⟩) | (refine (bn.o _ _ (bd.o _ bz.o) (by omega)).mono ?_;rintro ex w6 ⟨rfl,rfl⟩))
     | (go_at_call 77;have hA:=‹_/\_/\_/\_/\_/\_/\_/\PnB w v _ a _›.2.2.2.2.2.2.2;refine (bG.o _ hA).mono ?_;rintro ex F ⟨rfl,bc⟩;have L8:=hA.on bc;have Q8:=Z00 bz.o bc;have C:=(Q8.block _ bE.o).trans bF.o;have z0:F.cell? ⟨w.heap.size+2,0,none⟩=some (vI 0):=(zH C 0).trans rfl;have z1:F.cell? ⟨w.heap.size+2,1,none⟩=some (vI 0):=(zH C 1).trans rfl;have z2:F.cell? ⟨w.heap.size+2,2,none⟩=some (vI 0):=(zH C 2).trans rfl;have z3:F.cell? ⟨w.heap.size+2,3,none⟩=some (vI 0):=(zH C 3).trans rfl;have z4:F.cell? ⟨w.heap.size+2,4,none⟩=some (vI 0):=(zH C 4).trans rfl;have z5:F.cell? ⟨w.heap.size+2,5,none⟩=some (vI 0):=(zH C 5).trans rfl;have y:F.cell? ⟨w.heap.size+2,6,none⟩=some (vI 0):=(zH C 6).trans rfl;have z7:F.cell? ⟨w.heap.size+2,7,none⟩=some (vI 0):=(zH C 7).trans rfl;have z8:F.cell? ⟨w.heap.size+2,8,none⟩=some (slice none 0 0):=(zH C 8).trans rfl;have z9:F.cell? ⟨w.heap.size+2,9,none⟩=some (.int .u64 0):=(zH C 9).trans rfl;have bg:F.cell? ⟨w.heap.size+2,10,none⟩=some (vI 0):=(zH C 10).trans rfl;have bb:F.cell? ⟨w.heap.size+2,11,none⟩=some (vI 0):=(zH C 11).trans rfl;have f0:=zO C 0;have f1:=zO C 1;have f2:=zO C 2;have f3:=zO C 3;have f4:=zO C 4;have f5:=zO C 5;have f6:=zO C 6;have f7:=zO C 7;have f8:=zO C 8;have f9:=zO C 9;have bC:=zO C 10;have bI:=zO C 11;have bK:=(zF2.1 C).1;clear bc hA C))
   all_goals
    have bA:=zh (bd.o _ Q8);go_wp2_with fail;refine bodyPost_ret (v:=.tuple #[.agg (qtC ⟨v.num,t,ns.sum,I,a,ns,m,0,0⟩ (slice L ns.length c2)),vI 0]) (by simp [results,results51,go_sem,qtC,z0,z1,z2,z3,z4,z5,y,z7,z8,z9,bg,bb]) rfl ⟨?_,L,c2,rfl,?_,bH.o⟩
    . refine PnB.b (v:=v) (rv:=slice A v.rs.length c) (a:=a) ?_
      repeat (refine PnB.set ?_ (zn _) _ _)
      exact L8
    . refine (Zm7 bA.o (λp e=>?_)).up (by simp only [World.setCell,Array.size_modify];exact zn _);have G:=bB.o p e;exact (zg _ _ _ _ G).trans ((zg _ _ _ _ G).trans ((zg _ _ _ _ G).trans ((zg _ _ _ _ G).trans ((zg _ _ _ _ G).trans ((zg _ _ _ _ G).trans ((zg _ _ _ _ G).trans ((zg _ _ _ _ G).trans ((zg _ _ _ _ G).trans ((zg _ _ _ _ G).trans ((zg _ _ _ _ G).trans ((zg _ _ _ _ G).trans (rfl))))))))))))
end
section
open Go.RowKit Lx Px Qx
theorem Zm8 (q:Qt)(V:Value)(w:World)(hV:QtV w w.heap.size V q)(hd:q.dig<18446744073709551616)(hn:q.nights.length<=50000) : Calls prog 54 #[V] w λe w'=>∃ r,e=.returned r/\Z03 w' w'.heap.size r q.says/\Below w.heap.size w w':=by
 obtain ⟨O,R,rfl,j⟩:=hV;have bp:q.says=([q.ver,q.time,q.total,q.keep,q.ask.kind,q.ask.fr,q.ask.un,q.ask.pers,(q.nights.length:Int)]++q.nights)++[((q.dig / 4294967296:Nat):Int),((q.dig % 4294967296:Nat):Int)]:=rfl;rw [bp];clear bp;obtain ⟨pv,J,N,L,⟨I,H,M,G⟩,B,C,m,l⟩:=q;simp only [qtV] at j hd hn |-
 have f:=(zr w.heap.size w).alloc (zn _) (.cells #[vI pv,vI J,vI N,vI L,vI I,vI H,vI M,vI G,slice O B.length R,.int .u64 (C:Nat),vI m,vI l] 31);have bb:=za w (.cells #[vI pv,vI J,vI N,vI L,vI I,vI H,vI M,vI G,slice O B.length R,.int .u64 (C:Nat),vI m,vI l] 31);have bh:=j.on f;have bJ:(C:Int).tdiv 4294967296=((C / 4294967296:Nat):Int):=by rw [Int.tdiv_eq_ediv_of_nonneg (by omega)];omega
 have bG:(C:Int).tmod 4294967296=((C % 4294967296:Nat):Int):=by rw [Int.tmod_eq_emod_of_nonneg (by omega)];omega
 have bE:IntKind.i64.wrap ((C / 4294967296:Nat):Int)=((C / 4294967296:Nat):Int):=zi _ (by omega);have bC:IntKind.i64.wrap ((C % 4294967296:Nat):Int)=((C % 4294967296:Nat):Int):=zi _ (by omega);have bI:IntKind.u64.wrap ((C / 4294967296:Nat):Int)=((C / 4294967296:Nat):Int):=by rw [IntKind.wrap_u64];omega
 have bK:(0:Int)<=((C / 4294967296:Nat):Int):=by omega
 have bF:((C / 4294967296:Nat):Int)<=4294967295:=by omega
 generalize C / 4294967296=X at *
 generalize C % 4294967296=lo at *
 obtain ⟨F,bg,bc⟩:=zh3 bb bh f;clear bb bh f j;go_enter func54,ntmps54;go_upto_region 1 with fail;generalize w.alloc (.cells #[vI pv,vI J,vI N,vI L,vI I,vI H,vI M,vI G,slice O B.length R,.int .u64 (C:Nat),vI m,vI l] 31)=D at *
 have A:w.heap.size<D.heap.size:=(zF2.1 F.o).1;have c0:D.cell? ⟨w.heap.size,0,none⟩=some (vI pv):=by rw [zH F.o];rfl
 have c1:D.cell? ⟨w.heap.size,1,none⟩=some (vI J):=by rw [zH F.o];rfl
 have c2:D.cell? ⟨w.heap.size,2,none⟩=some (vI N):=by rw [zH F.o];rfl
 have c3:D.cell? ⟨w.heap.size,3,none⟩=some (vI L):=by rw [zH F.o];rfl
 have c4:D.cell? ⟨w.heap.size,4,none⟩=some (vI I):=by rw [zH F.o];rfl
 have c5:D.cell? ⟨w.heap.size,5,none⟩=some (vI H):=by rw [zH F.o];rfl
 have c6:D.cell? ⟨w.heap.size,6,none⟩=some (vI M):=by rw [zH F.o];rfl
 have c7:D.cell? ⟨w.heap.size,7,none⟩=some (vI G):=by rw [zH F.o];rfl
 have c8:D.cell? ⟨w.heap.size,8,none⟩=some (slice O B.length R):=by rw [zH F.o];rfl
 go_upto_region 2 with fail;have ba:(D.alloc (.cells #[vI pv,vI J,vI N,vI L,vI I,vI H,vI M,vI G,vI (B.length:Nat)] 3)).ownsRow (w.heap.size+1) 3 1 (slice (some ⟨D.heap.size,0,none⟩) 9 9) 9 (([pv,J,N,L,I,H,M,G,((B.length:Nat):Int)]:List Int).map (.int .i64)) := World.ownsRow_lit D #[vI pv,vI J,vI N,vI L,vI I,vI H,vI M,vI G,vI (B.length:Nat)] 9 (by omega) (by unfold maxLen;omega) rfl
 have T:=(zr D.heap.size D).alloc (zn _) (.cells #[vI pv,vI J,vI N,vI L,vI I,vI H,vI M,vI G,vI (B.length:Nat)] 3);have hI2:=bg.o.on (T.mono (zl A));have d:=(T.block _ A).trans F.o;have br:=bc.o.trans (T.mono (zl A));have bB:=T.size;generalize D.alloc (.cells #[vI pv,vI J,vI N,vI L,vI I,vI H,vI M,vI G,vI (B.length:Nat)] 3)=w2 at *
 generalize y:([pv,J,N,L,I,H,M,G,((B.length:Nat):Int)]:List Int)=U at *
 have hl9n:U.length=9:=by rw [<- y];rfl
 have c8:w2.cell? ⟨w.heap.size,8,none⟩=some (slice O B.length R):=by rw [zH d];rfl
 have bn:pv::J::N::L::I::H::M::G::(B.length:Int)::(B++[(X:Int),(lo:Int)])=(U++B)++[(X:Int),(lo:Int)]:=by rw [<- y];simp
 obtain ⟨be,bq,bj,bk,bt⟩:=zh5 ba hI2 d br bn;clear ba hI2 d br bn F bg bc T c0 c1 c2 c3 c4 c5 c6 c7 y;go_upto_region 3 with (at_builtin;refine Z27 rfl _ _ rfl (w.heap.size+1) w.heap.size (slice (some ⟨D.heap.size,0,none⟩) 9 9) U rfl (by rw [hl9n];exact be.o) O B.length R B rfl bq.o (by omega) (by omega) ?_;intro v3 S Y Z);have bd:=(Z.block w.heap.size (by omega) (by intro e;have e:=Option.some.inj e;dsimp only at e;omega)).trans bj.o
 have bm:Below w.heap.size w S:=bk.o.grown Z (by omega) (λg e=>by have e:=Option.some.inj e;dsimp only at e;omega);have c9:S.cell? ⟨w.heap.size,9,none⟩=some (.int .u64 (C:Nat)):=by rw [zH bd];rfl
 obtain ⟨A3,c3,rfl,bL⟩:=Z45 Y rfl;have bf:=Y.lt;have bH:w.heap.size+1<=S.heap.size:=by have:=Z.size;omega
 have bD:(U++B).length<=60000:=by rw [zj,hl9n];omega
 obtain ⟨bu,bz,bs⟩:=zh3 Y bm bf;clear Y bm bf be bq bj bk c8 Z bd;go_wp2_with (at_builtin;go_loud (refine Z27 rfl _ _ rfl (w.heap.size+1) (S.heap.size+1) _ (U++B) rfl (bu.o.alloc _) _ 2 2 [(X:Int),(lo:Int)] rfl (Z46 (W:=S) X lo) (by simp only [zj,zw,zx];omega) (by simp;omega) ?_;intro v4 w4 bx bA));have bv:Below w.heap.size w w4:=(bz.o.alloc (by omega) (.cells #[vI X,vI lo] 3)).grown bA (by simp;omega) (λg e=>by have:=(bs.o g e).1;omega);go_ret;refine ⟨_,rfl,?_,bv⟩;rw [bt.o];exact Z03.own bx rfl
end
section
open Go.RowKit Lx Px Qx
attribute [local irreducible] Qx.Vr.dig Qx.sigE Qx.sigS Qx.powP
theorem ZcF {p q:Qt}(h:p.same q=true):p.says=q.says:=by
 obtain ⟨I,B,H,F,D,C,G⟩:=(Qt.same_iff p q).1 h;unfold Qt.says;rw [I,B,H,F,D,C,G]
theorem Zen {v:Vr}{a:Qx.Ask}{t:Int}{q:Qt}(H:v.okB=true)(D:a.okB=true)(G:Z18 t=true)(F:v.time<=t)(h:Z1j v a t=.ok q):(∀ x∈q.says,0<=x/\x<=4294967295)/\q.nights.length<=60:=by
 have C:=Zs7 (s:=1) (o:=1) H D G (by decide) (by decide) F;rw [h] at C;have B:=ZhE C;exact ⟨B.1,B.2.2.1⟩
theorem Zep {v:Vr}{q x:Qt}{p:Int}(G:v.okB=true)(B:memB p=true)(F:q.ask.okB=true)(D:Z18 q.time=true)(C:v.time<=q.time)(h:Z1j v q.ask q.time=.ok x):Z0C v q p=(q.same x&&verB p.toNat q.sE q.sS q.says,0):=by
 unfold Z0C;rw [zp (by rw [G,B];rfl),h,zp (by rw [F,D];simpa using C)]
theorem Zeq {v:Vr}{q:Qt}{p e:Int}(B:v.okB=true)(C:memB p=true)(h:Z1j v q.ask q.time=.error e):Z0C v q p=(false,0):=by
 unfold Z0C;rw [zp (by rw [B,C];rfl),h];split <;> rfl
theorem ZpD {v:Vr}{a:Qx.Ask}{t e:Int}(h:Z1j v a t=.error e):e≠0:=by
 unfold Z1j at h;rcases hY:Z0c v.rs a with e' | x
 . rw [hY] at h;dsimp only at h;injection h with h
   subst h;exact (Z4H hY).1
 . rw [hY] at h;cases h
theorem CkB.all {w W:World}{v:Vr}{rv B:Value}{q:Qt}(h:CkB w v rv q B W):W.cell? ⟨w.heap.size+1,0,none⟩=some (vI q.ver)/\W.cell? ⟨w.heap.size+1,1,none⟩=some (vI q.time)/\W.cell? ⟨w.heap.size+1,2,none⟩=some (vI q.total)/\W.cell? ⟨w.heap.size+1,3,none⟩=some (vI q.keep)/\W.cell? ⟨w.heap.size+1,4,none⟩=some (vI q.ask.kind)/\W.cell? ⟨w.heap.size+1,5,none⟩=some (vI q.ask.fr)/\W.cell? ⟨w.heap.size+1,6,none⟩=some (vI q.ask.un)/\W.cell? ⟨w.heap.size+1,7,none⟩=some (vI q.ask.pers)/\W.cell? ⟨w.heap.size+1,8,none⟩=some (B)/\W.cell? ⟨w.heap.size+1,9,none⟩=some (.int .u64 (q.dig:Nat))/\W.cell? ⟨w.heap.size+1,10,none⟩=some (vI q.sE)/\W.cell? ⟨w.heap.size+1,11,none⟩=some (vI q.sS) := ⟨h.c 0 _ rfl,h.c 1 _ rfl,h.c 2 _ rfl,h.c 3 _ rfl,h.c 4 _ rfl,h.c 5 _ rfl,h.c 6 _ rfl,h.c 7 _ rfl,h.c 8 _ rfl,h.c 9 _ rfl,h.c 10 _ rfl,h.c 11 _ rfl⟩
theorem ZcG (v:Vr)(q:Qt)(p:Int)(V U:Value)(w:World)(hV:VrV w w.heap.size V v)(hU:QtV w w.heap.size U q)(b0:q.dig<18446744073709551616)(b4:q.nights.length<=50000) : Calls prog 33 #[V,U,vI p] w λe w'=>e=.returned (.tuple #[.bool (Z0C v q p).1,vI (Z0C v q p).2])/\Below w.heap.size w w':=by
 obtain ⟨A,c,rfl,hR⟩:=hV;obtain ⟨QA,qc,rfl,f⟩:=Z4c hU;have g:=CkB.new w v (slice A v.rs.length c) (slice QA q.nights.length qc) q f;have bx:=λW (hb:Below w.heap.size w W)=>(hR.on hb).up hb.size;have bF:=λW (hb:Below w.heap.size w W)=>(f.on hb).up hb.size;have bW:=λW (hb:Below w.heap.size w W)=>Z53 v (.agg #[vI v.num,vI v.time,slice A v.rs.length c]) W ⟨A,c,rfl,bx W hb⟩;have bm:=λ(hok:v.okB=true) W (hb:Below w.heap.size w W)=>Zi7 v q.ask q.time (.agg #[vI v.num,vI v.time,slice A v.rs.length c]) W ⟨A,c,rfl,bx W hb⟩ hok;have hqv:=λW (hb:Below w.heap.size w W)=>(⟨QA,qc,rfl,bF W hb⟩:QtV W W.heap.size (.agg (qtC q (slice QA q.nights.length qc))) q)
 have bg:=λW (hb:Below w.heap.size w W)=>Zm8 q _ W (hqv W hb) b0 b4;have bf:=λ(x:Qt) U2 W (hb:Below w.heap.size w W) h=>Zmr q x _ U2 W (hqv W hb) h (by omega);have bq:=λW=>Z8n q.ask W;have bR:=λW=>Z9k q.time W;have bV:=λW=>Z63 p W;have bn:=@ZgC v q p;have br:=@Zdk v q p;have bh:=λh1 h2 e=>@Zeq v q p e h1 h2;have bz:=λh1 h2 h3 h4 h5 x=>@Zep v q x p h1 h2 h3 h4 h5;obtain ⟨M,B⟩:∃ M,Z0C v q p=M:=⟨_,rfl⟩
 rw [B] at bn br bh bz |-
 clear B;obtain ⟨C,bj⟩:∃ C,(Value.slice QA q.nights.length qc)=C:=⟨_,rfl⟩
 rw [bj] at g hqv bg bf |-
 have b7:=λW (h:CkB w v (slice A v.rs.length c) q C W)=>h.ver;obtain ⟨m,r,j⟩:=g.ver;obtain ⟨R,S,J,F,I,G,O,N,D,X,T,H⟩:=g.all;simp only [askV,qtC] at bm bq g bg bf R S J F I G O N D X T H |-
 obtain ⟨HB,bP,b1,b8,cg,ch,b3,cc,bD,bA,cf,bY,HR,ck,cj⟩:=zh15 g bW bm bg bf bq bR bV bn br bh bz hR bj hqv;clear g bW bm bg bf bq bR bV bn br bh bz hR bj hqv bx bF b7 hU f;unfold vrV;go_enter func33,ntmps33;go_wp2_with fail;refine (bP.o _ HB.o.b).mono ?_;rintro e w2 ⟨rfl,bU⟩;have bb:=HB.o.on bU;clear m r j R S J F I G O N D X T H;obtain ⟨m,r,j⟩:=bb.ver;obtain ⟨R,S,J,F,I,G,O,N,D,X,T,H⟩:=bb.all;have bd:=zh bb;clear bb bU HB bP;cases h1:v.okB with
 | false =>have B:=bD.o (λh=>by rw [h1] at h;simp at h);subst B;go_wp2_with fail;go_ret2;exact ⟨rfl,bd.o.b⟩
 | true =>
 go_wp2_with fail;refine (cc.o _).mono ?_;rintro e w' ⟨rfl,rfl⟩;cases h2:memB p with
 | false =>have B:=bD.o (λh=>by rw [h2] at h;simp at h);subst B;go_wp2_with fail;go_ret2;exact ⟨rfl,bd.o.b⟩
 | true =>
 go_wp2_with fail;refine (ch.o _).mono ?_;rintro e w3 ⟨rfl,bH⟩;have bc:=bd.o.on bH;clear m r j R S J F I G O N D X T H;obtain ⟨m,r,j⟩:=bc.ver;obtain ⟨R,S,J,F,I,G,O,N,D,X,T,H⟩:=bc.all;have Z:=zh bc;clear bc bH bd;cases h3:q.ask.okB with
 | false =>have B:=bA.o h1 h2 (λh=>by rw [h3] at h;simp at h);subst B;go_wp2_with fail;go_ret2;exact ⟨rfl,Z.o.b⟩
 | true =>
 go_wp2_with fail;refine (b3.o _).mono ?_;rintro e w' ⟨rfl,rfl⟩;cases h4:Z18 q.time with
 | false =>have B:=bA.o h1 h2 (λh=>by rw [h4] at h;simp at h);subst B;go_wp2_with fail;go_ret2;exact ⟨rfl,Z.o.b⟩
 | true =>
 by_cases h5:v.time<=q.time
 . have dt:decide (q.time<v.time)=false:=by simpa using h5
   have L:=b1.o h1 w3 Z.o.b;unfold PlnR at L;rcases hX:Z1j v q.ask q.time with er | x
   . rw [hX] at L;dsimp only at L;have B:=cf.o h1 h2 er hX;subst B;have he:=ZpD hX;have de:(er != 0)=true:=by simpa using he
     have bS:=Z0A Qt.zero none 0 0;simp only [qtC,Qt.zero] at bS L;have HP:=zh L;clear L he hX;go_wp2_with fail;refine HP.o.mono ?_;rintro e d ⟨ba,rfl⟩;have bt:=(Z.o.on ba).on ((zr d.heap.size d).alloc (zn _) (.cells (qtC Qt.zero (slice none 0 0)) 31));simp only [qtC,Qt.zero] at bt;have b2:=zh bt;clear bt ba Z HP m r j R S J F I G O N D X T H;go_upto_region 6 with (refine Z1g rfl _ _ rfl _ _ rfl rfl rfl rfl bS ?_);generalize d.alloc (.cells #[vI 0,vI 0,vI 0,vI 0,vI 0,vI 0,vI 0,vI 0,slice none 0 0,.int .u64 0,vI 0,vI 0] 31)=w5 at *
     go_wp2_with fail;go_ret2;exact ⟨rfl,b2.o.b⟩
   . rw [hX] at L;dsimp only at L;have HP:=zh L;have bO:=zh (Zen h1 h3 h4 h5 hX);have HM:=zh (bY.o h1 h2 h3 h4 h5 x hX);clear L hX;go_wp2_with fail;refine HP.o.mono ?_;rintro e d ⟨ba,A2,c2,rfl,f,bZ⟩;have bE:(qtC x (slice A2 x.nights.length c2)).all (·.oneCell')=true:=Z0A _ _ _ _;have bX:∀ W p,QbK p x (slice A2 x.nights.length c2) W->QtV W W.heap.size (.agg (qtC x (slice A2 x.nights.length c2))) x:=λW p h=>h.v;have bC:=(Z.o.on ba).on ((zr d.heap.size d).alloc (zn _) (.cells (qtC x (slice A2 x.nights.length c2)) 31));have bK:=QbK.new (q:=x) f;generalize Value.slice A2 x.nights.length c2=xv at *
     obtain ⟨be,bs,ce⟩:=zh3 bC bK bX;clear bC bK bX ba Z HP f bZ m r j R S J F I G O N D X T H;go_upto_region 6 with (refine Z1g rfl _ _ rfl _ _ rfl rfl rfl (Z5s _ _) bE ?_);generalize d.alloc (.cells (qtC x xv) 31)=w5 at *
     clear bE;obtain ⟨R,S,J,F,I,G,O,N,D,X,T,H⟩:=be.o.all;obtain ⟨n0,n1,n2,n3,n4,n5,n6,n7,n8,n9,b9,b6⟩:=bs.o.all;have hs:=cg.o x _ w5 be.o.b (ce.o _ _ bs.o);simp only [qtC] at hs;have HS:=zh hs;clear hs;go_wp2_with fail;refine HS.o.mono ?_;rintro e w6 ⟨rfl,bQ⟩;clear R S J F I G O N D X T H n0 n1 n2 n3 n4 n5 n6 n7 n8 n9 b9 b6;have bu:=zh (be.o.on bQ);clear bQ be bs HS;obtain ⟨R,S,J,F,I,G,O,N,D,X,T,H⟩:=bu.o.all;cases hsm:q.same x with
     | false =>have B:=HM.o;rw [hsm,Bool.false_and] at B;subst B;go_wp2_with fail;go_ret2;exact ⟨rfl,bu.o.b⟩
     | true =>
      have B:=HM.o;rw [hsm,Bool.true_and] at B;have bI:=ZcF hsm;obtain ⟨s1,s2⟩:=bO.o;rw [<- bI] at s1;have b5:q.nights.length=x.nights.length:=by obtain ⟨_,_,_,_,_,h6,_⟩:=(Qt.same_iff q x).1 hsm;rw [h6]
      have bL:q.says.length<=1000:=by simp only [Qt.says,zj,zw,zx];omega
      have bk:=λW U2 (h:Z03 W W.heap.size U2 q.says)=>Zej p q.sE q.sS U2 q.says W h2 h bL (λy hy=>by have:=s1 y hy;omega);have bp:Hid (∀ wx,CkB w v (slice A v.rs.length c) q C wx->wx.cell? ⟨w.heap.size+1,0,none⟩=some (vI q.ver)/\wx.cell? ⟨w.heap.size+1,1,none⟩=some (vI q.time)/\wx.cell? ⟨w.heap.size+1,2,none⟩=some (vI q.total)/\wx.cell? ⟨w.heap.size+1,3,none⟩=some (vI q.keep)/\wx.cell? ⟨w.heap.size+1,4,none⟩=some (vI q.ask.kind)/\wx.cell? ⟨w.heap.size+1,5,none⟩=some (vI q.ask.fr)/\wx.cell? ⟨w.heap.size+1,6,none⟩=some (vI q.ask.un)/\wx.cell? ⟨w.heap.size+1,7,none⟩=some (vI q.ask.pers)/\wx.cell? ⟨w.heap.size+1,8,none⟩=some (C)/\wx.cell? ⟨w.heap.size+1,9,none⟩=some (.int .u64 (q.dig:Nat))/\wx.cell? ⟨w.heap.size+1,10,none⟩=some (vI q.sE)/\wx.cell? ⟨w.heap.size+1,11,none⟩=some (vI q.sS)/\CkB w v (slice A v.rs.length c) q C wx):=λwx h=>⟨h.c 0 _ rfl,h.c 1 _ rfl,h.c 2 _ rfl,h.c 3 _ rfl,h.c 4 _ rfl,h.c 5 _ rfl,h.c 6 _ rfl,h.c 7 _ rfl,h.c 8 _ rfl,h.c 9 _ rfl,h.c 10 _ rfl,h.c 11 _ rfl,h⟩
      obtain ⟨l,bv⟩:∃ b,verB p.toNat q.sE q.sS q.says=b:=⟨_,rfl⟩
      have bG:l=true->(expB q.sE&&expB q.sS)=true:=by
       intro h;rw [<- bv] at h;unfold verB at h;simp only [zd] at h |-
       exact h.1
      rw [bv] at B bk;subst B;have bN:l=true->(if expB q.sE&&expB q.sS then (0:Int) else 1)=0:=λh=>by rw [bG h];rfl
      generalize (if expB q.sE&&expB q.sS then (0:Int) else 1)=er at *
      have bJ:(l&&decide (er=0))=l:=by
       cases l with
       | false=>rfl
       | true=>rw [bN rfl];rfl
      clear bv bG bI s1 b5 bL hsm bN s2 bO HM;have ca:=zh bk;have cb:=zh bJ;clear bk bJ;go_wp2_with fail;go_region_held3 (λw'=>w'.cell? ⟨w.heap.size+1,0,none⟩=some (vI q.ver)/\w'.cell? ⟨w.heap.size+1,1,none⟩=some (vI q.time)/\w'.cell? ⟨w.heap.size+1,2,none⟩=some (vI q.total)/\w'.cell? ⟨w.heap.size+1,3,none⟩=some (vI q.keep)/\w'.cell? ⟨w.heap.size+1,4,none⟩=some (vI q.ask.kind)/\w'.cell? ⟨w.heap.size+1,5,none⟩=some (vI q.ask.fr)/\w'.cell? ⟨w.heap.size+1,6,none⟩=some (vI q.ask.un)/\w'.cell? ⟨w.heap.size+1,7,none⟩=some (vI q.ask.pers)/\w'.cell? ⟨w.heap.size+1,8,none⟩=some (C)/\w'.cell? ⟨w.heap.size+1,9,none⟩=some (.int .u64 (q.dig:Nat))/\w'.cell? ⟨w.heap.size+1,10,none⟩=some (vI q.sE)/\w'.cell? ⟨w.heap.size+1,11,none⟩=some (vI q.sS)/\CkB w v (slice A v.rs.length c) q C w') (first | (with_reducible exact bp.o _ (bu.o.on (zr _ _).drew)) | (with_reducible exact bp.o _ L8) | (with_reducible exact bp.o _ L9) | fail) (first
        | (go_at_call 54;have Y:=(‹_/\_/\_/\_/\_/\_/\_/\_/\_/\_/\_/\_/\CkB w v (slice A v.rs.length c) q C _›).2.2.2.2.2.2.2.2.2.2.2.2;refine (b8.o _ Y.b).mono ?_;rintro ex w8 ⟨r8,rfl,bT,bM⟩;have L8:=Y.on bM;have cd:=zh bT;clear bT bM Y)
        | (go_at_call 53;have Y:=(‹_/\_/\_/\_/\_/\_/\_/\_/\_/\_/\_/\_/\CkB w v (slice A v.rs.length c) q C _›).2.2.2.2.2.2.2.2.2.2.2.2;refine (ca.o _ _ cd.o).mono ?_;rintro ex w9 ⟨rfl,bB⟩;have L9:=Y.on bB;clear bB Y))
      all_goals
       have Y:=(‹_/\_/\_/\_/\_/\_/\_/\_/\_/\_/\_/\_/\CkB w v (slice A v.rs.length c) q C _›).2.2.2.2.2.2.2.2.2.2.2.2;cases l with
       | false =>go_wp2_with fail;go_ret2;exact ⟨rfl,Y.b⟩
       | true =>
        obtain rfl:er=0:=by have:=cb.o;simpa using this
        go_wp2_with fail;go_ret2;exact ⟨rfl,Y.b⟩
 . have dt:decide (q.time<v.time)=true:=by simp;omega
   have B:=bA.o h1 h2 (λh=>h5 h.2.2);subst B;go_wp2_with fail;go_ret2;exact ⟨rfl,Z.o.b⟩
end
section
open Go.RowKit Lx Px Qx
attribute [local irreducible] Qx.sigE Qx.sigS Qx.Vr.dig Qx.powP
theorem Zi8 {q:Qt}(h:∀ x∈[q.ver,q.time,q.total,q.keep,q.ask.kind,q.ask.fr,q.ask.un,q.ask.pers,q.sE,q.sS]++q.nights,-9223372036854775808<=x/\x<=9223372036854775807)(C:q.dig<18446744073709551616)(D:q.nights.length<=100) : ∀ x∈q.says,-9223372036854775808<=x/\x<=9223372036854775807:=by
 intro x B;simp only [Qt.says,zC,zD,List.not_mem_nil,or_false] at B;rcases B with ((rfl | rfl | rfl | rfl | rfl | rfl | rfl | rfl | rfl) | B) | rfl | rfl
 all_goals first | omega | (apply h;simp;done) | (apply h;simp [B];done)
end
section
open Go.RowKit Lx Px Qx
attribute [local irreducible] Qx.Vr.dig Qx.powP
theorem Zm9 (l:List Vr)(v:Value)(w:World)(C:VssV w w.heap.size v l):Calls prog 5 #[v] w λe w'=>(∃ b,e=.returned (.bool b)/\(b=true->l.length<=109))/\Below w.heap.size w w':=by
 obtain ⟨A,c,rfl,_⟩:=id C;have M:=zh C;clear C;go_enter func5,ntmps5;go_wp2_with fail;go_loopw [3] (λi wr=>∃ k:Nat,k<=l.length/\i=vI k/\Below w.heap.size w wr/\k<=110) (λi _=>l.length - (intOf i).toNat)
 case atStart=>exact ⟨0,by omega,rfl,zr _ _,by omega⟩
 case round =>
  obtain ⟨k,hk,rfl,hb,d⟩:=hrel;by_cases hlt:k<l.length
  . have S:decide ((k:Int)<l.length)=true:=by simpa using hlt
    by_cases h110:k<110
    . have R:decide ((k:Int)<110)=true:=by simp;omega
      obtain ⟨g,o,Z,f,rfl,j,H,c0,c1,c2⟩:=Z36 (M.o.on hb) hlt;have U:(k:Int)<l.length:=by omega
      have F:=Zih l[k] _ wr (Zf3 H hb.size);generalize l[k].num=m at *
      generalize l[k].time=V at *
      generalize l[k].rs.length=Y at *
      have G:=zh F;have B:=zh hb;clear F hb H;go_wp2_with fail;refine G.o.mono ?_;rintro e T ⟨⟨b,rfl⟩,I⟩;have J:=zh (Z00 B.o I);clear I G B c0 c1 c2;cases b with
      | false =>go_wp2_with fail;go_ret;exact ⟨⟨_,rfl,λh=>by cases h⟩,J.o⟩
      | true =>
       go_wp2_with fail;go_roundw
       case rel=>exact ⟨k+1,by omega,by go_num,J.o,by omega⟩
       case measure=>simp [intOf];omega
    . have R:decide ((k:Int)<110)=false:=by simp;omega
      have X:decide ((l.length:Int)<110)=false:=by simp;omega
      have B:=zh hb;clear hb;go_wp2_with fail;go_ret;exact ⟨⟨_,rfl,λh=>by cases h⟩,B.o⟩
  . have N:k=l.length:=by omega
    subst N;have S:decide ((l.length:Int)<l.length)=false:=by simp
    obtain ⟨b,D⟩:∃ b,decide ((l.length:Int)<110)=b:=⟨_,rfl⟩
    have L:b=true->l.length<=109:=λh=>by rw [h] at D;simp at D;omega
    have B:=zh hb;have O:=zh L;clear hb L;go_wp2_with fail;go_ret;exact ⟨⟨_,rfl,O.o⟩,B.o⟩
theorem Zah (l:List Vr)(t:Int)(v:Value)(w:World)(G:VssV w w.heap.size v l)(Y:l.length<=1000000) : Calls prog 24 #[v,vI t] w λe w'=>e=.returned (vI (inF l t))/\w'=w:=by
 obtain ⟨A,c,rfl,_⟩:=id G;obtain ⟨F,C⟩:∃ F:Nat->Int,(λk=>inF (l.take k) t)=F:=⟨_,rfl⟩
 have I:F 0 = -1:=by rw [<- C];rfl
 have B:∀ k (h:k<l.length),F (k+1)=if l[k].time<=t then (k:Int) else F k:=by intro k h;rw [<- C];simp only [inF];rw [zT h,Zaw,List.length_take,Nat.min_eq_left (zl h)];simp only [decide_eq_true_eq]
 have he:F l.length=inF l t:=by rw [<- C];simp
 rw [<- he];clear C he;obtain ⟨O,M,L⟩:=zh3 G B I;clear G B I;go_enter func24,ntmps24;go_wp2_with fail;go_loopw [5,6] (λx i wr=>∃ k:Nat,k<=l.length/\x=vI (F k)/\i=vI k/\wr=w) (λ_ i _=>l.length - (intOf i).toNat)
 case atStart=>exact ⟨0,Nat.zero_le _,by rw [L.o],rfl,rfl⟩
 case round =>
  obtain ⟨k,hk,rfl,rfl,hw⟩:=hrel;by_cases hlt:k<l.length
  . obtain ⟨g,o,T,X,rfl,U,N,c0,c1,c2⟩:=Z36 O.o hlt;have J:decide ((k:Int)<l.length)=true:=by simpa using hlt
    have V:(k:Int)<l.length:=by omega
    have B:=M.o k hlt;subst hw;generalize l[k].time=H at *
    clear N c0 c2;by_cases h1:H<=t
    . have S:decide (H<=t)=true:=by simpa using h1
      rw [zp h1] at B;have D:=zh B;clear B h1;go_wp2_with fail;go_roundw
      case rel=>exact ⟨k+1,by omega,by rw [D.o],by go_num,by first | rfl | trivial⟩
      case measure=>simp [intOf];omega
    . have S:decide (H<=t)=false:=by simpa using h1
      rw [zf h1] at B;have D:=zh B;clear B h1;go_wp2_with fail;go_roundw
      case rel=>exact ⟨k+1,by omega,by rw [D.o],by go_num,by first | rfl | trivial⟩
      case measure=>simp [intOf];omega
  . have R:k=l.length:=by omega
    subst R;have J:decide ((l.length:Int)<l.length)=false:=by simp
    subst hw;go_wp2_with fail;go_ret;exact ⟨rfl,rfl⟩
theorem Z9f {W:World}{p:Nat}{v:Vr}{rv:Value}{b:Bool}{er:Int}(h:VxB p v rv W):∀ (tmps:Array Value),tmps[4]?.getD undef=.pointer (some ⟨p,0,none⟩)->tmps[5]?.getD undef=.bool b->tmps[6]?.getD undef=vI er -> (results Tryz.f8 tmps).run prog W=.ok (.tuple #[.agg #[vI v.num,vI v.time,rv],.bool b,vI er]) W:=by
 intro tmps B G F;obtain ⟨D,H,C⟩:=h.cells;simp [results,results8,go_sem,B,G,F,D,H,C]
theorem Zma (l:List Vr)(t:Int)(v:Value)(w:World)(N:VssV w w.heap.size v l)(q:l.length<=1000000) : Calls prog 8 #[v,vI t] w (AtP (atV l t) w):=by
 have hb:=(zr w.heap.size w).alloc (zn _) (.cells #[vI 0,vI 0,slice none 0 0] 36);have hx:VxB w.heap.size Vr.zero (slice none 0 0) (w.alloc (.cells #[vI 0,vI 0,slice none 0 0] 36)):=VxB.new (v:=Vr.zero) (RtsV.nil _ _);have bc:=λW (hb:Below w.heap.size w W)=>Z3y l v W ((N.on hb).up hb.size) q;have bf:=λW (hb:Below w.heap.size w W)=>Zah l t v W ((N.on hb).up hb.size) q;have bh:=λW=>Z9k t W;obtain ⟨A,c,rfl,_⟩:=id N;obtain ⟨X,R⟩:∃ X,atV l t=X:=⟨_,rfl⟩
 have m:=λh=>R.symm.trans (@Zni l t h);have r:vsB l=true->Z18 t=true->X=if inF l t<0 then (.zero,false,0) else (l.getD (inF l t).toNat .zero,true,0):=λh1 h2=>by rw [<- R];unfold atV;rw [h1,h2];rfl
 have S:=Z2n (λx:Vr=>decide (x.time<=t)) l;have hd:inF l t=Z1x (λx:Vr=>decide (x.time<=t)) l:=rfl;rw [<- hd] at S;rw [R];have hz:∀ W,VxB w.heap.size Vr.zero (slice none 0 0) W->VxB w.heap.size Vr.zero (slice none 0 0) (put3 W w.heap.size 0 0 (slice none 0 0)):=λW h=>h.put3 Vr.zero (RtsV.nil _ _);obtain ⟨HV,f,HX,ba,be,Y,bd,HZ,bk⟩:=zh9 N hb hx bc bf m r hz bh;clear N hb hx bc bf m r hz bh R hd;generalize inF l t=I at *
 go_enter func8,ntmps8;go_wp2_with fail;generalize w.alloc (.cells #[vI 0,vI 0,slice none 0 0] 36)=w1 at *
 refine (ba.o _ f.o).mono ?_;rintro e w2 ⟨rfl,j⟩;have V:=Z00 f.o j;have L:=HX.o.on j;obtain ⟨d,U,y2⟩:=L.cells;have y3:=L.fr 0;have y4:=L.fr 1;have y5:=L.fr 2;dsimp only [Vr.zero] at d U;have T:=HZ.o _ L;have C:=Z2p V (zn _) 0 0 (slice none 0 0);have B:=λb er=>Z9f (b:=b) (er:=er) T;unfold put3 at T C B;obtain ⟨Z,bb,bj,M,H⟩:=zh5 V L T C B;clear V L T C B j ba f HX;cases h1:vsB l with
 | false =>have F:=Y.o (λh=>by rw [h1] at h;cases h.1);subst F;go_wp2_with fail;refine bodyPost_ret (v:=.tuple #[.agg #[vI 0,vI 0,slice none 0 0],.bool false,vI 1]) (H.o _ _ _ rfl rfl rfl) rfl ?_;exact ⟨_,rfl,⟨none,0,rfl,RtsV.nil _ _⟩,M.o⟩
 | true =>
  go_wp2_with fail;refine (bk.o _).mono ?_;rintro e w' ⟨rfl,rfl⟩;cases h2:Z18 t with
  | false =>have F:=Y.o (λh=>by rw [h2] at h;cases h.2);subst F;go_wp2_with fail;refine bodyPost_ret (v:=.tuple #[.agg #[vI 0,vI 0,slice none 0 0],.bool false,vI 1]) (H.o _ _ _ rfl rfl rfl) rfl ?_;exact ⟨_,rfl,⟨none,0,rfl,RtsV.nil _ _⟩,M.o⟩
  | true =>
   have O:=zh (bd.o h1 h2);clear bd Y M bj H;go_wp2_with fail;refine (be.o _ Z.o).mono ?_;rintro e w3 ⟨rfl,rfl⟩;have J:=Z.o;have D:=bb.o;obtain ⟨d,U,y2⟩:=D.cells;have y3:=D.fr 0;have y4:=D.fr 1;have y5:=D.fr 2;dsimp only [Vr.zero] at d U;clear Z bb be;by_cases h4:I<0
   . have F:=O.o;clear O;rw [zp h4] at F;subst F;have d4:decide (I<0)=true:=by simpa using h4
     have G:=HZ.o _ D;have C:=Z2p J (zn _) 0 0 (slice none 0 0);have B:=λb er=>Z9f (b:=b) (er:=er) G;unfold put3 at G C B;obtain ⟨bm,bn,bg,M,H⟩:=zh5 J D G C B;clear J D G C B;go_wp2_with fail;refine bodyPost_ret (v:=.tuple #[.agg #[vI 0,vI 0,slice none 0 0],.bool false,vI 0]) (H.o _ _ _ rfl rfl rfl) rfl ?_;exact ⟨_,rfl,⟨none,0,rfl,RtsV.nil _ _⟩,M.o⟩
   . have F:=O.o;clear O;rw [zf h4] at F;have d4:decide (I<0)=false:=by simpa using h4
     obtain ⟨i,rfl⟩:=zE2 (show 0<=I by omega);have hi:i<l.length:=by have:=S.2;omega
     have y:l.getD ((i:Int)).toNat Vr.zero=l[i]:=by simp [List.getD_eq_getElem?_getD,zv hi]
     rw [y] at F;subst F;obtain ⟨g,o,RA,rc,rfl,hg,hR,c0,c1,c2⟩:=Z36 (HV.o.on J) hi;have G:=D.put3 l[i] hR;have C:=Z2p J (zn _) l[i].num l[i].time (slice RA l[i].rs.length rc);generalize l[i]=x at *
     have B:=λb er=>Z9f (b:=b) (er:=er) G;unfold put3 at G C B;obtain ⟨bm,bn,bg,M,H,bp⟩:=zh6 J D G C B S;clear J D G C B S hR y;go_wp2_with fail;refine bodyPost_ret (v:=.tuple #[.agg #[vI x.num,vI x.time,slice RA x.rs.length rc],.bool true,vI 0]) (H.o _ _ _ rfl rfl rfl) rfl ?_;exact ⟨_,rfl,bg.o.v,M.o⟩
end
section
open Go.RowKit Lx Px Qx Go.Sort
attribute [local irreducible] Qx.Vr.dig Qx.powP
theorem VxB.setN {p:Nat}{n t:Int}{rs:List Rt}{rv:Value}{W:World}(h:VxB p ⟨n,t,rs⟩ rv W)(y:Int):VxB p ⟨y,t,rs⟩ rv (W.setCell ⟨p,0,none⟩ (vI y)):=by
 have B:=h.h;refine ⟨?_,h.r.on ((zr p W).setCell (p:=⟨p,0,none⟩) (zn _) _)⟩;simp [World.setCell,zM,B]
theorem Z2r {w:World}{N:Array Oper}{rest:List Oper}{o:Oper}{a:Act}{Q:Exit->Act->World->Prop}(J:o.guard=none)(s x:Operand) (L:o.op=.call { callee:=.builtin .append,args:=#[s,x],argTypes:=#[22,22] }) (base:Nat) (v:Value) (n:Nat) (R:List Value) (I:a.eval s=v) (D:w.ownsRow base 36 3 v n R) (A:Option Addr) (m c:Nat) (B:List Value) (M:a.eval x=slice A m c) (d:B.length=m*3) (X:∀ ad,A=some ad->∀ j u,B[j]?=some u->w.cell? (ad.add j)=some u) (l:A=none->m=0) (F:∀ u∈B,u.oneCell'=true) (hn:n+m<=1000000) (T:base<=w.heap.size) (h:∀ C w',w'.ownsRow base 36 3 C (n+m) (R++B)->w.grownBy w' v.ownBlock->wpList prog N Q rest (a.put o.dst C) w'):wpList prog N Q (o::rest) a w:=by
 obtain ⟨q,G,Z,H,S⟩:=info_parts Tryz.infoVr;by_cases hm:m=0
 . subst hm;have V:B=[]:=List.length_eq_zero_iff.1 (by omega);subst V;have O:(Builtin.firstCells 3 0 (slice A 0 c)).run prog w=.ok #[] w:=by
    cases A with
    | none=>exact run_firstCells_none _ _ _ _ _
    | some p=>exact run_firstCells_some (P:=prog) w 3 0 p 0 c [] rfl (λj v h=>by simp at h)
   have Y:(Builtin.append_ #[22,22] o.type #[v,slice A 0 c]).run prog w=.ok v w:=by
    rcases D.2 with ⟨rfl,r⟩ | ⟨g,cap,y,rfl,_,_,f,_⟩
    . simp [Builtin.append_,zy underlying22,sizeOf,typeInfo,G,H,Builtin.lenOf,O]
    . simp [Builtin.append_,zy underlying22,sizeOf,typeInfo,G,H,Builtin.lenOf,O,f,storeCells]
   refine wpList_plain J λK hK=>?_;unfold Oper.wp;simp [execOp,L,resolve,invoke,builtin,I,M,Y,Result.andThen];refine hK _ _ (h v w (by simpa using D) ⟨rfl,rfl,rfl,zn _,λ_ _ _=>rfl⟩)
 . cases A with
   | none=>exact absurd (l rfl) hm
   | some ad =>refine wpList_append_own w J s x 22 L base 36 q _ 3 40 underlying22 G Z H S rfl (by decide) v n _ I D ad m c B M d (X ad rfl) F (by unfold maxLen;omega) (by omega) T ?_;intro C w' F U _;exact h C w' F U
theorem Zer (l:List Vr)(t:Int)(rs:List Rt)(v rv:Value)(w:World)(hv:VssV w w.heap.size v l)(hr:RtsV w w.heap.size rv rs)(ct:l.length<=1000) : Calls prog 13 #[v,vI t,rv] w (Zcv l t rs w):=by
 have b7:=Z3y l v w hv (by omega);have bZ:=λW x X (hX:VrV W W.heap.size X x)=>Z53 x X W hX;obtain ⟨A,c,rfl,_⟩:=id hv;obtain ⟨G,F,rfl,_⟩:=id hr;obtain ⟨HV,HR,cc,bW⟩:=zh4 hv hr b7 bZ;clear hv hr b7 bZ;unfold Zcv;obtain ⟨E,hE⟩:∃ E,Z4z l t rs=E:=⟨_,rfl⟩
 rw [hE];have HE:=zh hE;clear hE;go_enter func13,ntmps13;go_wp2_with fail;refine cc.o.mono ?_;rintro e R ⟨rfl,O⟩;cases d:vsB l with
 | false =>have he:E=1:=HE.o.symm.trans (Zks d);subst he;have HB:=zh O;clear O;go_wp2_with fail;go_ret2;exact ⟨_,rfl,by simp,HB.o⟩
 | true =>
  have bH:=Z0B.1 d;have bc:=VxB.new (v:=⟨1,t,rs⟩) ((HR.o.on O).up O.size);have bt:=O.alloc O.size (.cells #[vI 1,vI t,slice G rs.length F] 36);have cx:=bH.2;have cm:=O.size;dsimp only at bc;by_cases h0:0<l.length
  . obtain ⟨m,D⟩:∃ m,l.length=m+1:=⟨l.length - 1,by omega⟩
    have bP:m<l.length:=by omega
    obtain ⟨g,o,RB,rb,rfl,hg,ck,c0,c1,c2⟩:=Z36 (HV.o.on bt) bP;obtain ⟨b6,_⟩:=bH.1 m bP bP;obtain ⟨_,_,_,b0,b1⟩:=Z6u b6;have U:l[l.length - 1]'(by omega)=l[m]:=by congr 1;omega
    have hpn:Z2F l t rs=⟨1+l[m].num,t,rs⟩:=by unfold Z2F;rw [dif_pos h0,U]
    have b2:=λ(h:t<l[m].time)=>HE.o.symm.trans (Zef d h0 (by rw [U];exact h));have bj:=λ(h:l[m].time<=t)=>HE.o.symm.trans (Z3f d (λ_=>by rw [U];exact h));rw [hpn] at bj;have bI:=zh hpn;clear hpn U b6 bH;generalize l[m]=x at *
    have dz:decide ((l.length:Int) > 0)=true:=by simp;omega
    have cu:(l.length:Int) - 1=(m:Int):=by omega
    have cd:IntKind.i64.wrap (x.num+1)=1+x.num:=by rw [zi _ (by omega)];omega
    have M:=bc.fr 0;obtain ⟨J,I,n3⟩:=bc.cells;dsimp only at J I n3;obtain ⟨bX,bT,b5,bY,b4,HM⟩:=zh6 bc bt b2 bj O D;clear bc bt b2 bj O D ck;have cs:(0:Int)<=m:=by omega
    have b9:=HV.o.cap;have ce:(0:Int)<=l.length:=by omega
    have ca:(l.length:Int)<=c:=by omega
    have cv:(m:Int)<l.length:=by omega
    go_upto_region 6 with fail;generalize R.alloc (.cells #[vI 1,vI t,slice G rs.length F] 36)=w3 at *
    go_upto_region 7 with fail;have bq:=bX.o.setN (1+x.num)
    have bR:=bT.o.setCell (p:=⟨R.heap.size,0,none⟩) b4.o.size (vI (1+x.num));have cn:(w3.setCell ⟨R.heap.size,0,none⟩ (vI (1+x.num))).cell? ⟨g,o+m*3+1,none⟩=some (vI x.time):=(bR.cell (p:=⟨g,o+m*3+1,none⟩) hg).trans ((bT.o.cell (p:=⟨g,o+m*3+1,none⟩) hg).symm.trans c1);clear c0 c1 c2 M J I n3 bX bT cd;generalize b3:1+x.num=N at *
    generalize w3.setCell ⟨R.heap.size,0,none⟩ (vI N)=w4 at *
    obtain ⟨M,J,I⟩:=bq.cells;dsimp only at M J I;obtain ⟨q,T,cr⟩:=zh3 bq bR b3;clear bq bR b3;by_cases hT:t<x.time
    . have dT:decide (x.time > t)=true:=by simpa using hT
      have he:E=6:=b5.o hT;subst he;go_wp2_with fail;go_ret2;exact ⟨_,rfl,by simp,T.o⟩
    . have dT:decide (x.time > t)=false:=by simpa using hT
      have V:=zh (bY.o (by omega));clear bY b5;by_cases hn:l.length=100
      . have dn:((l.length:Int)==100)=true:=by simp;omega
        have he:E=2:=V.o.trans (zp (.inl hn));subst he;clear hn;go_wp2_with fail;go_ret2;exact ⟨_,rfl,by simp,T.o⟩
      . have dn:((l.length:Int)==100)=false:=by simp;omega
        by_cases H:1000000<N
        . have dN:decide (N > 1000000)=true:=by simpa using H
          have he:E=2:=V.o.trans (zp (.inr H));subst he;go_wp2_with fail;go_ret2;exact ⟨_,rfl,by simp,T.o⟩
        . have dN:decide (N > 1000000)=false:=by simpa using H
          have he:E=if (⟨N,t,rs⟩:Vr).okB=true then 0 else 1:=V.o.trans (zf (show ¬ (l.length=100\/1000000<N) from λh=>h.elim hn H));have Z:=bW.o _ _ _ q.o.v;obtain ⟨b,hb⟩:∃ b,(⟨N,t,rs⟩:Vr).okB=b:=⟨_,rfl⟩
          rw [hb] at he Z;dsimp only at Z;have bv:=zh Z;have bd:=zh he;clear Z he;go_wp2_with fail;refine bv.o.mono ?_;rintro e w5 ⟨rfl,bm⟩;have S:=zh (Z00 T.o bm);have be:=zh (q.o.on bm);clear T q bm bv M J I;cases b with
          | false =>have he:E=1:=bd.o;subst he;go_wp2_with fail;go_ret2;exact ⟨_,rfl,by simp,S.o⟩
          | true =>
           have he:E=0:=bd.o;subst he;clear bd;obtain ⟨_,C,bb,bk,bs,y,ba⟩:=Z8h HV.o;have bA:∀ W,Below w.heap.size w W->∀ m∈C,RtsV W w.heap.size m.rv m.v.rs:=λW hb m D=>((bk m D).2).on hb;have bB:∀ u∈Z09 C,u.oneCell'=true:=by
            intro u Y;obtain ⟨m,D,Y⟩:=List.mem_flatMap.1 Y;simp only [Vm.cells,zD,List.not_mem_nil,or_false] at Y;rcases Y with rfl | rfl | rfl
            . rfl
            . rfl
            . exact (bk m D).1
           clear bk;have bn:C.length=l.length:=by rw [<- bb,List.length_map]
           have bF:(Z09 C).length=l.length*3:=by rw [Z3r,bn]
           have bC:Z09 C≠[]->l≠[]:=λh e=>h (by have:C=[]:=List.length_eq_zero_iff.1 (by rw [bn,e];rfl);rw [this];rfl);have bE:∀ ad:Addr,(some ⟨g,o,none⟩:Option Addr)=some ad->∀ j u,(Z09 C)[j]?=some u->w5.cell? (ad.add j)=some u:=λad e=>Z7k (bs ad e) (λh=>ba ad e (bC h)) S.o;have bG:(some ⟨g,o,none⟩:Option Addr)=none->l.length=0:=λe=>by rw [y e];rfl
           have cb:=be.o.lt;clear bs bC;obtain ⟨bO,bM,bu,ch,cg,bV,bL,bN⟩:=zh8 bb bA bE y ba bF bB bG;clear bb bA bE y ba bF bB bG;go_upto_region 15 with (at_builtin;refine Z2r rfl _ _ rfl (R.heap.size+1) (slice none 0 0) 0 [] rfl (World.ownsRow_nil w5 _ _ _) (some ⟨g,o,none⟩:Option Addr) l.length c (Z09 C) rfl bV.o bu.o bN.o bL.o (by omega) (by omega) ?_;intro v6 w6 r bp);have bx:Below w.heap.size w w6:=S.o.grown bp S.o.size (λg e=>by cases e)
           have bf:=be.o.grown bp;have cf:=bf.lt;obtain ⟨M,J,I⟩:=bf.cells;dsimp only at M J I;have br:=r.lt;rw [Nat.zero_add,zn2] at r;obtain ⟨bg,bS,bJ⟩:=zh3 bx r br;clear bx r br bf bp be S bu;go_wp2_with (at_builtin;go_loud (refine Z2r rfl _ _ rfl (R.heap.size+1) v6 l.length (Z09 C) rfl (bS.o.alloc _) (some ⟨w6.heap.size,0,none⟩) 1 1 [vI N,vI t,slice G rs.length F] rfl rfl (λad e=>by cases e;exact World.news_of_block (za w6 _)) (λe=>by cases e) (by simp [Value.oneCell']) (by omega) (by rw [zk];omega) ?_;intro v7 f bh bz));have L:Below w.heap.size w f:=(bg.o.alloc bg.o.size (.cells #[vI N,vI t,slice G rs.length F] 36)).grown bz (by rw [zk];have:=bg.o.size;omega) (λg e=>by have:=(bJ.o g e).1;omega);have bD:VssV f f.heap.size v7 (l++[⟨N,t,rs⟩]):=by
            have d:Z09 C++[vI N,vI t,slice G rs.length F]=Z09 (C++[⟨⟨N,t,rs⟩,slice G rs.length F⟩]):=by simp [Z09,Vm.cells]
            rw [d] at bh;have h2:=Z5k (B:=w.heap.size) bh (by rw [zj,List.length_singleton,bn]) (λm D=>?_) L.size
            . rw [List.map_append,bO.o] at h2;exact h2
            . rw [zC,List.mem_singleton] at D;rcases D with D | rfl
              . exact bM.o f L m D
              . exact HR.o.on L
           have U:Z2F l t rs=⟨N,t,rs⟩:=bI.o;obtain ⟨bQ,bU,bK⟩:=zh3 L bD U;clear L bD U bh bz;go_ret2;refine ⟨_,rfl,?_,bQ.o⟩;rw [bK.o];exact bU.o
  . have cj:l=[]:=List.length_eq_zero_iff.1 (by omega);have hpn:Z2F l t rs=⟨1,t,rs⟩:=by unfold Z2F;rw [dif_neg h0];rfl
    have bj:=HE.o.symm.trans (Z3f d (λh=>absurd h h0));rw [hpn] at bj;have dz:decide ((l.length:Int) > 0)=false:=by simp;omega
    have b9:=HV.o.cap;have ce:(0:Int)<=l.length:=by omega
    have ca:(l.length:Int)<=c:=by omega
    have bI:=zh hpn;have bq:VxB R.heap.size ⟨1,t,rs⟩ (slice G rs.length F) (R.alloc (.cells #[vI 1,vI t,slice G rs.length F] 36)):=bc;obtain ⟨V,q,T,b4⟩:=zh4 bj bq bt O;clear bj bq O bt bc hpn bH cj;go_upto_region 9 with fail;generalize R.alloc (.cells #[vI 1,vI t,slice G rs.length F] 36)=w4 at *
    obtain ⟨N,H⟩:∃ N:Int,1=N:=⟨_,rfl⟩
    have b8:E=if l.length=100\/1000000<N then 2 else if (⟨N,t,rs⟩:Vr).okB=true then 0 else 1:=by rw [<- H];exact V.o
    clear V;have V:=zh b8;clear b8;rw [H] at q bI;obtain ⟨M,J,I⟩:=q.o.cells;dsimp only at M J I;clear H;by_cases hn:l.length=100
    . have dn:((l.length:Int)==100)=true:=by simp;omega
      have he:E=2:=V.o.trans (zp (.inl hn));subst he;clear hn;go_wp2_with fail;go_ret2;exact ⟨_,rfl,by simp,T.o⟩
    . have dn:((l.length:Int)==100)=false:=by simp;omega
      by_cases H:1000000<N
      . have dN:decide (N > 1000000)=true:=by simpa using H
        have he:E=2:=V.o.trans (zp (.inr H));subst he;go_wp2_with fail;go_ret2;exact ⟨_,rfl,by simp,T.o⟩
      . have dN:decide (N > 1000000)=false:=by simpa using H
        have he:E=if (⟨N,t,rs⟩:Vr).okB=true then 0 else 1:=V.o.trans (zf (show ¬ (l.length=100\/1000000<N) from λh=>h.elim hn H));have Z:=bW.o _ _ _ q.o.v;obtain ⟨b,hb⟩:∃ b,(⟨N,t,rs⟩:Vr).okB=b:=⟨_,rfl⟩
        rw [hb] at he Z;dsimp only at Z;have bv:=zh Z;have bd:=zh he;clear Z he;go_wp2_with fail;refine bv.o.mono ?_;rintro e w5 ⟨rfl,bm⟩;have S:=zh (Z00 T.o bm);have be:=zh (q.o.on bm);clear T q bm bv M J I;cases b with
        | false =>have he:E=1:=bd.o;subst he;go_wp2_with fail;go_ret2;exact ⟨_,rfl,by simp,S.o⟩
        | true =>
         have he:E=0:=bd.o;subst he;clear bd;obtain ⟨_,C,bb,bk,bs,y,ba⟩:=Z8h HV.o;have bA:∀ W,Below w.heap.size w W->∀ m∈C,RtsV W w.heap.size m.rv m.v.rs:=λW hb m D=>((bk m D).2).on hb;have bB:∀ u∈Z09 C,u.oneCell'=true:=by
          intro u Y;obtain ⟨m,D,Y⟩:=List.mem_flatMap.1 Y;simp only [Vm.cells,zD,List.not_mem_nil,or_false] at Y;rcases Y with rfl | rfl | rfl
          . rfl
          . rfl
          . exact (bk m D).1
         clear bk;have bn:C.length=l.length:=by rw [<- bb,List.length_map]
         have bF:(Z09 C).length=l.length*3:=by rw [Z3r,bn]
         have bC:Z09 C≠[]->l≠[]:=λh e=>h (by have:C=[]:=List.length_eq_zero_iff.1 (by rw [bn,e];rfl);rw [this];rfl);have bE:∀ ad:Addr,(A:Option Addr)=some ad->∀ j u,(Z09 C)[j]?=some u->w5.cell? (ad.add j)=some u:=λad e=>Z7k (bs ad e) (λh=>ba ad e (bC h)) S.o;have bG:(A:Option Addr)=none->l.length=0:=λe=>by rw [y e];rfl
         have cb:=be.o.lt;clear bs bC;obtain ⟨bO,bM,bu,ch,cg,bV,bL,bN⟩:=zh8 bb bA bE y ba bF bB bG;clear bb bA bE y ba bF bB bG;go_upto_region 15 with (at_builtin;refine Z2r rfl _ _ rfl (R.heap.size+1) (slice none 0 0) 0 [] rfl (World.ownsRow_nil w5 _ _ _) (A:Option Addr) l.length c (Z09 C) rfl bV.o bu.o bN.o bL.o (by omega) (by omega) ?_;intro v6 w6 r bp);have bx:Below w.heap.size w w6:=S.o.grown bp S.o.size (λg e=>by cases e)
         have bf:=be.o.grown bp;have cf:=bf.lt;obtain ⟨M,J,I⟩:=bf.cells;dsimp only at M J I;have br:=r.lt;rw [Nat.zero_add,zn2] at r;obtain ⟨bg,bS,bJ⟩:=zh3 bx r br;clear bx r br bf bp be S bu;go_wp2_with (at_builtin;go_loud (refine Z2r rfl _ _ rfl (R.heap.size+1) v6 l.length (Z09 C) rfl (bS.o.alloc _) (some ⟨w6.heap.size,0,none⟩) 1 1 [vI N,vI t,slice G rs.length F] rfl rfl (λad e=>by cases e;exact World.news_of_block (za w6 _)) (λe=>by cases e) (by simp [Value.oneCell']) (by omega) (by rw [zk];omega) ?_;intro v7 f bh bz));have L:Below w.heap.size w f:=(bg.o.alloc bg.o.size (.cells #[vI N,vI t,slice G rs.length F] 36)).grown bz (by rw [zk];have:=bg.o.size;omega) (λg e=>by have:=(bJ.o g e).1;omega);have bD:VssV f f.heap.size v7 (l++[⟨N,t,rs⟩]):=by
          have d:Z09 C++[vI N,vI t,slice G rs.length F]=Z09 (C++[⟨⟨N,t,rs⟩,slice G rs.length F⟩]):=by simp [Z09,Vm.cells]
          rw [d] at bh;have h2:=Z5k (B:=w.heap.size) bh (by rw [zj,List.length_singleton,bn]) (λm D=>?_) L.size
          . rw [List.map_append,bO.o] at h2;exact h2
          . rw [zC,List.mem_singleton] at D;rcases D with D | rfl
            . exact bM.o f L m D
            . exact HR.o.on L
         have U:Z2F l t rs=⟨N,t,rs⟩:=bI.o;obtain ⟨bQ,bU,bK⟩:=zh3 L bD U;clear L bD U bh bz;go_ret2;refine ⟨_,rfl,?_,bQ.o⟩;rw [bK.o];exact bU.o
end
section
open Go.RowKit Lx Px Qx Go.Sort
attribute [local irreducible] Qx.Vr.dig Qx.powP
theorem Zbd (l:List Vr)(q:Qt)(p:Int)(v U:Value)(w:World)(S:VssV w w.heap.size v l)(hU:QtV w w.heap.size U q)(b2:l.length<=1000)(bN:q.dig<18446744073709551616)(bQ:q.nights.length<=50000) : Calls prog 16 #[v,U,vI p] w (HonP (honV l q p) w):=by
 obtain ⟨D,c1,rfl,hI⟩:=Z4c hU;have bF:=(zr w.heap.size w).alloc (zn _) (.cells (qtC q (slice D q.nights.length c1)) 31);have bj:=QbK.new (q:=q) hI;have bJ:=λW (hb:Below w.heap.size w W)=>Z3y l v W ((S.on hb).up hb.size) (by omega);have bq:=λW (hb:Below w.heap.size w W)=>Zah l q.time v W ((S.on hb).up hb.size) (by omega);have bB:=λW=>Z63 p W;have H:=λx X W (hX:VrV W W.heap.size X x) (hQ:QbK w.heap.size q (slice D q.nights.length c1) W)=>ZcG x q p X _ W hX hQ.v bN bQ;have G:=Z2n (λx:Vr=>decide (x.num=q.ver)) l;obtain ⟨M,O⟩:∃ M,honV l q p=M:=⟨_,rfl⟩
 have bv:=λh=>O.symm.trans (@Zkt l q p h);have bu:=λh1 h2 h=>O.symm.trans (@ZfG l q p h1 h2 h);have bK:=λh1 h2 i L h=>O.symm.trans (@Zku l q p h1 h2 i L h);have bA:Hid (numI l q.ver=Z1x (λx=>decide (x.num=q.ver)) l):=rfl;rw [<- bA.o] at G;obtain ⟨F,f⟩:∃ F:Nat->Int,(λk=>numI (l.take k) q.ver)=F:=⟨_,rfl⟩
 have h0:F 0 = -1:=by rw [<- f];rfl
 have C:∀ k (h:k<l.length),F (k+1)=if l[k].num=q.ver then (k:Int) else F k:=by intro k h;rw [<- f];simp only [numI];rw [zT h,Zaw,List.length_take,Nat.min_eq_left (zl h)];simp only [decide_eq_true_eq]
 have he:F l.length=numI l q.ver:=by rw [<- f];simp
 rw [O];obtain ⟨A,c,rfl,_⟩:=id S;obtain ⟨k0,k1,y,Y,r,Z,k6,k7,V,k9,bc,j⟩:=bj.all;have b0:=Z0A q D q.nights.length c1;obtain ⟨HV,bh,bG,bt,bZ,bE,bV,bp,bL,bD,bX,HS,H0,HE⟩:=zh14 S bF bj bJ bq bB H bv bu bK G C h0 he;clear S bF bj bJ bq bB H bv bu bK G C h0 he hU hI O bA f;go_enter func16,ntmps16;go_wp2_with fail;generalize w.alloc (.cells (qtC q (slice D q.nights.length c1)) 31)=w1 at *
 refine (bt.o _ bh.o).mono ?_;rintro e w2 ⟨rfl,bg⟩;have m:=zh (Z00 bh.o bg);have bH:=zh (bG.o.on bg);clear bg bt bh bG k0 k1 y Y r Z k6 k7 V k9 bc j;cases h1:vsB l with
 | false =>have B:=bp.o (λh=>by rw [h1] at h;cases h.1);subst B;go_wp2_with fail;refine bodyPost_ret (v:=.tuple #[vI 0,vI 0,vI 1]) (by simp [results,results16,go_sem]) rfl ?_;exact ⟨rfl,m.o⟩
 | true =>
  go_wp2_with fail;refine (bE.o _).mono ?_;rintro e w3 ⟨rfl,rfl⟩;cases h2:memB p with
  | false =>have B:=bp.o (λh=>by rw [h2] at h;cases h.2);subst B;go_wp2_with fail;refine bodyPost_ret (v:=.tuple #[vI 0,vI 0,vI 1]) (by simp [results,results16,go_sem]) rfl ?_;exact ⟨rfl,m.o⟩
  | true =>
   have bO:=zh (bL.o h1 h2);have bT:=zh (bD.o h1 h2);have bR:=zh ((Z0B.1 h1).1);clear bp bL bD bE;go_wp2_with fail;go_loopw [9,10] (λx i wr=>∃ k:Nat,k<=l.length/\x=vI (F k)/\i=vI k/\Below w.heap.size w wr/\QbK w.heap.size q (slice D q.nights.length c1) wr) (λ_ i _=>l.length - (intOf i).toNat)
   case atStart=>exact ⟨0,Nat.zero_le _,by rw [H0.o],rfl,m.o,bH.o⟩
   case round =>
    clear m bH;obtain ⟨k,hk,rfl,rfl,T,R⟩:=hrel;by_cases hlt:k<l.length
    . obtain ⟨g,o,RA,rc,rfl,hg,hR,c0,bM,c2⟩:=Z36 (HV.o.on T) hlt;have dl:decide ((k:Int)<l.length)=true:=by simpa using hlt
      have i0:(0:Int)<=k:=by omega
      have i1:(k:Int)<l.length:=by omega
      have C:=HS.o k hlt;have q0:=R.c 0 (vI q.ver) rfl;have bI:=zh T;have bC:=zh R;clear T R;generalize l[k].num=bm at *
      clear hR bM c2;by_cases h3:bm=q.ver
      . have d1:(bm==q.ver)=true:=by simpa using h3
        rw [zp h3] at C;have be:=zh C;clear C h3;go_wp2_with fail;go_quiet (fail);go_wp2_with fail;go_roundw
        case rel=>exact ⟨k+1,by omega,by rw [be.o],by go_num,Z04 bI.o _,bC.o.on (Z04 (zr _ _) _)⟩
        case measure=>simp [intOf];omega
      . have d1:(bm==q.ver)=false:=by simpa using h3
        rw [zf h3] at C;have be:=zh C;clear C h3;go_wp2_with fail;go_quiet (fail);go_wp2_with fail;go_roundw
        case rel=>exact ⟨k+1,by omega,by rw [be.o],by go_num,Z04 bI.o _,bC.o.on (Z04 (zr _ _) _)⟩
        case measure=>simp [intOf];omega
    . have bS:k=l.length:=by omega
      subst bS;have dl:decide ((l.length:Int)<l.length)=false:=by simp
      rw [HE.o];have N:=zh T;have bb:=zh R;clear T R HE HS;generalize numI l q.ver=I at *
      by_cases h4:I<0
      . have B:=bO.o h4;subst B;have d4:decide (I<0)=true:=by simpa using h4
        go_wp2_with fail;refine bodyPost_ret (v:=.tuple #[vI 0,vI 0,vI 4]) (by simp [results,results16,go_sem]) rfl ?_;exact ⟨rfl,N.o⟩
      . have d4:decide (I<0)=false:=by simpa using h4
        obtain ⟨i,rfl⟩:=zE2 (show 0<=I by omega);have G:=bX.o;have L:i<l.length:=by have:=G.2;omega
        have b1:(0:Int)<=i:=by omega
        have b3:(i:Int)<l.length:=by omega
        have hm:=bT.o i L rfl;have br:=(bR.o i L L).1;obtain ⟨g,o,RA,rc,rfl,hg,hR,x0,x1,x2⟩:=Z36 (HV.o.on N.o) L;have H:=λW (hX:VrV W W.heap.size (.agg #[vI l[i].num,vI l[i].time,slice RA l[i].rs.length rc]) l[i]) (hQ:QbK w.heap.size q (slice D q.nights.length c1) W)=>bV.o l[i] _ W hX hQ;rw [Zcw br h2] at H;generalize (Z0C l[i] q p).1=b at *
        generalize l[i]=x at *
        clear G h4;have bd:∀ d os,Calls prog 33 #[.agg #[vI x.num,vI x.time,slice RA x.rs.length rc],.agg (qtC q (slice D q.nights.length c1)),vI p] (grow (redrawn wr d) os) λe w''=>e=.returned (.tuple #[.bool b,vI 0])/\∃ p:Regrown,w''=grow (redrawn wr p.d) p.os:=λd os =>Calls.regrown_of (H _ ((Zf3 hR N.o.size).on (below_regrown wr d os) |>.up (below_regrown wr d os).size) (bb.o.on (below_regrown wr d os)));unfold qtC at bd;obtain ⟨k0,k1,y,Y,r,Z,k6,k7,V,k9,bc,j⟩:=bb.o.all;have e0:=cell_regrown x0;have e1:=cell_regrown x1;have e2:=cell_regrown x2;have j0:=cell_regrown k0;have j1:=cell_regrown k1;have j2:=cell_regrown y;have j3:=cell_regrown Y;have j4:=cell_regrown r;have j5:=cell_regrown Z;have j6:=cell_regrown k6;have j7:=cell_regrown k7;have j8:=cell_regrown V;have j9:=cell_regrown k9;have bP:=cell_regrown bc;have bY:=cell_regrown j;have bn:=zh hm;clear hm H br hR;go_wp2_with fail;refine wp_region_quiet_below (by kernel_rfl) (by kernel_rfl) ?_
        repeat (first | go_big_quiet_step (exact bd _ _) | quiet_step (exact bd _ _))
        refine wpQuiet_nil ?_;intro _ bU;obtain ⟨⟨dq,bx⟩,bW⟩:=bU;subst bW;have bf:=below_regrown wr dq bx;have bz:=Z00 N.o bf;have bs:=bb.o.on bf;generalize grow (redrawn wr dq) bx=w6 at *
        have ba:=zh bz;have bk:=zh bs;clear bz bs bf bd N bb e0 e1 e2 j0 j1 j2 j3 j4 j5 j6 j7 j8 j9 bP bY x0 x1 x2 k0 k1 y Y r Z k6 k7 V k9 bc j;cases b with
        | false =>have B:M=(0,0,9):=bn.o;subst B;go_wp2_with fail;refine bodyPost_ret (v:=.tuple #[vI 0,vI 0,vI 9]) (by simp [results,results16,go_sem]) rfl ?_;exact ⟨rfl,ba.o⟩
        | true =>
         have HM2:Hid (M=if inF l q.time=i then (q.total,q.keep,0) else (0,0,6)):=bn.o;clear bn;have t1:=bk.o.c 1 (vI q.time) rfl;go_wp2_with fail;refine (bZ.o _ ba.o).mono ?_;rintro e w7 ⟨rfl,rfl⟩;have t2:=bk.o.c 2 (vI q.total) rfl;have t3:=bk.o.c 3 (vI q.keep) rfl;clear t1;by_cases h5:inF l q.time=i
         . have B:=HM2.o.trans (zp h5);subst B;have d5:(inF l q.time != (i:Int))=false:=by rw [h5];simp
           generalize inF l q.time=J at *
           clear h5 HM2;go_wp2_with fail;go_quiet (fail);go_wp2_with fail;refine bodyPost_ret (v:=.tuple #[vI q.total,vI q.keep,vI 0]) (by simp [results,results16,go_sem]) rfl ?_;exact ⟨rfl,Z04 ba.o _⟩
         . have B:=HM2.o.trans (zf h5);subst B;have d5:(inF l q.time != (i:Int))=true:=by simpa using h5
           generalize inF l q.time=J at *
           clear h5 HM2;go_wp2_with fail;refine bodyPost_ret (v:=.tuple #[vI 0,vI 0,vI 6]) (by simp [results,results16,go_sem]) rfl ?_;exact ⟨rfl,ba.o⟩
end
section
open Go.RowKit Lx Px Qx Go.Sort
attribute [local irreducible] Qx.Vr.dig Qx.powP Qx.sigE Qx.sigS
theorem Zsd (l:List Vr)(t:Int):∃ x b e,atV l t=(x,b,e)/\vrSm x:=by
 by_cases h:vsB l=true/\Z18 t=true
 . obtain ⟨x,b,e,B⟩:=@atV_sm l t (Z0B.1 h.1) h.2;exact ⟨x,b,0,e,B⟩
 . exact ⟨_,_,_,Zni h,Zei⟩
noncomputable def Zi9 (l:List Vr) (t:Int) (rs:List Rt):List Vr:=if Z4z l t rs=0 then l++[Z2F l t rs] else []
theorem ZcH {l:List Vr}{t:Int}{rs:List Rt}{w w':World}{e:Ending}(h:Zcv l t rs w e w'):∃ C,e=.returned (.tuple #[C,vI (Z4z l t rs)])/\VssV w' w'.heap.size C (Zi9 l t rs)/\Below w.heap.size w w':=by
 obtain ⟨C,he,B,hb⟩:=h;refine ⟨C,he,?_,hb⟩;unfold Zi9;split
 . rename_i D;rw [zp D] at B;exact B
 . rename_i D;rw [zf D] at B;rw [B];exact VssV.nil _ _ _
theorem ZpE (l:List Vr)(t:Int)(rs:List Rt)(C:l.length<=1000):(∀ x∈Zi9 l t rs,vrSm x)/\(Zi9 l t rs).length<=1000000:=by
 unfold Zi9;split
 . rename_i B;refine ⟨vs_sm (Z0B.2 (Zth B).2.1),?_⟩;simp;omega
 . simp
theorem Zia (l:List Vr)(t:Int)(rs:List Rt)(q:Qt)(p:Int)(V RV U:Value)(w:World)(hv:VssV w w.heap.size V l)(hr:RtsV w w.heap.size RV rs)(hU:QtV w w.heap.size U q) (ce:∀ x∈[q.ver,q.time,q.total,q.keep,q.ask.kind,q.ask.fr,q.ask.un,q.ask.pers,q.sE,q.sS]++q.nights,-9223372036854775808<=x/\x<=9223372036854775807) (Y:q.dig<18446744073709551616) (m:Tabs w.heap.size w) (hM:Mx w w.heap.size) : Calls prog 3 #[V,vI t,RV,U,vI p] w λe w'=>e=.returned (.bool true)/\Below w.heap.size w w':=by
 obtain ⟨A,c,rfl,_⟩:=id hv;obtain ⟨A2,c2,rfl,_⟩:=id hr;obtain ⟨J,L,rfl,hI⟩:=Z4c hU;have cj:=(zr w.heap.size w).alloc (zn _) (.cells (qtC q (slice J q.nights.length L)) 31);have bu:=QbK.new (q:=q) hI;obtain ⟨x,b0,e0,hx,b3⟩:=Zsd l t;have bp:=ZpE l t rs;have ct:=λh=>Zi8 ce Y h;have M:=λW (hb:Below w.heap.size w W)=>(hv.on hb).up hb.size;have f:=λW (hb:Below w.heap.size w W)=>(hr.on hb).up hb.size;have bd:=λh W (hb:Below w.heap.size w W)=>(Z8i l t rs _ _ W (M W hb) (f W hb) h (Z0v m hb)).mono λe w' h=>ZcH h;have r:=λh W (hb:Below w.heap.size w W)=>(Zer l t rs _ _ W (M W hb) (f W hb) h).mono λe w' h=>ZcH h;have B:=λh hn W (hb:Below w.heap.size w W) (hQ:QbK w.heap.size q (slice J q.nights.length L) W)=>Z5m l q p _ _ W (M W hb) hQ.v h (ct hn) Y (by omega) (Z0v m hb);have bm:=λh (hn:q.nights.length<=100) W (hb:Below w.heap.size w W) (hQ:QbK w.heap.size q (slice J q.nights.length L) W)=>Zbd l q p _ _ W (M W hb) hQ.v h Y (by omega);obtain ⟨⟨h1,h2,h3⟩,hh⟩:∃ x,honV l q p=x:=⟨_,rfl⟩
 rw [hh] at B bm;obtain ⟨PL,cf⟩:∃ x,Zi9 l t rs=x:=⟨_,rfl⟩
 rw [cf] at bp bd r;obtain ⟨pe,b8⟩:∃ x,Z4z l t rs=x:=⟨_,rfl⟩
 rw [b8] at bd r;obtain ⟨k0,k1,k2,Z,y,d,k6,k7,H,k9,bf,j⟩:=bu.all;have cO:=Z0A q J q.nights.length L;obtain ⟨X,HR,ba,cm,bN,HT,HM,HX,cC,cK,cE,cB,cL⟩:=zh13 M f cj bu bp m hM hx b3 bd r B bm;clear M f cj bu bp m hM hx b3 bd r B bm hv hr hU hI ce ct Y hh cf b8;go_enter func3,ntmps3;go_wp2_with fail;generalize w.alloc (.cells (qtC q (slice J q.nights.length L)) 31)=w1 at *
 clear k0 k1 k2 Z y d k6 k7 H k9 bf j;refine (ZhC w1 (Z0v HT.o ba.o) (Zng HM.o ba.o)).mono ?_;rintro e w2 ⟨rfl,bs⟩;have br:=zh (Z00 ba.o bs);have cu:=zh (cm.o.on bs);clear bs ba cm;go_wp2_with fail;refine (Zm9 l _ w2 (X.o w2 br.o)).mono ?_;rintro e w3 ⟨⟨b,rfl,hb⟩,bj⟩;have be:=zh (Z00 br.o bj);have b2:=zh (cu.o.on bj);clear bj br cu;cases b with
 | false =>clear hb;go_wp2_with fail;go_ret;exact ⟨rfl,be.o⟩
 | true =>
 have hl:=hb rfl;clear hb;go_wp2_with fail;refine (Zcx rs _ w3 (HR.o w3 be.o)).mono ?_;rintro e w4 ⟨⟨b,rfl⟩,bH⟩;have bt:=b2.o.on bH;have H:=bt.c 8 (slice J q.nights.length L) rfl;have I:=zh (Z00 be.o bH);have cb:=zh bt;clear bt bH be b2;cases b with
 | false =>go_wp2_with fail;go_ret;exact ⟨rfl,I.o⟩
 | true =>
 by_cases hn:100<q.nights.length
 . have d1:decide ((100:Int)<q.nights.length)=true:=by simp;omega
   go_wp2_with fail;go_ret;exact ⟨rfl,I.o⟩
 have d1:decide ((100:Int)<q.nights.length)=false:=by simp;omega
 have bM:q.nights.length<=100:=by omega
 clear hn;have C:=Zh0 l t _ w4 (X.o w4 I.o) (by omega) (Z0v HT.o I.o);rw [HX.o] at C;have T:=zh C;clear C;go_wp2_with fail;refine T.o.mono ?_;rintro e w5 ⟨XV,rfl,hX,bG⟩;obtain ⟨D,c5,rfl,b5⟩:=hX;rw [show vrV x (slice D x.rs.length c5)=.agg #[vI x.num,vI x.time,slice D x.rs.length c5] from rfl];have bh:=Z00 I.o bG;have cr:=cb.o.on bG;have b9:VxB w5.heap.size x (slice D x.rs.length c5) (w5.alloc (.cells #[vI x.num,vI x.time,slice D x.rs.length c5] 36)):=VxB.new b5;have cc:=zh b9;have bx:=zh (bh.alloc bh.size (.cells #[vI x.num,vI x.time,slice D x.rs.length c5] 36));have ca:=zh (cr.on ((zr w5.heap.size w5).alloc (zn _) (.cells #[vI x.num,vI x.time,slice D x.rs.length c5] 36)));clear b9 bh cr bG b5 I cb T H;dsimp only;go_upto_region 5 with (refine wpList_store_vrn rfl _ _ rfl _ _ rfl rfl rfl rfl rfl ?_);generalize w5.alloc (.cells #[vI x.num,vI x.time,slice D x.rs.length c5] 36)=w6 at *
 have C:=Zma l t _ w6 (X.o w6 bx.o) (by omega);rw [HX.o] at C;have T:=zh C;clear C;go_wp2_with fail;refine T.o.mono ?_;rintro e S ⟨YV,rfl,hY,bg⟩;obtain ⟨G,F,rfl,bQ⟩:=hY;rw [show vrV x (slice G x.rs.length F)=.agg #[vI x.num,vI x.time,slice G x.rs.length F] from rfl];have bq:=Z00 bx.o bg;have bX:=ca.o.on bg;have bV:=cc.o.on bg;have cy:VxB S.heap.size x (slice G x.rs.length F) (S.alloc (.cells #[vI x.num,vI x.time,slice G x.rs.length F] 36)):=VxB.new bQ;have ha:=(zr S.heap.size S).alloc (zn _) (.cells #[vI x.num,vI x.time,slice G x.rs.length F] 36);have bR:=zh (bV.on ha);have ck:=zh cy;have bb:=zh (bq.alloc bq.size (.cells #[vI x.num,vI x.time,slice G x.rs.length F] 36));have bL:=zh (bX.on ha);clear cy bq bX bg bQ bx ca T cc bV ha;dsimp only;go_upto_region 6 with (refine wpList_store_vrn rfl _ _ rfl _ _ rfl rfl rfl rfl rfl ?_);generalize S.alloc (.cells #[vI x.num,vI x.time,slice G x.rs.length F] 36)=w8 at *
 have b6:=Z3g l _ w8 (X.o w8 bb.o) (by omega) (Z0v HT.o bb.o);have cn:=λW (hb:Below w.heap.size w W)=>Z3y l _ W (X.o W hb) (by omega);generalize vsB l=bv at *
 have bW:=zh b6;have cz:=zh cn;clear b6 cn;go_wp2_with fail;refine bW.o.mono ?_;rintro e w9 ⟨rfl,N⟩;have bS:=zh (bR.o.on N);have b1:=zh (ck.o.on N);have bD:=zh (Z00 bb.o N);have bJ:=zh (bL.o.on N);clear N bR ck bb bL bW;go_wp2_with fail;refine (cz.o _ bD.o).mono ?_;rintro e cG ⟨rfl,O⟩;have hX10:=bS.o.on O;have g:=b1.o.on O;obtain ⟨z0,z1,z2⟩:=hX10.cells;obtain ⟨c0,c1,c2⟩:=g.cells;have cH:=zh hX10;have cD:=zh g;have bY:=zh (Z00 bD.o O);have cg:=zh (bJ.o.on O);have bT:=zh (Zaa x _ _ cG hX10.v g.v cC.o);clear hX10 g O bS b1 bD bJ cz;generalize x.num=cP at *
 generalize x.time=cQ at *
 generalize x.rs.length=rl at *
 cases bv
 all_goals
  go_wp2_with fail;refine bT.o.mono ?_;rintro e cA ⟨rfl,bA⟩;have bC:=zh (Z00 bY.o bA);have bU:=zh (cg.o.on bA);clear bA bY cg cH cD bT z0 z1 z2 c0 c1 c2;cases b0
  all_goals go_wp2_with fail;refine (cK.o (by omega) cA bC.o).mono ?_;rintro e cN ⟨SV,rfl,hS,bB⟩;have bI:=zh (Z00 bC.o bB);have b4:=zh (bU.o.on bB);have HS:=zh hS;clear hS bB bC bU;go_wp2_with fail;refine (cE.o (by omega) cN bI.o).mono ?_;rintro e cI ⟨SU,rfl,cd,R⟩;have bO:=zh (Z00 bI.o R);have bP:=zh (b4.o.on R);have b7:=zh (Zkx PL _ _ cI ((HS.o.on R).up R.size) cd (bN.o (by omega)).1 (bN.o (by omega)).2);clear R bI b4 HS cd;go_wp2_with fail;refine b7.o.mono ?_;rintro e cJ ⟨rfl,bF⟩;have bz:=Z00 bO.o bF;have bc:=bP.o.on bF;obtain ⟨k0,k1,k2,Z,y,d,k6,k7,H,k9,bf,j⟩:=bc.all;have B:=cB.o (by omega) bM cJ bz bc;unfold qtC HonP at B;obtain ⟨ch,bK,cs⟩:=zh3 bz bc B;clear bz bc B bF bO bP b7;go_wp2_with fail;refine cs.o.mono ?_;rintro e cM ⟨rfl,bk⟩;have bE:=Z00 ch.o bk;have bn:=bK.o.on bk;clear k0 k1 k2 Z y d k6 k7 H k9 bf j;obtain ⟨k0,k1,k2,Z,y,d,k6,k7,H,k9,bf,j⟩:=bn.all;have B:=cL.o (by omega) bM cM bE bn;unfold qtC HonP at B;have bZ:=zh bE;have cv:=zh B;clear bE B bk ch bK cs bn;go_wp2_with fail;refine cv.o.mono ?_;rintro e cR ⟨rfl,cx⟩;have cF:=zh (Z00 bZ.o cx);clear cx bZ cv;go_wp2_with fail;go_ret;exact ⟨rfl,cF.o⟩
end
section
open Go.ChangeShapes Go.WideShapes Go.ChangeAt Go.RowKit Go.Deep Lx Px Qx
theorem Zmb {H:Type}{enc:TypeId × Value->H}{W:World}{base:Nat}{v:Value}{d:DataW H}{p:List MemPlace}(_hval:Value.okWide prog W .any base 22 v) (h:DataW.Trod enc prog W 0 (λ_=>true) true 22 v d p):∃ l:List Vr,VssV W W.heap.size v l/\∀ x∈l,∀ n∈[x.num,x.time],-9223372036854775808<=n/\n<=9223372036854775807:=by
 obtain ⟨A,T,m,rfl⟩:=okWide_slice underlying22 _hval;obtain ⟨ba,Y⟩:=h;rcases DataW.trod_slice underlying22 Y with ⟨G,_⟩ | ⟨a,bd,cap,be,rest,n,bf,F,bb,hb,hl,hm,bc,f,r,y⟩
 . simp [Value.cells] at G;obtain ⟨rfl,rfl,rfl⟩:=G;exact ⟨[],VssV.nil _ _ _,λx F=>by simp at F⟩
 . simp [Value.cells] at F;obtain ⟨rfl,rfl,rfl⟩:=F;obtain ⟨rs,U,M⟩:=Z92 (λi (x:Vr)=>∃ C D,RtsV W W.heap.size (slice C x.rs.length D) x.rs/\W.cell? ((a.add (i*3)).add 0)=some (vI x.num)/\W.cell? ((a.add (i*3)).add 1)=some (vI x.time)/\W.cell? ((a.add (i*3)).add 2)=some (slice C x.rs.length D)/\∀ n∈[x.num,x.time],-9223372036854775808<=n/\n<=9223372036854775807) T (λk hk=>by have he:=f k hk;rw [zv (by omega),Option.bind_eq_some_iff] at he;obtain ⟨q,B,X⟩:=he;obtain ⟨x,C,D,rfl,j,V⟩:=ZpH X;rw [Tryz.cellsVer] at B;obtain ⟨_,_,L⟩:=World.cells?_some B;exact ⟨x,C,D,j,L 0 (by omega),L 1 (by omega),L 2 (by omega),V⟩);refine ⟨rs,⟨some a,m,by rw [U],by omega,λhne=>?_⟩,λx F=>?_⟩
   . have G:0<rs.length:=List.length_pos_iff.2 hne;obtain ⟨_,_,_,B,_⟩:=M 0 G;rw [Go.Deep.add_add] at B;have Z:a.add (0*3+0)=a:=rfl;rw [Z] at B;have R:=Z6B B;refine ⟨a.block,a.off,by cases a;cases R;rfl,Z8D B,λi N=>?_⟩;obtain ⟨C,D,S,I,J,O,_⟩:=M i N;rw [Go.Deep.add_add,Zgb R] at I J O;exact ⟨C,D,S,I,J,O⟩
   . obtain ⟨i,N,rfl⟩:=List.getElem_of_mem F;obtain ⟨C,D,S,I,J,O,g⟩:=M i N;exact g
theorem Zib {H:Type}{enc:TypeId × Value->H}{W:World}{base:Nat}{v:Value}{d:DataW H}{p:List MemPlace}(_hval:Value.okWide prog W .any base 23 v) (h:DataW.Trod enc prog W 0 (λ_=>true) true 23 v d p):∃ l:List Rt,RtsV W W.heap.size v l:=by
 obtain ⟨y,N,Y,rfl⟩:=okWide_slice underlying23 _hval;obtain ⟨ba,V⟩:=h;rcases DataW.trod_slice underlying23 V with ⟨D,_⟩ | ⟨a,bd,cap,be,rest,n,bf,I,bb,hb,hl,hm,bc,X,g,q⟩
 . simp [Value.cells] at D;obtain ⟨rfl,rfl,rfl⟩:=D;exact ⟨[],RtsV.nil _ _⟩
 . simp [Value.cells] at I;obtain ⟨rfl,rfl,rfl⟩:=I;obtain ⟨rs,S,L⟩:=Z92 (λi (r:Rt)=>RtAt W W.heap.size (a.add (i*16)) r/\a.block<W.heap.size) N (λk hk=>by
    have he:=X k hk;rw [zv (by omega),Option.bind_eq_some_iff] at he;obtain ⟨Z,C,U⟩:=he;obtain ⟨r,A,f,m,pc,rfl,T,M⟩:=Z9n U;rw [Tryz.cellsRate] at C;obtain ⟨_,_,J⟩:=World.cells?_some C;have B:=J 0 (by omega);have R:a.block<W.heap.size:=by have:=Z8D B;rw [Z10,Z10] at this;exact this
    have F:(a.add (k*16)).spot=none:=by rw [Go.Deep.add_add] at B;exact Z6B B
    refine ⟨r,⟨F,_,_,λj u hj=>?_,T,M⟩,R⟩;have O:j<16:=by have:=(List.getElem?_eq_some_iff.1 hj).1;simpa [Z3G] using this
    have G:=J j O;rw [Go.Deep.add_add,Z82 F] at G;exact G.trans hj)
   exact ⟨rs,some a,Y,by rw [S],λi hi=>⟨a,rfl,(L i hi).2,(L i hi).1⟩⟩
end
