import Derived.Test.YtnepkoepbapgeaaGreatDoorPrtR2
namespace Go.Proofs.YtnepkoepbapgeaaGreatDoor
open _root_.Go.Proofs.Tryz
open Value (int slice)
open IntKind (i64)
set_option maxHeartbeats 4000000
set_option maxRecDepth 100000
section
open Go.RowKit Lx Px
theorem ZjD (r:Rt)(wv pv:Value)(w:World)(B:Nat)(bc:FoV w B wv r.wl)(bb:FoV w B pv r.pl)(bg:B<=w.heap.size) : Calls prog 103 #[rtV r wv pv] w (Z58 r w):=by
 have cR:=bc;have ct:=bb;obtain ⟨d,j,rfl,cV⟩:=cR;obtain ⟨Z,f,rfl,cL⟩:=ct;have bf:=zh bc;have bd:=zh bb;clear bc bb cV cL;obtain ⟨G,J,O,fr,S,H,I,N,Y,X,L,M,D,U,V,F⟩:=r;suffices hall:∀ R:Rt,R=⟨G,J,O,fr,S,H,I,N,Y,X,L,M,D,U,V,F⟩->Calls prog 103 #[.agg #[int i64 G,int i64 J,int i64 O,int i64 fr,int i64 S,int i64 H,int i64 I,int i64 N,int i64 Y,int i64 X,int i64 L,int i64 M,slice d (flen D) j,int i64 U,int i64 V,slice Z (flen F) f]] w (Z58 R w) from hall _ rfl;intro R hR;have bc:FoV w B (slice d (flen D) j) D:=bf.out;have bb:FoV w B (slice Z (flen F) f) F:=bd.out;clear bf bd;have bf:=zh bc;have bd:=zh bb;have cf:∀ W:World,FoV W B (slice d (flen D) j) D->FoV W B (slice Z (flen F) f) F->B<=W.heap.size->Calls prog 88 #[.agg #[int i64 G,int i64 J,int i64 O,int i64 fr,int i64 S,int i64 H,int i64 I,int i64 N,int i64 Y,int i64 X,int i64 L,int i64 M,slice d (flen D) j,int i64 U,int i64 V,slice Z (flen F) f]] W λe w'=>e=.returned (.bool R.can)/\Below W.heap.size W w':=by intro W h1 h2 h3;rw [hR];exact ZiD ⟨G,J,O,fr,S,H,I,N,Y,X,L,M,D,U,V,F⟩ (slice d (flen D) j) (slice Z (flen F) f) W B h1 h2 h3
 have bX:=zh cf;have HR:=zh hR;clear hR bc bb cf;have bE:=(zr w.heap.size w).alloc (zn _) (.cells #[int i64 G,int i64 J,int i64 O,int i64 fr,int i64 S,int i64 H,int i64 I,int i64 N,int i64 Y,int i64 X,int i64 L,int i64 M,slice d (flen D) j,int i64 U,int i64 V,slice Z (flen F) f] 65);have bB:=za w (.cells #[int i64 G,int i64 J,int i64 O,int i64 fr,int i64 S,int i64 H,int i64 I,int i64 N,int i64 Y,int i64 X,int i64 L,int i64 M,slice d (flen D) j,int i64 U,int i64 V,slice Z (flen F) f] 65);have H0:Hid (Z3f w #[int i64 G,int i64 J,int i64 O,int i64 fr,int i64 S,int i64 H,int i64 I,int i64 N,int i64 Y,int i64 X,int i64 L,int i64 M,slice d (flen D) j,int i64 U,int i64 V,slice Z (flen F) f] (w.alloc (.cells #[int i64 G,int i64 J,int i64 O,int i64 fr,int i64 S,int i64 H,int i64 I,int i64 N,int i64 Y,int i64 X,int i64 L,int i64 M,slice d (flen D) j,int i64 U,int i64 V,slice Z (flen F) f] 65))):=⟨bB,bE⟩
 clear bE bB;go_enter func103,ntmps103;go_wp2_with fail;refine (bX.out _ (bf.out.on (H0.out.2.mono bg)) (bd.out.on (H0.out.2.mono bg)) (by simp;omega)).mono ?_;rintro e w1 ⟨rfl,bC⟩;have H1:=zh (H0.out.on bC);clear bC H0 bX;cases hcn:R.can with
 | false =>
  have be:R.res=([],1):=by simp [Rt.res,hcn]
  have bx:=zh be;clear be hcn;go_wp2_with fail;go_ret2;refine ⟨?_,H1.out.2⟩;rw [bx.out];rfl
 | true =>
  have be:R.res=(R.text,0):=by simp [Rt.res,hcn]
  have bx:=zh be;obtain ⟨hN,b5,cn,bm,bM,b1⟩:[G,J,O,fr,S,H,I,N].all numB=true/\ratB Y X=true/\100 % X=0/\numB (100 / X*Y)=true/\Z0i L M D=true/\Z0i U V F=true:=by rw [HR.out] at hcn;simp only [Rt.can,Rt.nums,Rt.pct,zd,beq_iff_eq] at hcn;exact ⟨hcn.1.1.1,hcn.1.1.2.1,hcn.1.1.2.2,hcn.1.2,hcn.2.1,hcn.2.2⟩
  have g:=Z6B b5;obtain ⟨h1,h2,h3,h4⟩:=g;obtain ⟨q,g⟩:∃ q,q=100 / X:=⟨_,rfl⟩
  obtain ⟨l,hp⟩:∃ p,p=q*Y:=⟨_,rfl⟩
  rw [<- g,<- hp] at bm;simp only [List.all_cons,List.all_nil,Bool.and_true,zd,numB,decide_eq_true_eq] at hN bm;obtain ⟨n0,n1,n2,n3,n4,n5,n6,n7⟩:=hN;have dN:0<=q/\q<=100:=by rw [g];exact ⟨Int.ediv_nonneg (by omega) (by omega),Int.ediv_le_self _ (by omega)⟩
  have e1:(100:Int).tdiv X=q:=by rw [Int.tdiv_eq_ediv_of_nonneg (by omega),g]
  have e2:(100:Int) / X=q:=g.symm;have e3:IntKind.i64.wrap q=q:=zi _ (by omega);have e4:IntKind.i64.wrap (Y*q)=l:=by rw [Int.mul_comm,<- hp];exact zi _ (by omega)
  have dO:¬ X=0:=by omega
  have ce:R.pct=l:=by rw [HR.out,hp,g];rfl
  obtain ⟨bu,bt,dL⟩:=Z2k bM;obtain ⟨br,bq,dC⟩:=Z2k b1;have dS:=Z2C L M D bu bt;have dy:=Z2C U V F br bq;have FW:=zh (And.intro bu bt);have FP:=zh (And.intro br bq);have cr:=zh ce;have hE:=zh (And.intro e1 (And.intro e2 (And.intro e3 e4)));clear be hcn b5 cn bM b1 g hp bu bt br bq ce e1 e2 e3 e4;have dM:(mk (dec G)).size<=13:=by rw [Z09];exact Z0t G n0.1 (by omega)
  have dR:(mk (dec J)).size<=13:=by rw [Z09];exact Z0t J n1.1 (by omega)
  have dG:(mk (dec O)).size<=13:=by rw [Z09];exact Z0t O n2.1 (by omega)
  have dP:(mk (dec fr)).size<=13:=by rw [Z09];exact Z0t fr n3.1 (by omega)
  have dE:(mk (dec S)).size<=13:=by rw [Z09];exact Z0t S n4.1 (by omega)
  have dF:(mk (dec H)).size<=13:=by rw [Z09];exact Z0t H n5.1 (by omega)
  have dK:(mk (dec I)).size<=13:=by rw [Z09];exact Z0t I n6.1 (by omega)
  have dV:(mk (dec N)).size<=13:=by rw [Z09];exact Z0t N n7.1 (by omega)
  have dI:(mk (dec l)).size<=13:=by rw [Z09];exact Z0t l bm.1 (by omega)
  have c0:w1.cell? ⟨w.heap.size,0,none⟩=some (int i64 G):=H1.out.cell 0 _ rfl;have c1:w1.cell? ⟨w.heap.size,1,none⟩=some (int i64 J):=H1.out.cell 1 _ rfl;have c2:w1.cell? ⟨w.heap.size,2,none⟩=some (int i64 O):=H1.out.cell 2 _ rfl;have ds:¬ 9223372036854775807<5+(mk (dec G)).size:=by omega
  have dd:¬ 9223372036854775807<5+(mk (dec G)).size+7:=by omega
  have da:¬ 9223372036854775807<5+(mk (dec G)).size+7+(mk (dec J)).size:=by omega
  have dh:¬ 9223372036854775807<5+(mk (dec G)).size+7+(mk (dec J)).size+6:=by omega
  have df:¬ 9223372036854775807<5+(mk (dec G)).size+7+(mk (dec J)).size+6+(mk (dec O)).size:=by omega
  go_wp2_with fail;have bN:True:=trivial;have bH:True:=trivial;have bV:True:=trivial;go_region_held3 (λw'=>w'.cell? ⟨w.heap.size,0,none⟩=some (int i64 G)/\w'.cell? ⟨w.heap.size,1,none⟩=some (int i64 J)/\w'.cell? ⟨w.heap.size,2,none⟩=some (int i64 O)) (first | with_reducible exact ⟨c0,c1,c2⟩ | with_reducible exact ⟨bS,cd,bT⟩ | with_reducible exact ⟨bJ,b7,bY⟩ | with_reducible exact ⟨bL,bP,ch⟩ | go_keep) (first
    | (go_at_call_of 142 (Value.int IntKind.i64 G);have _t:=bN;refine (Z0u G _ n0.1 (by omega)).mono ?_;rintro e du ⟨rfl,hb⟩;have C:=H1.out.on (((zr _ _).drew).trans hb);have bS:=C.cell 0 _ rfl;have cd:=C.cell 1 _ rfl;have bT:=C.cell 2 _ rfl;have dm:=zh C;clear hb C bN)
    | (go_at_call_of 142 (Value.int IntKind.i64 J);have _t:=bH;refine (Z0u J _ n1.1 (by omega)).mono ?_;rintro e dA ⟨rfl,hb⟩;have C:=dm.out.on (hb);have bJ:=C.cell 0 _ rfl;have b7:=C.cell 1 _ rfl;have bY:=C.cell 2 _ rfl;have dr:=zh C;clear hb C bH)
    | (go_at_call_of 142 (Value.int IntKind.i64 O);have _t:=bV;refine (Z0u O _ n2.1 (by omega)).mono ?_;rintro e b0 ⟨rfl,hb⟩;have C:=dr.out.on (hb);have bL:=C.cell 0 _ rfl;have bP:=C.cell 1 _ rfl;have ch:=C.cell 2 _ rfl;have bv:=zh C;clear hb C bV))
  clear c0 c1 c2 bS cd bT bJ b7 bY bL bP ch ds dd da dh df;obtain ⟨T3,bp⟩:∃ T:ByteArray,T=⟨#[114,97,116,101,32]⟩++mk (dec G)++⟨#[32,108,101,118,101,108,32]⟩++mk (dec J)++⟨#[32,107,105,110,100,32]⟩++mk (dec O):=⟨_,rfl⟩
  rw [<- bp];have dU:T3.size<=1000:=by
   have g:T3.size=5+(mk (dec G)).size+7+(mk (dec J)).size+6+(mk (dec O)).size:=by rw [bp];simp only [ByteArray.size_append];rfl
   omega
  have cB:=zh bp;clear bp;go_wp2_with fail;have c3:b0.cell? ⟨w.heap.size,3,none⟩=some (int i64 fr):=bv.out.cell 3 _ rfl;have c4:b0.cell? ⟨w.heap.size,4,none⟩=some (int i64 S):=bv.out.cell 4 _ rfl;have cN:¬ 9223372036854775807<T3.size+8:=by omega
  have cM:¬ 9223372036854775807<T3.size+8+(mk (dec fr)).size:=by omega
  have cZ:¬ 9223372036854775807<T3.size+8+(mk (dec fr)).size+4:=by omega
  have cI:¬ 9223372036854775807<T3.size+8+(mk (dec fr)).size+4+(mk (dec S)).size:=by omega
  have bO:True:=trivial;have bD:True:=trivial;go_region_held3 (λw'=>w'.cell? ⟨w.heap.size,3,none⟩=some (int i64 fr)/\w'.cell? ⟨w.heap.size,4,none⟩=some (int i64 S)) (first | with_reducible exact ⟨c3,c4⟩ | with_reducible exact ⟨cg,bR⟩ | with_reducible exact ⟨bQ,bI⟩ | go_keep) (first
    | (go_at_call_of 142 (Value.int IntKind.i64 fr);have _t:=bO;refine (Z0u fr _ n3.1 (by omega)).mono ?_;rintro e dQ ⟨rfl,hb⟩;have C:=bv.out.on (((zr _ _).drew).trans hb);have cg:=C.cell 3 _ rfl;have bR:=C.cell 4 _ rfl;have dj:=zh C;clear hb C bO)
    | (go_at_call_of 142 (Value.int IntKind.i64 S);have _t:=bD;refine (Z0u S _ n4.1 (by omega)).mono ?_;rintro e bz ⟨rfl,hb⟩;have C:=dj.out.on (hb);have bQ:=C.cell 3 _ rfl;have bI:=C.cell 4 _ rfl;have bn:=zh C;clear hb C bD))
  clear c3 c4 cg bR bQ bI cN cM cZ cI;obtain ⟨m,bj⟩:∃ T:ByteArray,T=T3++⟨#[32,110,105,103,104,116,115,32]⟩++mk (dec fr)++⟨#[32,116,111,32]⟩++mk (dec S):=⟨_,rfl⟩
  rw [<- bj];have dB:m.size<=2000:=by
   have g:m.size=T3.size+8+(mk (dec fr)).size+4+(mk (dec S)).size:=by rw [bj];simp only [ByteArray.size_append];rfl
   omega
  have cP:=zh bj;clear bj;go_wp2_with fail;have c5:bz.cell? ⟨w.heap.size,5,none⟩=some (int i64 H):=bn.out.cell 5 _ rfl;have c6:bz.cell? ⟨w.heap.size,6,none⟩=some (int i64 I):=bn.out.cell 6 _ rfl;have c7:bz.cell? ⟨w.heap.size,7,none⟩=some (int i64 N):=bn.out.cell 7 _ rfl;have dg:¬ 9223372036854775807<m.size+6:=by omega
  have ck:¬ 9223372036854775807<m.size+6+(mk (dec H)).size:=by omega
  have cF:¬ 9223372036854775807<m.size+6+(mk (dec H)).size+4:=by omega
  have cs:¬ 9223372036854775807<m.size+6+(mk (dec H)).size+4+(mk (dec I)).size:=by omega
  have cm:¬ 9223372036854775807<m.size+6+(mk (dec H)).size+4+(mk (dec I)).size+8:=by omega
  have cO:¬ 9223372036854775807<m.size+6+(mk (dec H)).size+4+(mk (dec I)).size+8+(mk (dec N)).size:=by omega
  have bK:True:=trivial;have b6:True:=trivial;have bZ:True:=trivial;go_region_held3 (λw'=>w'.cell? ⟨w.heap.size,5,none⟩=some (int i64 H)/\w'.cell? ⟨w.heap.size,6,none⟩=some (int i64 I)/\w'.cell? ⟨w.heap.size,7,none⟩=some (int i64 N)) (first | with_reducible exact ⟨c5,c6,c7⟩ | with_reducible exact ⟨bU,bA,bG⟩ | with_reducible exact ⟨b2,b3,cb⟩ | with_reducible exact ⟨b4,cj,b8⟩ | go_keep) (first
    | (go_at_call_of 142 (Value.int IntKind.i64 H);have _t:=bK;refine (Z0u H _ n5.1 (by omega)).mono ?_;rintro e dH ⟨rfl,hb⟩;have C:=bn.out.on (((zr _ _).drew).trans hb);have bU:=C.cell 5 _ rfl;have bA:=C.cell 6 _ rfl;have bG:=C.cell 7 _ rfl;have dc:=zh C;clear hb C bK)
    | (go_at_call_of 142 (Value.int IntKind.i64 I);have _t:=b6;refine (Z0u I _ n6.1 (by omega)).mono ?_;rintro e dW ⟨rfl,hb⟩;have C:=dc.out.on (hb);have b2:=C.cell 5 _ rfl;have b3:=C.cell 6 _ rfl;have cb:=C.cell 7 _ rfl;have dk:=zh C;clear hb C b6)
    | (go_at_call_of 142 (Value.int IntKind.i64 N);have _t:=bZ;refine (Z0u N _ n7.1 (by omega)).mono ?_;rintro e b9 ⟨rfl,hb⟩;have C:=dk.out.on (hb);have b4:=C.cell 5 _ rfl;have cj:=C.cell 6 _ rfl;have b8:=C.cell 7 _ rfl;have bs:=zh C;clear hb C bZ))
  clear c5 c6 c7 bU bA bG b2 b3 cb b4 cj b8 dg ck cF cs cm cO;obtain ⟨A,bk⟩:∃ T:ByteArray,T=m++⟨#[32,115,116,97,121,32]⟩++mk (dec H)++⟨#[32,116,111,32]⟩++mk (dec I)++⟨#[32,97,114,114,105,118,101,32]⟩++mk (dec N):=⟨_,rfl⟩
  rw [<- bk];have dD:A.size<=3000:=by
   have g:A.size=m.size+6+(mk (dec H)).size+4+(mk (dec I)).size+8+(mk (dec N)).size:=by rw [bk];simp only [ByteArray.size_append];rfl
   omega
  have cv:=zh bk;clear bk;go_wp2_with fail;have c8:b9.cell? ⟨w.heap.size,8,none⟩=some (int i64 Y):=bs.out.cell 8 _ rfl;have c9:b9.cell? ⟨w.heap.size,9,none⟩=some (int i64 X):=bs.out.cell 9 _ rfl;have cx:¬ 9223372036854775807<A.size+6:=by omega
  have cS:¬ 9223372036854775807<A.size+6+(mk (dec l)).size:=by omega
  have cW:¬ 9223372036854775807<A.size+6+(mk (dec l)).size+1:=by omega
  obtain ⟨e1,e2,e3,e4⟩:=hE.out;have bF:True:=trivial;go_region_held3 (λw'=>w'.cell? ⟨w.heap.size,8,none⟩=some (int i64 Y)/\w'.cell? ⟨w.heap.size,9,none⟩=some (int i64 X)) (first | with_reducible exact ⟨c8,c9⟩ | with_reducible exact ⟨cc,bW⟩ | go_keep) (first
    | (go_at_call_of 142 (Value.int IntKind.i64 l);have _t:=bF;refine (Z0u l _ bm.1 (by omega)).mono ?_;rintro e ba ⟨rfl,hb⟩;have C:=bs.out.on (((zr _ _).drew).trans hb);have cc:=C.cell 8 _ rfl;have bW:=C.cell 9 _ rfl;have y:=zh C;clear hb C bF))
  clear c8 c9 cc bW cx cS cW  e1 e2 e3 e4;obtain ⟨T6,bh⟩:∃ T:ByteArray,T=A++⟨#[32,107,101,101,112,32]⟩++mk (dec l)++⟨#[37]⟩:=⟨_,rfl⟩
  rw [<- bh];have dJ:T6.size<=4000:=by
   have g:T6.size=A.size+6+(mk (dec l)).size+1:=by rw [bh];simp only [ByteArray.size_append];rfl
   omega
  have dq:=zh bh;clear bh;go_wp2_with fail;have kW:(mk (textE L M D)).size<=5000:=by rw [Z09];omega
  have kP:(mk (textE U V F)).size<=5000:=by rw [Z09];omega
  have dz:¬ 9223372036854775807<T6.size+6:=by omega
  have dT:¬ 9223372036854775807<T6.size+6+(mk (textE L M D)).size:=by omega
  have dv:¬ 9223372036854775807<T6.size+6+(mk (textE L M D)).size+7:=by omega
  have dY:¬ 9223372036854775807<T6.size+6+(mk (textE L M D)).size+7+(mk (textE U V F)).size:=by omega
  have dx:¬ 9223372036854775807<T6.size+6+(mk (textE L M D)).size+7+(mk (textE U V F)).size+1:=by omega
  have dp:ba.cell? ⟨w.heap.size,10,none⟩=some (int i64 L):=y.out.cell 10 _ rfl;have cH:ba.cell? ⟨w.heap.size,11,none⟩=some (int i64 M):=y.out.cell 11 _ rfl;have db:ba.cell? ⟨w.heap.size,12,none⟩=some (slice d (flen D) j):=y.out.cell 12 _ rfl;have cT:ba.cell? ⟨w.heap.size,13,none⟩=some (int i64 U):=y.out.cell 13 _ rfl;have cG:ba.cell? ⟨w.heap.size,14,none⟩=some (int i64 V):=y.out.cell 14 _ rfl;have de:ba.cell? ⟨w.heap.size,15,none⟩=some (slice Z (flen F) f):=y.out.cell 15 _ rfl;have dt:=y.out.2.size;have ca:True:=trivial;go_region_held3 (λw'=>w'.cell? ⟨w.heap.size,10,none⟩=some (int i64 L)/\w'.cell? ⟨w.heap.size,11,none⟩=some (int i64 M)/\w'.cell? ⟨w.heap.size,12,none⟩=some (slice d (flen D) j)/\w'.cell? ⟨w.heap.size,13,none⟩=some (int i64 U)/\w'.cell? ⟨w.heap.size,14,none⟩=some (int i64 V)/\w'.cell? ⟨w.heap.size,15,none⟩=some (slice Z (flen F) f)) (first | with_reducible exact ⟨dp,cH,db,cT,cG,de⟩ | with_reducible exact ⟨cK,cC,cz,cY,dn,cE⟩ | with_reducible exact ⟨cy,cJ,cD,cU,cA,cQ⟩ | go_keep) (first
    | (go_at_call 143;have _t:=ca;refine (ZbD (L,M) D _ (slice d (flen D) j) B FW.out.1 FW.out.2 (bf.out.on (y.out.2.drew.mono bg)) (by show _<=ba.heap.size;omega) (by omega)).mono ?_;rintro e wa ⟨rfl,hb⟩;have C:=y.out.on (((zr _ _).drew).trans hb);have cK:=C.cell 10 _ rfl;have cC:=C.cell 11 _ rfl;have cz:=C.cell 12 _ rfl;have cY:=C.cell 13 _ rfl;have dn:=C.cell 14 _ rfl;have cE:=C.cell 15 _ rfl;have dX:=C.2.size;have HA:=zh C;clear hb C ca)
    | (go_at_call 143;refine (ZbD (U,V) F _ (slice Z (flen F) f) B FP.out.1 FP.out.2 (bd.out.on (HA.out.2.mono bg)) (by omega) (by omega)).mono ?_;rintro e wb ⟨rfl,hb⟩;have C:=HA.out.on hb;have cy:=C.cell 10 _ rfl;have cJ:=C.cell 11 _ rfl;have cD:=C.cell 12 _ rfl;have cU:=C.cell 13 _ rfl;have cA:=C.cell 14 _ rfl;have cQ:=C.cell 15 _ rfl;have HB:=zh C;clear hb C))
  go_wp2_with fail;go_ret2;refine ⟨?_,HB.out.2⟩;rw [bx.out];refine congrArg (λs=>Ending.returned (.tuple #[.string s,int i64 0])) ?_;rw [<- Zaq (_++⟨#[59]⟩)];refine congrArg mk ?_;have cX:R.text=Z23 (Rt.items ⟨G,J,O,fr,S,H,I,N,Y,X,L,M,D,U,V,F⟩)++textE L M D++[32,112,114,105,99,101,32]++textE U V F++[59]:=by rw [HR.out];rfl
  have cu:Rt.pct ⟨G,J,O,fr,S,H,I,N,Y,X,L,M,D,U,V,F⟩=l:=by rw [<- cr.out,HR.out]
  rw [cX,dq.out,cv.out,cP.out,cB.out];simp only [p_bl_append,Z3m,Rt.items,Z23,Z74,cu,List.append_assoc];rfl
end
section
open Go.RowKit Lx Px Qx
theorem Z9F (l:List Rt)(k:Nat)(h:k<l.length):Z1C (l.take (k+1))=(Z1C (l.take k)++l[k].text)++[10]:=by
 rw [zT h,Zk5,List.append_assoc]
theorem ZjE (l:List Rt)(D:∀ r∈l,r.can=true):∀ k,(Z1C (l.take k)).length<=10101*k:=by
 intro k;induction k with
 | zero=>simp [Z1C]
 | succ k ih =>
  by_cases h:k<l.length
  · rw [Z9F l k h];have B:=ZaA l[k];have C:l[k].res=(l[k].text,0):=by unfold Rt.res;rw [zp (D _ (List.getElem_mem h))]
    rw [C] at B;dsimp only at B;simp only [zj,zw,zx];omega
  · rw [List.take_of_length_le (by omega)] at ih |-
    omega
structure DvB (w:World) (v:Vr) (rv bv:Value) (t:Bytes) (W:World):Prop where
 x:VxB w.heap.size v rv W
 o:Own8 W (w.heap.size+1) bv t
 b:Below w.heap.size w W
theorem DvB.on {w W B:World}{v:Vr}{rv C:Value}{t:Bytes}(h:DvB w v rv C t W)(hb:Below W.heap.size W B):DvB w v rv C t B:=⟨h.x.on hb,Z2v h.o hb,Z00 h.b hb⟩
theorem DvB.drew {w W:World}{v:Vr}{rv B:Value}{t:Bytes}(h:DvB w v rv B t W):DvB w v rv B t W.drew:=h.on (zr _ _).drew
theorem DvB.alloc {w W:World}{v:Vr}{rv B:Value}{t:Bytes}(h:DvB w v rv B t W)(o:Obj):DvB w v rv B t (W.alloc o):=h.on ((zr _ _).alloc (zn _) _)
theorem ZdE {W:World}(a b:Int):Z03 (W.alloc (.cells #[int i64 a,int i64 b] 3)).drew (W.alloc (.cells #[int i64 a,int i64 b] 3)).drew.heap.size (slice (some ⟨W.heap.size,0,none⟩) 2 2) [a,b]:=by
 have h:=(Z3t (W:=W) a b).on ((zr (W.heap.size+1) (W.alloc (.cells #[int i64 a,int i64 b] 3))).drew);exact h.up (by show W.heap.size+1<=(W.alloc (.cells #[int i64 a,int i64 b] 3)).heap.size;simp)
theorem Zcj {w W B:World}{v:Vr}{rv C:Value}(h:VxB w.heap.size v rv W)(_hb:Below w.heap.size w W)(D:W.grownBy B C.ownBlock)(F:∀ g,C.ownBlock=some g->w.heap.size+1<=g)(G:w.heap.size+1<=W.heap.size):VxB w.heap.size v rv B:=by
 have H:Below (w.heap.size+1) W B:=(zr _ _).grown D G F;exact h.far H (by omega)
theorem Zfj (v:Vr)(V:Value)(w:World)(hV:VrV w w.heap.size V v)(N:v.okB=true) : Calls prog 64 #[V] w λe w'=>e=.returned (.int .u64 (v.dig:Nat))/\Below w.heap.size w w':=by
 obtain ⟨A,c,rfl,j⟩:=hV;obtain ⟨bp,bR,bQ,bN,bL⟩:=ZaE N;have bM:=((Z2d _).1 bp).1;have ba:∀ r∈v.rs,r.can=true:=by simp only [Vr.okB,zd,List.all_eq_true] at N;exact N.2
 obtain ⟨i0,hi,bv,bs,bk⟩:=info_parts Tryz.infoByte;have I:VxB w.heap.size v (slice A v.rs.length c) (w.alloc (.cells #[int i64 v.num,int i64 v.time,slice A v.rs.length c] 24)):=VxB.new j;have hb:=(zr w.heap.size w).alloc (zn _) (.cells #[int i64 v.num,int i64 v.time,slice A v.rs.length c] 24);have l:=ZjE v.rs ba;have f:=λV W h=>Z9D (sumD (Z1C v.rs)) V [v.num,v.time] W h (by simp) (by intro x I;simp only [zD,List.not_mem_nil,or_false] at I;rcases I with rfl | rfl <;> omega);have B:Z54 (sumD (Z1C v.rs)) [v.num,v.time]=v.dig:=rfl;have F:=l v.rs.length;rw [List.take_length] at F;have bm:=λV W h=>Z8E V (Z1C v.rs) W h (by omega);rw [B] at f;generalize v.dig=dg at *
 have HI:=zh hi;have bz:=zh bv;have bj:=zh bs;have bc:=zh bk;have m:=zh I;have HB:=zh hb;have HR:=zh j;have bE:=zh l;have bt:=zh f;have bF:=zh bm;have bD:=zh ba;clear hi bv bs bk I hb j l f bm ba B N bp F;unfold vrV;go_enter func64,ntmps64;go_upto_region 1 with fail;generalize w.alloc (.cells #[int i64 v.num,int i64 v.time,slice A v.rs.length c] 24)=w1 at *
 have bH:w.heap.size+1<=w1.heap.size:=m.out.lt;go_wp2_with fail;go_loopw [3,4] (λo i wr=>∃ k:Nat,k<=v.rs.length/\i=int i64 k/\DvB w v (slice A v.rs.length c) o (Z1C (v.rs.take k)) wr) (λ_ i _=>v.rs.length - (intOf i).toNat)
 case atStart=>exact ⟨0,Nat.zero_le _,rfl,m.out,Z6c _ _,HB.out⟩
 case round =>
  clear m HB bH;obtain ⟨k,hk,rfl,B⟩:=hrel;obtain ⟨X,q,k2⟩:=B.x.cells;have bP:=B.x.lt;by_cases F:k<v.rs.length
  · obtain ⟨g,o,WA,PA,wk,pc,rfl,hg,f1,f2,hc⟩:=Z4q (HR.out.on B.b) F;have HC:=zh (Z5w hc);have hs:=Z9F v.rs k F;have G:=ZjD v.rs[k] (slice WA (flen v.rs[k].wl) wk) (slice PA (flen v.rs[k].pl) pc) wr wr.heap.size (f1.up B.b.size) (f2.up B.b.size) (zn _);have bh:v.rs[k].res=(v.rs[k].text,0):=by unfold Rt.res;rw [zp (bD.out _ (List.getElem_mem F))]
    have R:=ZaA v.rs[k];unfold Z58 at G;rw [bh] at G R;dsimp only at R G;rw [rtV] at G;have bf:=bE.out k;have dl:decide ((k:Int)<(v.rs.length:Int))=true:=by simpa using F
    have j0:(0:Int)<=(k:Int):=by omega
    have j1:(k:Int)<(v.rs.length:Int):=by omega
    generalize v.rs[k].text=C at *
    generalize v.rs[k]=r at *
    generalize Z1C (v.rs.take k)=pre at *
    obtain ⟨L,c1,rfl⟩:=Z26 B.o;have S:=zh B;have HS:=zh hs;have bx:=zh G;have O:=zh R;have T:=zh bf;clear B hs G R bf hc f1 f2 bh;go_wp2_with (with_reducible refine Z2w rfl _ rfl g (o+k*16) rfl _ rfl HC.out ?_);refine bx.out.mono ?_;rintro e w2 ⟨rfl,bn⟩;have Z:=S.out.on bn;have bA:=Z.x.lt;have M:=zh Z;clear Z bn S bx HC X q k2;go_wp2_with (first
     | (at_builtin;refine Lib.wpList_append_own_string _ rfl _ _ 98 9 rfl (w.heap.size+1) 5 i0 underlying98 underlying9 HI.out bz.out bj.out bc.out _ _ _ rfl M.out.o (mk C) rfl (by have:=T.out;have:=O.out;rw [Z5F];unfold maxLen;omega) (by have:=T.out;have:=O.out;rw [Z5F];omega) bA ?_;intro v1 D hown1 d Y;clear Y;rw [Z5E,Z5F] at hown1
        have be:Own8 D (w.heap.size+1) v1 (pre++C):=by (show World.ownsRow _ _ _ _ _ _ _;rw [zj,Lib.byteCells_append];exact hown1)
        have H:∀ g,(Value.slice L pre.length c1).ownBlock=some g->w.heap.size+1<=g:=λg e=>(M.out.o.lt g e).1
        have bu:Below w.heap.size w D:=M.out.b.grown d (by omega) (λg e=>by have:=H g e;omega)
        have y:VxB w.heap.size v (slice (some ⟨g,o,none⟩) v.rs.length c) D:=Zcj M.out.x M.out.b d H bA
        have bO:w.heap.size+1<=D.heap.size:=y.lt
        have bq:=zh be;have br:=zh bu;have bK:=zh y;clear hown1 d be bu y H)
     | (at_builtin;refine wpList_append_own _ rfl _ _ 98 rfl (w.heap.size+1) 5 i0 _ 1 1 underlying98 HI.out bz.out bj.out bc.out rfl (by decide) _ _ _ rfl (bq.out.alloc _) ⟨D.heap.size,0,none⟩ 1 1 [.int .u8 10] rfl rfl (Z5D _ _ _ _ rfl) (by simp [Value.oneCell']) (by have:=T.out;have:=O.out;rw [zj];unfold maxLen;omega) (by have:=T.out;have:=O.out;rw [zj];omega) (by simp;omega) ?_;intro v2 w5 bJ bg Y;clear Y))
    have bC:Own8 w5 (w.heap.size+1) v2 ((pre++C)++[10]):=by show World.ownsRow _ _ _ _ _ _ _;rw [zj,List.length_singleton,Lib.byteCells_append];exact bJ
    have H:∀ g,v1.ownBlock=some g->w.heap.size+1<=g:=λg e=>(bq.out.lt g e).1;have bd:=(zr D.heap.size D).alloc (zn _) (.cells #[.int .u8 10] 5);have bI:Below w.heap.size w w5:=(br.out.alloc (by omega) _).grown bg (by simp;omega) (λg e=>by have:=H g e;omega);have bB:VxB w.heap.size v (slice (some ⟨g,o,none⟩) v.rs.length c) w5:=Zcj (bK.out.on bd) (Z00 br.out bd) bg H (by simp;omega);go_roundw
    case rel=>exact ⟨k+1,by omega,by go_num,by rw [HS.out];exact ⟨bB,bC,bI⟩⟩
    case measure=>simp [intOf];omega
  · have bG:k=v.rs.length:=by omega
    subst bG;have dl:decide ((v.rs.length:Int)<(v.rs.length:Int))=false:=by simp
    rw [List.take_length] at B;generalize Z1C v.rs=C at *
    obtain ⟨L,c1,rfl⟩:=Z26 B.o;have S:=zh B;clear B;have U:Hid (∀ wx,DvB w v (slice A v.rs.length c) (slice L C.length c1) C wx->wx.cell? ⟨w.heap.size,0,none⟩=some (int i64 v.num)/\wx.cell? ⟨w.heap.size,1,none⟩=some (int i64 v.time)/\DvB w v (slice A v.rs.length c) (slice L C.length c1) C wx):=λwx h=>by obtain ⟨X,q,_⟩:=h.x.cells;exact ⟨X,q,h⟩
    go_wp2_with fail;go_region_held3 (λw'=>w'.cell? ⟨w.heap.size,0,none⟩=some (int i64 v.num)/\w'.cell? ⟨w.heap.size,1,none⟩=some (int i64 v.time)/\DvB w v (slice A v.rs.length c) (slice L C.length c1) C w') (first | (with_reducible exact U.out _ S.out.drew) | (with_reducible exact U.out _ L8) | (exact U.out _ ((‹_/\_/\DvB w v _ _ _ _›).2.2.alloc _)) | (exact U.out _ (‹_/\_/\DvB w v _ _ _ _›).2.2) | fail) (first
      | (go_at_call 105;have J:=(‹_/\_/\DvB w v _ _ _ _›).2.2;refine (bF.out _ _ (Z9C J.o)).mono ?_;rintro ex w6 ⟨rfl,rfl⟩;clear J)
      | (go_at_call 104;have J:=(‹_/\_/\DvB w v _ _ _ _›).2.2;(first | refine (bt.out _ _ (ZdE _ _)).mono ?_ | refine (bt.out _ _ ((Z3t _ _).up (by simp))).mono ?_);rintro ex w8 ⟨rfl,bb⟩;have L8:=J.on bb;clear bb J))
    all_goals go_wp2_with fail;go_ret;exact ⟨rfl,L8.b⟩
end
end Go.Proofs.YtnepkoepbapgeaaGreatDoor
