import Derived.Test.YtkgagcbefagpcaaGreatDoorParW4
import Derived.RangeFuncNested
import Derived.RangeFuncBound
import Derived.Shelf.RegionOpen
import Derived.OwnWalkIn
import Derived.LoopNIn
import Derived.LoopIn
namespace Go.Proofs.YtkgagcbefagpcaaGreatDoor
open _root_.Go.Proofs.Tryz
open Value (int slice)
open IntKind (i64)
set_option maxHeartbeats 8000000
set_option maxRecDepth 100000
section
open Go.RowKit Lx Px
theorem Zdr (pb:Nat)(v:Value)(ts:List Tok)(k:Nat)(T:nxt ts k≠kNot)(hs:∀ k',k<=k'->k'<=ts.length->RC 4 247 pb v ts k') (x:Ex) (C:Nat) (be:Rd 4 none (txt ts k) ((Out.ok x C).res ts)) (ba:okK ts k (.ok x C)) (hc1:∀ w,PI w pb v ts k->Calls prog 247 #[.pointer (some ⟨pb,0,none⟩)] w (RP pb v ts (.ok x C) w)) (R:nxt ts C=[60]):RC 3 197 pb v ts k:=by
 have bg:=Z35 R (by decide);obtain ⟨o2,bb,S,bc⟩:=hs (C+1) (by have:=ba.1;omega) (by omega);have bj:=ba.1;have V:Px.opAt 3 (nxt ts C)=11:=by rw [R];decide
 have bd:Rd 4 none (txt ts k) (.ok x (nxt ts C::txt ts (C+1))):=by rw [<- Z1i bg];exact be
 cases o2 with
 | no k2 =>
  refine ⟨.no k2,ZbC (Z21 T) bd (by rw [V];decide) bb,⟨by have:=S.1;omega,S.2⟩,λw h=>?_⟩;have bh:=zh bc;have bf:=zh R;clear R be bd ba bb S bc V bj;have F1:=zh (Fx.new h.lt);have J:=zh (h.on ((zr _ _).alloc (zn _) (.cells #[vI 0,vI 0,slice none 0 0] 79)));have HC:=zh hc1;have HN:=zh T;have G:=h.lt;clear h hc1 hs T;go_enter func197,ntmps197;go_wp2_with fail;refine (Z1y _ pb v ts k J.o kNot HN.o).mono ?_;rintro e w1 ⟨rfl,M⟩;have N:=zh (F1.o.but (But.of_below M));have m:=zh (J.o.on M);clear M J F1;go_wp2_with fail;refine (HC.o _ m.o).mono ?_;rintro e B ⟨I,j,A,c,rfl,U⟩;have T3:=Tr.of U N.o.lt;have L:=N.o.but I;have d:=zh (Bx.new (x:=x) T3 L.lt);have O:Below B.heap.size B (B.alloc (.cells #[vI x.1.1,vI x.1.2,slice A (flen x.2) c] 79)):=(zr _ _).alloc (zn _) _;have g:=zh (j.on O);have r:=zh (L.but (But.of_below O));clear I j U N m T3 L O;go_wp2_with fail;generalize B.alloc (.cells #[vI x.1.1,vI x.1.2,slice A (flen x.2) c] 79)=w4 at *
  generalize B.heap.size=I at *
  refine (Z2x _ pb v ts C g.o bg [60] bf.o).mono ?_;rintro e w5 ⟨rfl,Y,H⟩;have Z:=zh Y;have l:=zh (r.o.but H);have f:=zh (d.o.but H G);clear Y H g r d;go_upto_region 9 with fail;have P6:=Z.o.drew
  have F:=l.o.but (But.refl pb w5).drew;have q:=f.o.but (But.refl pb w5).drew G;clear Z l f;obtain ⟨q0,q1,q2⟩:=q.three;obtain ⟨s0,s1,s2,s3,s4,s5⟩:=F.six;have bk:=F.lt;go_region_dies
  all_goals (refine (bh.o _ P6).mono ?_;rintro e w' ⟨hb,rfl⟩;exact ⟨rfl,F.1.trans hb,rfl⟩)
 | ok y k2 =>
  refine ⟨.ok (Z3D 11 x y) k2,by have:=Zqs (Z21 T) bd (by rw [V];decide) bb;rwa [V] at this,⟨by have:=S.1;omega,S.2⟩,λw h=>?_⟩;have bh:=zh bc;have bf:=zh R;clear R be bd ba bb S bc V bj;have F1:=zh (Fx.new h.lt);have J:=zh (h.on ((zr _ _).alloc (zn _) (.cells #[vI 0,vI 0,slice none 0 0] 79)));have HC:=zh hc1;have HN:=zh T;have G:=h.lt;clear h hc1 hs T;go_enter func197,ntmps197;go_wp2_with fail;refine (Z1y _ pb v ts k J.o kNot HN.o).mono ?_;rintro e w1 ⟨rfl,M⟩;have N:=zh (F1.o.but (But.of_below M));have m:=zh (J.o.on M);clear M J F1;go_wp2_with fail;refine (HC.o _ m.o).mono ?_;rintro e B ⟨I,j,A,c,rfl,U⟩;have T3:=Tr.of U N.o.lt;have L:=N.o.but I;have d:=zh (Bx.new (x:=x) T3 L.lt);have O:Below B.heap.size B (B.alloc (.cells #[vI x.1.1,vI x.1.2,slice A (flen x.2) c] 79)):=(zr _ _).alloc (zn _) _;have g:=zh (j.on O);have r:=zh (L.but (But.of_below O));clear I j U N m T3 L O;go_wp2_with fail;generalize B.alloc (.cells #[vI x.1.1,vI x.1.2,slice A (flen x.2) c] 79)=w4 at *
  generalize B.heap.size=I at *
  refine (Z2x _ pb v ts C g.o bg [60] bf.o).mono ?_;rintro e w5 ⟨rfl,Y,H⟩;have Z:=zh Y;have l:=zh (r.o.but H);have f:=zh (d.o.but H G);clear Y H g r d;go_upto_region 9 with fail;have P6:=Z.o.drew
  have F:=l.o.but (But.refl pb w5).drew;have q:=f.o.but (But.refl pb w5).drew G;clear Z l f;obtain ⟨q0,q1,q2⟩:=q.three;obtain ⟨s0,s1,s2,s3,s4,s5⟩:=F.six;have bk:=F.lt;go_region_with (first | (refine (bh.o _ P6).mono ?_;rintro e w' ⟨hb,bp,A2,c2,rfl,bn⟩;obtain ⟨x0,x1,x2⟩:=(q.but hb G).three;obtain ⟨y0,y1,y2,y3,y4,y5⟩:=(F.but hb).six;have bm:=(F.but hb).lt))
  all_goals go_wp2_with fail
  all_goals refine bodyPost_ret (v:=.agg #[vI 11,vI 0,slice (some ⟨w'.heap.size,0,none⟩) 2 2]) (by simp [results,results197,go_sem,y0,y1,y2,bm]) rfl ?_;exact Z8H (x:=Z3D 11 x y) (F.but hb) bp (λX h1 h2 h3=>FoD.two (D:=λb=>w.heap.size<b/\b<X.heap.size) ⟨bm,by omega⟩ h2 ((q.but hb G).2.2.to h1 h3) ((Tr.of bn bk).to h1 h3) 2)
theorem Zds (pb:Nat)(v:Value)(ts:List Tok)(k:Nat)(U:nxt ts k≠kNot)(hs:∀ k',k<=k'->k'<=ts.length->RC 4 247 pb v ts k') (x:Ex) (C:Nat) (bh:Rd 4 none (txt ts k) ((Out.ok x C).res ts)) (bd:okK ts k (.ok x C)) (bc:∀ w,PI w pb v ts k->Calls prog 247 #[.pointer (some ⟨pb,0,none⟩)] w (RP pb v ts (.ok x C) w)) (S:nxt ts C=[61]):RC 3 197 pb v ts k:=by
 have bj:=Z35 S (by decide);obtain ⟨o2,be,T,bf⟩:=hs (C+1) (by have:=bd.1;omega) (by omega);have bm:=bd.1;have Y:Px.opAt 3 (nxt ts C)=12:=by rw [S];decide
 have bg:Rd 4 none (txt ts k) (.ok x (nxt ts C::txt ts (C+1))):=by rw [<- Z1i bj];exact bh
 cases o2 with
 | no k2 =>
  refine ⟨.no k2,ZbC (Z21 U) bg (by rw [Y];decide) be,⟨by have:=T.1;omega,T.2⟩,λw h=>?_⟩;have bk:=zh bf;have ba:=zh S;clear S bh bg bd be T bf Y bm;have F1:=zh (Fx.new h.lt);have L:=zh (h.on ((zr _ _).alloc (zn _) (.cells #[vI 0,vI 0,slice none 0 0] 79)));have HC:=zh bc;have HN:=zh U;have G:=h.lt;clear h bc hs U;go_enter func197,ntmps197;go_wp2_with fail;refine (Z1y _ pb v ts k L.o kNot HN.o).mono ?_;rintro e w1 ⟨rfl,N⟩;have O:=zh (F1.o.but (But.of_below N));have r:=zh (L.o.on N);clear N L F1;go_wp2_with fail;refine (HC.o _ r.o).mono ?_;rintro e F ⟨I,l,A,c,rfl,V⟩;have T3:=Tr.of V O.o.lt;have M:=O.o.but I;have f:=zh (Bx.new (x:=x) T3 M.lt);have R:Below F.heap.size F (F.alloc (.cells #[vI x.1.1,vI x.1.2,slice A (flen x.2) c] 79)):=(zr _ _).alloc (zn _) _;have J:=zh (l.on R);have F4:=zh (M.but (But.of_below R));clear I l V O r T3 M R;go_wp2_with fail;generalize F.alloc (.cells #[vI x.1.1,vI x.1.2,slice A (flen x.2) c] 79)=w4 at *
  generalize F.heap.size=I at *
  refine (Z1y _ pb v ts C J.o [60] (by rw [ba.o];decide)).mono ?_;rintro e br ⟨rfl,B⟩;have j:=zh (J.o.on B);have bb:=zh (F4.o.but (But.of_below B));have m:=zh (f.o.but (But.of_below (pb:=pb) B) G);clear B J F4 f;go_wp2_with fail;refine (Z2x _ pb v ts C j.o bj [61] ba.o).mono ?_;rintro e w5 ⟨rfl,Z,B⟩;have d:=zh Z;have q:=zh (bb.o.but B);have g:=zh (m.o.but B G);clear Z B j bb m;go_upto_region 9 with fail;have P6:=d.o.drew
  have H:=q.o.but (But.refl pb w5).drew;have B6:=g.o.but (But.refl pb w5).drew G;clear d q g;obtain ⟨q0,q1,q2⟩:=B6.three;obtain ⟨s0,s1,s2,s3,s4,s5⟩:=H.six;have bn:=H.lt;go_region_dies
  all_goals (refine (bk.o _ P6).mono ?_;rintro e w' ⟨hb,rfl⟩;exact ⟨rfl,H.1.trans hb,rfl⟩)
 | ok y k2 =>
  refine ⟨.ok (Z3D 12 x y) k2,by have:=Zqs (Z21 U) bg (by rw [Y];decide) be;rwa [Y] at this,⟨by have:=T.1;omega,T.2⟩,λw h=>?_⟩;have bk:=zh bf;have ba:=zh S;clear S bh bg bd be T bf Y bm;have F1:=zh (Fx.new h.lt);have L:=zh (h.on ((zr _ _).alloc (zn _) (.cells #[vI 0,vI 0,slice none 0 0] 79)));have HC:=zh bc;have HN:=zh U;have G:=h.lt;clear h bc hs U;go_enter func197,ntmps197;go_wp2_with fail;refine (Z1y _ pb v ts k L.o kNot HN.o).mono ?_;rintro e w1 ⟨rfl,N⟩;have O:=zh (F1.o.but (But.of_below N));have r:=zh (L.o.on N);clear N L F1;go_wp2_with fail;refine (HC.o _ r.o).mono ?_;rintro e F ⟨I,l,A,c,rfl,V⟩;have T3:=Tr.of V O.o.lt;have M:=O.o.but I;have f:=zh (Bx.new (x:=x) T3 M.lt);have R:Below F.heap.size F (F.alloc (.cells #[vI x.1.1,vI x.1.2,slice A (flen x.2) c] 79)):=(zr _ _).alloc (zn _) _;have J:=zh (l.on R);have F4:=zh (M.but (But.of_below R));clear I l V O r T3 M R;go_wp2_with fail;generalize F.alloc (.cells #[vI x.1.1,vI x.1.2,slice A (flen x.2) c] 79)=w4 at *
  generalize F.heap.size=I at *
  refine (Z1y _ pb v ts C J.o [60] (by rw [ba.o];decide)).mono ?_;rintro e br ⟨rfl,B⟩;have j:=zh (J.o.on B);have bb:=zh (F4.o.but (But.of_below B));have m:=zh (f.o.but (But.of_below (pb:=pb) B) G);clear B J F4 f;go_wp2_with fail;refine (Z2x _ pb v ts C j.o bj [61] ba.o).mono ?_;rintro e w5 ⟨rfl,Z,B⟩;have d:=zh Z;have q:=zh (bb.o.but B);have g:=zh (m.o.but B G);clear Z B j bb m;go_upto_region 9 with fail;have P6:=d.o.drew
  have H:=q.o.but (But.refl pb w5).drew;have B6:=g.o.but (But.refl pb w5).drew G;clear d q g;obtain ⟨q0,q1,q2⟩:=B6.three;obtain ⟨s0,s1,s2,s3,s4,s5⟩:=H.six;have bn:=H.lt;go_region_with (first | (refine (bk.o _ P6).mono ?_;rintro e w' ⟨hb,bs,A2,c2,rfl,bq⟩;obtain ⟨x0,x1,x2⟩:=(B6.but hb G).three;obtain ⟨y0,y1,y2,y3,y4,y5⟩:=(H.but hb).six;have bp:=(H.but hb).lt))
  all_goals go_wp2_with fail
  all_goals refine bodyPost_ret (v:=.agg #[vI 12,vI 0,slice (some ⟨w'.heap.size,0,none⟩) 2 2]) (by simp [results,results197,go_sem,y0,y1,y2,bp]) rfl ?_;exact Z8H (x:=Z3D 12 x y) (H.but hb) bs (λX h1 h2 h3=>FoD.two (D:=λb=>w.heap.size<b/\b<X.heap.size) ⟨bp,by omega⟩ h2 ((B6.but hb G).2.2.to h1 h3) ((Tr.of bq bn).to h1 h3) 2)
theorem Z8u (pb:Nat)(v:Value)(ts:List Tok)(k:Nat)(hk:k<=ts.length)(J:∀ k',k<=k'->k'<=ts.length->RC 4 247 pb v ts k')(S:∀ k',k<k'->k'<=ts.length->RC 3 197 pb v ts k'):RC 3 197 pb v ts k:=by
 by_cases hn:nxt ts k=kNot
 . exact Zc4 pb v ts k hn S
 . obtain ⟨o1,I,H,F⟩:=J k (zn _) hk;cases o1 with
   | no k2 =>refine ⟨.no k2,Zjr (Z21 hn) I,H,λw h=>?_⟩;clear S I H;have M:=zh (Fx.new h.lt);have C:=zh (h.on ((zr _ _).alloc (zn _) (.cells #[vI 0,vI 0,slice none 0 0] 79)));have V:=zh F;have T:=zh hn;have O:=h.lt;clear h F J hn;go_enter func197,ntmps197;go_wp2_with fail;refine (Z1y _ pb v ts k C.o kNot T.o).mono ?_;rintro e w1 ⟨rfl,D⟩;have N:=zh (M.o.but (But.of_below D));have R:=zh (C.o.on D);clear D C M;go_wp2_with fail;refine (V.o _ R.o).mono ?_;rintro e G ⟨L,rfl⟩;exact ⟨rfl,N.o.1.trans L,rfl⟩
   | ok x k1 =>
    by_cases h60:nxt ts k1=[60]
    . exact Zdr pb v ts k hn J x k1 I H F h60
    . by_cases h61:nxt ts k1=[61]
      . exact Zds pb v ts k hn J x k1 I H F h61
      . refine ⟨.ok x k1,Rd_sum (Z21 hn) I (λu r' e=>?_),H,λw h=>?_⟩
        . have bc:k1<ts.length:=by
           by_cases hh:k1<ts.length
           . exact hh
           . rw [ZaC ts k1 (by omega)] at e;cases e
          rw [Z1i bc] at e;injection e with e _
          rw [<- e];exact op3_no h60 h61
        have ba:=zh h60;have bb:=zh h61;clear S I H h60 h61;have M:=zh (Fx.new h.lt);have C:=zh (h.on ((zr _ _).alloc (zn _) (.cells #[vI 0,vI 0,slice none 0 0] 79)));have V:=zh F;have T:=zh hn;have O:=h.lt;clear h F J hn;go_enter func197,ntmps197;go_wp2_with fail;refine (Z1y _ pb v ts k C.o kNot T.o).mono ?_;rintro e w1 ⟨rfl,D⟩;have N:=zh (M.o.but (But.of_below D));have R:=zh (C.o.on D);clear D C M;go_wp2_with fail;refine (V.o _ R.o).mono ?_;rintro e G ⟨L,j,A,c,rfl,d⟩;have T3:=Tr.of d N.o.lt;have Y:=N.o.but L;have f:=zh (Bx.new (x:=x) T3 Y.lt);have Z:Below G.heap.size G (G.alloc (.cells #[vI x.1.1,vI x.1.2,slice A (flen x.2) c] 79)):=(zr _ _).alloc (zn _) _;have U:=zh (j.on Z);have q:=zh (Y.but (But.of_below Z));clear L j d N R T3 Y Z;go_wp2_with fail;generalize G.alloc (.cells #[vI x.1.1,vI x.1.2,slice A (flen x.2) c] 79)=w4 at *
        generalize G.heap.size=L at *
        refine (Z1y _ pb v ts k1 U.o [60] ba.o).mono ?_;rintro e bd ⟨rfl,B⟩;have X:=zh (U.o.on B);have r:=zh (q.o.but (But.of_below B));have l:=zh (f.o.but (But.of_below (pb:=pb) B) O);clear B U q f;go_wp2_with fail;refine (Z1y _ pb v ts k1 X.o [61] bb.o).mono ?_;rintro e w5 ⟨rfl,B⟩;have P5:=zh (X.o.on B);have m:=zh (r.o.but (But.of_below B));have g:=zh (l.o.but (But.of_below (pb:=pb) B) O);clear B X r l;obtain ⟨q0,q1,q2⟩:=g.o.three;obtain ⟨s0,y,s2,s3,s4,s5⟩:=m.o.six;go_wp2_with fail;refine bodyPost_ret (v:=.agg #[vI x.1.1,vI x.1.2,slice A (flen x.2) c]) (by simp [results,results197,go_sem,s0,y,s2]) rfl ?_;exact Z5y O m.o.1 P5.o g.o.2.2 (λb h=>h)
end
section
open Go.RowKit Lx Px
def EC (pb:Nat)(v:Value)(ts:List Tok)(k:Nat)(o:Out):Prop:=okK ts k o/\∀ w,PI w pb v ts k->Calls prog 116 #[.pointer (some ⟨pb,0,none⟩)] w (RP pb v ts o w)
def Zqp (pb:Nat)(v:Value)(ts:List Tok)(k:Nat)(o:Out):Prop := ∃ o1,EC pb v ts (k+1) o1/\((∃ k2,o1=.no k2/\o=.no k2)\/∃ a k1,o1=.ok a k1/\((nxt ts k1≠kThen/\o=.no k1)\/(nxt ts k1=kThen/\k1<ts.length /\ ∃ o2,EC pb v ts (k1+1) o2/\((∃ k2,o2=.no k2/\o=.no k2)\/∃ b k2,o2=.ok b k2/\((nxt ts k2≠kElse/\o=.no k2)\/(nxt ts k2=kElse/\k2<ts.length /\ ∃ o3,EC pb v ts (k2+1) o3/\((∃ k3,o3=.no k3/\o=.no k3)\/∃ c k3,o3=.ok c k3/\o=.ok (triE 10 a b c) k3)))))))
theorem if_out (pb:Nat)(v:Value)(ts:List Tok)(k:Nat)(S:nxt ts k=kIf)(he:∀ k',k<k'->k'<=ts.length->RC 0 116 pb v ts k') : ∃ o:Out,Rd 0 none (txt ts k) (o.res ts)/\okK ts k o/\Zqp pb v ts k o:=by
 have d:=Z35 S (by decide);have X:txt ts k=kIf::txt ts (k+1):=by rw [Z1i d,S]
 rw [X];obtain ⟨V,M,B,D⟩:=he (k+1) (by omega) (by omega);cases V with
 | no k2=>exact ⟨.no k2,Z6c (Z1k M),⟨by have:=B.1;omega,B.2⟩,.no k2,⟨B,D⟩,.inl ⟨k2,rfl,rfl⟩⟩
 | ok a k1 =>
  have j:=B.1;have Y:=B.2;by_cases ht:nxt ts k1=kThen
  . have G:=Z35 ht (by decide);have Z:txt ts k1=kThen::txt ts (k1+1):=by rw [Z1i G,ht]
    have I:Rd 0 none (txt ts (k+1)) (.ok a (kThen::txt ts (k1+1))):=by rw [<- Z];exact M
    obtain ⟨U,L,C,H⟩:=he (k1+1) (by omega) (by omega);cases U with
    | no k2=>exact ⟨.no k2,Z6c (Z3j I (Z2w (Z1k L))),⟨by have:=C.1;omega,C.2⟩,.ok a k1,⟨B,D⟩,.inr ⟨a,k1,rfl,.inr ⟨ht,G,.no k2,⟨C,H⟩,.inl ⟨k2,rfl,rfl⟩⟩⟩⟩
    | ok b k2 =>
     have l:=C.1;have T:=C.2;by_cases hl:nxt ts k2=kElse
     . have J:=Z35 hl (by decide);have f:txt ts k2=kElse::txt ts (k2+1):=by rw [Z1i J,hl]
       have O:Rd 0 none (txt ts (k1+1)) (.ok b (kElse::txt ts (k2+1))):=by rw [<- f];exact L
       obtain ⟨g,N,F,R⟩:=he (k2+1) (by omega) (by omega);cases g with
       | no k3=>exact ⟨.no k3,Z6c (Z3j I (Z2w (Z3j O (Z2w (Z1k N))))),⟨by have:=F.1;omega,F.2⟩,.ok a k1,⟨B,D⟩,.inr ⟨a,k1,rfl,.inr ⟨ht,G,.ok b k2,⟨C,H⟩,.inr ⟨b,k2,rfl,.inr ⟨hl,J,.no k3,⟨F,R⟩,.inl ⟨k3,rfl,rfl⟩⟩⟩⟩⟩⟩
       | ok c k3=>exact ⟨.ok (triE 10 a b c) k3,Rd_if I O N,⟨by have:=F.1;omega,F.2⟩,.ok a k1,⟨B,D⟩,.inr ⟨a,k1,rfl,.inr ⟨ht,G,.ok b k2,⟨C,H⟩,.inr ⟨b,k2,rfl,.inr ⟨hl,J,.ok c k3,⟨F,R⟩,.inr ⟨c,k3,rfl,rfl⟩⟩⟩⟩⟩⟩
     . exact ⟨.no k2,Z6c (Z3j I (Z2w (Z3j L (Z3k (Z21 hl))))),⟨by omega,T⟩,.ok a k1,⟨B,D⟩,.inr ⟨a,k1,rfl,.inr ⟨ht,G,.ok b k2,⟨C,H⟩,.inr ⟨b,k2,rfl,.inl ⟨hl,rfl⟩⟩⟩⟩⟩
  . exact ⟨.no k1,Z6c (Z3j M (Z3k (Z21 ht))),⟨by omega,Y⟩,.ok a k1,⟨B,D⟩,.inr ⟨a,k1,rfl,.inl ⟨ht,rfl⟩⟩⟩
theorem Zr8 (pb:Nat)(v:Value)(ts:List Tok)(k:Nat)(l:nxt ts k=kIf)(o:Out)(R:Zqp pb v ts k o)(w:World)(h:PI w pb v ts k) : Calls prog 116 #[.pointer (some ⟨pb,0,none⟩)] w (RP pb v ts o w):=by
 have bq:=Z35 l (by decide);have F1:=zh (Fx.new h.lt);have P1:=zh (h.on ((zr _ _).alloc (zn _) (.cells #[vI 0,vI 0,slice none 0 0] 79)));have C:=h.lt;have HI:=zh l;have HC:=zh R;clear h l R;go_enter func116,ntmps116;go_wp2_with fail;refine (Z2x _ pb v ts k P1.o bq kIf HI.o).mono ?_;rintro e w1 ⟨rfl,p2,b2⟩;have Y:=zh (F1.o.but b2);have P2:=zh p2;clear p2 b2 P1 F1;obtain ⟨o1,⟨bs,bg⟩,R⟩:=HC.o;have bd:=zh bg;have HD:=zh R;clear bg R HC bs;go_wp2_with fail;refine (bd.o _ P2.o).mono ?_;rcases HD.o with ⟨U,rfl,rfl⟩ | ⟨a,k1,rfl,B⟩
 . rintro e I ⟨S,rfl⟩;exact ⟨rfl,Y.o.1.trans S,rfl⟩
 rintro e I ⟨S,p3,A,c,rfl,N⟩;have T3:=Tr.of N Y.o.lt;have j:=Y.o.but S;have B4:=zh (Bx.new (x:=a) T3 j.lt);have F:Below I.heap.size I (I.alloc (.cells #[vI a.1.1,vI a.1.2,slice A (flen a.2) c] 79)):=(zr _ _).alloc (zn _) _;have f:=zh (p3.on F);have g:=zh (j.but (But.of_below F));have bh:=zh B;clear S p3 N Y P2 T3 j F B HD bd;go_wp2_with fail;generalize I.alloc (.cells #[vI a.1.1,vI a.1.2,slice A (flen a.2) c] 79)=w4 at *
 generalize I.heap.size=ba at *
 rcases bh.o with ⟨r,rfl⟩ | ⟨L,br,o2,⟨bt,bm⟩,B⟩
 . refine (Z2H _ pb v ts k1 f.o kThen r).mono ?_;rintro e w5 ⟨rfl,O⟩;exact ⟨rfl,g.o.1.trans (But.of_below O),rfl⟩
 refine (Z1q _ pb v ts k1 f.o br kThen L).mono ?_;rintro e w5 ⟨rfl,p5,O⟩;have P5:=zh p5;have V:=zh (g.o.but O);have B5:=zh (B4.o.but O C);have bn:=zh bm;have bj:=zh B;clear p5 O f g B4 bm B bh L bt;go_wp2_with fail;refine (bn.o _ P5.o).mono ?_;rcases bj.o with ⟨U,rfl,rfl⟩ | ⟨b,U,rfl,B⟩
 . rintro e H ⟨M,rfl⟩;exact ⟨rfl,V.o.1.trans M,rfl⟩
 rintro e H ⟨M,p6,A2,c2,rfl,N⟩;have T6:=Tr.of N V.o.lt;have m:=V.o.but M;have B6:=B5.o.but M C;have D7:=zh (Bx.new (x:=b) T6 m.lt);have F:Below H.heap.size H (H.alloc (.cells #[vI b.1.1,vI b.1.2,slice A2 (flen b.2) c2] 79)):=(zr _ _).alloc (zn _) _;have d:=zh (p6.on F);have Z:=zh (m.but (But.of_below F));have B7:=zh (B6.but (But.of_below (pb:=pb) F) C);have bc:=zh B;clear M p6 N V P5 T6 m B6 B5 F B bj bn;go_wp2_with fail;generalize H.alloc (.cells #[vI b.1.1,vI b.1.2,slice A2 (flen b.2) c2] 79)=w7 at *
 generalize H.heap.size=bb at *
 rcases bc.o with ⟨r,rfl⟩ | ⟨L,bp,o3,⟨bu,be⟩,B⟩
 . refine (Z2H _ pb v ts U d.o kElse r).mono ?_;rintro e T ⟨rfl,J⟩;exact ⟨rfl,Z.o.1.trans (But.of_below J),rfl⟩
 refine (Z1q _ pb v ts U d.o bp kElse L).mono ?_;rintro e T ⟨rfl,p8,J⟩;have P8:=zh p8;have F8:=zh (Z.o.but J);have B8:=zh (B7.o.but J C);have D8:=zh (D7.o.but J C);have bk:=zh be;have bz:=zh B;clear p8 J d Z B7 D7 be B bc L bu;go_upto_region 7 with fail;have P9:=P8.o.drew
 have G:=F8.o.but (But.refl pb T).drew;have q:=B8.o.but (But.refl pb T).drew C;have y:=D8.o.but (But.refl pb T).drew C;clear P8 F8 B8 D8;obtain ⟨q0,q1,q2⟩:=q.three;obtain ⟨q3,q4,q5⟩:=y.three;obtain ⟨s0,s1,s2,s3,s4,s5⟩:=G.six;have bA:=G.lt;rcases bz.o with ⟨k3,rfl,rfl⟩ | ⟨c3,k3,rfl,rfl⟩
 . go_region_dies
   all_goals (refine (bk.o _ P9).mono ?_;rintro e w' ⟨hb,rfl⟩;exact ⟨rfl,G.1.trans hb,rfl⟩)
 . go_region_with (first | (refine (bk.o _ P9).mono ?_;rintro e w' ⟨hb,bv,A3,c4,rfl,bx⟩;obtain ⟨x0,x1,x2⟩:=(q.but hb C).three;obtain ⟨x3,x4,x5⟩:=(y.but hb C).three;obtain ⟨y0,y1,y2,y3,y4,y5⟩:=(G.but hb).six;have bf:=(G.but hb).lt))
   all_goals go_wp2_with fail
   all_goals refine bodyPost_ret (v:=.agg #[vI 10,vI 0,slice (some ⟨w'.heap.size,0,none⟩) 3 3]) (by simp [results,results116,go_sem,y0,y1,y2,bf]) rfl ?_;exact Z8H (x:=triE 10 a b c3) (G.but hb) bv (λX h1 h2 h3=>FoD.three (D:=λb=>w.heap.size<b/\b<X.heap.size) ⟨bf,by omega⟩ h2 ((q.but hb C).2.2.to h1 h3) ((y.but hb C).2.2.to h1 h3) ((Tr.of bx bA).to h1 h3) 3)
theorem ZiG (pb:Nat)(v:Value)(ts:List Tok)(k:Nat)(hk:k<=ts.length)(V:∀ k',k<=k'->k'<=ts.length->RC 2 161 pb v ts k')(he:∀ k',k<k'->k'<=ts.length->RC 0 116 pb v ts k'):RC 0 116 pb v ts k:=by
 by_cases hi:nxt ts k=kIf
 . obtain ⟨o,D,F,m⟩:=if_out pb v ts k hi he;exact ⟨o,D,F,Zr8 pb v ts k hi o m⟩
 . obtain ⟨o,D,F,R⟩:=Z8c 1 (by unfold lft;omega) 161 (λ_ _=>rfl) pb v ts k hk V;refine ⟨o,Zrk (Z21 hi) D,F,λw h=>?_⟩;have bb:∀ (fn:Fn) (first cap:Array Value) (w:World),(Instr.makeFunc fn first cap).run prog w=.ok (.func fn first cap) w:=λ_ _ _ _=>rfl;have hmm:=@run_makeMap prog;have U:=zh (Fx.new h.lt);have H:=zh (h.on ((zr _ _).alloc (zn _) (.cells #[vI 0,vI 0,slice none 0 0] 79)));have Z:=h.lt;have q:=zh hi;have j:=zh R;clear h hi R V he D;go_enter func116,ntmps116;go_wp2_with fail;refine (Z1y _ pb v ts k H.o kIf q.o).mono ?_;rintro e B ⟨rfl,M⟩;have N:=U.o.but (But.of_below M);have T:=H.o.on M;have C:=SMap.new B;have u1:(Instr.mapUpdate 207 (.map (some B.heap.size)) (.string ⟨#[111,114]⟩) (vI 14)).run prog (B.alloc (.map #[] 0))=.ok () ((B.alloc (.map #[] 0)).putObj B.heap.size (.map (esS [([111,114],14)] 0).toArray 1)) := Z0z (t:=[111,114]) underlying207 underlying9 C (by decide) 14;have I:SMap ((B.alloc (.map #[] 0)).putObj B.heap.size (.map (esS [([111,114],14)] 0).toArray 1)) B.heap.size [([111,114],14)]:=Z30 C;have G:Below B.heap.size B ((B.alloc (.map #[] 0)).putObj B.heap.size (.map (esS [([111,114],14)] 0).toArray 1)):=Z0H ((zr _ _).alloc (zn _) _) (zn _) _;have J:=zh (N.but (But.of_below G));have X:=zh (T.on G);have g:=zh I;have ba:=N.lt;clear N T C I G M U H;go_wp2_with fail;generalize (B.alloc (.map #[] 0)).putObj B.heap.size (.map (esS [([111,114],14)] 0).toArray 1)=r at *
   refine (j.o r B.heap.size X.o g.o (by omega)).mono ?_;cases o with
   | no k2 =>rintro e w' ⟨hb,rfl⟩;exact ⟨rfl,J.o.1.trans hb,rfl⟩
   | ok x k2 =>rintro e w' ⟨hb,S,A,c,rfl,O⟩;have L:=J.o.but hb;obtain ⟨d,Y,C,I,s4,s5⟩:=L.six;have y:=zh S;have l:=zh (Tr.of O J.o.lt);have f:=zh L;clear S O hb L;go_wp2_with fail;refine bodyPost_ret (v:=.agg #[vI x.1.1,vI x.1.2,slice A (flen x.2) c]) (by simp [results,results116,go_sem,d,Y,C]) rfl ?_;exact Z5y Z f.o.1 y.o l.o (λb h=>h)
end
section
open Go.RowKit Lx Px
def Zr9:List (Bytes × Int):=[([110,105,103,104,116,115],1),([112,101,114,115,111,110,115],2),([110,105,103,104,116],3),([119,101,101,107,100,97,121],4)]
def Zra:List (Bytes × Int):=[([109,105,110],8),([109,97,120],9)]
theorem Zbp (t:Bytes):Z4y Zr9 t=if Z4x t > 0 then some (Z4x t) else none:=by
 unfold Z4x;by_cases h1:t=[110,105,103,104,116,115]
 . subst h1;decide
 by_cases h2:t=[112,101,114,115,111,110,115]
 . subst h2;decide
 by_cases h3:t=[110,105,103,104,116]
 . subst h3;decide
 by_cases h4:t=[119,101,101,107,100,97,121]
 . subst h4;decide
 rw [zf h1,zf h2,zf h3,zf h4];simp [Zr9,Z4y,Ne.symm h1,Ne.symm h2,Ne.symm h3,Ne.symm h4]
theorem Zbq (t:Bytes):Z4y Zra t=if Z2c t > 0 then some (Z2c t) else none:=by
 unfold Z2c;by_cases h1:t=[109,105,110]
 . subst h1;decide
 by_cases h2:t=[109,97,120]
 . subst h2;decide
 rw [zf h1,zf h2];simp [Zra,Z4y,Ne.symm h1,Ne.symm h2]
def Zf4 (pb:Nat)(v:Value)(ts:List Tok)(k:Nat)(op:Int)(o:Out):Prop := (nxt ts (k+1)≠[40]/\o=.no (k+1))\/(nxt ts (k+1)=[40]/\k+1<ts.length/\∃ o1,EC pb v ts (k+1+1) o1/\((∃ k2,o1=.no k2/\o=.no k2)\/∃ a k1,o1=.ok a k1/\((nxt ts k1≠[44]/\o=.no k1)\/(nxt ts k1=[44]/\k1<ts.length /\ ∃ o2,EC pb v ts (k1+1) o2/\((∃ k2,o2=.no k2/\o=.no k2)\/∃ b k2,o2=.ok b k2/\((nxt ts k2≠[41]/\o=.no k2)\/(nxt ts k2=[41]/\k2<ts.length/\o=.ok (Z3D op a b) (k2+1))))))))
def ZiH (pb:Nat)(v:Value)(ts:List Tok)(k:Nat)(o:Out):Prop := (nxt ts k≠[40]/\o=.no k)\/(nxt ts k=[40]/\k<ts.length/\∃ o1,EC pb v ts (k+1) o1/\((∃ k2,o1=.no k2/\o=.no k2)\/∃ a k1,o1=.ok a k1/\((nxt ts k1≠[41]/\o=.no k1)\/(nxt ts k1=[41]/\k1<ts.length/\o=.ok a (k1+1)))))
def Zf5 (pb:Nat)(v:Value)(ts:List Tok)(k:Nat)(o:Out):Prop := (k<ts.length/\Z0e (nxt ts k)=2/\o=.ok ((1,dval (nxt ts k)),.nil) (k+1))\/(k<ts.length/\Z0e (nxt ts k)=3/\o=.ok ((2,dval (nxt ts k)),.nil) (k+1)) \/ (Z0e (nxt ts k)≠2/\Z0e (nxt ts k)≠3/\((k<ts.length/\Z4x (nxt ts k) > 0/\o=.ok ((3,Z4x (nxt ts k)),.nil) (k+1)) \/ (¬ Z4x (nxt ts k) > 0/\((k<ts.length/\Z2c (nxt ts k) > 0/\Zf4 pb v ts k (Z2c (nxt ts k)) o)\/(¬ Z2c (nxt ts k) > 0/\ZiH pb v ts k o)))))
theorem Znj (pb:Nat)(v:Value)(ts:List Tok)(k:Nat)(hk:k<=ts.length)(he:∀ k',k<k'->k'<=ts.length->RC 0 116 pb v ts k') : ∃ o:Out,Rd 6 none (txt ts k) (o.res ts)/\okK ts k o/\Zf5 pb v ts k o:=by
 by_cases hlt:k<ts.length
 . have X:=Z1i hlt;rw [X];by_cases h2:Z0e (nxt ts k)=2
   . exact ⟨.ok ((1,dval (nxt ts k)),.nil) (k+1),Rd_num (txt ts (k+1)) h2,⟨by omega,by omega⟩,.inl ⟨hlt,h2,rfl⟩⟩
   by_cases h3:Z0e (nxt ts k)=3
   . exact ⟨.ok ((2,dval (nxt ts k)),.nil) (k+1),Rd_mon (txt ts (k+1)) h3,⟨by omega,by omega⟩,.inr (.inl ⟨hlt,h3,rfl⟩)⟩
   by_cases hv:Z4x (nxt ts k) > 0
   . exact ⟨.ok ((3,Z4x (nxt ts k)),.nil) (k+1),Zrq (txt ts (k+1)) h2 h3 hv,⟨by omega,by omega⟩,.inr (.inr ⟨h2,h3,.inl ⟨hlt,hv,rfl⟩⟩)⟩
   by_cases hb:Z2c (nxt ts k) > 0
   . suffices hs:∃ o:Out,Rd 6 none (nxt ts k::txt ts (k+1)) (o.res ts)/\okK ts k o/\Zf4 pb v ts k (Z2c (nxt ts k)) o by obtain ⟨o,M,O,U⟩:=hs;exact ⟨o,M,O,.inr (.inr ⟨h2,h3,.inr ⟨hv,.inl ⟨hlt,hb,U⟩⟩⟩)⟩
     by_cases hp:nxt ts (k+1)=[40]
     . have G:=Z35 hp (by decide);have j:txt ts (k+1)=[40]::txt ts (k+1+1):=by rw [Z1i G,hp]
       obtain ⟨N,D,B,C⟩:=he (k+1+1) (by omega) (by omega);rw [j];cases N with
       | no k2=>exact ⟨.no k2,Z3c h2 h3 hv hb (Z2w (Z1k D)),⟨by have:=B.1;omega,B.2⟩,.inr ⟨hp,G,.no k2,⟨B,C⟩,.inl ⟨k2,rfl,rfl⟩⟩⟩
       | ok a k1 =>
        have d:=B.1;have T:=B.2;by_cases hm:nxt ts k1=[44]
        . have L:=Z35 hm (by decide);have f:txt ts k1=[44]::txt ts (k1+1):=by rw [Z1i L,hm]
          have J:Rd 0 none (txt ts (k+1+1)) (.ok a ([44]::txt ts (k1+1))):=by rw [<- f];exact D
          obtain ⟨Z,R,F,S⟩:=he (k1+1) (by omega) (by omega);cases Z with
          | no k2=>exact ⟨.no k2,Z3c h2 h3 hv hb (Z2w (Z3j J (Z2w (Z1k R)))),⟨by have:=F.1;omega,F.2⟩,.inr ⟨hp,G,.ok a k1,⟨B,C⟩,.inr ⟨a,k1,rfl,.inr ⟨hm,L,.no k2,⟨F,S⟩,.inl ⟨k2,rfl,rfl⟩⟩⟩⟩⟩
          | ok b k2 =>
           have l:=F.1;have Y:=F.2;by_cases hq:nxt ts k2=[41]
           . have H:=Z35 hq (by decide);have V:txt ts k2=[41]::txt ts (k2+1):=by rw [Z1i H,hq]
             have g:Rd 0 none (txt ts (k1+1)) (.ok b ([41]::txt ts (k2+1))):=by rw [<- V];exact R
             exact ⟨.ok (Z3D (Z2c (nxt ts k)) a b) (k2+1),Z3c h2 h3 hv hb (Z2w (Z3j J (Z2w (Z3j g (Z2w (Zjp _)))))),⟨by omega,by omega⟩,.inr ⟨hp,G,.ok a k1,⟨B,C⟩,.inr ⟨a,k1,rfl,.inr ⟨hm,L,.ok b k2,⟨F,S⟩,.inr ⟨b,k2,rfl,.inr ⟨hq,H,rfl⟩⟩⟩⟩⟩⟩
           . exact ⟨.no k2,Z3c h2 h3 hv hb (Z2w (Z3j J (Z2w (Z3j R (Z3k (Z21 hq)))))),⟨by omega,Y⟩,.inr ⟨hp,G,.ok a k1,⟨B,C⟩,.inr ⟨a,k1,rfl,.inr ⟨hm,L,.ok b k2,⟨F,S⟩,.inr ⟨b,k2,rfl,.inl ⟨hq,rfl⟩⟩⟩⟩⟩⟩
        . exact ⟨.no k1,Z3c h2 h3 hv hb (Z2w (Z3j D (Z3k (Z21 hm)))),⟨by omega,T⟩,.inr ⟨hp,G,.ok a k1,⟨B,C⟩,.inr ⟨a,k1,rfl,.inl ⟨hm,rfl⟩⟩⟩⟩
     . exact ⟨.no (k+1),Z3c h2 h3 hv hb (Z3k (Z21 hp)),⟨by omega,by omega⟩,.inl ⟨hp,rfl⟩⟩
   . suffices hs:∃ o:Out,Rd 6 none (nxt ts k::txt ts (k+1)) (o.res ts)/\okK ts k o/\ZiH pb v ts k o by obtain ⟨o,M,O,U⟩:=hs;exact ⟨o,M,O,.inr (.inr ⟨h2,h3,.inr ⟨hv,.inr ⟨hb,U⟩⟩⟩)⟩
     by_cases hp:nxt ts k=[40]
     . obtain ⟨N,D,B,C⟩:=he (k+1) (by omega) (by omega);cases N with
       | no k2=>exact ⟨.no k2,Z6d h2 h3 hv hb (by rw [hp];exact Z2w (Z1k D)),⟨by have:=B.1;omega,B.2⟩,.inr ⟨hp,hlt,.no k2,⟨B,C⟩,.inl ⟨k2,rfl,rfl⟩⟩⟩
       | ok a k1 =>
        have d:=B.1;have T:=B.2;by_cases hq:nxt ts k1=[41]
        . have H:=Z35 hq (by decide);have V:txt ts k1=[41]::txt ts (k1+1):=by rw [Z1i H,hq]
          have J:Rd 0 none (txt ts (k+1)) (.ok a ([41]::txt ts (k1+1))):=by rw [<- V];exact D
          exact ⟨.ok a (k1+1),Z6d h2 h3 hv hb (by rw [hp];exact Z2w (Z3j J (Z2w (Zjp _)))),⟨by omega,by omega⟩,.inr ⟨hp,hlt,.ok a k1,⟨B,C⟩,.inr ⟨a,k1,rfl,.inr ⟨hq,H,rfl⟩⟩⟩⟩
        . exact ⟨.no k1,Z6d h2 h3 hv hb (by rw [hp];exact Z2w (Z3j D (Z3k (Z21 hq)))),⟨by omega,T⟩,.inr ⟨hp,hlt,.ok a k1,⟨B,C⟩,.inr ⟨a,k1,rfl,.inl ⟨hq,rfl⟩⟩⟩⟩
     . exact ⟨.no k,Z6d h2 h3 hv hb (by rw [<- X];exact Z3k (Z21 hp)),⟨by omega,by omega⟩,.inl ⟨hp,rfl⟩⟩
 . have I:=Z5F ts k hlt;refine ⟨.no k,?_,⟨by omega,by omega⟩,.inr (.inr ⟨by rw [I];decide,by rw [I];decide,.inr ⟨by rw [I];decide,.inr ⟨by rw [I];decide,.inl ⟨by rw [I];decide,rfl⟩⟩⟩⟩)⟩;show Rd 6 none (txt ts k) (.no (txt ts k));rw [ZaC ts k (by omega)];exact ZdC
def At (w:World)(pb bt r1 r2:Nat)(ts:List Tok)(k:Nat)(W:World):Prop := Fx w pb W/\W.heap[bt]?=some (.cells #[vI (kdAt ts k),vI (lnAt ts k),.string (mk (nxt ts k))] 126 (0,0))/\SMap W r1 Zr9/\SMap W r2 Zra/\bt≠pb/\r1≠pb/\r2≠pb
theorem At.but {w:World}{pb B L D:Nat}{ts:List Tok}{k:Nat}{W X:World}(h:At w pb B L D ts k W)(hb:But pb W X):At w pb B L D ts k X:=by
 obtain ⟨M,C,J,H,G,F,I⟩:=h;exact ⟨M.but hb,(hb.block _ (zF2.1 C).1 G).trans C,J.on (hb.block _ J.lt F),H.on (hb.block _ H.lt I),G,F,I⟩
theorem At.tok0 {w:World}{pb B D C:Nat}{ts:List Tok}{k:Nat}{W:World}(h:At w pb B D C ts k W):W.cell? ⟨B,0,none⟩=some (vI (kdAt ts k)):=by rw [zH h.2.1];rfl
theorem At.tok2 {w:World}{pb B D C:Nat}{ts:List Tok}{k:Nat}{W:World}(h:At w pb B D C ts k W):W.cell? ⟨B,2,none⟩=some (.string (mk (nxt ts k))):=by rw [zH h.2.1];rfl
theorem At.var {w:World}{pb D B C:Nat}{ts:List Tok}{k:Nat}{W:World}(h:At w pb D B C ts k W):(Instr.lookup 207 (.map (some B)) (.string (mk (nxt ts k))) false).run prog W=.ok (vI (if Z4x (nxt ts k) > 0 then Z4x (nxt ts k) else 0)) W:=by
 by_cases hv:Z4x (nxt ts k) > 0
 . rw [zp hv];exact Z4d underlying207 underlying9 h.2.2.1 (by rw [Zbp,zp hv]) false
 . rw [zf hv];exact Z4e underlying207 underlying9 h.2.2.1 (by rw [Zbp,zf hv]) (ZaF W) false
theorem At.both {w:World}{pb C D B:Nat}{ts:List Tok}{k:Nat}{W:World}(h:At w pb C D B ts k W):(Instr.lookup 207 (.map (some B)) (.string (mk (nxt ts k))) false).run prog W=.ok (vI (if Z2c (nxt ts k) > 0 then Z2c (nxt ts k) else 0)) W:=by
 by_cases hv:Z2c (nxt ts k) > 0
 . rw [zp hv];exact Z4d underlying207 underlying9 h.2.2.2.1 (by rw [Zbq,zp hv]) false
 . rw [zf hv];exact Z4e underlying207 underlying9 h.2.2.2.1 (by rw [Zbq,zf hv]) (ZaF W) false
theorem Zax {ts:List Tok}(B:Knd ts){k:Nat}(c:Int)(C:0<c)(h:Z0e (nxt ts k)≠c):(kdAt ts k==c)=false:=by
 rw [beq_eq_false_iff_ne];by_cases hk:k<ts.length
 . rw [Zfg B hk];exact h
 . simp only [kdAt,dif_neg hk];omega
theorem Zj0 (pb:Nat)(v:Value)(ts:List Tok)(k:Nat)(o:Out)(hC:Zf5 pb v ts k o)(w:World)(h:PI w pb v ts k) : Calls prog 288 #[.pointer (some ⟨pb,0,none⟩)] w (RP pb v ts o w):=by
 have cD:=h.2.2.1;have cF:=h.2.2.2.1;have F1:=zh (Fx.new h.lt);have P1:=zh (h.on ((zr _ _).alloc (zn _) (.cells #[vI 0,vI 0,slice none 0 0] 79)));have M:=h.lt;have HC:=zh hC;have HK:=zh h.2.2.2.2.1;clear h hC;have cr:=@run_makeMap prog;go_enter func288,ntmps288;go_wp2_with fail;refine (Z2q _ pb v ts k P1.o).mono ?_;rintro e B ⟨rfl,b2⟩;rw [tokV];have F2:=F1.o.but (But.of_below b2);have P2:=P1.o.on b2;have cG:=F2.lt;have t1:(B.alloc (.cells #[vI (kdAt ts k),vI (lnAt ts k),.string (mk (nxt ts k))] 126)).heap[B.heap.size]?=some (.cells #[vI (kdAt ts k),vI (lnAt ts k),.string (mk (nxt ts k))] 126 (0,0)):=za B _;have cb:(B.alloc (.cells #[vI (kdAt ts k),vI (lnAt ts k),.string (mk (nxt ts k))] 126)).heap.size=B.heap.size+1:=by simp
 have cc:Below B.heap.size B ((B.alloc (.cells #[vI (kdAt ts k),vI (lnAt ts k),.string (mk (nxt ts k))] 126)).alloc (.map #[] 0)):=((zr _ _).alloc (zn _) _).alloc (by simp) _;have bA:=SMap.new (B.alloc (.cells #[vI (kdAt ts k),vI (lnAt ts k),.string (mk (nxt ts k))] 126));rw [cb] at bA;have cx:(Instr.mapUpdate 207 (.map (some (B.heap.size+1))) (.string ⟨#[110,105,103,104,116,115]⟩) (vI 1)).run prog ((B.alloc (.cells #[vI (kdAt ts k),vI (lnAt ts k),.string (mk (nxt ts k))] 126)).alloc (.map #[] 0))=.ok () (((B.alloc (.cells #[vI (kdAt ts k),vI (lnAt ts k),.string (mk (nxt ts k))] 126)).alloc (.map #[] 0)).putObj (B.heap.size+1) (.map (esS [([110,105,103,104,116,115],1)] 0).toArray 1)) := Z0z (t:=[110,105,103,104,116,115]) underlying207 underlying9 bA (by decide) 1;have bN:SMap (((B.alloc (.cells #[vI (kdAt ts k),vI (lnAt ts k),.string (mk (nxt ts k))] 126)).alloc (.map #[] 0)).putObj (B.heap.size+1) (.map (esS [([110,105,103,104,116,115],1)] 0).toArray 1)) (B.heap.size+1) [([110,105,103,104,116,115],1)]:=Z30 bA;have b5:Below B.heap.size B (((B.alloc (.cells #[vI (kdAt ts k),vI (lnAt ts k),.string (mk (nxt ts k))] 126)).alloc (.map #[] 0)).putObj (B.heap.size+1) (.map (esS [([110,105,103,104,116,115],1)] 0).toArray 1)):=Z0H cc (by omega) _;have cz:(Instr.mapUpdate 207 (.map (some (B.heap.size+1))) (.string ⟨#[112,101,114,115,111,110,115]⟩) (vI 2)).run prog (((B.alloc (.cells #[vI (kdAt ts k),vI (lnAt ts k),.string (mk (nxt ts k))] 126)).alloc (.map #[] 0)).putObj (B.heap.size+1) (.map (esS [([110,105,103,104,116,115],1)] 0).toArray 1))=.ok () ((((B.alloc (.cells #[vI (kdAt ts k),vI (lnAt ts k),.string (mk (nxt ts k))] 126)).alloc (.map #[] 0)).putObj (B.heap.size+1) (.map (esS [([110,105,103,104,116,115],1)] 0).toArray 1)).putObj (B.heap.size+1) (.map (esS [([110,105,103,104,116,115],1),([112,101,114,115,111,110,115],2)] 0).toArray 2)) := Z0z (t:=[112,101,114,115,111,110,115]) underlying207 underlying9 bN (by decide) 2;have bR:SMap ((((B.alloc (.cells #[vI (kdAt ts k),vI (lnAt ts k),.string (mk (nxt ts k))] 126)).alloc (.map #[] 0)).putObj (B.heap.size+1) (.map (esS [([110,105,103,104,116,115],1)] 0).toArray 1)).putObj (B.heap.size+1) (.map (esS [([110,105,103,104,116,115],1),([112,101,114,115,111,110,115],2)] 0).toArray 2)) (B.heap.size+1) [([110,105,103,104,116,115],1),([112,101,114,115,111,110,115],2)]:=Z30 bN
 have b4:Below B.heap.size B ((((B.alloc (.cells #[vI (kdAt ts k),vI (lnAt ts k),.string (mk (nxt ts k))] 126)).alloc (.map #[] 0)).putObj (B.heap.size+1) (.map (esS [([110,105,103,104,116,115],1)] 0).toArray 1)).putObj (B.heap.size+1) (.map (esS [([110,105,103,104,116,115],1),([112,101,114,115,111,110,115],2)] 0).toArray 2)):=Z0H b5 (by omega) _;have cm:(Instr.mapUpdate 207 (.map (some (B.heap.size+1))) (.string ⟨#[110,105,103,104,116]⟩) (vI 3)).run prog ((((B.alloc (.cells #[vI (kdAt ts k),vI (lnAt ts k),.string (mk (nxt ts k))] 126)).alloc (.map #[] 0)).putObj (B.heap.size+1) (.map (esS [([110,105,103,104,116,115],1)] 0).toArray 1)).putObj (B.heap.size+1) (.map (esS [([110,105,103,104,116,115],1),([112,101,114,115,111,110,115],2)] 0).toArray 2))=.ok () (((((B.alloc (.cells #[vI (kdAt ts k),vI (lnAt ts k),.string (mk (nxt ts k))] 126)).alloc (.map #[] 0)).putObj (B.heap.size+1) (.map (esS [([110,105,103,104,116,115],1)] 0).toArray 1)).putObj (B.heap.size+1) (.map (esS [([110,105,103,104,116,115],1),([112,101,114,115,111,110,115],2)] 0).toArray 2)).putObj (B.heap.size+1) (.map (esS [([110,105,103,104,116,115],1),([112,101,114,115,111,110,115],2),([110,105,103,104,116],3)] 0).toArray 3)) := Z0z (t:=[110,105,103,104,116]) underlying207 underlying9 bR (by decide) 3;have bP:SMap (((((B.alloc (.cells #[vI (kdAt ts k),vI (lnAt ts k),.string (mk (nxt ts k))] 126)).alloc (.map #[] 0)).putObj (B.heap.size+1) (.map (esS [([110,105,103,104,116,115],1)] 0).toArray 1)).putObj (B.heap.size+1) (.map (esS [([110,105,103,104,116,115],1),([112,101,114,115,111,110,115],2)] 0).toArray 2)).putObj (B.heap.size+1) (.map (esS [([110,105,103,104,116,115],1),([112,101,114,115,111,110,115],2),([110,105,103,104,116],3)] 0).toArray 3)) (B.heap.size+1) [([110,105,103,104,116,115],1),([112,101,114,115,111,110,115],2),([110,105,103,104,116],3)]:=Z30 bR;have cg:Below B.heap.size B (((((B.alloc (.cells #[vI (kdAt ts k),vI (lnAt ts k),.string (mk (nxt ts k))] 126)).alloc (.map #[] 0)).putObj (B.heap.size+1) (.map (esS [([110,105,103,104,116,115],1)] 0).toArray 1)).putObj (B.heap.size+1) (.map (esS [([110,105,103,104,116,115],1),([112,101,114,115,111,110,115],2)] 0).toArray 2)).putObj (B.heap.size+1) (.map (esS [([110,105,103,104,116,115],1),([112,101,114,115,111,110,115],2),([110,105,103,104,116],3)] 0).toArray 3)):=Z0H b4 (by omega) _
 have ck:(Instr.mapUpdate 207 (.map (some (B.heap.size+1))) (.string ⟨#[119,101,101,107,100,97,121]⟩) (vI 4)).run prog (((((B.alloc (.cells #[vI (kdAt ts k),vI (lnAt ts k),.string (mk (nxt ts k))] 126)).alloc (.map #[] 0)).putObj (B.heap.size+1) (.map (esS [([110,105,103,104,116,115],1)] 0).toArray 1)).putObj (B.heap.size+1) (.map (esS [([110,105,103,104,116,115],1),([112,101,114,115,111,110,115],2)] 0).toArray 2)).putObj (B.heap.size+1) (.map (esS [([110,105,103,104,116,115],1),([112,101,114,115,111,110,115],2),([110,105,103,104,116],3)] 0).toArray 3))=.ok () ((((((B.alloc (.cells #[vI (kdAt ts k),vI (lnAt ts k),.string (mk (nxt ts k))] 126)).alloc (.map #[] 0)).putObj (B.heap.size+1) (.map (esS [([110,105,103,104,116,115],1)] 0).toArray 1)).putObj (B.heap.size+1) (.map (esS [([110,105,103,104,116,115],1),([112,101,114,115,111,110,115],2)] 0).toArray 2)).putObj (B.heap.size+1) (.map (esS [([110,105,103,104,116,115],1),([112,101,114,115,111,110,115],2),([110,105,103,104,116],3)] 0).toArray 3)).putObj (B.heap.size+1) (.map (esS [([110,105,103,104,116,115],1),([112,101,114,115,111,110,115],2),([110,105,103,104,116],3),([119,101,101,107,100,97,121],4)] 0).toArray 4)) := Z0z (t:=[119,101,101,107,100,97,121]) underlying207 underlying9 bP (by decide) 4;have ce:SMap ((((((B.alloc (.cells #[vI (kdAt ts k),vI (lnAt ts k),.string (mk (nxt ts k))] 126)).alloc (.map #[] 0)).putObj (B.heap.size+1) (.map (esS [([110,105,103,104,116,115],1)] 0).toArray 1)).putObj (B.heap.size+1) (.map (esS [([110,105,103,104,116,115],1),([112,101,114,115,111,110,115],2)] 0).toArray 2)).putObj (B.heap.size+1) (.map (esS [([110,105,103,104,116,115],1),([112,101,114,115,111,110,115],2),([110,105,103,104,116],3)] 0).toArray 3)).putObj (B.heap.size+1) (.map (esS [([110,105,103,104,116,115],1),([112,101,114,115,111,110,115],2),([110,105,103,104,116],3),([119,101,101,107,100,97,121],4)] 0).toArray 4)) (B.heap.size+1) [([110,105,103,104,116,115],1),([112,101,114,115,111,110,115],2),([110,105,103,104,116],3),([119,101,101,107,100,97,121],4)]:=Z30 bP
 have bH:Below B.heap.size B ((((((B.alloc (.cells #[vI (kdAt ts k),vI (lnAt ts k),.string (mk (nxt ts k))] 126)).alloc (.map #[] 0)).putObj (B.heap.size+1) (.map (esS [([110,105,103,104,116,115],1)] 0).toArray 1)).putObj (B.heap.size+1) (.map (esS [([110,105,103,104,116,115],1),([112,101,114,115,111,110,115],2)] 0).toArray 2)).putObj (B.heap.size+1) (.map (esS [([110,105,103,104,116,115],1),([112,101,114,115,111,110,115],2),([110,105,103,104,116],3)] 0).toArray 3)).putObj (B.heap.size+1) (.map (esS [([110,105,103,104,116,115],1),([112,101,114,115,111,110,115],2),([110,105,103,104,116],3),([119,101,101,107,100,97,121],4)] 0).toArray 4)):=Z0H cg (by omega) _;have t5:((((((B.alloc (.cells #[vI (kdAt ts k),vI (lnAt ts k),.string (mk (nxt ts k))] 126)).alloc (.map #[] 0)).putObj (B.heap.size+1) (.map (esS [([110,105,103,104,116,115],1)] 0).toArray 1)).putObj (B.heap.size+1) (.map (esS [([110,105,103,104,116,115],1),([112,101,114,115,111,110,115],2)] 0).toArray 2)).putObj (B.heap.size+1) (.map (esS [([110,105,103,104,116,115],1),([112,101,114,115,111,110,115],2),([110,105,103,104,116],3)] 0).toArray 3)).putObj (B.heap.size+1) (.map (esS [([110,105,103,104,116,115],1),([112,101,114,115,111,110,115],2),([110,105,103,104,116],3),([119,101,101,107,100,97,121],4)] 0).toArray 4)).heap[B.heap.size]?=some (.cells #[vI (kdAt ts k),vI (lnAt ts k),.string (mk (nxt ts k))] 126 (0,0)):=by rw [zQ (by omega),zQ (by omega),zQ (by omega),zQ (by omega),Below.heap_alloc _ _ _ (by simp)];exact t1
 have F5:=zh (F2.but (But.of_below bH));have P5:=zh (P2.on bH);have S5:=zh ce;have T5:=zh t5;clear bN b5 bR b4 bP cg ce bH F2 P2 t1 t5 cc bA b2 F1 P1 cb;go_upto_region 3 with fail;clear cx cz cm ck;generalize ((((((B.alloc (.cells #[vI (kdAt ts k),vI (lnAt ts k),.string (mk (nxt ts k))] 126)).alloc (.map #[] 0)).putObj (B.heap.size+1) (.map (esS [([110,105,103,104,116,115],1)] 0).toArray 1)).putObj (B.heap.size+1) (.map (esS [([110,105,103,104,116,115],1),([112,101,114,115,111,110,115],2)] 0).toArray 2)).putObj (B.heap.size+1) (.map (esS [([110,105,103,104,116,115],1),([112,101,114,115,111,110,115],2),([110,105,103,104,116],3)] 0).toArray 3)).putObj (B.heap.size+1) (.map (esS [([110,105,103,104,116,115],1),([112,101,114,115,111,110,115],2),([110,105,103,104,116],3),([119,101,101,107,100,97,121],4)] 0).toArray 4))=w5 at *
 have bY:Below w5.heap.size w5 (w5.alloc (.map #[] 0)):=(zr _ _).alloc (zn _) _;have bQ:=SMap.new w5;have ct:(Instr.mapUpdate 207 (.map (some w5.heap.size)) (.string ⟨#[109,105,110]⟩) (vI 8)).run prog (w5.alloc (.map #[] 0))=.ok () ((w5.alloc (.map #[] 0)).putObj w5.heap.size (.map (esS [([109,105,110],8)] 0).toArray 1)) := Z0z (t:=[109,105,110]) underlying207 underlying9 bQ (by decide) 8;have bF:SMap ((w5.alloc (.map #[] 0)).putObj w5.heap.size (.map (esS [([109,105,110],8)] 0).toArray 1)) w5.heap.size [([109,105,110],8)]:=Z30 bQ;have b7:Below w5.heap.size w5 ((w5.alloc (.map #[] 0)).putObj w5.heap.size (.map (esS [([109,105,110],8)] 0).toArray 1)):=Z0H bY (zn _) _;have cy:(Instr.mapUpdate 207 (.map (some w5.heap.size)) (.string ⟨#[109,97,120]⟩) (vI 9)).run prog ((w5.alloc (.map #[] 0)).putObj w5.heap.size (.map (esS [([109,105,110],8)] 0).toArray 1))=.ok () (((w5.alloc (.map #[] 0)).putObj w5.heap.size (.map (esS [([109,105,110],8)] 0).toArray 1)).putObj w5.heap.size (.map (esS [([109,105,110],8),([109,97,120],9)] 0).toArray 2)) := Z0z (t:=[109,97,120]) underlying207 underlying9 bF (by decide) 9;have bS:SMap (((w5.alloc (.map #[] 0)).putObj w5.heap.size (.map (esS [([109,105,110],8)] 0).toArray 1)).putObj w5.heap.size (.map (esS [([109,105,110],8),([109,97,120],9)] 0).toArray 2)) w5.heap.size [([109,105,110],8),([109,97,120],9)]:=Z30 bF;have bu:Below w5.heap.size w5 (((w5.alloc (.map #[] 0)).putObj w5.heap.size (.map (esS [([109,105,110],8)] 0).toArray 1)).putObj w5.heap.size (.map (esS [([109,105,110],8),([109,97,120],9)] 0).toArray 2)):=Z0H b7 (zn _) _;have F8:=F5.o.but (But.of_below bu);have A8:At w pb B.heap.size (B.heap.size+1) w5.heap.size ts k (((w5.alloc (.map #[] 0)).putObj w5.heap.size (.map (esS [([109,105,110],8)] 0).toArray 1)).putObj w5.heap.size (.map (esS [([109,105,110],8),([109,97,120],9)] 0).toArray 2)) := ⟨F8,(bu.block _ (zF2.1 T5.o).1).trans T5.o,S5.o.on (bu.block _ S5.o.lt),bS,by omega,by omega,by have:=F5.o.lt;omega⟩;have H:=zh (P5.o.on bu);have F:=zh A8;clear bF b7 bS bu bQ bY F8 A8 F5 P5 S5 T5;go_upto_region 4 with fail;clear ct cy cr;generalize (((w5.alloc (.map #[] 0)).putObj w5.heap.size (.map (esS [([109,105,110],8)] 0).toArray 1)).putObj w5.heap.size (.map (esS [([109,105,110],8),([109,97,120],9)] 0).toArray 2))=w8 at *
 generalize B.heap.size+1=r1 at *
 generalize B.heap.size=bt at *
 generalize w5.heap.size=r2 at *
 have q:=F.o.tok0;rcases HC.o with ⟨f,br,rfl⟩ | ⟨f,br,rfl⟩ | ⟨bV,b0,C⟩
 . have hq:kdAt ts k=2:=by rw [Zfg HK.o f,br]
   rw [hq] at q;go_wp2_with fail;refine (Z8G _ pb v ts k H.o f 2 br (by omega)).mono ?_;rintro e w9 ⟨rfl,p9,b9⟩;have P9:=zh p9;have bL:=zh (F.o.but b9);clear p9 b9 q F H;have F:=bL;obtain ⟨T,S,U,s3,s4,s5⟩:=F.o.1.six;go_wp2_with fail;refine bodyPost_ret (v:=.agg #[vI 1,vI (dval (nxt ts k)),slice none 0 0]) (by simp [results,results288,go_sem,T,S,U]) rfl ?_;exact Z5y (x:=((1,dval (nxt ts k)),.nil)) M F.o.1.1 P9.o (FoD.nil _ (λ_=>False)) (λ_ h=>h.elim)
 . have hq:kdAt ts k=3:=by rw [Zfg HK.o f,br]
   rw [hq] at q;go_wp2_with fail;refine (Z8G _ pb v ts k H.o f 3 br (by omega)).mono ?_;rintro e w9 ⟨rfl,p9,b9⟩;have P9:=zh p9;have bL:=zh (F.o.but b9);clear p9 b9 q F H;have F:=bL;obtain ⟨T,S,U,s3,s4,s5⟩:=F.o.1.six;go_wp2_with fail;refine bodyPost_ret (v:=.agg #[vI 2,vI (dval (nxt ts k)),slice none 0 0]) (by simp [results,results288,go_sem,T,S,U]) rfl ?_;exact Z5y (x:=((2,dval (nxt ts k)),.nil)) M F.o.1.1 P9.o (FoD.nil _ (λ_=>False)) (λ_ h=>h.elim)
 have d2:=Zax HK.o 2 (by omega) bV;have d3:=Zax HK.o 3 (by omega) b0;have e2:=F.o.tok2;have lv:=F.o.var;clear bV b0 HC;rcases C with ⟨f,l,rfl⟩ | ⟨l,C⟩
 . rw [zp l] at lv;obtain ⟨vv,bz⟩:∃ vv,vv=Z4x (nxt ts k):=⟨_,rfl⟩
   rw [<- bz] at lv l |-
   have dv:decide ((0:Int)<vv)=true:=by simpa using l
   have bh:PI (w8.setCell ⟨pb,1,none⟩ (vI ((k:Int)+1))) pb v ts (k+1):=by have:=H.o.set (k+1) (by omega);rwa [show (((k+1:Nat)):Int)=(k:Int)+1 by omega] at this
   have Z:At w pb bt r1 r2 ts k (w8.setCell ⟨pb,1,none⟩ (vI ((k:Int)+1))):=F.o.but ((But.refl _ _).set (p:=⟨pb,1,none⟩) rfl _);have cu:=Z.var;rw [<- bz,zp l] at cu;have e3:=Z.tok2;obtain ⟨T,S,U,s3,s4,s5⟩:=Z.1.six;have c1:=H.o.cell1;have f1:=H.o.free 1;obtain ⟨bv,bp,cs⟩:=zh3 bh Z bz;clear bh Z bz;go_wp2_with fail;refine bodyPost_ret (v:=.agg #[vI 3,vI vv,slice none 0 0]) (by simp [results,results288,go_sem,T,S,U]) rfl ?_;rw [<- cs.o];exact Z5y (x:=((3,vv),.nil)) M bp.o.1.1 bv.o (FoD.nil _ (λ_=>False)) (λ_ h=>h.elim)
 rw [zf l] at lv;have lb:=F.o.both;have HD:=zh C;clear C l;rcases HD.o with ⟨f,hb,C⟩ | ⟨hb,C⟩
 . rw [zp hb] at lb;obtain ⟨op,bG⟩:∃ op,op=Z2c (nxt ts k):=⟨_,rfl⟩
   rw [<- bG] at lb hb C;have db:decide ((0:Int)<op)=true:=by simpa using hb
   have bh:PI (w8.setCell ⟨pb,1,none⟩ (vI ((k:Int)+1))) pb v ts (k+1):=by have:=H.o.set (k+1) (by omega);rwa [show (((k+1:Nat)):Int)=(k:Int)+1 by omega] at this
   have Z:At w pb bt r1 r2 ts k (w8.setCell ⟨pb,1,none⟩ (vI ((k:Int)+1))):=F.o.but ((But.refl _ _).set (p:=⟨pb,1,none⟩) rfl _);have c1:=H.o.cell1;have f1:=H.o.free 1;obtain ⟨bv,bp,cC,HB,HE⟩:=zh5 bh Z bG hb C;clear bh Z bG C HD hb;go_wp2_with fail;clear lv lb q e2 c1 f1 F H;generalize w8.setCell ⟨pb,1,none⟩ (vI ((k:Int)+1))=cE at *
   rcases HE.o with ⟨V,rfl⟩ | ⟨G,bJ,o1,⟨bK,bj⟩,C⟩
   . refine (Z2H _ pb v ts (k+1) bv.o [40] V).mono ?_;rintro e bE ⟨rfl,N⟩;exact ⟨rfl,bp.o.1.1.trans (But.of_below N),rfl⟩
   refine (Z1q _ pb v ts (k+1) bv.o bJ [40] G).mono ?_;rintro e bE ⟨rfl,p11,N⟩;have bs:=zh p11;have R:=zh (bp.o.but N);have bd:=zh bj;have bk:=zh C;clear p11 N bv bp bj C HE G bK;go_wp2_with fail;refine (bd.o _ bs.o).mono ?_;rcases bk.o with ⟨k2,rfl,rfl⟩ | ⟨a,k1,rfl,C⟩
   . rintro e I ⟨O,rfl⟩;exact ⟨rfl,R.o.1.1.trans O,rfl⟩
   rintro e I ⟨O,bn,A,c,rfl,Y⟩;have bx:=Tr.of Y R.o.1.lt;have j:=R.o.but O;have bf:=zh (Bx.new (x:=a) bx j.1.lt);have J:Below I.heap.size I (I.alloc (.cells #[vI a.1.1,vI a.1.2,slice A (flen a.2) c] 79)):=(zr _ _).alloc (zn _) _;have d:=zh (bn.on J);have m:=zh (j.but (But.of_below J));have bq:=zh C;clear O bn Y R bs bx j J C bk bd;go_wp2_with fail;generalize I.alloc (.cells #[vI a.1.1,vI a.1.2,slice A (flen a.2) c] 79)=cv at *
   generalize I.heap.size=ba at *
   rcases bq.o with ⟨V,rfl⟩ | ⟨G,bC,o2,⟨cA,cd⟩,C⟩
   . refine (Z2H _ pb v ts k1 d.o [44] V).mono ?_;rintro e bO ⟨rfl,L⟩;exact ⟨rfl,m.o.1.1.trans (But.of_below L),rfl⟩
   refine (Z1q _ pb v ts k1 d.o bC [44] G).mono ?_;rintro e bO ⟨rfl,bc,L⟩;have bB:=zh bc;have g:=zh (m.o.but L);have bg:=zh (bf.o.but L M);have cj:=zh cd;have bU:=zh C;clear bc L d m bf cd C bq G cA;go_wp2_with fail;refine (cj.o _ bB.o).mono ?_;rcases bU.o with ⟨k2,rfl,rfl⟩ | ⟨b,k2,rfl,C⟩
   . rintro e y ⟨be,rfl⟩;exact ⟨rfl,g.o.1.1.trans be,rfl⟩
   rintro e y ⟨be,ca,A2,c2,rfl,Y⟩;have bW:=Tr.of Y g.o.1.lt;have bI:=g.o.but be;have b3:=bg.o.but be M;have b1:=zh (Bx.new (x:=b) bW bI.1.lt);have J:Below y.heap.size y (y.alloc (.cells #[vI b.1.1,vI b.1.2,slice A2 (flen b.2) c2] 79)):=(zr _ _).alloc (zn _) _;have bM:=zh (ca.on J);have bD:=zh (bI.but (But.of_below J));have b8:=zh (b3.but (But.of_below (pb:=pb) J) M);have cf:=zh C;clear be ca Y g bB bW bI b3 bg J C bU cj;go_wp2_with fail;generalize y.alloc (.cells #[vI b.1.1,vI b.1.2,slice A2 (flen b.2) c2] 79)=cH at *
   generalize y.heap.size=bb at *
   rcases cf.o with ⟨V,rfl⟩ | ⟨G,cn,rfl⟩
   . refine (Z2H _ pb v ts k2 bM.o [41] V).mono ?_;rintro e bT ⟨rfl,r⟩;exact ⟨rfl,bD.o.1.1.trans (But.of_below r),rfl⟩
   refine (Z1q _ pb v ts k2 bM.o cn [41] G).mono ?_;rintro e bT ⟨rfl,b6,r⟩;have cB:=zh b6;have bm:=zh (bD.o.but r);have bX:=zh (b8.o.but r M);have bZ:=zh (b1.o.but r M);clear b6 r bM bD b8 b1 cf G;obtain ⟨T,S,U,s3,s4,s5⟩:=bm.o.1.six;obtain ⟨q0,q1,q2⟩:=bX.o.three;obtain ⟨q3,q4,q5⟩:=bZ.o.three;have lb:=bm.o.both;rw [<- cC.o,zp HB.o] at lb;have e2:=bm.o.tok2;have ch:=bm.o.1.lt;go_wp2_with fail;refine bodyPost_ret (v:=.agg #[vI op,vI 0,slice (some ⟨bT.heap.size,0,none⟩) 2 2]) (by simp [results,results288,go_sem,T,S,U,ch]) rfl ?_;exact Z8H (x:=Z3D op a b) bm.o.1 cB.o (λX h1 h2 h3=>FoD.two (D:=λb=>w.heap.size<b/\b<X.heap.size) ⟨ch,by omega⟩ h2 (bX.o.2.2.to h1 h3) (bZ.o.2.2.to h1 h3) 2)
 rw [zf hb] at lb;have HE:=zh C;clear hb C HD;go_wp2_with fail;clear lv lb q e2;rcases HE.o with ⟨V,rfl⟩ | ⟨G,bJ,o1,⟨bK,bj⟩,C⟩
 . refine (Z2H _ pb v ts k H.o [40] V).mono ?_;rintro e bE ⟨rfl,N⟩;exact ⟨rfl,F.o.1.1.trans (But.of_below N),rfl⟩
 refine (Z1q _ pb v ts k H.o bJ [40] G).mono ?_;rintro e bE ⟨rfl,p11,N⟩;have bs:=zh p11;have R:=zh (F.o.but N);have bd:=zh bj;have bk:=zh C;clear p11 N H F bj C HE G bK;go_wp2_with fail;refine (bd.o _ bs.o).mono ?_;rcases bk.o with ⟨k2,rfl,rfl⟩ | ⟨a,k1,rfl,C⟩
 . rintro e I ⟨O,rfl⟩;exact ⟨rfl,R.o.1.1.trans O,rfl⟩
 rintro e I ⟨O,bn,A,c,rfl,Y⟩;have bx:=Tr.of Y R.o.1.lt;have j:=R.o.but O;have bf:=zh (Bx.new (x:=a) bx j.1.lt);have J:Below I.heap.size I (I.alloc (.cells #[vI a.1.1,vI a.1.2,slice A (flen a.2) c] 79)):=(zr _ _).alloc (zn _) _;have d:=zh (bn.on J);have m:=zh (j.but (But.of_below J));have bq:=zh C;clear O bn Y R bs bx j J C bk bd;go_wp2_with fail;generalize I.alloc (.cells #[vI a.1.1,vI a.1.2,slice A (flen a.2) c] 79)=cv at *
 generalize I.heap.size=ba at *
 rcases bq.o with ⟨V,rfl⟩ | ⟨G,bC,rfl⟩
 . refine (Z2H _ pb v ts k1 d.o [41] V).mono ?_;rintro e bO ⟨rfl,L⟩;exact ⟨rfl,m.o.1.1.trans (But.of_below L),rfl⟩
 refine (Z1q _ pb v ts k1 d.o bC [41] G).mono ?_;rintro e bO ⟨rfl,bc,L⟩;have bB:=zh bc;have g:=zh (m.o.but L);have bg:=zh (bf.o.but L M);clear bc L d m bf bq G;obtain ⟨T,S,U,s3,s4,s5⟩:=g.o.1.six;obtain ⟨q0,q1,q2⟩:=bg.o.three;go_wp2_with fail;refine bodyPost_ret (v:=.agg #[vI a.1.1,vI a.1.2,slice A (flen a.2) c]) (by simp [results,results288,go_sem,T,S,U]) rfl ?_;exact Z5y M g.o.1.1 bB.o bg.o.2.2 (λb h=>h)
theorem Zj1 (pb:Nat)(v:Value)(ts:List Tok)(k:Nat)(hk:k<=ts.length)(he:∀ k',k<k'->k'<=ts.length->RC 0 116 pb v ts k'):RC 6 288 pb v ts k:=by
 obtain ⟨o,D,B,C⟩:=Znj pb v ts k hk he;exact ⟨o,D,B,Zj0 pb v ts k o C⟩
theorem Znk (pb:Nat)(v:Value)(ts:List Tok):∀ (d k:Nat),ts.length - k<=d->k<=ts.length -> RC 0 116 pb v ts k/\RC 2 161 pb v ts k/\RC 3 197 pb v ts k/\RC 4 247 pb v ts k/\RC 5 276 pb v ts k/\RC 6 288 pb v ts k:=by
 intro d;induction d with
 | zero =>
  intro k J hk;have I:∀ k',k<k'->k'<=ts.length->False:=λk' h1 B=>by omega
  have D:=Zj1 pb v ts k hk (λk' h1 B=>(I k' h1 B).elim);have F:=Z9G pb v ts k hk (λk' h1 B=>by obtain rfl:k=k':=(by omega);exact D);have G:=Zqu pb v ts k hk (λk' h1 B=>by obtain rfl:k=k':=(by omega);exact F);have H:=Z8u pb v ts k hk (λk' h1 B=>by obtain rfl:k=k':=(by omega);exact G) (λk' h1 B=>(I k' h1 B).elim);have B:=Zqv pb v ts k hk (λk' h1 B=>by obtain rfl:k=k':=(by omega);exact H);exact ⟨ZiG pb v ts k hk (λk' h1 h2'=>by obtain rfl:k=k':=(by omega);exact B) (λk' h1 B=>(I k' h1 B).elim),B,H,G,F,D⟩
 | succ d ih =>
  intro k J hk;have C:∀ k',k<k'->k'<=ts.length->_:=λk' h1 B=>ih k' (by omega) B;have D:=Zj1 pb v ts k hk (λk' h1 B=>(C k' h1 B).1);have F:=Z9G pb v ts k hk (λk' h1 B=>by
   by_cases e:k=k'
   . subst e;exact D
   . exact (C k' (by omega) B).2.2.2.2.2)
  have G:=Zqu pb v ts k hk (λk' h1 B=>by
   by_cases e:k=k'
   . subst e;exact F
   . exact (C k' (by omega) B).2.2.2.2.1)
  have H:=Z8u pb v ts k hk (λk' h1 B=>by
   by_cases e:k=k'
   . subst e;exact G
   . exact (C k' (by omega) B).2.2.2.1) (λk' h1 B=>(C k' h1 B).2.2.1)
  have B:=Zqv pb v ts k hk (λk' h1 B=>by
   by_cases e:k=k'
   . subst e;exact H
   . exact (C k' (by omega) B).2.2.1)
  exact ⟨ZiG pb v ts k hk (λk' h1 h2'=>by
   by_cases e:k=k'
   . subst e;exact B
   . exact (C k' (by omega) h2').2.1) (λk' h1 B=>(C k' h1 B).1),B,H,G,F,D⟩
theorem Znm (pb:Nat)(v:Value)(ts:List Tok)(k:Nat)(hk:k<=ts.length):RC 0 116 pb v ts k:=(Znk pb v ts (ts.length - k) k (zn _) hk).1
end
section
open Go.RowKit Lx Px
def Z0g (s:Bytes)(ts:List Tok)(k:Nat):Except Nat (Int × Nat) :=
 if nxt ts k=s then (if Z0e (nxt ts (k+1))=2 then .ok (dval (nxt ts (k+1)),k+1+1) else .error (k+1)) else .error k
def NP (pb:Nat)(v:Value)(ts:List Tok)(o:Except Nat (Int × Nat))(w:World)(e:Ending)(w':World):Prop :=
 match o with
 | .ok (n,k')=>But pb w w'/\PI w' pb v ts k'/\e=.returned (vI n)
 | .error k'=>But pb w w'/\e=.panicked [Zc0 ts k']
theorem Znn:Z0e []=0:=by decide
theorem Zrb {ts:List Tok}{k:Nat}(h:Z0e (nxt ts k)=2):k<ts.length:=by
 by_cases hk:k<ts.length
 . exact hk
 . rw [Z5F ts k hk,Znn] at h;omega
theorem Z1E (w:World)(pb:Nat)(v:Value)(ts:List Tok)(k:Nat)(h:PI w pb v ts k)(s:Bytes)(S:s≠[]) : Calls prog 113 #[.pointer (some ⟨pb,0,none⟩),.string (mk s)] w (NP pb v ts (Z0g s ts k) w):=by
 unfold Z0g;have H:=zh h;clear h;by_cases h1:nxt ts k=s
 . have O:=Z35 h1 S;rw [zp h1];have D:=zh h1;clear h1;by_cases h2:Z0e (nxt ts (k+1))=2
   . rw [zp h2];have V:=Zrb h2;have I:=zh h2;clear h2;go_enter func113,ntmps113;go_wp2_with fail;refine (Z1q _ pb v ts k H.o O s D.o).mono ?_;rintro e N ⟨rfl,C,B⟩;have G:=zh C;have J:=zh B;clear C B;go_wp2_with fail;refine (Z8G _ pb v ts (k+1) G.o V 2 I.o (by omega)).mono ?_;rintro e U ⟨rfl,M,F⟩;have X:=zh M;have Y:=zh (J.o.trans F);clear M F;go_wp2_with fail;go_ret;exact ⟨Y.o,X.o,rfl⟩
   . rw [zf h2];have I:=zh h2;clear h2;have R:=H.o.2.2.2.2.1;have L:kdAt ts (k+1)≠2:=by have:=Zax R 2 (by omega) I.o;exact λe=>by rw [e] at this;simp at this
     have T:=zh L;clear R L;go_enter func113,ntmps113;go_wp2_with fail;refine (Z1q _ pb v ts k H.o O s D.o).mono ?_;rintro e N ⟨rfl,C,B⟩;have G:=zh C;have J:=zh B;clear C B;go_wp2_with fail;refine (ZnA _ pb v ts (k+1) G.o 2 T.o).mono ?_;rintro e U ⟨rfl,F⟩;exact ⟨rfl,J.o.on F,rfl⟩
 . rw [zf h1];have D:=zh h1;clear h1;go_enter func113,ntmps113;go_wp2_with fail;refine (Z2H _ pb v ts k H.o s D.o).mono ?_;rintro e N ⟨rfl,B⟩;exact ⟨rfl,But.of_below B,rfl⟩
end
section
open Go.RowKit Lx Px
def pctN (n:Int):Int:=n.tdiv (Nat.gcd n.natAbs 100:Nat)
def pctD (n:Int):Int:=(100:Int).tdiv (Nat.gcd n.natAbs 100:Nat)
theorem Zh1 (n:Int)(B:0<=n)(I:n<=999999999):0<=pctN n/\pctN n<=999999999/\0<=pctD n/\pctD n<=100:=by
 have F:0<Nat.gcd n.natAbs 100:=Nat.gcd_pos_of_pos_right _ (by omega);unfold pctN pctD;generalize Nat.gcd n.natAbs 100=g at *
 obtain ⟨m,rfl⟩:=zE2 B;have D:((m:Int)).tdiv (g:Int)=((m / g:Nat):Int):=by rw [Int.tdiv_eq_ediv_of_nonneg (by omega)];rfl
 have C:((100:Int)).tdiv (g:Int)=((100 / g:Nat):Int):=by rw [Int.tdiv_eq_ediv_of_nonneg (by omega)];rfl
 rw [D,C];have G:=Nat.div_le_self m g;have H:=Nat.div_le_self 100 g;generalize m / g=q at *
 generalize 100 / g=r at *
 omega
theorem Zrc (n:Int)(w:World)(J:0<=n)(N:n<=999999999) : Calls prog 157 #[.agg #[vI n,vI 100]] w λe w'=>e=.returned (.tuple #[.agg #[vI (pctN n),vI (pctD n)],vI 0])/\Below w.heap.size w w':=by
 obtain ⟨X,f,Z,Y⟩:=Zh1 n J N;have F:∀ W:World,Calls prog 167 #[.agg #[vI n,vI 100]] W λe w'=>e=.returned (.agg #[vI (pctN n),vI (pctD n)])/\Below W.heap.size W w':=λW=>Z91 n 100 W (by omega) (by omega) (by omega) (by omega);generalize pctN n=a at *
 generalize pctD n=b at *
 have H:∀ W:World,Calls prog 136 #[vI a] W λe w'=>e=.returned (vI a)/\W=w':=λW=>by have:=Zce a W (by omega) (by omega);rwa [show ((a.natAbs:Nat):Int)=a by omega] at this
 have R:=zh F;have O:=zh H;clear F H;have G:Below w.heap.size w ((w.alloc (.cells #[vI n,vI 100] 196)).alloc (.cells #[vI 0,vI 0] 76)):=((zr _ _).alloc (zn _) _).alloc (by simp) _;have T:=zh G;have D:=zh (Z0F w (.cells #[vI n,vI 100] 196) (.cells #[vI 0,vI 0] 76));clear G;go_enter func157,ntmps157;go_wp2_with fail;generalize (w.alloc (.cells #[vI n,vI 100] 196)).alloc (.cells #[vI 0,vI 0] 76)=U at *
 refine (R.o U).mono ?_;rintro e C ⟨rfl,hb⟩;have B:=(hb.block _ (zF2.1 D.o.2).1).trans D.o.2;have I:=zh (Z00 T.o hb);have S:w.heap.size+1<C.heap.size:=(zF2.1 B).1;have M:C.cell? ⟨w.heap.size+1,0,none⟩=some (vI 0):=by rw [zH B];rfl
 have L:C.cell? ⟨w.heap.size+1,1,none⟩=some (vI 0):=by rw [zH B];rfl
 have d:C.frozen? ⟨w.heap.size+1,0,none⟩=false:=by simp [World.frozen?,B]
 have V:C.frozen? ⟨w.heap.size+1,1,none⟩=false:=by simp [World.frozen?,B]
 clear B hb;go_wp2_with (go_at_call 136;refine (O.o _).mono ?_;rintro e w' ⟨rfl,rfl⟩);refine bodyPost_ret (v:=.tuple #[.agg #[vI a,vI b],vI 0]) (by simp [results,results157,go_sem,M,L,S]) rfl ⟨rfl,?_⟩;exact ((I.o.setCell (p:=⟨w.heap.size+1,0,none⟩) (by show w.heap.size<=w.heap.size+1;omega) _).setCell (p:=⟨w.heap.size+1,1,none⟩) (by show w.heap.size<=w.heap.size+1;omega) _).alloc (by simp only [World.setCell,Array.size_modify];omega) _
theorem Zj2 (k:Int)(w:World)(C:0<=k)(F:k<=999999999):Calls prog 156 #[vI k] w λe w'=>e=.returned (.bool false)/\w=w':=by
 have D:decide (k < -1000000000000000)=false:=by simpa using (by omega:¬ k < -1000000000000000)
 have B:decide ((1000000000000000:Int)<k)=false:=by simpa using (by omega:¬ (1000000000000000:Int)<k)
 go_enter func156,ntmps156;go_wp2_with fail;go_ret;exact ⟨rfl,rfl⟩
theorem Znp (n:Int)(w:World)(G:0<=n)(I:n<=999999999) : Calls prog 114 #[vI n,vI 100] w λe w'=>e=.returned (.tuple #[.agg #[vI (pctN n),vI (pctD n)],vI 0])/\Below w.heap.size w w':=by
 have H:∀ W:World,Calls prog 157 #[.agg #[vI n,vI 100]] W λe w'=>e=.returned (.tuple #[.agg #[vI (pctN n),vI (pctD n)],vI 0])/\Below W.heap.size W w':=λW=>Zrc n W G I;have D:∀ W:World,Calls prog 156 #[vI n] W λe w'=>e=.returned (.bool false)/\W=w':=λW=>Zj2 n W G I;have F:∀ W:World,Calls prog 156 #[vI 100] W λe w'=>e=.returned (.bool false)/\W=w':=λW=>Zj2 100 W (by omega) (by omega);obtain ⟨T,R,N⟩:=zh3 H D F;clear H D F;have L:Below w.heap.size w (w.alloc (.cells #[vI 0,vI 0] 76)):=(zr _ _).alloc (zn _) _;have U:=zh L;have J:=zh (za w (.cells #[vI 0,vI 0] 76));clear L;go_enter func114,ntmps114;go_wp2_with (first | (go_at_call 156;refine (R.o _).mono ?_;rintro e w' ⟨rfl,rfl⟩) | (go_at_call 156;refine (N.o _).mono ?_;rintro e w' ⟨rfl,rfl⟩));generalize w.alloc (.cells #[vI 0,vI 0] 76)=V at *
 refine (T.o V).mono ?_;rintro e C ⟨rfl,hb⟩;have B:=(hb.block _ (zF2.1 J.o).1).trans J.o;have M:=zh (Z00 U.o hb);have S:C.cell? ⟨w.heap.size,0,none⟩=some (vI 0):=by rw [zH B];rfl
 have O:C.cell? ⟨w.heap.size,1,none⟩=some (vI 0):=by rw [zH B];rfl
 have Y:C.frozen? ⟨w.heap.size,0,none⟩=false:=by simp [World.frozen?,B]
 have X:C.frozen? ⟨w.heap.size,1,none⟩=false:=by simp [World.frozen?,B]
 clear B hb;go_wp2_with fail;refine bodyPost_ret (v:=.tuple #[.agg #[vI (pctN n),vI (pctD n)],vI 0]) (by simp [results,results114,go_sem,S,O]) rfl ⟨rfl,?_⟩;exact (M.o.setCell (p:=⟨w.heap.size,0,none⟩) (zn _) _).setCell (p:=⟨w.heap.size,1,none⟩) (zn _) _
end
section
open Go.RowKit Lx Px
structure Rr where
 id:Int
 lv:Int
 kd:Int
 fr:Int
 un:Int
 ls:Int
 mo:Int
 ar:Int
 kp:Int
 wh:Ex
 pr:Ex
inductive ROut where
 | ok (r:Rr) (k:Nat)
 | no (k:Nat)
 | bad
def Z71 (x:Except Nat (Int × Nat))(f:Int->Nat->ROut):ROut :=
 match x with
 | .error j=>.no j
 | .ok (n,k)=>f n k
def Z4v (s:Bytes)(ts:List Tok)(k:Nat)(f:Nat->ROut):ROut:=if nxt ts k=s then f (k+1) else .no k
def Zh2 (o:Out)(f:Ex->Nat->ROut):ROut :=
 match o with
 | .no j=>.no j
 | .ok e k=>f e k
def Z68:Bytes:=[114,97,116,101]
def Z9A:Bytes:=[108,101,118,101,108]
def Zh3:Bytes:=[107,105,110,100]
def Z72:Bytes:=[110,105,103,104,116,115]
def kTo:Bytes:=[116,111]
def Zh4:Bytes:=[115,116,97,121]
def Z73:Bytes:=[97,114,114,105,118,101]
def Zh5:Bytes:=[107,101,101,112]
def Zdt:Bytes:=[119,104,101,110]
def Z8v:Bytes:=[112,114,105,99,101]
def Z4w (ex:Nat->Out)(ts:List Tok)(k:Nat):ROut := Z71 (Z0g Z68 ts k) λid k=>Z71 (Z0g Z9A ts k) λlv k=>Z71 (Z0g Zh3 ts k) λkd k =>
 Z71 (Z0g Z72 ts k) λfr k=>Z71 (Z0g kTo ts k) λun k=>Z71 (Z0g Zh4 ts k) λls k=>Z71 (Z0g kTo ts k) λmo k =>
 Z71 (Z0g Z73 ts k) λar k=>Z71 (Z0g Zh5 ts k) λkp k=>Z4v [37] ts k λk=>Z4v Zdt ts k λk =>
 Zh2 (ex k) λwh k=>Z4v Z8v ts k λk=>Zh2 (ex k) λpr k=>Z4v [59] ts k λk =>if Z0f wh.1.1 wh.1.2 wh.2&&Z0f pr.1.1 pr.1.2 pr.2 then .ok ⟨id,lv,kd,fr,un,ls,mo,ar,kp,wh,pr⟩ k else .bad
theorem Znq {t:Bytes}(h:Z0e t=2):0<=dval t/\dval t<=999999999:=by
 have key:Z3E t=true:=by
  unfold Z0e at h;split at h
  . omega
  . split at h
    . assumption
    . split at h
      . omega
      . split at h <;> omega
 simp only [Z3E,allR,zd,Bool.not_eq_true',List.isEmpty_eq_false_iff,decide_eq_true_eq] at key;have H:t.filter (· != 46)=t:=by rw [List.filter_eq_self];intro c F;have:=Zdw key.1.1.2 F;simp only [bne_iff_ne];rintro rfl;exact absurd this (by decide)
 unfold dval;rw [H];have hb:∀ (l:Bytes) (a:Int),l.all (inR 48 57)=true->0<=a->a*10 ^ l.length<=l.foldl (λn c=>10*n+((c.toNat:Int) - 48)) a/\l.foldl (λn c=>10*n+((c.toNat:Int) - 48)) a<(a+1)*10 ^ l.length:=by
  intro l;induction l with
  | nil=>intro a _ _;simp;omega
  | cons c l ih =>
   intro a B N;simp only [List.all_cons,zd] at B;have F:48<=c.toNat/\c.toNat<=57:=by have:=B.1;simp only [inR,zd,decide_eq_true_eq] at this;omega
   obtain ⟨D,C⟩:=ih (10*a+((c.toNat:Int) - 48)) B.2 (by omega);simp only [List.foldl_cons,zw];have M:(0:Int)<10 ^ l.length:=Int.pow_pos (by omega);have G:(10:Int) ^ (l.length+1)=10*10 ^ l.length:=by rw [Int.pow_succ];omega
   have J:a*(10*10 ^ l.length)<=(10*a+((c.toNat:Int) - 48))*10 ^ l.length:=by rw [<- Int.mul_assoc];exact Int.mul_le_mul_of_nonneg_right (by omega) (by omega)
   have I:(10*a+((c.toNat:Int) - 48)+1)*10 ^ l.length<=(a+1)*(10*10 ^ l.length):=by rw [<- Int.mul_assoc];exact Int.mul_le_mul_of_nonneg_right (by omega) (by omega)
   rw [G];exact ⟨Int.le_trans J D,Int.lt_of_lt_of_le C I⟩
 obtain ⟨D,C⟩:=hb t 0 key.1.1.2 (by omega);have L:(10:Int) ^ t.length<=10 ^ 9:=by have B:t.length<=9:=key.1.2;have:=Nat.pow_le_pow_right (show 0<10 by omega) B;exact_mod_cast this
 unfold val;constructor
 . simpa using D
 . have:(1:Int)*10 ^ t.length<=1000000000:=by simpa using L
   simp only [Int.zero_add] at C;omega
theorem Z1F {s:Bytes}{ts:List Tok}{k B:Nat}{n:Int}(h:Z0g s ts k=.ok (n,B)):0<=n/\n<=999999999:=by
 unfold Z0g at h;split at h
 . split at h
   . rename_i C;injection h with h
     injection h with h3 h4
     rw [<- h3];exact Znq C
   . cases h
 . cases h
end
section
open Go.RowKit Lx Px
def RF (w:World)(pb:Nat)(wx:World):Prop:=But pb w wx/\RBox w #[vI 0,vI 0,vI 0,vI 0,vI 0,vI 0,vI 0,vI 0,vI 0,vI 0,vI 0,vI 0,slice none 0 0,vI 0,vI 0,slice none 0 0] 81 wx/\pb<w.heap.size
theorem RF.but {w:World}{pb:Nat}{B C:World}(h:RF w pb B)(hb:But pb B C):RF w pb C := ⟨h.1.trans hb,(hb.block _ h.2.1.lt (by have:=h.2.2;omega)).trans h.2.1,h.2.2⟩
def RtI (w:World)(pb b4:Nat)(cs:Array Value)(wx:World):Prop:=RF w pb wx/\wx.heap[b4]?=some (.cells cs 81 (0,0))/\w.heap.size<b4
theorem RtI.but {w:World}{pb b4:Nat}{cs:Array Value}{B C:World}(h:RtI w pb b4 cs B)(hb:But pb B C):RtI w pb b4 cs C := ⟨h.1.but hb,(hb.block _ (zF2.1 h.2.1).1 (by have:=h.1.2.2;have:=h.2.2;omega)).trans h.2.1,h.2.2⟩
theorem set_at {w:World}{b:Nat}{cs:Array Value}{B:TypeId}(h:w.heap[b]?=some (.cells cs B (0,0)))(i:Nat)(x:Value):(w.setCell ⟨b,i,none⟩ x).heap[b]?=some (.cells (cs.setIfInBounds i x) B (0,0)):=by
 simp [World.setCell,zM,h]
theorem RtI.set {w:World}{pb b4:Nat}{cs:Array Value}{B:World}(h:RtI w pb b4 cs B)(i:Nat)(x:Value):RtI w pb b4 (cs.setIfInBounds i x) (B.setCell ⟨b4,i,none⟩ x):=by
 obtain ⟨⟨H,C,G⟩,F,D⟩:=h;refine ⟨⟨H.new (p:=⟨b4,i,none⟩) (by show w.heap.size<=b4;omega) _,?_,G⟩,set_at F i x,D⟩;exact (zg _ _ _ _ (show w.heap.size≠b4 by omega)).trans C
theorem RtI.cell {w:World}{pb b4:Nat}{cs:Array Value}{B:World}(h:RtI w pb b4 cs B)(i:Nat)(x:Value)(C:cs[i]?=some x):B.cell? ⟨b4,i,none⟩=some x:=by rw [zH h.2.1,C]
theorem RtI.free {w:World}{pb b4:Nat}{cs:Array Value}{B:World}(h:RtI w pb b4 cs B)(i:Nat):B.frozen? ⟨b4,i,none⟩=false:=by simp [World.frozen?,h.2.1]
theorem RtI.far {w:World}{pb b4:Nat}{cs:Array Value}{B:World}(h:RtI w pb b4 cs B):pb<b4:=by have:=h.1.2.2;have:=h.2.2;omega
def Tq (w:World)(b4:Nat)(wx:World)(A:Option Addr)(c:Nat)(f:Fo):Prop:=FoD wx (λb=>w.heap.size<b/\b≠b4/\b<wx.heap.size) (slice A (flen f) c) f
theorem Tq.but {w:World}{pb b4:Nat}{B C:World}{A:Option Addr}{c:Nat}{f:Fo}(h:Tq w b4 B A c f)(hb:But pb B C)(D:pb<w.heap.size):Tq w b4 C A c f := FoD.keep h (λb x=>⟨x.1,x.2.1,by have:=hb.size;have:=x.2.2;omega⟩) (λb x=>hb.block b x.2.2 (by have:=x.1;omega))
theorem Tq.set {w:World}{b4:Nat}{B:World}{A:Option Addr}{c:Nat}{f:Fo}(h:Tq w b4 B A c f)(i:Nat)(x:Value):Tq w b4 (B.setCell ⟨b4,i,none⟩ x) A c f := FoD.keep h (λb y=>⟨y.1,y.2.1,by simp only [World.setCell,Array.size_modify];exact y.2.2⟩) (λb y=>zg _ _ _ _ y.2.1)
theorem Tq.of {w C B:World}{b4:Nat}{A:Option Addr}{c:Nat}{f:Fo}(h:FoD B (λb=>C.heap.size<=b/\b<B.heap.size) (slice A (flen f) c) f)(D:w.heap.size<C.heap.size)(F:b4<C.heap.size):Tq w b4 B A c f := FoD.keep h (λb x=>⟨by have:=x.1;omega,by have:=x.1;omega,x.2⟩) (λ_ _=>rfl)
def rrV (r:Rr)(A1:Option Addr)(c1:Nat)(A2:Option Addr)(c2:Nat):Value := .agg #[vI r.id,vI r.lv,vI r.kd,vI r.fr,vI r.un,vI r.ls,vI r.mo,vI r.ar,vI (pctN r.kp),vI (pctD r.kp),vI r.wh.1.1,vI r.wh.1.2,slice A1 (flen r.wh.2) c1,vI r.pr.1.1,vI r.pr.1.2,slice A2 (flen r.pr.2) c2]
def badV (ts:List Tok)(k:Nat):PanicEntry:={ v:=.iface 134 (.agg #[vI 1,vI (lnAt ts k)]),recovered:=false }
def RtP (pb:Nat)(v:Value)(ts:List Tok)(k:Nat)(o:ROut)(w:World)(e:Ending)(w':World):Prop :=
 match o with
 | .ok r k'=>But pb w w'/\PI w' pb v ts k'/\∃ A1 c1 A2 c2,e=.returned (rrV r A1 c1 A2 c2)/\FoD w' (λb=>w.heap.size<=b/\b<w'.heap.size) (slice A1 (flen r.wh.2) c1) r.wh.2/\FoD w' (λb=>w.heap.size<=b/\b<w'.heap.size) (slice A2 (flen r.pr.2) c2) r.pr.2
 | .no k'=>But pb w w'/\e=.panicked [Zc0 ts k']
 | .bad=>But pb w w'/\e=.panicked [badV ts k]
theorem Zf6 (pb:Nat)(v:Value)(ts:List Tok)(ex:Nat->Out)(bq:∀ k,k<=ts.length->okK ts k (ex k)/\∀ w,PI w pb v ts k->Calls prog 116 #[.pointer (some ⟨pb,0,none⟩)] w (RP pb v ts (ex k) w))(k:Nat)(w:World)(h:PI w pb v ts k)(o:ROut)(ho:o=Z4w ex ts k) : Calls prog 87 #[.pointer (some ⟨pb,0,none⟩)] w (RtP pb v ts k o w):=by
 have bu:=zh bq;clear bq;have H0:=zh (h.on ((zr _ _).alloc (zn _) (.cells #[vI 0,vI 0,vI 0,vI 0,vI 0,vI 0,vI 0,vI 0,vI 0,vI 0,vI 0,vI 0,slice none 0 0,vI 0,vI 0,slice none 0 0] 81)));have N:=h.lt;have br:RF w pb (w.alloc (.cells #[vI 0,vI 0,vI 0,vI 0,vI 0,vI 0,vI 0,vI 0,vI 0,vI 0,vI 0,vI 0,slice none 0 0,vI 0,vI 0,slice none 0 0] 81)):=⟨(But.refl _ _).alloc _,za w _,h.lt⟩
 have F0:=zh br;have ch:=Zfe;clear h br;go_enter func87,ntmps87;go_wp2_with fail;refine (Z2q _ pb v ts k H0.o).mono ?_;rintro e w1 ⟨rfl,b1⟩;rw [tokV];have P:=zh (H0.o.on b1);have I:=zh (F0.o.but (But.of_below b1));clear b1 H0 F0;have bm:o=Z4w ex ts k:=ho;unfold Z4w at bm;have F:=zh bm;clear bm ho;obtain ⟨kk,bn⟩:∃ kk,kk=k:=⟨_,rfl⟩
 rw [<- bn] at F P;have cd:=zh bn;clear bn;go_wp2_with fail;refine (Z1E _ pb v ts kk P.o Z68 (by decide)).mono ?_;have B:=F.o;rcases hN:Z0g Z68 ts kk with j | ⟨X,k2⟩
 . rw [hN] at B;have M:o=.no j:=B;subst M;rintro e w2 ⟨hb,rfl⟩;exact ⟨rfl,I.o.1.trans hb,rfl⟩
 have cb:=Z1F hN;rw [hN] at B;simp only [Z71] at B;clear F;have F:=zh B;rintro e w2 ⟨hb,G,rfl⟩;have D:=zh G;have C:=zh (I.o.but hb);clear B hb G hN P I;have P:=D;have I:=C;clear D C;go_wp2_with fail;refine (Z1E _ pb v ts k2 P.o Z9A (by decide)).mono ?_;have B:=F.o;rcases hN:Z0g Z9A ts k2 with j | ⟨T,k3⟩
 . rw [hN] at B;have M:o=.no j:=B;subst M;rintro e w3 ⟨hb,rfl⟩;exact ⟨rfl,I.o.1.trans hb,rfl⟩
 have ck:=Z1F hN;rw [hN] at B;simp only at B;clear F;have F:=zh B;rintro e w3 ⟨hb,G,rfl⟩;have D:=zh G;have C:=zh (I.o.but hb);clear B hb G hN P I;have P:=D;have I:=C;clear D C;go_wp2_with fail;refine (Z1E _ pb v ts k3 P.o Zh3 (by decide)).mono ?_;have B:=F.o;rcases hN:Z0g Zh3 ts k3 with j | ⟨U,k4⟩
 . rw [hN] at B;have M:o=.no j:=B;subst M;rintro e A ⟨hb,rfl⟩;exact ⟨rfl,I.o.1.trans hb,rfl⟩
 have cc:=Z1F hN;rw [hN] at B;simp only at B;clear F;have F:=zh B;rintro e A ⟨hb,G,rfl⟩;have D:=zh G;have C:=zh (I.o.but hb);clear B hb G hN P I;have P:=D;have I:=C;clear D C;have hl4:=I.o.2.1.lt;have bz:=za A (.cells #[vI X,vI T,vI U,vI 0,vI 0,vI 0,vI 0,vI 0,vI 0,vI 0,vI 0,vI 0,slice none 0 0,vI 0,vI 0,slice none 0 0] 81);have bp:But pb A (A.alloc (.cells #[vI X,vI T,vI U,vI 0,vI 0,vI 0,vI 0,vI 0,vI 0,vI 0,vI 0,vI 0,slice none 0 0,vI 0,vI 0,slice none 0 0] 81)):=(But.refl _ _).alloc _;have C:Hid (RtI w pb A.heap.size #[vI X,vI T,vI U,vI 0,vI 0,vI 0,vI 0,vI 0,vI 0,vI 0,vI 0,vI 0,slice none 0 0,vI 0,vI 0,slice none 0 0] (A.alloc (.cells #[vI X,vI T,vI U,vI 0,vI 0,vI 0,vI 0,vI 0,vI 0,vI 0,vI 0,vI 0,slice none 0 0,vI 0,vI 0,slice none 0 0] 81))):=⟨I.o.but bp,bz,hl4⟩
 have D:=zh (P.o.on ((zr _ _).alloc (zn _) (.cells #[vI X,vI T,vI U,vI 0,vI 0,vI 0,vI 0,vI 0,vI 0,vI 0,vI 0,vI 0,slice none 0 0,vI 0,vI 0,slice none 0 0] 81)));clear bz bp hl4 P I;have P:=D;have I:=C;clear D C;go_wp2_with fail;generalize A.alloc (.cells #[vI X,vI T,vI U,vI 0,vI 0,vI 0,vI 0,vI 0,vI 0,vI 0,vI 0,vI 0,slice none 0 0,vI 0,vI 0,slice none 0 0] 81)=w5 at *
 generalize A.heap.size=b4 at *
 refine (Z1E _ pb v ts k4 P.o Z72 (by decide)).mono ?_;have B:=F.o;rcases hN:Z0g Z72 ts k4 with j | ⟨fr,k6⟩
 . rw [hN] at B;have M:o=.no j:=B;subst M;rintro e w6 ⟨hb,rfl⟩;exact ⟨rfl,I.o.1.1.trans hb,rfl⟩
 have cz:=Z1F hN;rw [hN] at B;simp only at B;clear F;have F:=zh B;rintro e w6 ⟨hb,G,rfl⟩;have D:=zh G;have C:=zh (I.o.but hb);clear B hb G hN P I;have P:=D;have I:=C;clear D C;go_wp2_with fail;refine (Z1E _ pb v ts k6 P.o kTo (by decide)).mono ?_;have B:=F.o;rcases hN:Z0g kTo ts k6 with j | ⟨Z,k7⟩
 . rw [hN] at B;have M:o=.no j:=B;subst M;rintro e w7 ⟨hb,rfl⟩;exact ⟨rfl,I.o.1.1.trans hb,rfl⟩
 have cB:=Z1F hN;rw [hN] at B;simp only at B;clear F;have F:=zh B;rintro e w7 ⟨hb,G,rfl⟩;have D:=zh G;have C:=zh (I.o.but hb);clear B hb G hN P I;have P:=D;have I:=C;clear D C;have c3:=I.o.cell 3 _ rfl;have f3:=I.o.free 3;have c4:=I.o.cell 4 _ rfl;have f4:=I.o.free 4;go_wp2_with fail;have Y:(((#[vI X,vI T,vI U,vI 0,vI 0,vI 0,vI 0,vI 0,vI 0,vI 0,vI 0,vI 0,slice none 0 0,vI 0,vI 0,slice none 0 0]:Array Value).setIfInBounds 3 (vI fr)).setIfInBounds 4 (vI Z))=#[vI X,vI T,vI U,vI fr,vI Z,vI 0,vI 0,vI 0,vI 0,vI 0,vI 0,vI 0,slice none 0 0,vI 0,vI 0,slice none 0 0]:=by kernel_rfl
 have O:=((I.o.set 3 (vI fr)).set 4 (vI Z))
 rw [Y] at O;have C:=zh O;have D:=zh ((P.o.far (p:=⟨b4,3,none⟩) I.o.far (vI fr)).far (p:=⟨b4,4,none⟩) I.o.far (vI Z));clear Y O c3 f3 c4 f4 P I;have P:=D;have I:=C;clear D C;generalize ((w7.setCell ⟨b4,3,none⟩ (vI fr)).setCell ⟨b4,4,none⟩ (vI Z))=w8 at *
 refine (Z1E _ pb v ts k7 P.o Zh4 (by decide)).mono ?_;have B:=F.o;rcases hN:Z0g Zh4 ts k7 with j | ⟨f,k9⟩
 . rw [hN] at B;have M:o=.no j:=B;subst M;rintro e w9 ⟨hb,rfl⟩;exact ⟨rfl,I.o.1.1.trans hb,rfl⟩
 have cn:=Z1F hN;rw [hN] at B;simp only at B;clear F;have F:=zh B;rintro e w9 ⟨hb,G,rfl⟩;have D:=zh G;have C:=zh (I.o.but hb);clear B hb G hN P I;have P:=D;have I:=C;clear D C;go_wp2_with fail;refine (Z1E _ pb v ts k9 P.o kTo (by decide)).mono ?_;have B:=F.o;rcases hN:Z0g kTo ts k9 with j | ⟨d,bx⟩
 . rw [hN] at B;have M:o=.no j:=B;subst M;rintro e bs ⟨hb,rfl⟩;exact ⟨rfl,I.o.1.1.trans hb,rfl⟩
 have ct:=Z1F hN;rw [hN] at B;simp only at B;clear F;have F:=zh B;rintro e bs ⟨hb,G,rfl⟩;have D:=zh G;have C:=zh (I.o.but hb);clear B hb G hN P I;have P:=D;have I:=C;clear D C;have c5:=I.o.cell 5 _ rfl;have f5:=I.o.free 5;have c6:=I.o.cell 6 _ rfl;have f6:=I.o.free 6;go_wp2_with fail;have Y:(((#[vI X,vI T,vI U,vI fr,vI Z,vI 0,vI 0,vI 0,vI 0,vI 0,vI 0,vI 0,slice none 0 0,vI 0,vI 0,slice none 0 0]:Array Value).setIfInBounds 5 (vI f)).setIfInBounds 6 (vI d))=#[vI X,vI T,vI U,vI fr,vI Z,vI f,vI d,vI 0,vI 0,vI 0,vI 0,vI 0,slice none 0 0,vI 0,vI 0,slice none 0 0]:=by kernel_rfl
 have O:=((I.o.set 5 (vI f)).set 6 (vI d))
 rw [Y] at O;have C:=zh O;have D:=zh ((P.o.far (p:=⟨b4,5,none⟩) I.o.far (vI f)).far (p:=⟨b4,6,none⟩) I.o.far (vI d));clear Y O c5 f5 c6 f6 P I;have P:=D;have I:=C;clear D C;generalize ((bs.setCell ⟨b4,5,none⟩ (vI f)).setCell ⟨b4,6,none⟩ (vI d))=b7 at *
 refine (Z1E _ pb v ts bx P.o Z73 (by decide)).mono ?_;have B:=F.o;rcases hN:Z0g Z73 ts bx with j | ⟨l,bA⟩
 . rw [hN] at B;have M:o=.no j:=B;subst M;rintro e bB ⟨hb,rfl⟩;exact ⟨rfl,I.o.1.1.trans hb,rfl⟩
 have cC:=Z1F hN;rw [hN] at B;simp only at B;clear F;have F:=zh B;rintro e bB ⟨hb,G,rfl⟩;have D:=zh G;have C:=zh (I.o.but hb);clear B hb G hN P I;have P:=D;have I:=C;clear D C;have c7:=I.o.cell 7 _ rfl;have f7:=I.o.free 7;go_wp2_with fail;have Y:((#[vI X,vI T,vI U,vI fr,vI Z,vI f,vI d,vI 0,vI 0,vI 0,vI 0,vI 0,slice none 0 0,vI 0,vI 0,slice none 0 0]:Array Value).setIfInBounds 7 (vI l))=#[vI X,vI T,vI U,vI fr,vI Z,vI f,vI d,vI l,vI 0,vI 0,vI 0,vI 0,slice none 0 0,vI 0,vI 0,slice none 0 0]:=by kernel_rfl
 have O:=(I.o.set 7 (vI l))
 rw [Y] at O;have C:=zh O;have D:=zh (P.o.far (p:=⟨b4,7,none⟩) I.o.far (vI l));clear Y O c7 f7 P I;have P:=D;have I:=C;clear D C;generalize (bB.setCell ⟨b4,7,none⟩ (vI l))=cj at *
 refine (Z1E _ pb v ts bA P.o Zh5 (by decide)).mono ?_;have B:=F.o;rcases hN:Z0g Zh5 ts bA with j | ⟨S,k14⟩
 . rw [hN] at B;have M:o=.no j:=B;subst M;rintro e bP ⟨hb,rfl⟩;exact ⟨rfl,I.o.1.1.trans hb,rfl⟩
 have bC:=Z1F hN;rw [hN] at B;simp only at B;clear F;have F:=zh B;rintro e bP ⟨hb,G,rfl⟩;have D:=zh G;have C:=zh (I.o.but hb);clear B hb G hN P I;have P:=D;have I:=C;clear D C;go_wp2_with fail;refine (Znp S _ bC.1 bC.2).mono ?_;rintro e bU ⟨rfl,hb⟩;have D:=zh (P.o.on hb);have C:=zh (I.o.but (But.of_below hb));clear hb P I;have P:=D;have I:=C;clear D C;have c8:=I.o.cell 8 _ rfl;have f8:=I.o.free 8;have c9:=I.o.cell 9 _ rfl;have f9:=I.o.free 9;go_wp2_with fail;have Y:(((#[vI X,vI T,vI U,vI fr,vI Z,vI f,vI d,vI l,vI 0,vI 0,vI 0,vI 0,slice none 0 0,vI 0,vI 0,slice none 0 0]:Array Value).setIfInBounds 8 (vI (pctN S))).setIfInBounds 9 (vI (pctD S)))=#[vI X,vI T,vI U,vI fr,vI Z,vI f,vI d,vI l,vI (pctN S),vI (pctD S),vI 0,vI 0,slice none 0 0,vI 0,vI 0,slice none 0 0]:=by kernel_rfl
 have O:=((I.o.set 8 (vI (pctN S))).set 9 (vI (pctD S)))
 rw [Y] at O;have C:=zh O;have D:=zh ((P.o.far (p:=⟨b4,8,none⟩) I.o.far (vI (pctN S))).far (p:=⟨b4,9,none⟩) I.o.far (vI (pctD S)));clear Y O c8 f8 c9 f9 P I;have P:=D;have I:=C;clear D C;generalize ((bU.setCell ⟨b4,8,none⟩ (vI (pctN S))).setCell ⟨b4,9,none⟩ (vI (pctD S)))=cD at *
 have B:=F.o;by_cases hm:nxt ts k14=[37]
 rotate_left
 . rw [Z4v,zf hm] at B;subst B;refine (Z2H _ pb v ts k14 P.o [37] hm).mono ?_;rintro e bD ⟨rfl,hb⟩;exact ⟨rfl,I.o.1.1.trans (But.of_below hb),rfl⟩
 rw [Z4v,zp hm] at B;clear F;have F:=zh B;refine (Z1q _ pb v ts k14 P.o (Z35 hm (by decide)) [37] hm).mono ?_;rintro e bD ⟨rfl,G,hb⟩;have D:=zh G;have C:=zh (I.o.but hb);clear B hb G hm P I;have P:=D;have I:=C;clear D C;go_wp2_with fail;have B:=F.o;by_cases hm:nxt ts (k14+1)=Zdt;rotate_left
 . rw [Z4v,zf hm] at B;subst B;refine (Z2H _ pb v ts (k14+1) P.o Zdt hm).mono ?_;rintro e bT ⟨rfl,hb⟩;exact ⟨rfl,I.o.1.1.trans (But.of_below hb),rfl⟩
 rw [Z4v,zp hm] at B;clear F;have F:=zh B;refine (Z1q _ pb v ts (k14+1) P.o (Z35 hm (by decide)) Zdt hm).mono ?_;rintro e bT ⟨rfl,G,hb⟩;have D:=zh G;have C:=zh (I.o.but hb);clear B hb G hm P I;have P:=D;have I:=C;clear D C;go_wp2_with fail;have B:=F.o;have q:=(bu.o ((k14+1)+1) P.o.2.2.1).2 _ P.o;rcases hE:ex ((k14+1)+1) with ⟨H,bb⟩ | j
 rotate_left
 . rw [hE] at B q;have M:o=.no j:=B;subst M;refine q.mono ?_;rintro e bt ⟨hb,rfl⟩;exact ⟨rfl,I.o.1.1.trans hb,rfl⟩
 rw [hE] at B q;simp only [Zh2] at B;clear F;have F:=zh B;refine q.mono ?_;rintro e bt ⟨hb,G,m,c1,rfl,hF⟩;have hl4:=(zF2.1 I.o.2.1).1;have bc:=I.o.1.2.1.lt;have R:=zh (Tq.of (w:=w) (b4:=b4) hF bc hl4);have D:=zh G;have C:=zh (I.o.but hb);clear B hb G hF hE q hl4 bc P I;have P:=D;have I:=C;clear D C;have bY:=I.o.cell 10 _ rfl;have bF:=I.o.free 10;have bO:=I.o.cell 11 _ rfl;have bW:=I.o.free 11;have bJ:=I.o.cell 12 _ rfl;have bX:=I.o.free 12;go_wp2_with fail;have Y:((((#[vI X,vI T,vI U,vI fr,vI Z,vI f,vI d,vI l,vI (pctN S),vI (pctD S),vI 0,vI 0,slice none 0 0,vI 0,vI 0,slice none 0 0]:Array Value).setIfInBounds 10 (vI H.1.1)).setIfInBounds 11 (vI H.1.2)).setIfInBounds 12 (slice m (flen H.2) c1))=#[vI X,vI T,vI U,vI fr,vI Z,vI f,vI d,vI l,vI (pctN S),vI (pctD S),vI H.1.1,vI H.1.2,slice m (flen H.2) c1,vI 0,vI 0,slice none 0 0]:=by kernel_rfl
 have O:=(((I.o.set 10 (vI H.1.1)).set 11 (vI H.1.2)).set 12 (slice m (flen H.2) c1))
 rw [Y] at O;have C:=zh O;have D:=zh (((P.o.far (p:=⟨b4,10,none⟩) I.o.far (vI H.1.1)).far (p:=⟨b4,11,none⟩) I.o.far (vI H.1.2)).far (p:=⟨b4,12,none⟩) I.o.far (slice m (flen H.2) c1));have V:=zh (((R.o.set 10 (vI H.1.1)).set 11 (vI H.1.2)).set 12 (slice m (flen H.2) c1));clear R;have R:=V;clear V Y O bY bF bO bW bJ bX P I;have P:=D;have I:=C;clear D C;generalize (((bt.setCell ⟨b4,10,none⟩ (vI H.1.1)).setCell ⟨b4,11,none⟩ (vI H.1.2)).setCell ⟨b4,12,none⟩ (slice m (flen H.2) c1))=b5 at *
 have B:=F.o;by_cases hm:nxt ts bb=Z8v;rotate_left
 . rw [Z4v,zf hm] at B;subst B;refine (Z2H _ pb v ts bb P.o Z8v hm).mono ?_;rintro e bG ⟨rfl,hb⟩;exact ⟨rfl,I.o.1.1.trans (But.of_below hb),rfl⟩
 rw [Z4v,zp hm] at B;clear F;have F:=zh B;refine (Z1q _ pb v ts bb P.o (Z35 hm (by decide)) Z8v hm).mono ?_;rintro e bG ⟨rfl,G,hb⟩;have D:=zh G;have C:=zh (I.o.but hb);have V:=zh (R.o.but hb N);clear R;have R:=V;clear V B hb G hm P I;have P:=D;have I:=C;clear D C;go_wp2_with fail;have B:=F.o;have q:=(bu.o (bb+1) P.o.2.2.1).2 _ P.o;rcases hE:ex (bb+1) with ⟨L,be⟩ | j
 rotate_left
 . rw [hE] at B q;have M:o=.no j:=B;subst M;refine q.mono ?_;rintro e bv ⟨hb,rfl⟩;exact ⟨rfl,I.o.1.1.trans hb,rfl⟩
 rw [hE] at B q;simp only at B;clear F;have F:=zh B;refine q.mono ?_;rintro e bv ⟨hb,G,y,c2,rfl,hF⟩;have hl4:=(zF2.1 I.o.2.1).1;have bc:=I.o.1.2.1.lt;have g:=zh (Tq.of (w:=w) (b4:=b4) hF bc hl4);have D:=zh G;have C:=zh (I.o.but hb);have V:=zh (R.o.but hb N);clear R;have R:=V;clear V B hb G hF hE q hl4 bc P I;have P:=D;have I:=C;clear D C;have bR:=I.o.cell 13 _ rfl;have bV:=I.o.free 13;have bM:=I.o.cell 14 _ rfl;have bN:=I.o.free 14;have bI:=I.o.cell 15 _ rfl;have bS:=I.o.free 15;go_wp2_with fail;have Y:((((#[vI X,vI T,vI U,vI fr,vI Z,vI f,vI d,vI l,vI (pctN S),vI (pctD S),vI H.1.1,vI H.1.2,slice m (flen H.2) c1,vI 0,vI 0,slice none 0 0]:Array Value).setIfInBounds 13 (vI L.1.1)).setIfInBounds 14 (vI L.1.2)).setIfInBounds 15 (slice y (flen L.2) c2))=#[vI X,vI T,vI U,vI fr,vI Z,vI f,vI d,vI l,vI (pctN S),vI (pctD S),vI H.1.1,vI H.1.2,slice m (flen H.2) c1,vI L.1.1,vI L.1.2,slice y (flen L.2) c2]:=by kernel_rfl
 have O:=(((I.o.set 13 (vI L.1.1)).set 14 (vI L.1.2)).set 15 (slice y (flen L.2) c2))
 rw [Y] at O;have C:=zh O;have D:=zh (((P.o.far (p:=⟨b4,13,none⟩) I.o.far (vI L.1.1)).far (p:=⟨b4,14,none⟩) I.o.far (vI L.1.2)).far (p:=⟨b4,15,none⟩) I.o.far (slice y (flen L.2) c2));have V:=zh (((R.o.set 13 (vI L.1.1)).set 14 (vI L.1.2)).set 15 (slice y (flen L.2) c2));clear R;have R:=V;clear V;have r:=zh (((g.o.set 13 (vI L.1.1)).set 14 (vI L.1.2)).set 15 (slice y (flen L.2) c2));clear g;have g:=r;clear r Y O bR bV bM bN bI bS P I;have P:=D;have I:=C;clear D C;generalize (((bv.setCell ⟨b4,13,none⟩ (vI L.1.1)).setCell ⟨b4,14,none⟩ (vI L.1.2)).setCell ⟨b4,15,none⟩ (slice y (flen L.2) c2))=cy at *
 have B:=F.o;by_cases hm:nxt ts be=[59]
 rotate_left
 . rw [Z4v,zf hm] at B;subst B;refine (Z2H _ pb v ts be P.o [59] hm).mono ?_;rintro e b0 ⟨rfl,hb⟩;exact ⟨rfl,I.o.1.1.trans (But.of_below hb),rfl⟩
 rw [Z4v,zp hm] at B;clear F;have F:=zh B;refine (Z1q _ pb v ts be P.o (Z35 hm (by decide)) [59] hm).mono ?_;rintro e b0 ⟨rfl,G,hb⟩;have D:=zh G;have C:=zh (I.o.but hb);have V:=zh (R.o.but hb N);clear R;have R:=V;clear V;have r:=zh (g.o.but hb N);clear g;have g:=r;clear r B hb G hm P I;have P:=D;have I:=C;clear D C;have bg:=I.o.cell 10 _ rfl;have bk:=I.o.cell 11 _ rfl;have bj:=I.o.cell 12 _ rfl;have bd:=I.o.cell 13 _ rfl;have bf:=I.o.cell 14 _ rfl;have bh:=I.o.cell 15 _ rfl;go_wp2_with fail;refine (Z3q H.1.1 H.1.2 H.2 (slice m (flen H.2) c1) _ (R.o.v (λb h=>h.2.2))).mono ?_;rintro e cr ⟨rfl,hb⟩;clear bg bk bj bd bf bh;have D:=zh (P.o.on hb);have C:=zh (I.o.but (But.of_below hb));have ba:But pb _ _:=But.of_below hb;have V:=zh (R.o.but ba N);clear R;have R:=V;clear V;have r:=zh (g.o.but ba N);clear g;have g:=r;clear r hb ba P I;have P:=D;have I:=C;clear D C;cases hv1:Z0f H.1.1 H.1.2 H.2 with
 | false =>have B:=F.o;rw [hv1] at B;have M:o=.bad:=B;clear B F hv1;subst M;go_wp2_with fail;exact ⟨rfl,I.o.1.1,rfl⟩
 | true =>
  have B:=F.o;rw [hv1] at B;clear F hv1;have F:=zh B;clear B;have bg:=I.o.cell 10 _ rfl;have bk:=I.o.cell 11 _ rfl;have bj:=I.o.cell 12 _ rfl;have bd:=I.o.cell 13 _ rfl;have bf:=I.o.cell 14 _ rfl;have bh:=I.o.cell 15 _ rfl;go_wp2_with fail;refine (Z3q L.1.1 L.1.2 L.2 (slice y (flen L.2) c2) _ (g.o.v (λb h=>h.2.2))).mono ?_;rintro e b6 ⟨rfl,hb⟩;clear bg bk bj bd bf bh;have D:=zh (P.o.on hb);have C:=zh (I.o.but (But.of_below hb));have ba:But pb _ _:=But.of_below hb;have V:=zh (R.o.but ba N);clear R;have R:=V;clear V;have r:=zh (g.o.but ba N);clear g;have g:=r;clear r hb ba P I;have P:=D;have I:=C;clear D C;cases hv2:Z0f L.1.1 L.1.2 L.2 with
  | false =>have B:=F.o;rw [hv2] at B;have M:o=.bad:=B;clear B F hv2;subst M;go_wp2_with fail;exact ⟨rfl,I.o.1.1,rfl⟩
  | true =>
   have B:=F.o;rw [hv2] at B;have M:o=.ok ⟨X,T,U,fr,Z,f,d,l,S,H,L⟩ (be+1):=B;clear F hv2 B;subst M;have cg:=I.o.cell 0 _ rfl;have z0:=I.o.1.2.1.cell 0 _ rfl;have y0:=I.o.1.2.1.free 0;have b9:=I.o.cell 1 _ rfl;have z1:=I.o.1.2.1.cell 1 _ rfl;have y1:=I.o.1.2.1.free 1;have b2:=I.o.cell 2 _ rfl;have z2:=I.o.1.2.1.cell 2 _ rfl;have y2:=I.o.1.2.1.free 2;have b3:=I.o.cell 3 _ rfl;have z3:=I.o.1.2.1.cell 3 _ rfl;have y3:=I.o.1.2.1.free 3;have cs:=I.o.cell 4 _ rfl;have z4:=I.o.1.2.1.cell 4 _ rfl;have y4:=I.o.1.2.1.free 4;have cE:=I.o.cell 5 _ rfl;have z5:=I.o.1.2.1.cell 5 _ rfl;have y5:=I.o.1.2.1.free 5;have cm:=I.o.cell 6 _ rfl;have z6:=I.o.1.2.1.cell 6 _ rfl;have y6:=I.o.1.2.1.free 6;have cA:=I.o.cell 7 _ rfl;have z7:=I.o.1.2.1.cell 7 _ rfl;have y7:=I.o.1.2.1.free 7;have ce:=I.o.cell 8 _ rfl;have z8:=I.o.1.2.1.cell 8 _ rfl;have y8:=I.o.1.2.1.free 8;have cu:=I.o.cell 9 _ rfl;have z9:=I.o.1.2.1.cell 9 _ rfl;have y9:=I.o.1.2.1.free 9;have bg:=I.o.cell 10 _ rfl;have bK:=I.o.1.2.1.cell 10 _ rfl;have cf:=I.o.1.2.1.free 10;have bk:=I.o.cell 11 _ rfl;have bH:=I.o.1.2.1.cell 11 _ rfl;have cv:=I.o.1.2.1.free 11;have bj:=I.o.cell 12 _ rfl;have bQ:=I.o.1.2.1.cell 12 _ rfl;have b8:=I.o.1.2.1.free 12;have bd:=I.o.cell 13 _ rfl;have bE:=I.o.1.2.1.cell 13 _ rfl;have ca:=I.o.1.2.1.free 13;have bf:=I.o.cell 14 _ rfl;have bL:=I.o.1.2.1.cell 14 _ rfl;have cF:=I.o.1.2.1.free 14;have bh:=I.o.cell 15 _ rfl;have bZ:=I.o.1.2.1.cell 15 _ rfl;have cx:=I.o.1.2.1.free 15;go_wp2_with fail;refine bodyPost_ret (v:=rrV ⟨X,T,U,fr,Z,f,d,l,S,H,L⟩ m c1 y c2) (by simp [results,results87,go_sem,rrV,z0,z1,z2,z3,z4,z5,z6,z7,z8,z9,bK,bH,bQ,bE,bL,bZ]) rfl ?_
   refine ⟨((((((((((((((((I.o.1.1.new (p:=⟨w.heap.size,0,none⟩) (zn _) _).new (p:=⟨w.heap.size,1,none⟩) (zn _) _).new (p:=⟨w.heap.size,2,none⟩) (zn _) _).new (p:=⟨w.heap.size,3,none⟩) (zn _) _).new (p:=⟨w.heap.size,4,none⟩) (zn _) _).new (p:=⟨w.heap.size,5,none⟩) (zn _) _).new (p:=⟨w.heap.size,6,none⟩) (zn _) _).new (p:=⟨w.heap.size,7,none⟩) (zn _) _).new (p:=⟨w.heap.size,8,none⟩) (zn _) _).new (p:=⟨w.heap.size,9,none⟩) (zn _) _).new (p:=⟨w.heap.size,10,none⟩) (zn _) _).new (p:=⟨w.heap.size,11,none⟩) (zn _) _).new (p:=⟨w.heap.size,12,none⟩) (zn _) _).new (p:=⟨w.heap.size,13,none⟩) (zn _) _).new (p:=⟨w.heap.size,14,none⟩) (zn _) _).new (p:=⟨w.heap.size,15,none⟩) (zn _) _),((((((((((((((((P.o.far (p:=⟨w.heap.size,0,none⟩) N _).far (p:=⟨w.heap.size,1,none⟩) N _).far (p:=⟨w.heap.size,2,none⟩) N _).far (p:=⟨w.heap.size,3,none⟩) N _).far (p:=⟨w.heap.size,4,none⟩) N _).far (p:=⟨w.heap.size,5,none⟩) N _).far (p:=⟨w.heap.size,6,none⟩) N _).far (p:=⟨w.heap.size,7,none⟩) N _).far (p:=⟨w.heap.size,8,none⟩) N _).far (p:=⟨w.heap.size,9,none⟩) N _).far (p:=⟨w.heap.size,10,none⟩) N _).far (p:=⟨w.heap.size,11,none⟩) N _).far (p:=⟨w.heap.size,12,none⟩) N _).far (p:=⟨w.heap.size,13,none⟩) N _).far (p:=⟨w.heap.size,14,none⟩) N _).far (p:=⟨w.heap.size,15,none⟩) N _),m,c1,y,c2,rfl,?_,?_⟩
   . refine R.o.keep (λb h=>⟨by have:=h.1;omega,by simp only [World.setCell,Array.size_modify];exact h.2.2⟩) (λb h=>?_);have J:b≠w.heap.size:=by have:=h.1;omega
     rw [zg _ _ _ _ J,zg _ _ _ _ J,zg _ _ _ _ J,zg _ _ _ _ J,zg _ _ _ _ J,zg _ _ _ _ J,zg _ _ _ _ J,zg _ _ _ _ J,zg _ _ _ _ J,zg _ _ _ _ J,zg _ _ _ _ J,zg _ _ _ _ J,zg _ _ _ _ J,zg _ _ _ _ J,zg _ _ _ _ J,zg _ _ _ _ J]
   . refine g.o.keep (λb h=>⟨by have:=h.1;omega,by simp only [World.setCell,Array.size_modify];exact h.2.2⟩) (λb h=>?_);have J:b≠w.heap.size:=by have:=h.1;omega
     rw [zg _ _ _ _ J,zg _ _ _ _ J,zg _ _ _ _ J,zg _ _ _ _ J,zg _ _ _ _ J,zg _ _ _ _ J,zg _ _ _ _ J,zg _ _ _ _ J,zg _ _ _ _ J,zg _ _ _ _ J,zg _ _ _ _ J,zg _ _ _ _ J,zg _ _ _ _ J,zg _ _ _ _ J,zg _ _ _ _ J,zg _ _ _ _ J]
end
section
open Go.RowKit Lx
end
section
open Go.RowKit Lx
theorem Zj3 (c:UInt8)(n:Nat)(B:n<256)(h:c=UInt8.ofNat n):((c.toNat:Int)==(n:Int))=true:=by subst h;simp;omega
theorem Zj4 (c:UInt8)(n:Nat)(B:n<256)(h:c≠UInt8.ofNat n):((c.toNat:Int)==(n:Int))=false:=by
 simp only [beq_eq_false_iff_ne,ne_eq];intro C;apply h;apply UInt8.toNat_inj.1;simp;omega
end
section
open Go.RowKit Lx
end
section
open Go.RowKit Lx
end
section
open Go.RowKit Lx
theorem Tryz.infoTok:(Tryz.prog.info? 126).map (λi=>(i.zero,i.size,i.bytes))=some (some (.agg #[vI 0,vI 0,.string ⟨#[]⟩]),3,32):=by kernel_rfl
theorem Zrd (s:ByteArray)(a:Nat)(h:a<s.size):(bl s).drop a=s[a]::(bl s).drop (a+1):=by
 rw [List.drop_eq_getElem_cons (by rw [Z02];exact h),Zfu s a h]
theorem Zh6 (s:ByteArray)(h:¬ 20000<s.size):toks (bl s)=coll [] (P 1 (bl s)):=by rw [toks,Z02,zf h];rfl
theorem Zf7 (s:ByteArray)(h:20000<s.size):toks (bl s)=([],2,0):=by rw [toks,Z02,zp h]
theorem news3 (w:World)(a b c:Value)(t:TypeId):∀ (j:Nat) (u:Value),[a,b,c][j]?=some u->(w.alloc (.cells #[a,b,c] t)).cell? ((⟨w.heap.size,0,none⟩:Addr).add j)=some u:=by
 intro j u h;have B:((⟨w.heap.size,0,none⟩:Addr).add j)=⟨w.heap.size,j,none⟩:=by unfold Addr.add;split <;> simp_all
 rw [B]
 match j,h with
 | 0,h=>simpa [go_sem] using h
 | 1,h=>simpa [go_sem] using h
 | 2,h=>simpa [go_sem] using h
 | j+3,h=>simp at h
def Zay (w:World)(r:List Tok × Int × Int)(e:Ending)(w':World):Prop := ∃ v,e=.returned (.tuple #[v,vI r.2.1,vI r.2.2])/\Sl w' w'.heap.size v r.1/\Below w.heap.size w w'
end
section
open Go.RowKit
def Z2G (Bs:Nat)(W W':World):Prop:=W'.cell? ⟨Bs,0,none⟩=W.cell? ⟨Bs,0,none⟩/\W'.frozen? ⟨Bs,0,none⟩=W.frozen? ⟨Bs,0,none⟩
theorem Z2G.trans {D:Nat}{A B C:World}(h:Z2G D A B)(k:Z2G D B C):Z2G D A C:=⟨k.1.trans h.1,k.2.trans h.2⟩
theorem Z2G.block {B:Nat}{W C:World}(h:C.heap[B]?=W.heap[B]?):Z2G B W C:=⟨World.cell?_of_block (a:=⟨B,0,none⟩) h,World.frozen?_of_block (a:=⟨B,0,none⟩) h⟩
theorem Z2G.putObj {B l:Nat}(W:World)(o:Obj)(h:B≠l):Z2G B W (W.putObj l o):=Z2G.block (zQ h)
theorem Z2G.below {B:Nat}{W C:World}(h:Below W.heap.size W C)(hb:B<W.heap.size):Z2G B W C:=Z2G.block (h.block B hb)
theorem Z2G.setCell {B:Nat}(W:World)(p:Addr)(u:Value)(h:B≠p.block):Z2G B W (W.setCell p u):=Z2G.block (zg W p u B h)
structure Zaz {α:Type} (Bs:Nat) (J:List α->World->Prop):Prop where
 set:∀ s W v,J s W->J s (W.setCell ⟨Bs,0,none⟩ v)
 below:∀ s W W',J s W->Below W.heap.size W W'->J s W'
def SeqC {α:Type}(F:Fence)(n:Nat)(P:Program)(g:Nat)(lb:Array Value)(encs:α->Array Value)(ok:World->Prop)(Bs:Nat)(S Sp:List α->Prop):Prop := ∀ (l:Nat) (J Jx:List α->World->Prop) (W:World),ok W->Zaz Bs J -> (∀ pre x W1,J pre W1->Sp (pre++[x])->YieldAt F (n - 1) P l (encs x) W1 λe W' =>
   (e=.returned (.bool true)/\J (pre++[x]) W'/\Z2G Bs W1 W')\/(e=.returned (.bool false)/\Jx (pre++[x]) W')) ->
  J [] W ->
  CallsIn F n P g (#[.func (.yield l) #[] #[]]++lb) W λe W'=>(∃ v,e=.returned v)/\((∃ xs,S xs/\J xs W')\/(∃ pre,Sp pre/\Jx pre W'))
def Znr {α:Type}(Bs B:Nat)(I:List α->World->Prop)(Ix:Code->List α->World->Prop)(xs:List α)(W:World):Exit->Act->World->Prop
 | .normal,_,W'=>KeepsFrom B W W'/\Z2G Bs W W'/\I xs W'
 | .ret,_,W'=>KeepsFrom B W W'/\Ix .ret xs W'
 | .exit id,_,W'=>KeepsFrom B W W'/\Ix (.exit id) xs W'
 | .goto t,_,W'=>KeepsFrom B W W'/\Ix (.goto t) xs W'
 | .panic _,_,_=>False
 | .outgrown,_,_=>False
variable {F:Fence} {n:Nat} {P:Program}
theorem Z84 {α:Type}{g:Operand}{f:Array Tmp}{assign body:Code}{Q:Exit->Act->World->Prop}{a:Act}{w:World} (bd:F.round=none) (h1:1<=n) {gf:Nat} {lb:Array Value} (hg:a.eval g=.func (.func gf) #[] lb) (bs:F.fn gf) (eg:∀ args w,(callFunc gf args).run P w=.ok (.enter gf args) w) {m:α->Array Value} {ok:World->Prop} {O:Nat} {S A:List α->Prop} (bb:SeqC F (n - 1) P gf lb m ok O S A) (bA:O<w.heap.size) (be:∀ W',Below w.heap.size w W'->ok W') (bh:∀ x,(m x).size=f.size) (I:List α->World->Prop) (Y:Code->List α->World->Prop) (y:Zaz O I) (r:∀ s W l o o',I s W->w.heap.size<=l->W.heap[l]?=some o->o.isCells=false->I s (W.putObj l o')) (q:∀ c s W l o o',Y c s W->w.heap.size<=l->W.heap[l]?=some o->o.isCells=false->Y c s (W.putObj l o')) (h0:I [] w) (a₁:α->Act) (bu:∀ (l:Nat) (x:α) (W:World) (K:Act->World->Prop),K (a₁ x) W -> assign.wpIn (F.inRound l) (n - 1 - 1) P (Exit.then K (λ_ _ _=>False)) { tmps:=(f.zip (m x)).foldl (λt (p,v)=>t.setIfInBounds p v) a.tmps,defers:=[] } W) (bj:∀ (l:Nat) (C:List α) (x:α) (W:World),I C W->A (C++[x])->body.wpIn (F.inRound l) (n - 1 - 1) P (Znr O w.heap.size I Y (C++[x]) W) (a₁ x) W) (bm:∀ (D:Nat) (j:List α) (W:World),w.heap.size<=D->S j->I j W->W.heap[D]?=some (.deferred (some []))->Q .normal { a with defers:={ target:=.collected D,args:=#[] }::a.defers } W) (bk:∀ (D:Nat) (c:Code) (C:List α) (W:World),w.heap.size<=D->A C->Y c C W->W.heap[D]?=some (.deferred (some []))->c.wpIn F n P Q { a with defers:={ target:=.collected D,args:=#[] }::a.defers } W) : (Code.rangeFunc g f assign body).wpIn F n P Q a w:=by
 refine wpIn_rangeFunc ?_;intro fn br;rw [bd];obtain ⟨B,M⟩:∃ B:LoopState->Option Code->Loop,B=λst pe=>{ state:=st,pending:=pe,fn,tmps:=a.tmps,params:=f,assign,body,defers:=w.heap.size }:=⟨_,rfl⟩
 obtain ⟨J,d⟩:∃ J,(w.alloc (.deferred (some []))).alloc (.loop (B .ready none))=J:=⟨_,rfl⟩
 have bf:J.heap[w.heap.size+1]?=some (.loop (B .ready none)):=by rw [<- d];have:=za (w.alloc (.deferred (some []))) (.loop (B .ready none));rwa [zk] at this
 have bn:J.heap[w.heap.size]?=some (.deferred (some [])):=by rw [<- d];exact (Below.heap_alloc _ _ _ (by simp)).trans (za w _)
 have hb1:Below w.heap.size w J:=by rw [<- d];exact ((zr _ w).alloc (zn _) _).alloc (by simp) _
 have bg:I [] J:=y.below _ _ _ h0 hb1;refine ⟨w.heap.size+1,[{ target:=.collected w.heap.size,args:=#[] }],J,{ target:=.fn (.func gf) lb,args:=#[.func (.yield (w.heap.size+1)) #[] #[]] },J,gf, #[.func (.yield (w.heap.size+1)) #[] #[]]++lb,J,?_,?_,?_,?_,λ_=>h1,?_⟩
 . rw [<- d,M];exact run_enterLoop_outer _ _ _ _ _
 . simp only [resolve,hg];simp [go_sem]
 . intro f' ba;simp [Target.leads] at ba;subst ba;exact bs
 . simp [invoke,go_sem,eg]
 . refine (bb (w.heap.size+1) (λC W=>I C W/\W.heap[w.heap.size+1]?=some (.loop (B .ready none))/\W.heap[w.heap.size]?=some (.deferred (some []))) (λC W=>∃ c,Y c C W/\W.heap[w.heap.size+1]?=some (.loop (B .done (some c)))/\W.heap[w.heap.size]?=some (.deferred (some []))) J (be J hb1) ⟨λs W v hs=>⟨y.set _ _ _ hs.1,(zg W ⟨O,0,none⟩ v _ (by show _≠O;omega)).trans hs.2.1,(zg W ⟨O,0,none⟩ v _ (by show _≠O;omega)).trans hs.2.2⟩, λs W W' hs hb=>⟨y.below _ _ _ hs.1 hb,(hb.block _ (zF2.1 hs.2.1).1).trans hs.2.1,(hb.block _ (zF2.1 hs.2.2).1).trans hs.2.2⟩⟩
    ?_ ⟨bg,bf,bn⟩).mono ?_
   . rintro C x W ⟨Z,N,hk⟩ bx;have bz:w.heap.size+1<W.heap.size:=(zF2.1 N).1;have hy:=run_yield (P:=P) (args:=m x) N (by rw [M];exact bh x);rw [M] at hy;refine ⟨fn,_,assign,body,hy,roundIn_of_wpIn br (bu _ x W _ ⟨_,run_beginRound N (by rw [M]),?_⟩)⟩;have bv:(W.putObj (w.heap.size+1) (.loop { B .ready none with state:=.busy })).heap[w.heap.size+1]?=some (.loop { B .ready none with state:=.busy }):=World.putObj_heap_same bz;have bq:(W.putObj (w.heap.size+1) (.loop { B .ready none with state:=.busy })).heap[w.heap.size]?=some (.deferred (some [])):=(zQ (by omega)).trans hk;have bc:Z2G O W (W.putObj (w.heap.size+1) (.loop { B .ready none with state:=.busy })):=Z2G.putObj _ _ (by omega);refine wpIn_mono (bj _ C x _ (r _ _ _ _ _ Z (by omega) N rfl) bx) ?_;have fin:∀ (jump:Option Code) (G:World),KeepsFrom w.heap.size (W.putObj (w.heap.size+1) (.loop { B .ready none with state:=.busy })) G -> (Instr.endRound (w.heap.size+1) jump).run P G=.ok (.bool jump.isNone) (G.putObj (w.heap.size+1) (.loop (B (if jump.isNone then .ready else .done) jump))) /\ G.heap[w.heap.size+1]?=some (.loop { B .ready none with state:=.busy }) /\ (G.putObj (w.heap.size+1) (.loop (B (if jump.isNone then .ready else .done) jump))).heap[w.heap.size+1]?=some (.loop (B (if jump.isNone then .ready else .done) jump)) /\ (G.putObj (w.heap.size+1) (.loop (B (if jump.isNone then .ready else .done) jump))).heap[w.heap.size]?=some (.deferred (some [])):=λjump G L=>by
      have H:=L.same _ _ (by omega) bv rfl;have:=run_endRound (P:=P) jump H;rw [M] at this |-
      exact ⟨this,by rw [M] at H;exact H,World.putObj_heap_same (zF2.1 H).1,(zQ (by omega)).trans (L.same _ _ (zn _) bq rfl)⟩
     rintro e a3 G X;cases e with
     | normal =>obtain ⟨L,bp,R⟩:=X;obtain ⟨T,H,U,V⟩:=fin none G L;exact ⟨_,_,T,.inl ⟨rfl,⟨r _ _ _ _ _ R (by omega) H rfl,U,V⟩,(bc.trans bp).trans (Z2G.putObj _ _ (by omega))⟩⟩
     | ret =>obtain ⟨L,R⟩:=X;obtain ⟨T,H,U,V⟩:=fin (some .ret) G L;exact ⟨_,_,T,.inr ⟨rfl,.ret,q _ _ _ _ _ _ R (by omega) H rfl,U,V⟩⟩
     | exit id =>obtain ⟨L,R⟩:=X;obtain ⟨T,H,U,V⟩:=fin (some (.exit id)) G L;exact ⟨_,_,T,.inr ⟨rfl,.exit id,q _ _ _ _ _ _ R (by omega) H rfl,U,V⟩⟩
     | goto t =>obtain ⟨L,R⟩:=X;obtain ⟨T,H,U,V⟩:=fin (some (.goto t)) G L;exact ⟨_,_,T,.inr ⟨rfl,.goto t,q _ _ _ _ _ _ R (by omega) H rfl,U,V⟩⟩
     | panic ch=>exact X.elim
     | outgrown=>exact X.elim
   . rintro e W2 ⟨⟨v,rfl⟩,(⟨j,hS,Z,N,hk⟩ | ⟨C,bt,c,Z,N,hk⟩)⟩
     . exact ⟨none,_,by have:=run_endLoop (P:=P) N (by rw [M];simp);rw [M] at this;exact this,bm _ j _ (zn _) hS (r _ _ _ _ _ Z (by omega) N rfl) ((zQ (by omega)).trans hk)⟩
     . exact ⟨some c,_,by have:=run_endLoop (P:=P) N (by rw [M];simp);rw [M] at this;exact this,bk _ c C _ (zn _) bt (q _ _ _ _ _ _ Z (by omega) N rfl) ((zQ (by omega)).trans hk)⟩
end
section
open Go.RowKit Lx Go.Shelf
attribute [local go_sem] Oper.semAt_some
def Zns (Bs:Nat)(w:World):Nat:=match w.cell? ⟨Bs,0,none⟩ with
 | some (.string r)=>r.size
 | _=>0
theorem Z69 {B:Nat}{w:World}{r:ByteArray}(h:w.cell? ⟨B,0,none⟩=some (.string r)):Zns B w=r.size:=by simp [Zns,h]
def encP (x:Int × Bytes):Array Value:=#[vI x.1,.string (mk x.2)]
def PcOk (Bs:Nat)(s:ByteArray)(W:World):Prop:=W.cell? ⟨Bs,0,none⟩=some (.string s)/\W.frozen? ⟨Bs,0,none⟩=false
def PcLoop (Bs:Nat)(s:ByteArray)(J:List (Int × Bytes)->World->Prop)(ln:Value)(wr:World):Prop := ∃ (l:Int) (r:ByteArray) (pre:List (Int × Bytes)),ln=vI l/\PcOk Bs r wr/\P 1 (bl s)=pre++P l (bl r)/\J pre wr/\1<=l/\l+r.size<=s.size+1/\Bs<wr.heap.size
theorem Zh7 {w:World}{b o:Nat}{v:Value}(h:w.cell? ⟨b,o,none⟩=some v):b<w.heap.size:=by
 rcases Nat.lt_or_ge b w.heap.size with B | B
 . exact B
 . simp [World.cell?,Array.getElem?_eq_none B] at h
theorem Z74 (r:ByteArray)(h:0<r.size):bl r=r[0]::(bl r).drop 1:=by
 have:=Zrd r 0 h;rwa [List.drop_zero] at this
theorem Zj5 (r:ByteArray):bl (r.extract 1 r.size)=(bl r).drop 1:=by
 rw [Z5d,List.take_of_length_le (by rw [List.length_drop,Z02];omega)]
theorem Zbr (r:ByteArray)(h:0<r.size):(cutB 10 r).size<r.size:=by
 rw [cutB,Z06,<- Z02 r];have:=Z3x (· != 10) (bl r);rw [<- Z02] at h;rw [List.length_tail];omega
theorem Znt (r:ByteArray)(B:Int)(h:0<r.size)(D:r[0]=35):P B (bl r)=P (if Z9u 10 r then B+1 else B) (bl (cutB 10 r)):=by
 have I:(bl r).dropWhile (· != 10)=((bl r).drop 1).dropWhile (· != 10):=by
  conv=>lhs;rw [Z74 r h,D]
  rw [List.dropWhile_cons,zp (by decide)]
 have G:P B (bl r)=P B ((bl r).dropWhile (· != 10)):=by rw [I];conv=>lhs;rw [Z74 r h,D,P_hash]
 rw [G,cutB,Z3n];cases hk:Z9u 10 r with
 | false=>rw [Z7B _ _ hk];rfl
 | true =>
  have J:=Z7A _ _ hk;have C:=Z5x (bl r) (· != 10);have F:(bl r).dropWhile (· != 10)≠[]:=by intro e;rw [e] at C;have:=congrArg List.length C;rw [List.length_drop] at this;simp at this;omega
  cases hw:(bl r).dropWhile (· != 10) with
  | nil=>exact absurd hw F
  | cons c q =>
   have:=List.head_dropWhile_not (· != 10) F;simp only [hw,List.head_cons] at this;have H:c=10:=by simpa using this
   subst H;simp [P_feed]
theorem Zh8 (n l D:Nat)(s:ByteArray)(hs:s.size<=1000000000)(J q:List (Int × Bytes)->World->Prop)(W:World)(g:PcOk D s W)(bk:D<W.heap.size)(hJ:Zaz D J) (hY:∀ C x W1,J C W1->(C++[x] <+: P 1 (bl s))->YieldAt Fence.wide (n - 1) prog l (encP x) W1 λe W' =>
  (e=.returned (.bool true)/\J (C++[x]) W'/\Z2G D W1 W')\/(e=.returned (.bool false)/\q (C++[x]) W')) (h0:J [] W) :
 CallsIn Fence.wide n prog 109 #[.func (.yield l) #[] #[],.pointer (some ⟨D,0,none⟩)] W λe W' =>
  (∃ v,e=.returned v)/\((∃ xs,xs=P 1 (bl s)/\J xs W')\/(∃ C,(C <+: P 1 (bl s))/\q C W')):=by
 obtain ⟨F,HY,H0,bj⟩:=zh4 hJ hY h0 g;clear hJ hY h0 g;refine callsIn_of_wp func109 rfl trivial ?_ rfl;simp only [ntmps109,List.size_toArray,zw,zx,Nat.reduceAdd,Nat.reduceSub,Array.replicate_succ,Array.replicate_zero,List.push_toArray,List.append_toArray,zn2,zc2];gi_wp2;gi_loopw [3] (λB wr=>PcLoop D s J B wr) (λ_ wr=>Zns D wr)
 case atStart=>exact ⟨1,s,[],rfl,bj.o,rfl,H0.o,by omega,by omega,bk⟩
 case round =>
  obtain ⟨B,r,C,rfl,⟨H,O⟩,hP,hj,bc,bt,N⟩:=hrel;have G:=zh hP;have L:=zh hj;have R:=zh (Z69 H);clear hP hj;by_cases hr:0<r.size
  . have he:(!r.toList.isEmpty)=true:=by rw [ByteArray.toList_eq];have:bl r≠[]:=by { intro e;have:=Z02 r;rw [e] at this;simp at this;omega };simpa [bl] using this
    by_cases c1:r[0]=32
    . have bh:((r[0].toNat:Int)==32)=true:=Zj3 r[0] 32 (by omega) c1;have d:=zh c1;clear c1;gi_wp2;go_roundw
      case rel=>exact ⟨B,r.extract 1 r.size,C,rfl,⟨World.cell?_setCell_same' _ _ _ (by rw [H];rfl),by rw [World.frozen?_setCell];exact O⟩,by rw [G.o,Z74 r hr,d.o,P_blank,Zj5],F.o.set _ _ _ L.o,bc,by rw [ByteArray.size_extract];omega,by simpa [World.setCell] using N⟩
      case measure=>rw [Z69 (World.cell?_setCell_same' _ _ _ (by rw [H];rfl)),R.o,ByteArray.size_extract];omega
    . have bh:((r[0].toNat:Int)==32)=false:=Zj4 r[0] 32 (by omega) c1;have d:=zh c1;clear c1;by_cases c2:r[0]=10
      . have I:((r[0].toNat:Int)==10)=true:=Zj3 r[0] 10 (by omega) c2;have V:=zh c2;clear c2;gi_wp2;gi_region;gi_wp2;go_roundw
        case rel=>exact ⟨B+1,r.extract 1 r.size,C,rfl,⟨World.cell?_setCell_same' _ _ _ (by rw [H];rfl),(World.frozen?_setCell _ _ _ _).trans O⟩,by rw [G.o,Z74 r hr,V.o,P_feed,Zj5],F.o.below _ _ _ (F.o.set _ _ _ L.o) (Below.drew (Zbu _)),by omega,by rw [ByteArray.size_extract];omega,by simpa [World.setCell] using N⟩
        case measure =>have:Zns D (wr.setCell ⟨D,0,none⟩ (.string (r.extract 1 r.size))).drew=(r.extract 1 r.size).size:=Z69 (World.cell?_setCell_same' _ _ _ (by rw [H];rfl));rw [this,R.o,ByteArray.size_extract];omega
      . have I:((r[0].toNat:Int)==10)=false:=Zj4 r[0] 10 (by omega) c2;have V:=zh c2;clear c2;by_cases c3:r[0]=35
        . have bq:((r[0].toNat:Int)==35)=true:=Zj3 r[0] 35 (by omega) c3;have Y:=zh c3;clear c3;have bb:=Znt r B hr Y.o;have bn:=Zbr r hr;have j:=zh bb;have X:Hid (r.size<=maxLen):=by show _<=_;unfold maxLen;omega
          clear bb;generalize A:cutB 10 r=rb at *
          generalize hO:Z9u 10 r=ob at *
          have HB:=zh A;have HO:=zh hO;clear A hO;cases ob
          all_goals
           gi_wp2_with fail;refine ⟨trivial,(λh=>by cases h),(callsIn_wide.2 (Z77 r 10 wr X.o)).mono ?_⟩;rintro e w2 ⟨rfl,I⟩;rw [HB.o,HO.o];have S:=(I.cell (p:=⟨D,0,none⟩) N).trans H;have hf2:=(I.frozen (p:=⟨D,0,none⟩) N).trans O;have bs:=I.size;gi_wp2;go_roundw
           case measure=>rw [Z69 (World.cell?_setCell_same' _ _ _ (by rw [S];rfl)),R.o];exact bn
           case rel =>
            first
            | exact ⟨B,rb,C,rfl,⟨World.cell?_setCell_same' _ _ _ (by rw [S];rfl),(World.frozen?_setCell _ _ _ _).trans hf2⟩,by rw [G.o,j.o];rfl,F.o.set _ _ _ (F.o.below _ _ _ L.o I),by omega,by omega,by simp [World.setCell];omega⟩
            | exact ⟨B+1,rb,C,rfl,⟨World.cell?_setCell_same' _ _ _ (by rw [S];rfl),(World.frozen?_setCell _ _ _ _).trans hf2⟩,by rw [G.o,j.o];rfl,F.o.set _ _ _ (F.o.below _ _ _ L.o I),by omega,by omega,by simp [World.setCell];omega⟩
        . have bq:((r[0].toNat:Int)==35)=false:=Zj4 r[0] 35 (by omega) c3;have Y:=zh c3;clear c3;have X:Hid (r.size<=maxLen):=by show _<=_;unfold maxLen;omega
          have n1:=Zb4 (bl r);have n2:=Zry (bl r) (by rw [Z02];exact hr);rw [Z02] at n2;have T:r.extract 0 (tlen (bl r))=mk ((bl r).take (tlen (bl r))):=Z76 _ _ _ _ (by simp);have hy:bl (r.extract (tlen (bl r)) r.size)=(bl r).drop (tlen (bl r)):=by rw [Z5d,List.take_of_length_le (by rw [List.length_drop,Z02];omega)]
          have U:P B (bl r)=(B,(bl r).take (tlen (bl r)))::P B ((bl r).drop (tlen (bl r))):=by conv=>lhs;rw [Z74 r hr,P_tok B _ _ d.o V.o Y.o,<- Z74 r hr]
          generalize bm:(bl r).take (tlen (bl r))=M at *
          generalize hn:tlen (bl r)=m at *
          have bd:C++[(B,M)] <+: P 1 (bl s):=⟨P B ((bl r).drop m),by rw [G.o,U];simp⟩
          obtain ⟨fn,tmps,assign,body,ba,hR⟩:=HY.o C (B,M) wr L.o bd;simp only [encP] at ba;rw [<- T] at ba;obtain ⟨HN,HX,br,y⟩:=zh4 hn T hy U;clear hn T hy U bm bd;gi_wp2_with fail;refine ⟨trivial,(λh=>by cases h),(callsIn_wide.2 (Zhb r wr X.o)).mono ?_⟩;rintro e w2 ⟨rfl,rfl⟩;rw [HN.o];gi_wp2_with fail;refine ⟨(λh=>by cases h),hR.mono ?_⟩;rintro e W3 (⟨rfl,bg,f⟩ | ⟨rfl,be⟩)
          . have Z:=f.1.trans H;have bf:=f.2.trans O;have bp:=Zh7 Z;gi_wp2;go_roundw
            case rel=>exact ⟨B,r.extract m r.size,C++[(B,M)],rfl,⟨World.cell?_setCell_same' _ _ _ (by rw [Z];rfl),(World.frozen?_setCell _ _ _ _).trans bf⟩,by rw [G.o,y.o,br.o];simp,F.o.set _ _ _ bg,bc,by rw [ByteArray.size_extract];omega,by simpa [World.setCell] using bp⟩
            case measure=>rw [Z69 (World.cell?_setCell_same' _ _ _ (by rw [Z];rfl)),R.o,ByteArray.size_extract];omega
          . gi_wp2;refine bodyPost_ret (results_none rfl _ _ _) rfl ?_;exact ⟨⟨_,rfl⟩,.inr ⟨C++[(B,M)],⟨P B ((bl r).drop m),by rw [G.o,y.o];simp⟩,be⟩⟩
  . have he:(!r.toList.isEmpty)=false:=by rw [ByteArray.toList_eq];have:bl r=[]:=List.length_eq_zero_iff.1 (by rw [Z02];omega);simpa [bl] using this
    gi_wp2;go_end0;exact ⟨⟨_,rfl⟩,.inl ⟨C,by rw [G.o,(List.length_eq_zero_iff.1 (by rw [Z02];omega):bl r=[]),P_nil,List.append_nil],L.o⟩⟩
theorem Zdu (n B:Nat)(s:ByteArray)(C:s.size<=1000000000) : SeqC Fence.wide n prog 109 #[.pointer (some ⟨B,0,none⟩)] encP (λW=>PcOk B s W/\B<W.heap.size) B (λxs=>xs=P 1 (bl s)) (λpre=>pre <+: P 1 (bl s)) := λl J Jx W hok hJ hY h0=>Zh8 n l B s C J Jx W hok.1 hok.2 hJ hY h0
theorem Zh9 (s:ByteArray)(w:World) : Calls prog 83 #[.string s] w λe w'=>e=.returned (.func (.func 109) #[] #[.pointer (some ⟨w.heap.size,0,none⟩)])/\w'=w.alloc (.cells #[.string s] 9):=by
 go_enter func83,ntmps83;go_wp2;go_ret;exact ⟨rfl,rfl⟩
end
section
open Go.RowKit Lx Go.Shelf
attribute [local go_sem] Oper.semAt_some
theorem Z5C (acc ts:List Tok)(l:Int)(B rest:List (Int × Bytes))(h:coll acc B=(ts,0,l)):coll acc (B++rest)=coll ts rest:=by
 induction B generalizing acc with
 | nil=>simp only [coll,Prod.mk.injEq] at h;rw [zn2,h.1]
 | cons p B ih =>
  obtain ⟨C,t⟩:=p;simp only [coll,zc2] at h |-
  split at h
  . simp at h
  . split at h
    . simp at h
    . rw [zf ‹_›,zf ‹_›];exact ih _ h
theorem Zj6 (ts:List Tok)(B:List (Int × Bytes))(x:Int × Bytes)(h:coll [] B=(ts,0,0))(hk:Z0e x.2≠0)(C:ts.length≠5000):coll [] (B++[x])=(ts++[(Z0e x.2,x.1,x.2)],0,0):=by
 rw [Z5C [] ts 0 B [x] h];simp [coll,hk,C]
theorem Znu (ts:List Tok)(B rest:List (Int × Bytes))(x:Int × Bytes)(h:coll [] B=(ts,0,0))(hk:Z0e x.2=0):coll [] ((B++[x])++rest)=([],8,x.1):=by
 rw [List.append_assoc,Z5C [] ts 0 B _ h];simp [coll,hk]
theorem Zj7 (ts:List Tok)(B rest:List (Int × Bytes))(x:Int × Bytes)(h:coll [] B=(ts,0,0))(hk:Z0e x.2≠0)(C:ts.length=5000):coll [] ((B++[x])++rest)=([],2,x.1):=by
 rw [List.append_assoc,Z5C [] ts 0 B _ h];simp [coll,hk,C]
theorem Zre:∀ (f:Nat) (C:Int) (s:Bytes),∀ x∈pcs f C s,x.2.length<=s.length:=by
 intro f;induction f with
 | zero=>intro C s x B;simp [pcs] at B
 | succ f ih =>
  intro C s x B;cases s with
  | nil=>simp [pcs] at B
  | cons c r =>
   simp only [pcs] at B;split at B
   . have:=ih _ _ x B;simp;omega
   . split at B
     . have:=ih _ _ x B;simp;omega
     . split at B
       . have:=ih _ _ x B;have D:=Z3x (· != 10) r;simp;omega
       . rcases zD.1 B with rfl | B
         . simp;omega
         . have:=ih _ _ x B;rw [List.length_drop] at this;omega
def TkI (w:World)(pre:List (Int × Bytes))(W:World):Prop := ∃ (ts:List Tok) (v:Value),coll [] pre=(ts,0,0)/\ts.length<=5000/\Boxed W (w.heap.size+3) 92 v/\W.ownsRow (w.heap.size+5) 126 3 v ts.length (cellsOf ts) /\ Boxed W w.heap.size 92 (slice none 0 0)/\Boxed W (w.heap.size+1) 37 (vI 0)/\Boxed W (w.heap.size+2) 3 (vI 0)/\w.heap.size+5<=W.heap.size/\Below w.heap.size w W
def TkX (w:World)(c:Code)(pre:List (Int × Bytes))(W:World):Prop := c=.ret/\∃ e l:Int,(∀ rest,coll [] (pre++rest)=([],e,l))/\Boxed W w.heap.size 92 (slice none 0 0)/\Boxed W (w.heap.size+1) 37 (vI e)/\Boxed W (w.heap.size+2) 3 (vI l)/\w.heap.size+5<=W.heap.size/\Below w.heap.size w W
theorem Z1G {W:World}{B:Nat}{t:TypeId}{v:Value}(h:Boxed W B t v)(p:Addr)(u:Value)(C:B≠p.block):Boxed (W.setCell p u) B t v:=(zg W p u B C).trans h
theorem Z1H {W C:World}{B:Nat}{t:TypeId}{v:Value}(h:Boxed W B t v)(hb:Below W.heap.size W C):Boxed C B t v:=(hb.block B h.lt).trans h
theorem Z5v {W:World}{B l:Nat}{t:TypeId}{v:Value}(h:Boxed W B t v)(o:Obj)(C:B≠l):Boxed (W.putObj l o) B t v:=(zQ C).trans h
theorem Z8w {n₀ l:Nat}{W:World}{o B:Obj}(C:n₀<=l)(h:W.heap[l]?=some o):Below n₀ W (W.putObj l B) := (zr n₀ W).grown (grownBy_putObj' W l B) (by have:=(zF2.1 h).1;omega) (λk e=>by cases e;omega)
theorem Z6a {W:World}{base:Nat}{e:TypeId}{size:Nat}{v:Value}{n:Nat}{B:List Value}(h:W.ownsRow base e size v n B)(p:Addr)(u:Value)(C:p.block<base):(W.setCell p u).ownsRow base e size v n B := ownsRow_setCell_below h C u
theorem Z9B {W D:World}{base:Nat}{e:TypeId}{size:Nat}{v:Value}{n:Nat}{F:List Value}(h:W.ownsRow base e size v n F)(hb:Below W.heap.size W D):D.ownsRow base e size v n F:=by
 refine ⟨h.1,?_⟩;rcases h.2 with ⟨B,G⟩ | ⟨g,cap,I,B,H,C,rest⟩
 . exact .inl ⟨B,G⟩
 . exact .inr ⟨g,cap,I,B,H,(hb.block g (zF2.1 C).1).trans C,rest⟩
theorem TkI.abides (w:World):Zaz (w.heap.size+4) (TkI w) where
 set:=by
  rintro s W u ⟨ts,v,D,F,L,H,C,G,I,J,B⟩
  exact ⟨ts,v,D,F,Z1G L _ _ (by show _≠w.heap.size+4;omega),Z6a H _ _ (by show w.heap.size+4<_;omega),Z1G C _ _ (by show _≠w.heap.size+4;omega),Z1G G _ _ (by show _≠w.heap.size+4;omega),Z1G I _ _ (by show _≠w.heap.size+4;omega),by simpa [World.setCell] using J,B.setCell (p:=⟨w.heap.size+4,0,none⟩) (by show _<=w.heap.size+4;omega) _⟩
 below:=by
  rintro s W M ⟨ts,v,D,F,L,H,C,G,I,J,B⟩ hb
  exact ⟨ts,v,D,F,Z1H L hb,Z9B H hb,Z1H C hb,Z1H G hb,Z1H I hb,zt J hb.size,B.trans (hb.mono B.size)⟩
theorem TkI.put (w:World)(s:List (Int × Bytes))(W:World)(l:Nat)(o G:Obj)(h:TkI w s W)(R:w.heap.size+5<=l)(B:W.heap[l]?=some o)(L:o.isCells=false):TkI w s (W.putObj l G):=by
 obtain ⟨ts,v,F,H,O,M,C,I,J,N,D⟩:=h;exact ⟨ts,v,F,H,Z5v O _ (by omega),ownsRow_putObj M _ B L,Z5v C _ (by omega),Z5v I _ (by omega),Z5v J _ (by omega),by simpa using N,D.trans (Z8w (by omega) B)⟩
theorem TkX.put (w:World)(c:Code)(s:List (Int × Bytes))(W:World)(l:Nat)(o D:Obj)(h:TkX w c s W)(N:w.heap.size+5<=l)(H:W.heap[l]?=some o):TkX w c s (W.putObj l D):=by
 obtain ⟨I,e,J,M,B,F,G,L,C⟩:=h;exact ⟨I,e,J,M,Z5v B _ (by omega),Z5v F _ (by omega),Z5v G _ (by omega),by simpa using L,C.trans (Z8w (by omega) H)⟩
theorem Z8x {B:Nat}{W C:World}(h:Below W.heap.size W C):KeepsFrom B W C:=⟨h.size,λk _ _ hk _=>(h.block k (zF2.1 hk).1).trans hk⟩
theorem Zqq {w W C:World}{G:List (Int × Bytes)}{B:Nat}(e l:Int)(D:Below W.heap.size W C)(H:Boxed C w.heap.size 92 (slice none 0 0))(I:Boxed C (w.heap.size+1) 37 (vI 0))(L:Boxed C (w.heap.size+2) 3 (vI 0)) (N:w.heap.size+5<=W.heap.size) (F:Below w.heap.size w W) (M:∀ rest,coll [] (G++rest)=([],e,l)) : KeepsFrom B W (((C.setCell ⟨w.heap.size,0,none⟩ (slice none 0 0)).setCell ⟨w.heap.size+1,0,none⟩ (vI e)).setCell ⟨w.heap.size+1+1,0,none⟩ (vI l)) /\ TkX w .ret G (((C.setCell ⟨w.heap.size,0,none⟩ (slice none 0 0)).setCell ⟨w.heap.size+1,0,none⟩ (vI e)).setCell ⟨w.heap.size+1+1,0,none⟩ (vI l)):=by
 refine ⟨(((Z8x D).trans ((KeepsOthers.setCell _ _ _).from _)).trans ((KeepsOthers.setCell _ _ _).from _)).trans ((KeepsOthers.setCell _ _ _).from _),rfl,e,l,M,?_,?_,?_,?_,?_⟩
 . exact Z1G (Z1G (H.set _) _ _ (by show _≠w.heap.size+1;omega)) _ _ (by show _≠w.heap.size+1+1;omega)
 . exact Z1G ((Z1G I _ _ (by show _≠w.heap.size;omega)).set _) _ _ (by show _≠w.heap.size+1+1;omega)
 . exact (Z1G (Z1G L _ _ (by show _≠w.heap.size;omega)) _ _ (by show _≠w.heap.size+1;omega)).set _
 . have:=D.size;simp [World.setCell];omega
 . have J:Below w.heap.size w C:=F.trans (D.mono F.size);exact ((J.setCell (p:=⟨w.heap.size,0,none⟩) (zn _) _).setCell (p:=⟨w.heap.size+1,0,none⟩) (by show _<=w.heap.size+1;omega) _).setCell (p:=⟨w.heap.size+1+1,0,none⟩) (by show _<=w.heap.size+1+1;omega) _
theorem Zrf {w W C D:World}{M:List (Int × Bytes)}{x:Int × Bytes}{B:Nat}{ts:List Tok}{v F:Value}{L:Int}{G:Obj}(I:Below W.heap.size W C)(V:Boxed C w.heap.size 92 (slice none 0 0))(X:Boxed C (w.heap.size+1) 37 (vI 0))(Y:Boxed C (w.heap.size+2) 3 (vI 0)) (T:Boxed C (w.heap.size+3) 92 v) (O:C.ownsRow (w.heap.size+5) 126 3 v ts.length (cellsOf ts)) (l:w.heap.size+5<=W.heap.size) (N:Below w.heap.size w W) (q:ts.length<5000) (U:D.ownsRow (w.heap.size+5) 126 3 F (ts.length+1) (cellsOf ts++[vI L,vI x.1,.string (mk x.2)])) (H:(C.alloc G).grownBy D v.ownBlock) (R:coll [] (M++[x])=(ts++[(L,x.1,x.2)],0,0)) : KeepsFrom B W (D.setCell ⟨w.heap.size+1+1+1,0,none⟩ F)/\Z2G (w.heap.size+4) W (D.setCell ⟨w.heap.size+1+1+1,0,none⟩ F)/\TkI w (M++[x]) (D.setCell ⟨w.heap.size+1+1+1,0,none⟩ F):=by
 have d:=I.size;have J:∀ j,v.ownBlock=some j->w.heap.size+5<=j:=λj e=>(O.lt j e).1;have keep:∀ {b:Nat} {t:TypeId} {u:Value},b<w.heap.size+5->Boxed C b t u->Boxed D b t u:=λ{b t u} hb h=>(h.alloc _).kept H (λe=>by have:=J _ e.symm;omega);have hk:KeepsOthers C D:=(KeepsOthers.alloc C G).trans (KeepsOthers.of_grownBy H λj o ej hj=>by
  rcases (O.alloc G).2 with ⟨rfl,_⟩ | ⟨g,cap,f,rfl,_,S,_⟩
  . simp [Value.ownBlock] at ej
  . obtain rfl:g=j:=by simpa [Value.ownBlock] using ej
    rw [S] at hj;cases hj;rfl)
 have Z:Below w.heap.size w D:=((N.trans (I.mono N.size)).alloc (by omega) G).grown H (by simp;omega) (λj e=>by have:=J j e;omega);have m:=hk.size;refine ⟨((Z8x I).trans (hk.from _)).trans ((KeepsOthers.setCell _ _ _).from _),?_,ts++[(L,x.1,x.2)],F,R,by rw [zj,List.length_singleton];omega,(keep (by omega) T).set _,?_,?_,?_,?_,?_,?_⟩
 . refine ((Z2G.below I (by omega)).trans (Z2G.block ?_)).trans (Z2G.setCell _ _ _ (by show _≠w.heap.size+1+1+1;omega));rw [H.block _ (by simp;omega) (λe=>by have:=J _ e.symm;omega)];exact Below.heap_alloc _ _ _ (by omega)
 . rw [zj,List.length_singleton,ZbB,Z37];exact Z6a U _ _ (by show w.heap.size+1+1+1<_;omega)
 . exact Z1G (keep (by omega) V) _ _ (by show _≠w.heap.size+1+1+1;omega)
 . exact Z1G (keep (by omega) X) _ _ (by show _≠w.heap.size+1+1+1;omega)
 . exact Z1G (keep (by omega) Y) _ _ (by show _≠w.heap.size+1+1+1;omega)
 . simp [World.setCell];omega
 . exact Z.setCell (p:=⟨w.heap.size+1+1+1,0,none⟩) (by show _<=w.heap.size+1+1+1;omega) _
theorem Zf8 {w W:World}{D:Nat}{tmps:Array Value}{R:List Tok × Int × Int}{v:Value}(O:w.heap.size+5<=D)(B:W.heap[D]?=some (.deferred (some []))) (N:tmps[2]?.getD undef=.pointer (some ⟨w.heap.size,0,none⟩)) (L:tmps[3]?.getD undef=.pointer (some ⟨w.heap.size+1,0,none⟩)) (G:tmps[4]?.getD undef=.pointer (some ⟨w.heap.size+1+1,0,none⟩)) (C:Boxed W w.heap.size 92 v) (H:Boxed W (w.heap.size+1) 37 (vI R.2.1)) (J:Boxed W (w.heap.size+2) 3 (vI R.2.2)) (F:Below w.heap.size w W) (M:∃ A c,v=slice A R.1.length c) (I:Sl (W.putObj D (.deferred none)) (W.putObj D (.deferred none)).heap.size v R.1) : bodyPostM Fence.wide 5 prog f55 (Zay w R) Exit.ret { tmps,defers:=[{ target:=.collected D,args:=#[] }] } W:=by
 refine ⟨by simp,.inl ⟨_,_,rfl,run_takeDeferred B,?_⟩⟩;have c0:=(Z5v C (.deferred none) (by omega:w.heap.size≠D)).cell;have c1:=(Z5v H (.deferred none) (by omega:w.heap.size+1≠D)).cell;have c2:(W.putObj D (.deferred none)).cell? ⟨w.heap.size+1+1,0,none⟩=_:=(Z5v J (.deferred none) (by omega:w.heap.size+2≠D)).cell;obtain ⟨A,c,rfl⟩:=M;refine ⟨.tuple #[slice A R.1.length c,vI R.2.1,vI R.2.2],?_,_,rfl,I,F.trans (Z8w (by omega) B)⟩;simp [results,results55,go_sem,N,L,G,c0,c1,c2]
theorem Zha (s:ByteArray)(w:World)(hs:s.size<=1000000000):Calls prog 55 #[.string s] w (Zay w (toks (bl s))):=by
 by_cases hbig:20000<s.size
 . rw [Zf7 s hbig];go_enter func55,ntmps55;go_wp2_with fail;refine bodyPost_ret (v:=.tuple #[slice none 0 0,vI 2,vI 0]) (by simp [results,results55,go_sem]) rfl ?_;exact ⟨_,rfl,Sl.nil _ _,(((Zbu w).alloc (zn _) _).alloc (by simp) _).alloc (by simp;omega) _⟩
 . rw [Zh6 s hbig];obtain ⟨R,hR⟩:∃ R,coll [] (P 1 (bl s))=R:=⟨_,rfl⟩
   rw [hR];have HR:=zh hR;clear hR;have bA:decide ((20000:Int)<s.size)=false:=by simp;omega
   obtain ⟨i0,hi,bj,bg,bb⟩:=info_parts Tryz.infoTok;obtain ⟨hI,bk,bs,bu⟩:=zh4 hi bj bg bb;clear hi bj bg bb;refine (callsIn_wide (n:=5)).1 ?_;refine callsIn_of_wp_marks func55 rfl trivial ?_ rfl;simp only [ntmps55,List.size_toArray,zw,zx,Nat.reduceAdd,Nat.reduceSub,Array.replicate_succ,Array.replicate_zero,List.push_toArray,List.append_toArray,zn2,zc2];gi_wp2_with fail;refine ⟨trivial,(callsIn_wide.2 (Zh9 s _)).mono ?_⟩;rintro e w1 ⟨rfl,rfl⟩;gi_wp2_with fail;obtain ⟨G,F⟩:∃ G,((((((w.alloc (.cells #[slice none 0 0] 92)).alloc (.cells #[vI 0] 37)).alloc (.cells #[vI 0] 3)).alloc (.cells #[slice none 0 0] 92)).alloc (.cells #[.string s] 9)))=G:=⟨_,rfl⟩
   have k0:Boxed G w.heap.size 92 (slice none 0 0):=by rw [<- F];exact ((((Boxed.new w _ _).alloc _).alloc _).alloc _).alloc _
   have k1:Boxed G (w.heap.size+1) 37 (vI 0):=by rw [<- F];have:=(((Boxed.new (w.alloc (.cells #[slice none 0 0] 92)) 37 (vI 0)).alloc (.cells #[vI 0] 3)).alloc (.cells #[slice none 0 0] 92)).alloc (.cells #[.string s] 9);simpa using this
   have r:Boxed G (w.heap.size+2) 3 (vI 0):=by rw [<- F];have:=((Boxed.new ((w.alloc (.cells #[slice none 0 0] 92)).alloc (.cells #[vI 0] 37)) 3 (vI 0)).alloc (.cells #[slice none 0 0] 92)).alloc (.cells #[.string s] 9);simpa using this
   have m:Boxed G (w.heap.size+3) 92 (slice none 0 0):=by rw [<- F];have:=(Boxed.new (((w.alloc (.cells #[slice none 0 0] 92)).alloc (.cells #[vI 0] 37)).alloc (.cells #[vI 0] 3)) 92 (slice none 0 0)).alloc (.cells #[.string s] 9);simpa using this
   have O:Boxed G (w.heap.size+4) 9 (.string s):=by rw [<- F];have:=Boxed.new ((((w.alloc (.cells #[slice none 0 0] 92)).alloc (.cells #[vI 0] 37)).alloc (.cells #[vI 0] 3)).alloc (.cells #[slice none 0 0] 92)) 9 (.string s);simpa using this
   have Y:G.heap.size=w.heap.size+5:=by rw [<- F];simp
   have y:Below w.heap.size w G:=by rw [<- F];exact (((((Zbu w).alloc (zn _) _).alloc (by simp) _).alloc (by simp;omega) _).alloc (by simp;omega) _).alloc (by simp;omega) _
   rw [F];clear F;refine Z84 rfl (by omega) (gf:=109) (lb:=#[.pointer (some ⟨w.heap.size+4,0,none⟩)]) rfl trivial (enters_of func109 (by kernel_rfl) rfl) (Zdu _ (w.heap.size+4) s hs) (by omega) (λW' hb=>⟨⟨(Z1H O hb).cell,(Z1H O hb).frozen⟩,(Z1H O hb).lt⟩) (λ_=>rfl) (TkI w) (TkX w) (TkI.abides w) (λs W l o o' h hl ho hc=>TkI.put w s W l o o' h (by omega) ho hc) (λc s W l o o' h hl ho _=>TkX.put w c s W l o o' h (by omega) ho) ⟨[],_,rfl,by simp,m,World.ownsRow_nil _ _ _ _,k0,k1,r,by omega,y⟩ (λx=>{ tmps:=#[.string s,undef,.pointer (some ⟨w.heap.size,0,none⟩),.pointer (some ⟨w.heap.size+1,0,none⟩),.pointer (some ⟨w.heap.size+1+1,0,none⟩),.pointer (some ⟨w.heap.size+1+1+1,0,none⟩),vI x.1,.string (mk x.2),undef,.string s,vI s.size,.bool false,.string s,.func (.func 109) #[] #[.pointer (some ⟨w.heap.size+4,0,none⟩)],vI x.1,.string (mk x.2),undef,undef,undef,undef,undef,undef,undef,undef,undef,undef,undef,undef,undef,undef,undef,undef,undef,undef,undef],defers:=[] }) ?assign ?body ?done ?stop
   case assign =>intro l x W K Z;simp only [encP];gi_wp2;exact Z
   case body =>
    rintro l ba x W ⟨ts,v,B,U,b3,d,H,N,L,f,J⟩ T;have bn:Hid ((mk x.2).size<=maxLen):=by show _<=_;have hm:x∈P 1 (bl s):=T.subset (by simp);have:=Zre _ _ _ x hm;rw [Z02] at this;rw [Z06];unfold maxLen;omega
    have bB:=zh T;clear T;have bm:Hid (Z0e (bl (mk x.2))=Z0e x.2):=by rw [Z3n];exact rfl
    have bq:=zh (λh rest=>Znu ts ba rest x B h);have bv:=zh (λh h' rest=>Zj7 ts ba rest x B h h');have br:=zh (λh h'=>Zj6 ts ba x B h h');have H1:=zh B;clear B;generalize Z0e x.2=kd at *
    clear k0 k1 r m O y;have bp:=zh Y;clear Y;gi_wp2_with fail;refine ⟨trivial,(CallsIn.inRound l (callsIn_wide.2 (Zhc _ W bn.o))).mono ?_⟩;rintro e V ⟨rfl,C⟩;rw [bm.o];have S:=Z1H H C;have X:=Z1H N C;have j:=Z1H L C;have I:=Z1H b3 C;have q:=Z9B d C;have c0:=S.cell;have f0:=S.frozen;have c1:=X.cell;have f1:=X.frozen;have c2:V.cell? ⟨w.heap.size+1+1,0,none⟩=_:=j.cell;have f2:V.frozen? ⟨w.heap.size+1+1,0,none⟩=_:=j.frozen;have c3:V.cell? ⟨w.heap.size+1+1+1,0,none⟩=_:=I.cell;have f3:V.frozen? ⟨w.heap.size+1+1+1,0,none⟩=_:=I.frozen;have bb:=C.size;by_cases hk0:kd=0
    . have bz:(kd==0)=true:=by simp [hk0]
      have HK0:=zh hk0;clear hk0;gi_wp2_with fail;exact Zqq 8 x.1 C S X j f J (λrest=>bq.o HK0.o rest)
    . have bz:(kd==0)=false:=by simp [hk0]
      have HK0:=zh hk0;clear hk0;have bc:∃ A c,v=slice A ts.length c:=by
       rcases d.2 with ⟨M,h0⟩ | ⟨g,cap,bt,M,_⟩
       . exact ⟨none,0,by rw [M,h0]⟩
       . exact ⟨_,_,M⟩
      obtain ⟨A,c,rfl⟩:=bc;by_cases h5:ts.length=5000
      . have bx:((ts.length:Int)==5000)=true:=by simp;omega
        have H5:=zh h5;clear h5;gi_wp2_with fail;exact Zqq 2 x.1 C S X j f J (λrest=>bv.o HK0.o H5.o rest)
      . have bx:((ts.length:Int)==5000)=false:=by simp;omega
        have h4:ts.length<5000:=by omega
        have H5:=zh h5;clear h5;gi_wp2_with (gi_at_builtin;refine wpListIn_append_own _ rfl _ _ 92 rfl (w.heap.size+5) 126 i0 _ 3 32 underlying92 hI.o bk.o bs.o bu.o rfl (by decide) _ _ _ rfl (q.alloc _) ⟨V.heap.size,0,none⟩ 1 1 [vI kd,vI x.1,.string (mk x.2)] rfl rfl (news3 _ _ _ _ _) (by simp [Value.oneCell']) (by unfold maxLen;omega) (by omega) (by simp;omega) ?_;intro v' w1 bf be _;obtain ⟨g',bC,rfl⟩:=ownsRow_succ bf;have c4:w1.cell? ⟨w.heap.size+1+1+1,0,none⟩=_:=(I.alloc _ |>.kept be (I.not_row (by decide) q)).cell;have f4:w1.frozen? ⟨w.heap.size+1+1+1,0,none⟩=_:=(I.alloc _ |>.kept be (I.not_row (by decide) q)).frozen);exact Zrf C S X j I q f J h4 bf be (br.o HK0.o H5.o)
   case done =>
    rintro D ys W hD rfl ⟨ts,v,B,U,b3,d,H,N,L,f,J⟩ Z;have c0:=H.cell;have f0:=H.frozen;have c1:=N.cell;have f1:=N.frozen;have c2:W.cell? ⟨w.heap.size+1+1,0,none⟩=_:=L.cell;have f2:W.frozen? ⟨w.heap.size+1+1,0,none⟩=_:=L.frozen;have c3:W.cell? ⟨w.heap.size+1+1+1,0,none⟩=_:=b3.cell;have bc:∃ A c,v=slice A ts.length c:=by
     rcases d.2 with ⟨M,h0⟩ | ⟨g,cap,bt,M,_⟩
     . exact ⟨none,0,by rw [M,h0]⟩
     . exact ⟨_,_,M⟩
    obtain ⟨A,c,rfl⟩:=bc;have H1:=zh B;clear B k0 k1 r m O y;have bd:w.heap.size+5<=D:=by omega
    have bp:=zh Y;clear Y;gi_wp2_with fail;rw [<- HR.o,H1.o];have e0:=Z1G (Z1G (H.set (slice A ts.length c)) ⟨w.heap.size+1,0,none⟩ (vI 0) (by show _≠w.heap.size+1;omega)) ⟨w.heap.size+1+1,0,none⟩ (vI 0) (by show _≠w.heap.size+1+1;omega);have e1:=Z1G ((Z1G N ⟨w.heap.size,0,none⟩ (slice A ts.length c) (by show _≠w.heap.size;omega)).set (vI 0)) ⟨w.heap.size+1+1,0,none⟩ (vI 0) (by show _≠w.heap.size+1+1;omega);have e2:=(Z1G (Z1G L ⟨w.heap.size,0,none⟩ (slice A ts.length c) (by show _≠w.heap.size;omega)) ⟨w.heap.size+1,0,none⟩ (vI 0) (by show _≠w.heap.size+1;omega)).set (vI 0);have eK:(((W.setCell ⟨w.heap.size,0,none⟩ (slice A ts.length c)).setCell ⟨w.heap.size+1,0,none⟩ (vI 0)).setCell ⟨w.heap.size+1+1,0,none⟩ (vI 0)).heap[D]?=some (.deferred (some [])) := (zg _ _ _ D (by show _≠w.heap.size+1+1;omega)).trans ((zg _ _ _ D (by show _≠w.heap.size+1;omega)).trans ((zg _ _ _ D (by show _≠w.heap.size;omega)).trans Z));have eB:Below w.heap.size w (((W.setCell ⟨w.heap.size,0,none⟩ (slice A ts.length c)).setCell ⟨w.heap.size+1,0,none⟩ (vI 0)).setCell ⟨w.heap.size+1+1,0,none⟩ (vI 0)) := ((J.setCell (p:=⟨w.heap.size,0,none⟩) (zn _) _).setCell (p:=⟨w.heap.size+1,0,none⟩) (by show _<=w.heap.size+1;omega) _).setCell (p:=⟨w.heap.size+1+1,0,none⟩) (by show _<=w.heap.size+1+1;omega) _;have eR:=Z6a (Z6a (Z6a d ⟨w.heap.size,0,none⟩ (slice A ts.length c) (by show w.heap.size<_;omega)) ⟨w.heap.size+1,0,none⟩ (vI 0) (by show w.heap.size+1<_;omega)) ⟨w.heap.size+1+1,0,none⟩ (vI 0) (by show w.heap.size+1+1<_;omega);exact Zf8 (R:=(ts,0,0)) bd eK rfl rfl rfl e0 e1 e2 eB ⟨A,c,rfl⟩ (Sl.of_own (ownsRow_putObj eR _ eK rfl))
   case stop =>
    rintro D c ba W hD T ⟨rfl,e,l,B,H,N,L,f,J⟩ Z;have bd:w.heap.size+5<=D:=by omega
    obtain ⟨rest,bh⟩:=T;have U:=B rest;rw [bh] at U;have H2:=zh U;clear B U bh k0 k1 r m O y Y;gi_wp2_with fail;rw [<- HR.o,H2.o];exact Zf8 (R:=([],e,l)) bd Z rfl rfl rfl H N L J ⟨none,0,rfl⟩ (Sl.nil _ _)
end
