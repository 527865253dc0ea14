import Derived.Test.YtnepkoepbapgeaaGreatDoorParW4
namespace Go.Proofs.YtnepkoepbapgeaaGreatDoor
open _root_.Go.Proofs.Tryz
open Value (int slice)
open IntKind (i64)
set_option maxHeartbeats 8000000
set_option maxRecDepth 100000
section
open Go.RowKit Lx Px
theorem Zdj (pb:Nat)(v:Value)(ts:List Tok)(k:Nat)(T:nxt ts k≠kNot)(hs:∀ k',k<=k'->k'<=ts.length->RC 4 283 pb v ts k') (x:Ex) (C:Nat) (bf:Rd 4 none (txt ts k) ((Out.ok x C).res ts)) (bc:okK ts k (.ok x C)) (ba:∀ w,PI w pb v ts k->Calls prog 283 #[.pointer (some ⟨pb,0,none⟩)] w (RP pb v ts (.ok x C) w)) (S:nxt ts C=[60]):RC 3 257 pb v ts k:=by
 have bg:=Z33 S (by decide);obtain ⟨o2,bb,R,bd⟩:=hs (C+1) (by have:=bc.1;omega) (by omega);have bm:=bc.1;have q:Px.opAt 3 (nxt ts C)=11:=by rw [S];decide
 have hr1':Rd 4 none (txt ts k) (.ok x (nxt ts C::txt ts (C+1))):=by rw [<- Z1e bg];exact bf
 cases o2 with
 | no k2 =>
  refine ⟨.no k2,Zbi (Z22 T) hr1' (by rw [q];decide) bb,⟨by have:=R.1;omega,R.2⟩,λw h=>?_⟩;have bh:=zh bd;have be:=zh S;clear S bf hr1' bc bb R bd q bm;have U:=zh (Fx.new h.lt);have N:=zh (h.on ((zr _ _).alloc (zn _) (.cells #[int i64 0,int i64 0,slice none 0 0] 63)));have HC:=zh ba;have HN:=zh T;have L:=h.lt;clear h ba hs T;go_enter func257,ntmps257;go_wp2_with fail;refine (Z1v _ pb v ts k N.out kNot HN.out).mono ?_;rintro e w1 ⟨rfl,J⟩;have O:=zh (U.out.but (But.of_below J));have f:=zh (N.out.on J);clear J N U;go_wp2_with fail;refine (HC.out _ f.out).mono ?_;rintro e B ⟨I,m,A,c,rfl,V⟩;have T3:=Tr.of V O.out.lt;have M:=O.out.but I;have r:=zh (Bx.new (x:=x) T3 M.lt);have G:Below B.heap.size B (B.alloc (.cells #[int i64 x.1.1,int i64 x.1.2,slice A (flen x.2) c] 63)):=(zr _ _).alloc (zn _) _;have d:=zh (m.on G);have j:=zh (M.but (But.of_below G));clear I m V O f T3 M G;go_wp2_with fail;generalize B.alloc (.cells #[int i64 x.1.1,int i64 x.1.2,slice A (flen x.2) c] 63)=w4 at *
  generalize B.heap.size=I at *
  refine (Z2y _ pb v ts C d.out bg [60] be.out).mono ?_;rintro e w5 ⟨rfl,Z,H⟩;have Y:=zh Z;have F5:=zh (j.out.but H);have g:=zh (r.out.but H L);clear Z H d j r;go_upto_region 9 with fail;have P6:=Y.out.drew
  have F:=F5.out.but (But.refl pb w5).drew;have l:=g.out.but (But.refl pb w5).drew L;clear Y F5 g;obtain ⟨q0,q1,q2⟩:=l.three;obtain ⟨s0,s1,s2,s3,s4,s5⟩:=F.six;have bj:=F.lt;go_region_dies
  all_goals (refine (bh.out _ P6).mono ?_;rintro e w' ⟨hb,rfl⟩;exact ⟨rfl,F.1.trans hb,rfl⟩)
 | ok y k2 =>
  refine ⟨.ok (Z2f 11 x y) k2,by have:=Zj7 (Z22 T) hr1' (by rw [q];decide) bb;rwa [q] at this,⟨by have:=R.1;omega,R.2⟩,λw h=>?_⟩;have bh:=zh bd;have be:=zh S;clear S bf hr1' bc bb R bd q bm;have U:=zh (Fx.new h.lt);have N:=zh (h.on ((zr _ _).alloc (zn _) (.cells #[int i64 0,int i64 0,slice none 0 0] 63)));have HC:=zh ba;have HN:=zh T;have L:=h.lt;clear h ba hs T;go_enter func257,ntmps257;go_wp2_with fail;refine (Z1v _ pb v ts k N.out kNot HN.out).mono ?_;rintro e w1 ⟨rfl,J⟩;have O:=zh (U.out.but (But.of_below J));have f:=zh (N.out.on J);clear J N U;go_wp2_with fail;refine (HC.out _ f.out).mono ?_;rintro e B ⟨I,m,A,c,rfl,V⟩;have T3:=Tr.of V O.out.lt;have M:=O.out.but I;have r:=zh (Bx.new (x:=x) T3 M.lt);have G:Below B.heap.size B (B.alloc (.cells #[int i64 x.1.1,int i64 x.1.2,slice A (flen x.2) c] 63)):=(zr _ _).alloc (zn _) _;have d:=zh (m.on G);have j:=zh (M.but (But.of_below G));clear I m V O f T3 M G;go_wp2_with fail;generalize B.alloc (.cells #[int i64 x.1.1,int i64 x.1.2,slice A (flen x.2) c] 63)=w4 at *
  generalize B.heap.size=I at *
  refine (Z2y _ pb v ts C d.out bg [60] be.out).mono ?_;rintro e w5 ⟨rfl,Z,H⟩;have Y:=zh Z;have F5:=zh (j.out.but H);have g:=zh (r.out.but H L);clear Z H d j r;go_upto_region 9 with fail;have P6:=Y.out.drew
  have F:=F5.out.but (But.refl pb w5).drew;have l:=g.out.but (But.refl pb w5).drew L;clear Y F5 g;obtain ⟨q0,q1,q2⟩:=l.three;obtain ⟨s0,s1,s2,s3,s4,s5⟩:=F.six;have bj:=F.lt;go_region_with (first | (refine (bh.out _ P6).mono ?_;rintro e w' ⟨hb,bn,A2,c2,rfl,bp⟩;obtain ⟨x0,x1,x2⟩:=(l.but hb L).three;obtain ⟨y0,y1,y2,y3,y4,y5⟩:=(F.but hb).six;have bk:=(F.but hb).lt))
  all_goals go_wp2_with fail
  all_goals refine bodyPost_ret (v:=.agg #[int i64 11,int i64 0,slice (some ⟨w'.heap.size,0,none⟩) 2 2]) (by simp [results,results257,go_sem,y0,y1,y2,bk]) rfl ?_;exact Z8p (x:=Z2f 11 x y) (F.but hb) bn (λX h1 h2 h3=>FoD.two (D:=λb=>w.heap.size<b/\b<X.heap.size) ⟨bk,by omega⟩ h2 ((l.but hb L).2.2.to h1 h3) ((Tr.of bp bj).to h1 h3) 2)
theorem Zdk (pb:Nat)(v:Value)(ts:List Tok)(k:Nat)(U:nxt ts k≠kNot)(hs:∀ k',k<=k'->k'<=ts.length->RC 4 283 pb v ts k') (x:Ex) (C:Nat) (bg:Rd 4 none (txt ts k) ((Out.ok x C).res ts)) (be:okK ts k (.ok x C)) (bc:∀ w,PI w pb v ts k->Calls prog 283 #[.pointer (some ⟨pb,0,none⟩)] w (RP pb v ts (.ok x C) w)) (T:nxt ts C=[61]):RC 3 257 pb v ts k:=by
 have bh:=Z33 T (by decide);obtain ⟨o2,bd,S,bf⟩:=hs (C+1) (by have:=be.1;omega) (by omega);have bn:=be.1;have hoo:Px.opAt 3 (nxt ts C)=12:=by rw [T];decide
 have bb:Rd 4 none (txt ts k) (.ok x (nxt ts C::txt ts (C+1))):=by rw [<- Z1e bh];exact bg
 cases o2 with
 | no k2 =>
  refine ⟨.no k2,Zbi (Z22 U) bb (by rw [hoo];decide) bd,⟨by have:=S.1;omega,S.2⟩,λw h=>?_⟩;have bj:=zh bf;have Z:=zh T;clear T bg bb be bd S bf hoo bn;have V:=zh (Fx.new h.lt);have O:=zh (h.on ((zr _ _).alloc (zn _) (.cells #[int i64 0,int i64 0,slice none 0 0] 63)));have HC:=zh bc;have HN:=zh U;have G:=h.lt;clear h bc hs U;go_enter func257,ntmps257;go_wp2_with fail;refine (Z1v _ pb v ts k O.out kNot HN.out).mono ?_;rintro e w1 ⟨rfl,L⟩;have R:=zh (V.out.but (But.of_below L));have g:=zh (O.out.on L);clear L O V;go_wp2_with fail;refine (HC.out _ g.out).mono ?_;rintro e F ⟨J,p3,A,c,rfl,Y⟩;have T3:=Tr.of Y R.out.lt;have N:=R.out.but J;have B4:=zh (Bx.new (x:=x) T3 N.lt);have I:Below F.heap.size F (F.alloc (.cells #[int i64 x.1.1,int i64 x.1.2,slice A (flen x.2) c] 63)):=(zr _ _).alloc (zn _) _;have M:=zh (p3.on I);have m:=zh (N.but (But.of_below I));clear J p3 Y R g T3 N I;go_wp2_with fail;generalize F.alloc (.cells #[int i64 x.1.1,int i64 x.1.2,slice A (flen x.2) c] 63)=w4 at *
  generalize F.heap.size=J at *
  refine (Z1v _ pb v ts C M.out [60] (by rw [Z.out];decide)).mono ?_;rintro e bq ⟨rfl,B⟩;have l:=zh (M.out.on B);have r:=zh (m.out.but (But.of_below B));have ba:=zh (B4.out.but (But.of_below (pb:=pb) B) G);clear B M m B4;go_wp2_with fail;refine (Z2y _ pb v ts C l.out bh [61] Z.out).mono ?_;rintro e w5 ⟨rfl,f,B⟩;have d:=zh f;have F5:=zh (r.out.but B);have j:=zh (ba.out.but B G);clear f B l r ba;go_upto_region 9 with fail;have P6:=d.out.drew
  have H:=F5.out.but (But.refl pb w5).drew;have q:=j.out.but (But.refl pb w5).drew G;clear d F5 j;obtain ⟨q0,q1,q2⟩:=q.three;obtain ⟨s0,s1,s2,s3,s4,s5⟩:=H.six;have bk:=H.lt;go_region_dies
  all_goals (refine (bj.out _ P6).mono ?_;rintro e w' ⟨hb,rfl⟩;exact ⟨rfl,H.1.trans hb,rfl⟩)
 | ok y k2 =>
  refine ⟨.ok (Z2f 12 x y) k2,by have:=Zj7 (Z22 U) bb (by rw [hoo];decide) bd;rwa [hoo] at this,⟨by have:=S.1;omega,S.2⟩,λw h=>?_⟩;have bj:=zh bf;have Z:=zh T;clear T bg bb be bd S bf hoo bn;have V:=zh (Fx.new h.lt);have O:=zh (h.on ((zr _ _).alloc (zn _) (.cells #[int i64 0,int i64 0,slice none 0 0] 63)));have HC:=zh bc;have HN:=zh U;have G:=h.lt;clear h bc hs U;go_enter func257,ntmps257;go_wp2_with fail;refine (Z1v _ pb v ts k O.out kNot HN.out).mono ?_;rintro e w1 ⟨rfl,L⟩;have R:=zh (V.out.but (But.of_below L));have g:=zh (O.out.on L);clear L O V;go_wp2_with fail;refine (HC.out _ g.out).mono ?_;rintro e F ⟨J,p3,A,c,rfl,Y⟩;have T3:=Tr.of Y R.out.lt;have N:=R.out.but J;have B4:=zh (Bx.new (x:=x) T3 N.lt);have I:Below F.heap.size F (F.alloc (.cells #[int i64 x.1.1,int i64 x.1.2,slice A (flen x.2) c] 63)):=(zr _ _).alloc (zn _) _;have M:=zh (p3.on I);have m:=zh (N.but (But.of_below I));clear J p3 Y R g T3 N I;go_wp2_with fail;generalize F.alloc (.cells #[int i64 x.1.1,int i64 x.1.2,slice A (flen x.2) c] 63)=w4 at *
  generalize F.heap.size=J at *
  refine (Z1v _ pb v ts C M.out [60] (by rw [Z.out];decide)).mono ?_;rintro e bq ⟨rfl,B⟩;have l:=zh (M.out.on B);have r:=zh (m.out.but (But.of_below B));have ba:=zh (B4.out.but (But.of_below (pb:=pb) B) G);clear B M m B4;go_wp2_with fail;refine (Z2y _ pb v ts C l.out bh [61] Z.out).mono ?_;rintro e w5 ⟨rfl,f,B⟩;have d:=zh f;have F5:=zh (r.out.but B);have j:=zh (ba.out.but B G);clear f B l r ba;go_upto_region 9 with fail;have P6:=d.out.drew
  have H:=F5.out.but (But.refl pb w5).drew;have q:=j.out.but (But.refl pb w5).drew G;clear d F5 j;obtain ⟨q0,q1,q2⟩:=q.three;obtain ⟨s0,s1,s2,s3,s4,s5⟩:=H.six;have bk:=H.lt;go_region_with (first | (refine (bj.out _ P6).mono ?_;rintro e w' ⟨hb,bp,A2,c2,rfl,br⟩;obtain ⟨x0,x1,x2⟩:=(q.but hb G).three;obtain ⟨y0,y1,y2,y3,y4,y5⟩:=(H.but hb).six;have bm:=(H.but hb).lt))
  all_goals go_wp2_with fail
  all_goals refine bodyPost_ret (v:=.agg #[int i64 12,int i64 0,slice (some ⟨w'.heap.size,0,none⟩) 2 2]) (by simp [results,results257,go_sem,y0,y1,y2,bm]) rfl ?_;exact Z8p (x:=Z2f 12 x y) (H.but hb) bp (λX h1 h2 h3=>FoD.two (D:=λb=>w.heap.size<b/\b<X.heap.size) ⟨bm,by omega⟩ h2 ((q.but hb G).2.2.to h1 h3) ((Tr.of br bk).to h1 h3) 2)
theorem Z8q (pb:Nat)(v:Value)(ts:List Tok)(k:Nat)(hk:k<=ts.length)(N:∀ k',k<=k'->k'<=ts.length->RC 4 283 pb v ts k')(Z:∀ k',k<k'->k'<=ts.length->RC 3 257 pb v ts k'):RC 3 257 pb v ts k:=by
 by_cases hn:nxt ts k=kNot
 · exact Zbv pb v ts k hn Z
 · obtain ⟨y,G,H,F⟩:=N k (zn _) hk;cases y with
   | no k2 =>refine ⟨.no k2,Zih (Z22 hn) G,H,λw h=>?_⟩;clear Z G H;have L:=zh (Fx.new h.lt);have D:=zh (h.on ((zr _ _).alloc (zn _) (.cells #[int i64 0,int i64 0,slice none 0 0] 63)));have Y:=zh F;have T:=zh hn;have O:=h.lt;clear h F N hn;go_enter func257,ntmps257;go_wp2_with fail;refine (Z1v _ pb v ts k D.out kNot T.out).mono ?_;rintro e w1 ⟨rfl,C⟩;have J:=zh (L.out.but (But.of_below C));have R:=zh (D.out.on C);clear C D L;go_wp2_with fail;refine (Y.out _ R.out).mono ?_;rintro e I ⟨M,rfl⟩;exact ⟨rfl,J.out.1.trans M,rfl⟩
   | ok x k1 =>
    by_cases h60:nxt ts k1=[60]
    · exact Zdj pb v ts k hn N x k1 G H F h60
    · by_cases h61:nxt ts k1=[61]
      · exact Zdk pb v ts k hn N x k1 G H F h61
      · refine ⟨.ok x k1,Zpp (Z22 hn) G (λu r' e=>?_),H,λw h=>?_⟩
        · have bc:k1<ts.length:=by
           by_cases hh:k1<ts.length
           · exact hh
           · rw [Zai ts k1 (by omega)] at e;cases e
          rw [Z1e bc] at e;injection e with e _
          rw [<- e];exact op3_no h60 h61
        have ba:=zh h60;have bb:=zh h61;clear Z G H h60 h61;have L:=zh (Fx.new h.lt);have D:=zh (h.on ((zr _ _).alloc (zn _) (.cells #[int i64 0,int i64 0,slice none 0 0] 63)));have Y:=zh F;have T:=zh hn;have O:=h.lt;clear h F N hn;go_enter func257,ntmps257;go_wp2_with fail;refine (Z1v _ pb v ts k D.out kNot T.out).mono ?_;rintro e w1 ⟨rfl,C⟩;have J:=zh (L.out.but (But.of_below C));have R:=zh (D.out.on C);clear C D L;go_wp2_with fail;refine (Y.out _ R.out).mono ?_;rintro e I ⟨M,q,A,c,rfl,d⟩;have T3:=Tr.of d J.out.lt;have X:=J.out.but M;have l:=zh (Bx.new (x:=x) T3 X.lt);have S:Below I.heap.size I (I.alloc (.cells #[int i64 x.1.1,int i64 x.1.2,slice A (flen x.2) c] 63)):=(zr _ _).alloc (zn _) _;have U:=zh (q.on S);have g:=zh (X.but (But.of_below S));clear M q d J R T3 X S;go_wp2_with fail;generalize I.alloc (.cells #[int i64 x.1.1,int i64 x.1.2,slice A (flen x.2) c] 63)=w4 at *
        generalize I.heap.size=M at *
        refine (Z1v _ pb v ts k1 U.out [60] ba.out).mono ?_;rintro e bd ⟨rfl,B⟩;have V:=zh (U.out.on B);have j:=zh (g.out.but (But.of_below B));have r:=zh (l.out.but (But.of_below (pb:=pb) B) O);clear B U g l;go_wp2_with fail;refine (Z1v _ pb v ts k1 V.out [61] bb.out).mono ?_;rintro e w5 ⟨rfl,B⟩;have P5:=zh (V.out.on B);have m:=zh (j.out.but (But.of_below B));have f:=zh (r.out.but (But.of_below (pb:=pb) B) O);clear B V j r;obtain ⟨q0,q1,q2⟩:=f.out.three;obtain ⟨s0,s1,s2,s3,s4,s5⟩:=m.out.six;go_wp2_with fail;refine bodyPost_ret (v:=.agg #[int i64 x.1.1,int i64 x.1.2,slice A (flen x.2) c]) (by simp [results,results257,go_sem,s0,s1,s2]) rfl ?_;exact Z5t O m.out.1 P5.out f.out.2.2 (λb h=>h)
end
section
open Go.RowKit Lx Px
def EC (pb:Nat)(v:Value)(ts:List Tok)(k:Nat)(o:Out):Prop:=okK ts k o/\∀ w,PI w pb v ts k->Calls prog 163 #[.pointer (some ⟨pb,0,none⟩)] w (RP pb v ts o w)
def Zpj (pb:Nat)(v:Value)(ts:List Tok)(k:Nat)(o:Out):Prop := ∃ o1,EC pb v ts (k+1) o1/\((∃ k2,o1=.no k2/\o=.no k2)\/∃ a k1,o1=.ok a k1/\((nxt ts k1≠kThen/\o=.no k1)\/(nxt ts k1=kThen/\k1<ts.length /\ ∃ o2,EC pb v ts (k1+1) o2/\((∃ k2,o2=.no k2/\o=.no k2)\/∃ b k2,o2=.ok b k2/\((nxt ts k2≠kElse/\o=.no k2)\/(nxt ts k2=kElse/\k2<ts.length /\ ∃ o3,EC pb v ts (k2+1) o3/\((∃ k3,o3=.no k3/\o=.no k3)\/∃ c k3,o3=.ok c k3/\o=.ok (triE 10 a b c) k3)))))))
theorem if_out (pb:Nat)(v:Value)(ts:List Tok)(k:Nat)(S:nxt ts k=kIf)(he:∀ k',k<k'->k'<=ts.length->RC 0 163 pb v ts k') : ∃ o:Out,Rd 0 none (txt ts k) (o.res ts)/\okK ts k o/\Zpj pb v ts k o:=by
 have Z:=Z33 S (by decide);have f:txt ts k=kIf::txt ts (k+1):=by rw [Z1e Z,S]
 rw [f];obtain ⟨U,L,B,D⟩:=he (k+1) (by omega) (by omega);cases U with
 | no k2=>exact ⟨.no k2,Z65 (Z1g L),⟨by have:=B.1;omega,B.2⟩,.no k2,⟨B,D⟩,.inl ⟨k2,rfl,rfl⟩⟩
 | ok a k1 =>
  have l:=B.1;have d:=B.2;by_cases ht:nxt ts k1=kThen
  · have G:=Z33 ht (by decide);have Y:txt ts k1=kThen::txt ts (k1+1):=by rw [Z1e G,ht]
    have H:Rd 0 none (txt ts (k+1)) (.ok a (kThen::txt ts (k1+1))):=by rw [<- Y];exact L
    obtain ⟨V,J,C,I⟩:=he (k1+1) (by omega) (by omega);cases V with
    | no k2=>exact ⟨.no k2,Z65 (Z3g H (Z2x (Z1g J))),⟨by have:=C.1;omega,C.2⟩,.ok a k1,⟨B,D⟩,.inr ⟨a,k1,rfl,.inr ⟨ht,G,.no k2,⟨C,I⟩,.inl ⟨k2,rfl,rfl⟩⟩⟩⟩
    | ok b k2 =>
     have j:=C.1;have T:=C.2;by_cases hl:nxt ts k2=kElse
     · have M:=Z33 hl (by decide);have X:txt ts k2=kElse::txt ts (k2+1):=by rw [Z1e M,hl]
       have N:Rd 0 none (txt ts (k1+1)) (.ok b (kElse::txt ts (k2+1))):=by rw [<- X];exact J
       obtain ⟨g,R,F,O⟩:=he (k2+1) (by omega) (by omega);cases g with
       | no k3=>exact ⟨.no k3,Z65 (Z3g H (Z2x (Z3g N (Z2x (Z1g R))))),⟨by have:=F.1;omega,F.2⟩,.ok a k1,⟨B,D⟩,.inr ⟨a,k1,rfl,.inr ⟨ht,G,.ok b k2,⟨C,I⟩,.inr ⟨b,k2,rfl,.inr ⟨hl,M,.no k3,⟨F,O⟩,.inl ⟨k3,rfl,rfl⟩⟩⟩⟩⟩⟩
       | ok c k3=>exact ⟨.ok (triE 10 a b c) k3,Rd_if H N R,⟨by have:=F.1;omega,F.2⟩,.ok a k1,⟨B,D⟩,.inr ⟨a,k1,rfl,.inr ⟨ht,G,.ok b k2,⟨C,I⟩,.inr ⟨b,k2,rfl,.inr ⟨hl,M,.ok c k3,⟨F,O⟩,.inr ⟨c,k3,rfl,rfl⟩⟩⟩⟩⟩⟩
     · exact ⟨.no k2,Z65 (Z3g H (Z2x (Z3g J (Z3h (Z22 hl))))),⟨by omega,T⟩,.ok a k1,⟨B,D⟩,.inr ⟨a,k1,rfl,.inr ⟨ht,G,.ok b k2,⟨C,I⟩,.inr ⟨b,k2,rfl,.inl ⟨hl,rfl⟩⟩⟩⟩⟩
  · exact ⟨.no k1,Z65 (Z3g L (Z3h (Z22 ht))),⟨by omega,d⟩,.ok a k1,⟨B,D⟩,.inr ⟨a,k1,rfl,.inl ⟨ht,rfl⟩⟩⟩
theorem Zq9 (pb:Nat)(v:Value)(ts:List Tok)(k:Nat)(y:nxt ts k=kIf)(o:Out)(N:Zpj pb v ts k o)(w:World)(h:PI w pb v ts k) : Calls prog 163 #[.pointer (some ⟨pb,0,none⟩)] w (RP pb v ts o w):=by
 have bp:=Z33 y (by decide);have F1:=zh (Fx.new h.lt);have P1:=zh (h.on ((zr _ _).alloc (zn _) (.cells #[int i64 0,int i64 0,slice none 0 0] 63)));have B:=h.lt;have HI:=zh y;have HC:=zh N;clear h y N;go_enter func163,ntmps163;go_wp2_with fail;refine (Z2y _ pb v ts k P1.out bp kIf HI.out).mono ?_;rintro e w1 ⟨rfl,p2,b2⟩;have Y:=zh (F1.out.but b2);have P2:=zh p2;clear p2 b2 P1 F1;obtain ⟨o1,⟨br,bc⟩,N⟩:=HC.out;have HC1:=zh bc;have HD:=zh N;clear bc N HC br;go_wp2_with fail;refine (HC1.out _ P2.out).mono ?_;rcases HD.out with ⟨V,rfl,rfl⟩ | ⟨a,k1,rfl,C⟩
 · rintro e H ⟨S,rfl⟩;exact ⟨rfl,Y.out.1.trans S,rfl⟩
 rintro e H ⟨S,p3,A,c,rfl,M⟩;have T3:=Tr.of M Y.out.lt;have m:=Y.out.but S;have B4:=zh (Bx.new (x:=a) T3 m.lt);have F:Below H.heap.size H (H.alloc (.cells #[int i64 a.1.1,int i64 a.1.2,slice A (flen a.2) c] 63)):=(zr _ _).alloc (zn _) _;have f:=zh (p3.on F);have q:=zh (m.but (But.of_below F));have HD1:=zh C;clear S p3 M Y P2 T3 m F C HD HC1;go_wp2_with fail;generalize H.alloc (.cells #[int i64 a.1.1,int i64 a.1.2,slice A (flen a.2) c] 63)=w4 at *
 generalize H.heap.size=ba at *
 rcases HD1.out with ⟨g,rfl⟩ | ⟨L,bt,o2,⟨bx,bf⟩,C⟩
 · refine (Z2G _ pb v ts k1 f.out kThen g).mono ?_;rintro e w5 ⟨rfl,O⟩;exact ⟨rfl,q.out.1.trans (But.of_below O),rfl⟩
 refine (Z1m _ pb v ts k1 f.out bt kThen L).mono ?_;rintro e w5 ⟨rfl,p5,O⟩;have P5:=zh p5;have U:=zh (q.out.but O);have B5:=zh (B4.out.but O B);have bd:=zh bf;have bk:=zh C;clear p5 O f q B4 bf C HD1 L bx;go_wp2_with fail;refine (bd.out _ P5.out).mono ?_;rcases bk.out with ⟨V,rfl,rfl⟩ | ⟨b,V,rfl,C⟩
 · rintro e I ⟨R,rfl⟩;exact ⟨rfl,U.out.1.trans R,rfl⟩
 rintro e I ⟨R,p6,A2,c2,rfl,M⟩;have T6:=Tr.of M U.out.lt;have j:=U.out.but R;have B6:=B5.out.but R B;have D7:=zh (Bx.new (x:=b) T6 j.lt);have F:Below I.heap.size I (I.alloc (.cells #[int i64 b.1.1,int i64 b.1.2,slice A2 (flen b.2) c2] 63)):=(zr _ _).alloc (zn _) _;have r:=zh (p6.on F);have d:=zh (j.but (But.of_below F));have B7:=zh (B6.but (But.of_below (pb:=pb) F) B);have be:=zh C;clear R p6 M U P5 T6 j B6 B5 F C bk bd;go_wp2_with fail;generalize I.alloc (.cells #[int i64 b.1.1,int i64 b.1.2,slice A2 (flen b.2) c2] 63)=w7 at *
 generalize I.heap.size=bb at *
 rcases be.out with ⟨g,rfl⟩ | ⟨L,bq,o3,⟨bn,bj⟩,C⟩
 · refine (Z2G _ pb v ts V r.out kElse g).mono ?_;rintro e T ⟨rfl,J⟩;exact ⟨rfl,d.out.1.trans (But.of_below J),rfl⟩
 refine (Z1m _ pb v ts V r.out bq kElse L).mono ?_;rintro e T ⟨rfl,p8,J⟩;have P8:=zh p8;have F8:=zh (d.out.but J);have B8:=zh (B7.out.but J B);have D8:=zh (D7.out.but J B);have bg:=zh bj;have bu:=zh C;clear p8 J r d B7 D7 bj C be L bn;go_upto_region 7 with fail;have P9:=P8.out.drew
 have G:=F8.out.but (But.refl pb T).drew;have l:=B8.out.but (But.refl pb T).drew B;have Z:=D8.out.but (But.refl pb T).drew B;clear P8 F8 B8 D8;obtain ⟨q0,q1,q2⟩:=l.three;obtain ⟨q3,q4,q5⟩:=Z.three;obtain ⟨s0,s1,s2,s3,s4,s5⟩:=G.six;have bs:=G.lt;rcases bu.out with ⟨k3,rfl,rfl⟩ | ⟨c3,k3,rfl,rfl⟩
 · go_region_dies
   all_goals (refine (bg.out _ P9).mono ?_;rintro e w' ⟨hb,rfl⟩;exact ⟨rfl,G.1.trans hb,rfl⟩)
 · go_region_with (first | (refine (bg.out _ P9).mono ?_;rintro e w' ⟨hb,bm,A3,c4,rfl,bv⟩;obtain ⟨x0,x1,x2⟩:=(l.but hb B).three;obtain ⟨x3,x4,x5⟩:=(Z.but hb B).three;obtain ⟨y0,y1,y2,y3,y4,y5⟩:=(G.but hb).six;have bh:=(G.but hb).lt))
   all_goals go_wp2_with fail
   all_goals refine bodyPost_ret (v:=.agg #[int i64 10,int i64 0,slice (some ⟨w'.heap.size,0,none⟩) 3 3]) (by simp [results,results163,go_sem,y0,y1,y2,bh]) rfl ?_;exact Z8p (x:=triE 10 a b c3) (G.but hb) bm (λX h1 h2 h3=>FoD.three (D:=λb=>w.heap.size<b/\b<X.heap.size) ⟨bh,by omega⟩ h2 ((l.but hb B).2.2.to h1 h3) ((Z.but hb B).2.2.to h1 h3) ((Tr.of bv bs).to h1 h3) 3)
theorem Zix (pb:Nat)(v:Value)(ts:List Tok)(k:Nat)(hk:k<=ts.length)(O:∀ k',k<=k'->k'<=ts.length->RC 2 219 pb v ts k')(he:∀ k',k<k'->k'<=ts.length->RC 0 163 pb v ts k'):RC 0 163 pb v ts k:=by
 by_cases hi:nxt ts k=kIf
 · obtain ⟨o,D,F,hC⟩:=if_out pb v ts k hi he;exact ⟨o,D,F,Zq9 pb v ts k hi o hC⟩
 · obtain ⟨o,D,F,X⟩:=Z7H 1 (by unfold lft;omega) 219 (λ_ _=>rfl) pb v ts k hk O;refine ⟨o,Zj6 (Z22 hi) D,F,λw h=>?_⟩;have ba:∀ (fn:Fn) (first cap:Array Value) (w:World),(Instr.makeFunc fn first cap).run prog w=.ok (.func fn first cap) w:=λ_ _ _ _=>rfl;have bb:=@run_makeMap prog;have R:=zh (Fx.new h.lt);have J:=zh (h.on ((zr _ _).alloc (zn _) (.cells #[int i64 0,int i64 0,slice none 0 0] 63)));have m:=h.lt;have r:=zh hi;have y:=zh X;clear h hi X O he D;go_enter func163,ntmps163;go_wp2_with fail;refine (Z1v _ pb v ts k J.out kIf r.out).mono ?_;rintro e B ⟨rfl,H⟩;have N:=R.out.but (But.of_below H);have T:=J.out.on H;have C:=SMap.new B;have u1:(Instr.mapUpdate 253 (.map (some B.heap.size)) (.string ⟨#[111,114]⟩) (int i64 14)).run prog (B.alloc (.map #[] 0))=.ok () ((B.alloc (.map #[] 0)).putObj B.heap.size (.map (esS [([111,114],14)] 0).toArray 1)) := Z0C (t:=[111,114]) underlying253 underlying9 C (by decide) 14;have M:SMap ((B.alloc (.map #[] 0)).putObj B.heap.size (.map (esS [([111,114],14)] 0).toArray 1)) B.heap.size [([111,114],14)]:=Z2H C;have G:Below B.heap.size B ((B.alloc (.map #[] 0)).putObj B.heap.size (.map (esS [([111,114],14)] 0).toArray 1)):=Z0E ((zr _ _).alloc (zn _) _) (zn _) _;have I:=zh (N.but (But.of_below G));have d:=zh (T.on G);have g:=zh M;have bc:=N.lt;clear N T C M G H R J;go_wp2_with fail;generalize (B.alloc (.map #[] 0)).putObj B.heap.size (.map (esS [([111,114],14)] 0).toArray 1)=Y at *
   refine (y.out Y B.heap.size d.out g.out (by omega)).mono ?_;cases o with
   | no k2 =>rintro e w' ⟨hb,rfl⟩;exact ⟨rfl,I.out.1.trans hb,rfl⟩
   | ok x k2 =>rintro e w' ⟨hb,U,A,c,rfl,S⟩;have L:=I.out.but hb;have V:=Tr.of S I.out.lt;obtain ⟨q,j,C,M,s4,s5⟩:=L.six;have f:=zh U;have Z:=zh V;have l:=zh L;clear U S hb V L;go_wp2_with fail;refine bodyPost_ret (v:=.agg #[int i64 x.1.1,int i64 x.1.2,slice A (flen x.2) c]) (by simp [results,results163,go_sem,q,j,C]) rfl ?_;exact Z5t m l.out.1 f.out Z.out (λb h=>h)
end
section
open Go.RowKit Lx Px
def Zqa:List (Bytes × Int):=[([110,105,103,104,116,115],1),([112,101,114,115,111,110,115],2),([110,105,103,104,116],3),([119,101,101,107,100,97,121],4)]
def Zqb:List (Bytes × Int):=[([109,105,110],8),([109,97,120],9)]
theorem Zbw (t:Bytes):Z4r Zqa t=if Z3q t > 0 then some (Z3q t) else none:=by
 unfold Z3q;by_cases h1:t=[110,105,103,104,116,115]
 · subst h1;decide
 by_cases h2:t=[112,101,114,115,111,110,115]
 · subst h2;decide
 by_cases h3:t=[110,105,103,104,116]
 · subst h3;decide
 by_cases h4:t=[119,101,101,107,100,97,121]
 · subst h4;decide
 rw [zf h1,zf h2,zf h3,zf h4];simp [Zqa,Z4r,Ne.symm h1,Ne.symm h2,Ne.symm h3,Ne.symm h4]
theorem Zbx (t:Bytes):Z4r Zqb t=if Z1h t > 0 then some (Z1h t) else none:=by
 unfold Z1h;by_cases h1:t=[109,105,110]
 · subst h1;decide
 by_cases h2:t=[109,97,120]
 · subst h2;decide
 rw [zf h1,zf h2];simp [Zqb,Z4r,Ne.symm h1,Ne.symm h2]
def ZeE (pb:Nat)(v:Value)(ts:List Tok)(k:Nat)(op:Int)(o:Out):Prop := (nxt ts (k+1)≠[40]/\o=.no (k+1))\/(nxt ts (k+1)=[40]/\k+1<ts.length/\∃ o1,EC pb v ts (k+1+1) o1/\((∃ k2,o1=.no k2/\o=.no k2)\/∃ a k1,o1=.ok a k1/\((nxt ts k1≠[44]/\o=.no k1)\/(nxt ts k1=[44]/\k1<ts.length /\ ∃ o2,EC pb v ts (k1+1) o2/\((∃ k2,o2=.no k2/\o=.no k2)\/∃ b k2,o2=.ok b k2/\((nxt ts k2≠[41]/\o=.no k2)\/(nxt ts k2=[41]/\k2<ts.length/\o=.ok (Z2f op a b) (k2+1))))))))
def Ziy (pb:Nat)(v:Value)(ts:List Tok)(k:Nat)(o:Out):Prop := (nxt ts k≠[40]/\o=.no k)\/(nxt ts k=[40]/\k<ts.length/\∃ o1,EC pb v ts (k+1) o1/\((∃ k2,o1=.no k2/\o=.no k2)\/∃ a k1,o1=.ok a k1/\((nxt ts k1≠[41]/\o=.no k1)\/(nxt ts k1=[41]/\k1<ts.length/\o=.ok a (k1+1)))))
def ZeF (pb:Nat)(v:Value)(ts:List Tok)(k:Nat)(o:Out):Prop := (k<ts.length/\Z0b (nxt ts k)=2/\o=.ok ((1,dval (nxt ts k)),.nil) (k+1))\/(k<ts.length/\Z0b (nxt ts k)=3/\o=.ok ((2,dval (nxt ts k)),.nil) (k+1)) \/ (Z0b (nxt ts k)≠2/\Z0b (nxt ts k)≠3/\((k<ts.length/\Z3q (nxt ts k) > 0/\o=.ok ((3,Z3q (nxt ts k)),.nil) (k+1)) \/ (¬ Z3q (nxt ts k) > 0/\((k<ts.length/\Z1h (nxt ts k) > 0/\ZeE pb v ts k (Z1h (nxt ts k)) o)\/(¬ Z1h (nxt ts k) > 0/\Ziy pb v ts k o)))))
theorem Zmn (pb:Nat)(v:Value)(ts:List Tok)(k:Nat)(hk:k<=ts.length)(he:∀ k',k<k'->k'<=ts.length->RC 0 163 pb v ts k') : ∃ o:Out,Rd 6 none (txt ts k) (o.res ts)/\okK ts k o/\ZeF pb v ts k o:=by
 by_cases hlt:k<ts.length
 · have X:=Z1e hlt;rw [X];by_cases h2:Z0b (nxt ts k)=2
   · exact ⟨.ok ((1,dval (nxt ts k)),.nil) (k+1),Zpq (txt ts (k+1)) h2,⟨by omega,by omega⟩,.inl ⟨hlt,h2,rfl⟩⟩
   by_cases h3:Z0b (nxt ts k)=3
   · exact ⟨.ok ((2,dval (nxt ts k)),.nil) (k+1),Zpr (txt ts (k+1)) h3,⟨by omega,by omega⟩,.inr (.inl ⟨hlt,h3,rfl⟩)⟩
   by_cases hv:Z3q (nxt ts k) > 0
   · exact ⟨.ok ((3,Z3q (nxt ts k)),.nil) (k+1),Zq5 (txt ts (k+1)) h2 h3 hv,⟨by omega,by omega⟩,.inr (.inr ⟨h2,h3,.inl ⟨hlt,hv,rfl⟩⟩)⟩
   by_cases hb:Z1h (nxt ts k) > 0
   · suffices hs:∃ o:Out,Rd 6 none (nxt ts k::txt ts (k+1)) (o.res ts)/\okK ts k o/\ZeE pb v ts k (Z1h (nxt ts k)) o by obtain ⟨o,O,T,U⟩:=hs;exact ⟨o,O,T,.inr (.inr ⟨h2,h3,.inr ⟨hv,.inl ⟨hlt,hb,U⟩⟩⟩)⟩
     by_cases hp:nxt ts (k+1)=[40]
     · have G:=Z33 hp (by decide);have g:txt ts (k+1)=[40]::txt ts (k+1+1):=by rw [Z1e G,hp]
       obtain ⟨M,F,B,C⟩:=he (k+1+1) (by omega) (by omega);rw [g];cases M with
       | no k2=>exact ⟨.no k2,Z3b h2 h3 hv hb (Z2x (Z1g F)),⟨by have:=B.1;omega,B.2⟩,.inr ⟨hp,G,.no k2,⟨B,C⟩,.inl ⟨k2,rfl,rfl⟩⟩⟩
       | ok a k1 =>
        have j:=B.1;have R:=B.2;by_cases hm:nxt ts k1=[44]
        · have L:=Z33 hm (by decide);have f:txt ts k1=[44]::txt ts (k1+1):=by rw [Z1e L,hm]
          have H:Rd 0 none (txt ts (k+1+1)) (.ok a ([44]::txt ts (k1+1))):=by rw [<- f];exact F
          obtain ⟨Z,N,D,S⟩:=he (k1+1) (by omega) (by omega);cases Z with
          | no k2=>exact ⟨.no k2,Z3b h2 h3 hv hb (Z2x (Z3g H (Z2x (Z1g N)))),⟨by have:=D.1;omega,D.2⟩,.inr ⟨hp,G,.ok a k1,⟨B,C⟩,.inr ⟨a,k1,rfl,.inr ⟨hm,L,.no k2,⟨D,S⟩,.inl ⟨k2,rfl,rfl⟩⟩⟩⟩⟩
          | ok b k2 =>
           have l:=D.1;have Y:=D.2;by_cases hq:nxt ts k2=[41]
           · have I:=Z33 hq (by decide);have V:txt ts k2=[41]::txt ts (k2+1):=by rw [Z1e I,hq]
             have d:Rd 0 none (txt ts (k1+1)) (.ok b ([41]::txt ts (k2+1))):=by rw [<- V];exact N
             exact ⟨.ok (Z2f (Z1h (nxt ts k)) a b) (k2+1),Z3b h2 h3 hv hb (Z2x (Z3g H (Z2x (Z3g d (Z2x (Zif _)))))),⟨by omega,by omega⟩,.inr ⟨hp,G,.ok a k1,⟨B,C⟩,.inr ⟨a,k1,rfl,.inr ⟨hm,L,.ok b k2,⟨D,S⟩,.inr ⟨b,k2,rfl,.inr ⟨hq,I,rfl⟩⟩⟩⟩⟩⟩
           · exact ⟨.no k2,Z3b h2 h3 hv hb (Z2x (Z3g H (Z2x (Z3g N (Z3h (Z22 hq)))))),⟨by omega,Y⟩,.inr ⟨hp,G,.ok a k1,⟨B,C⟩,.inr ⟨a,k1,rfl,.inr ⟨hm,L,.ok b k2,⟨D,S⟩,.inr ⟨b,k2,rfl,.inl ⟨hq,rfl⟩⟩⟩⟩⟩⟩
        · exact ⟨.no k1,Z3b h2 h3 hv hb (Z2x (Z3g F (Z3h (Z22 hm)))),⟨by omega,R⟩,.inr ⟨hp,G,.ok a k1,⟨B,C⟩,.inr ⟨a,k1,rfl,.inl ⟨hm,rfl⟩⟩⟩⟩
     · exact ⟨.no (k+1),Z3b h2 h3 hv hb (Z3h (Z22 hp)),⟨by omega,by omega⟩,.inl ⟨hp,rfl⟩⟩
   · suffices hs:∃ o:Out,Rd 6 none (nxt ts k::txt ts (k+1)) (o.res ts)/\okK ts k o/\Ziy pb v ts k o by obtain ⟨o,O,T,U⟩:=hs;exact ⟨o,O,T,.inr (.inr ⟨h2,h3,.inr ⟨hv,.inr ⟨hb,U⟩⟩⟩)⟩
     by_cases hp:nxt ts k=[40]
     · obtain ⟨M,F,B,C⟩:=he (k+1) (by omega) (by omega);cases M with
       | no k2=>exact ⟨.no k2,Z66 h2 h3 hv hb (by rw [hp];exact Z2x (Z1g F)),⟨by have:=B.1;omega,B.2⟩,.inr ⟨hp,hlt,.no k2,⟨B,C⟩,.inl ⟨k2,rfl,rfl⟩⟩⟩
       | ok a k1 =>
        have j:=B.1;have R:=B.2;by_cases hq:nxt ts k1=[41]
        · have I:=Z33 hq (by decide);have V:txt ts k1=[41]::txt ts (k1+1):=by rw [Z1e I,hq]
          have H:Rd 0 none (txt ts (k+1)) (.ok a ([41]::txt ts (k1+1))):=by rw [<- V];exact F
          exact ⟨.ok a (k1+1),Z66 h2 h3 hv hb (by rw [hp];exact Z2x (Z3g H (Z2x (Zif _)))),⟨by omega,by omega⟩,.inr ⟨hp,hlt,.ok a k1,⟨B,C⟩,.inr ⟨a,k1,rfl,.inr ⟨hq,I,rfl⟩⟩⟩⟩
        · exact ⟨.no k1,Z66 h2 h3 hv hb (by rw [hp];exact Z2x (Z3g F (Z3h (Z22 hq)))),⟨by omega,R⟩,.inr ⟨hp,hlt,.ok a k1,⟨B,C⟩,.inr ⟨a,k1,rfl,.inl ⟨hq,rfl⟩⟩⟩⟩
     · exact ⟨.no k,Z66 h2 h3 hv hb (by rw [<- X];exact Z3h (Z22 hp)),⟨by omega,by omega⟩,.inl ⟨hp,rfl⟩⟩
 · have J:=Z5A ts k hlt;refine ⟨.no k,?_,⟨by omega,by omega⟩,.inr (.inr ⟨by rw [J];decide,by rw [J];decide,.inr ⟨by rw [J];decide,.inr ⟨by rw [J];decide,.inl ⟨by rw [J];decide,rfl⟩⟩⟩⟩)⟩;show Rd 6 none (txt ts k) (.no (txt ts k));rw [Zai ts k (by omega)];exact Zdf
def At (w:World)(pb bt r1 r2:Nat)(ts:List Tok)(k:Nat)(W:World):Prop := Fx w pb W/\W.heap[bt]?=some (.cells #[int i64 (kdAt ts k),int i64 (lnAt ts k),.string (mk (nxt ts k))] 169 (0,0))/\SMap W r1 Zqa/\SMap W r2 Zqb/\bt≠pb/\r1≠pb/\r2≠pb
theorem At.but {w:World}{pb J B C:Nat}{ts:List Tok}{k:Nat}{W X:World}(h:At w pb J B C ts k W)(hb:But pb W X):At w pb J B C ts k X:=by
 obtain ⟨M,F,D,L,G,H,I⟩:=h;exact ⟨M.but hb,(hb.block _ (zs F) G).trans F,D.on (hb.block _ D.lt H),L.on (hb.block _ L.lt I),G,H,I⟩
theorem At.tok0 {w:World}{pb B C D:Nat}{ts:List Tok}{k:Nat}{W:World}(h:At w pb B C D ts k W):W.cell? ⟨B,0,none⟩=some (int i64 (kdAt ts k)):=by rw [zc h.2.1];rfl
theorem At.tok2 {w:World}{pb B C D:Nat}{ts:List Tok}{k:Nat}{W:World}(h:At w pb B C D ts k W):W.cell? ⟨B,2,none⟩=some (.string (mk (nxt ts k))):=by rw [zc h.2.1];rfl
theorem At.var {w:World}{pb C B D:Nat}{ts:List Tok}{k:Nat}{W:World}(h:At w pb C B D ts k W):(Instr.lookup 253 (.map (some B)) (.string (mk (nxt ts k))) false).run prog W=.ok (int i64 (if Z3q (nxt ts k) > 0 then Z3q (nxt ts k) else 0)) W:=by
 by_cases hv:Z3q (nxt ts k) > 0
 · rw [zp hv];exact Z4a underlying253 underlying9 h.2.2.1 (by rw [Zbw,zp hv]) false
 · rw [zf hv];exact Z4b underlying253 underlying9 h.2.2.1 (by rw [Zbw,zf hv]) (Zam W) false
theorem At.both {w:World}{pb C D B:Nat}{ts:List Tok}{k:Nat}{W:World}(h:At w pb C D B ts k W):(Instr.lookup 253 (.map (some B)) (.string (mk (nxt ts k))) false).run prog W=.ok (int i64 (if Z1h (nxt ts k) > 0 then Z1h (nxt ts k) else 0)) W:=by
 by_cases hv:Z1h (nxt ts k) > 0
 · rw [zp hv];exact Z4a underlying253 underlying9 h.2.2.2.1 (by rw [Zbx,zp hv]) false
 · rw [zf hv];exact Z4b underlying253 underlying9 h.2.2.2.1 (by rw [Zbx,zf hv]) (Zam W) false
theorem Zan {ts:List Tok}(B:Knd ts){k:Nat}(c:Int)(C:0<c)(h:Z0b (nxt ts k)≠c):(kdAt ts k==c)=false:=by
 rw [beq_eq_false_iff_ne];by_cases hk:k<ts.length
 · rw [ZeA B hk];exact h
 · simp only [kdAt,dif_neg hk];omega
theorem Ziz (pb:Nat)(v:Value)(ts:List Tok)(k:Nat)(o:Out)(hC:ZeF pb v ts k o)(w:World)(h:PI w pb v ts k) : Calls prog 307 #[.pointer (some ⟨pb,0,none⟩)] w (RP pb v ts o w):=by
 have hK:=h.2.2.2.2.1;have cG:=h.2.2.1;have cC:=h.2.2.2.1;have F1:=zh (Fx.new h.lt);have P1:=zh (h.on ((zr _ _).alloc (zn _) (.cells #[int i64 0,int i64 0,slice none 0 0] 63)));have M:=h.lt;have HC:=zh hC;have HK:=zh hK;clear h hC hK;have cu:=@run_makeMap prog;go_enter func307,ntmps307;go_wp2_with fail;refine (Z2t _ pb v ts k P1.out).mono ?_;rintro e B ⟨rfl,b2⟩;rw [tokV];have F2:=F1.out.but (But.of_below b2);have P2:=P1.out.on b2;have cF:=F2.lt;have t1:(B.alloc (.cells #[int i64 (kdAt ts k),int i64 (lnAt ts k),.string (mk (nxt ts k))] 169)).heap[B.heap.size]?=some (.cells #[int i64 (kdAt ts k),int i64 (lnAt ts k),.string (mk (nxt ts k))] 169 (0,0)):=za B _;have bU:(B.alloc (.cells #[int i64 (kdAt ts k),int i64 (lnAt ts k),.string (mk (nxt ts k))] 169)).heap.size=B.heap.size+1:=by simp
 have cg:Below B.heap.size B ((B.alloc (.cells #[int i64 (kdAt ts k),int i64 (lnAt ts k),.string (mk (nxt ts k))] 169)).alloc (.map #[] 0)):=((zr _ _).alloc (zn _) _).alloc (by simp) _;have bA:=SMap.new (B.alloc (.cells #[int i64 (kdAt ts k),int i64 (lnAt ts k),.string (mk (nxt ts k))] 169));rw [bU] at bA;have cn:(Instr.mapUpdate 253 (.map (some (B.heap.size+1))) (.string ⟨#[110,105,103,104,116,115]⟩) (int i64 1)).run prog ((B.alloc (.cells #[int i64 (kdAt ts k),int i64 (lnAt ts k),.string (mk (nxt ts k))] 169)).alloc (.map #[] 0))=.ok () (((B.alloc (.cells #[int i64 (kdAt ts k),int i64 (lnAt ts k),.string (mk (nxt ts k))] 169)).alloc (.map #[] 0)).putObj (B.heap.size+1) (.map (esS [([110,105,103,104,116,115],1)] 0).toArray 1)) := Z0C (t:=[110,105,103,104,116,115]) underlying253 underlying9 bA (by decide) 1;have bJ:SMap (((B.alloc (.cells #[int i64 (kdAt ts k),int i64 (lnAt ts k),.string (mk (nxt ts k))] 169)).alloc (.map #[] 0)).putObj (B.heap.size+1) (.map (esS [([110,105,103,104,116,115],1)] 0).toArray 1)) (B.heap.size+1) [([110,105,103,104,116,115],1)]:=Z2H bA;have bW:Below B.heap.size B (((B.alloc (.cells #[int i64 (kdAt ts k),int i64 (lnAt ts k),.string (mk (nxt ts k))] 169)).alloc (.map #[] 0)).putObj (B.heap.size+1) (.map (esS [([110,105,103,104,116,115],1)] 0).toArray 1)):=Z0E cg (by omega) _;have cB:(Instr.mapUpdate 253 (.map (some (B.heap.size+1))) (.string ⟨#[112,101,114,115,111,110,115]⟩) (int i64 2)).run prog (((B.alloc (.cells #[int i64 (kdAt ts k),int i64 (lnAt ts k),.string (mk (nxt ts k))] 169)).alloc (.map #[] 0)).putObj (B.heap.size+1) (.map (esS [([110,105,103,104,116,115],1)] 0).toArray 1))=.ok () ((((B.alloc (.cells #[int i64 (kdAt ts k),int i64 (lnAt ts k),.string (mk (nxt ts k))] 169)).alloc (.map #[] 0)).putObj (B.heap.size+1) (.map (esS [([110,105,103,104,116,115],1)] 0).toArray 1)).putObj (B.heap.size+1) (.map (esS [([110,105,103,104,116,115],1),([112,101,114,115,111,110,115],2)] 0).toArray 2)) := Z0C (t:=[112,101,114,115,111,110,115]) underlying253 underlying9 bJ (by decide) 2;have bH:SMap ((((B.alloc (.cells #[int i64 (kdAt ts k),int i64 (lnAt ts k),.string (mk (nxt ts k))] 169)).alloc (.map #[] 0)).putObj (B.heap.size+1) (.map (esS [([110,105,103,104,116,115],1)] 0).toArray 1)).putObj (B.heap.size+1) (.map (esS [([110,105,103,104,116,115],1),([112,101,114,115,111,110,115],2)] 0).toArray 2)) (B.heap.size+1) [([110,105,103,104,116,115],1),([112,101,114,115,111,110,115],2)]:=Z2H bJ
 have bY:Below B.heap.size B ((((B.alloc (.cells #[int i64 (kdAt ts k),int i64 (lnAt ts k),.string (mk (nxt ts k))] 169)).alloc (.map #[] 0)).putObj (B.heap.size+1) (.map (esS [([110,105,103,104,116,115],1)] 0).toArray 1)).putObj (B.heap.size+1) (.map (esS [([110,105,103,104,116,115],1),([112,101,114,115,111,110,115],2)] 0).toArray 2)):=Z0E bW (by omega) _;have cA:(Instr.mapUpdate 253 (.map (some (B.heap.size+1))) (.string ⟨#[110,105,103,104,116]⟩) (int i64 3)).run prog ((((B.alloc (.cells #[int i64 (kdAt ts k),int i64 (lnAt ts k),.string (mk (nxt ts k))] 169)).alloc (.map #[] 0)).putObj (B.heap.size+1) (.map (esS [([110,105,103,104,116,115],1)] 0).toArray 1)).putObj (B.heap.size+1) (.map (esS [([110,105,103,104,116,115],1),([112,101,114,115,111,110,115],2)] 0).toArray 2))=.ok () (((((B.alloc (.cells #[int i64 (kdAt ts k),int i64 (lnAt ts k),.string (mk (nxt ts k))] 169)).alloc (.map #[] 0)).putObj (B.heap.size+1) (.map (esS [([110,105,103,104,116,115],1)] 0).toArray 1)).putObj (B.heap.size+1) (.map (esS [([110,105,103,104,116,115],1),([112,101,114,115,111,110,115],2)] 0).toArray 2)).putObj (B.heap.size+1) (.map (esS [([110,105,103,104,116,115],1),([112,101,114,115,111,110,115],2),([110,105,103,104,116],3)] 0).toArray 3)) := Z0C (t:=[110,105,103,104,116]) underlying253 underlying9 bH (by decide) 3;have bG:SMap (((((B.alloc (.cells #[int i64 (kdAt ts k),int i64 (lnAt ts k),.string (mk (nxt ts k))] 169)).alloc (.map #[] 0)).putObj (B.heap.size+1) (.map (esS [([110,105,103,104,116,115],1)] 0).toArray 1)).putObj (B.heap.size+1) (.map (esS [([110,105,103,104,116,115],1),([112,101,114,115,111,110,115],2)] 0).toArray 2)).putObj (B.heap.size+1) (.map (esS [([110,105,103,104,116,115],1),([112,101,114,115,111,110,115],2),([110,105,103,104,116],3)] 0).toArray 3)) (B.heap.size+1) [([110,105,103,104,116,115],1),([112,101,114,115,111,110,115],2),([110,105,103,104,116],3)]:=Z2H bH;have ch:Below B.heap.size B (((((B.alloc (.cells #[int i64 (kdAt ts k),int i64 (lnAt ts k),.string (mk (nxt ts k))] 169)).alloc (.map #[] 0)).putObj (B.heap.size+1) (.map (esS [([110,105,103,104,116,115],1)] 0).toArray 1)).putObj (B.heap.size+1) (.map (esS [([110,105,103,104,116,115],1),([112,101,114,115,111,110,115],2)] 0).toArray 2)).putObj (B.heap.size+1) (.map (esS [([110,105,103,104,116,115],1),([112,101,114,115,111,110,115],2),([110,105,103,104,116],3)] 0).toArray 3)):=Z0E bY (by omega) _
 have cr:(Instr.mapUpdate 253 (.map (some (B.heap.size+1))) (.string ⟨#[119,101,101,107,100,97,121]⟩) (int i64 4)).run prog (((((B.alloc (.cells #[int i64 (kdAt ts k),int i64 (lnAt ts k),.string (mk (nxt ts k))] 169)).alloc (.map #[] 0)).putObj (B.heap.size+1) (.map (esS [([110,105,103,104,116,115],1)] 0).toArray 1)).putObj (B.heap.size+1) (.map (esS [([110,105,103,104,116,115],1),([112,101,114,115,111,110,115],2)] 0).toArray 2)).putObj (B.heap.size+1) (.map (esS [([110,105,103,104,116,115],1),([112,101,114,115,111,110,115],2),([110,105,103,104,116],3)] 0).toArray 3))=.ok () ((((((B.alloc (.cells #[int i64 (kdAt ts k),int i64 (lnAt ts k),.string (mk (nxt ts k))] 169)).alloc (.map #[] 0)).putObj (B.heap.size+1) (.map (esS [([110,105,103,104,116,115],1)] 0).toArray 1)).putObj (B.heap.size+1) (.map (esS [([110,105,103,104,116,115],1),([112,101,114,115,111,110,115],2)] 0).toArray 2)).putObj (B.heap.size+1) (.map (esS [([110,105,103,104,116,115],1),([112,101,114,115,111,110,115],2),([110,105,103,104,116],3)] 0).toArray 3)).putObj (B.heap.size+1) (.map (esS [([110,105,103,104,116,115],1),([112,101,114,115,111,110,115],2),([110,105,103,104,116],3),([119,101,101,107,100,97,121],4)] 0).toArray 4)) := Z0C (t:=[119,101,101,107,100,97,121]) underlying253 underlying9 bG (by decide) 4;have bV:SMap ((((((B.alloc (.cells #[int i64 (kdAt ts k),int i64 (lnAt ts k),.string (mk (nxt ts k))] 169)).alloc (.map #[] 0)).putObj (B.heap.size+1) (.map (esS [([110,105,103,104,116,115],1)] 0).toArray 1)).putObj (B.heap.size+1) (.map (esS [([110,105,103,104,116,115],1),([112,101,114,115,111,110,115],2)] 0).toArray 2)).putObj (B.heap.size+1) (.map (esS [([110,105,103,104,116,115],1),([112,101,114,115,111,110,115],2),([110,105,103,104,116],3)] 0).toArray 3)).putObj (B.heap.size+1) (.map (esS [([110,105,103,104,116,115],1),([112,101,114,115,111,110,115],2),([110,105,103,104,116],3),([119,101,101,107,100,97,121],4)] 0).toArray 4)) (B.heap.size+1) [([110,105,103,104,116,115],1),([112,101,114,115,111,110,115],2),([110,105,103,104,116],3),([119,101,101,107,100,97,121],4)]:=Z2H bG
 have bI:Below B.heap.size B ((((((B.alloc (.cells #[int i64 (kdAt ts k),int i64 (lnAt ts k),.string (mk (nxt ts k))] 169)).alloc (.map #[] 0)).putObj (B.heap.size+1) (.map (esS [([110,105,103,104,116,115],1)] 0).toArray 1)).putObj (B.heap.size+1) (.map (esS [([110,105,103,104,116,115],1),([112,101,114,115,111,110,115],2)] 0).toArray 2)).putObj (B.heap.size+1) (.map (esS [([110,105,103,104,116,115],1),([112,101,114,115,111,110,115],2),([110,105,103,104,116],3)] 0).toArray 3)).putObj (B.heap.size+1) (.map (esS [([110,105,103,104,116,115],1),([112,101,114,115,111,110,115],2),([110,105,103,104,116],3),([119,101,101,107,100,97,121],4)] 0).toArray 4)):=Z0E ch (by omega) _;have t5:((((((B.alloc (.cells #[int i64 (kdAt ts k),int i64 (lnAt ts k),.string (mk (nxt ts k))] 169)).alloc (.map #[] 0)).putObj (B.heap.size+1) (.map (esS [([110,105,103,104,116,115],1)] 0).toArray 1)).putObj (B.heap.size+1) (.map (esS [([110,105,103,104,116,115],1),([112,101,114,115,111,110,115],2)] 0).toArray 2)).putObj (B.heap.size+1) (.map (esS [([110,105,103,104,116,115],1),([112,101,114,115,111,110,115],2),([110,105,103,104,116],3)] 0).toArray 3)).putObj (B.heap.size+1) (.map (esS [([110,105,103,104,116,115],1),([112,101,114,115,111,110,115],2),([110,105,103,104,116],3),([119,101,101,107,100,97,121],4)] 0).toArray 4)).heap[B.heap.size]?=some (.cells #[int i64 (kdAt ts k),int i64 (lnAt ts k),.string (mk (nxt ts k))] 169 (0,0)):=by rw [zQ (by omega),zQ (by omega),zQ (by omega),zQ (by omega),Below.heap_alloc _ _ _ (by simp)];exact t1
 have F5:=zh (F2.but (But.of_below bI));have P5:=zh (P2.on bI);have S5:=zh bV;have T5:=zh t5;clear bJ bW bH bY bG ch bV bI F2 P2 t1 t5 cg bA b2 F1 P1 bU;go_upto_region 3 with fail;clear cn cB cA cr;generalize ((((((B.alloc (.cells #[int i64 (kdAt ts k),int i64 (lnAt ts k),.string (mk (nxt ts k))] 169)).alloc (.map #[] 0)).putObj (B.heap.size+1) (.map (esS [([110,105,103,104,116,115],1)] 0).toArray 1)).putObj (B.heap.size+1) (.map (esS [([110,105,103,104,116,115],1),([112,101,114,115,111,110,115],2)] 0).toArray 2)).putObj (B.heap.size+1) (.map (esS [([110,105,103,104,116,115],1),([112,101,114,115,111,110,115],2),([110,105,103,104,116],3)] 0).toArray 3)).putObj (B.heap.size+1) (.map (esS [([110,105,103,104,116,115],1),([112,101,114,115,111,110,115],2),([110,105,103,104,116],3),([119,101,101,107,100,97,121],4)] 0).toArray 4))=w5 at *
 have b3:Below w5.heap.size w5 (w5.alloc (.map #[] 0)):=(zr _ _).alloc (zn _) _;have bK:=SMap.new w5;have cj:(Instr.mapUpdate 253 (.map (some w5.heap.size)) (.string ⟨#[109,105,110]⟩) (int i64 8)).run prog (w5.alloc (.map #[] 0))=.ok () ((w5.alloc (.map #[] 0)).putObj w5.heap.size (.map (esS [([109,105,110],8)] 0).toArray 1)) := Z0C (t:=[109,105,110]) underlying253 underlying9 bK (by decide) 8;have bQ:SMap ((w5.alloc (.map #[] 0)).putObj w5.heap.size (.map (esS [([109,105,110],8)] 0).toArray 1)) w5.heap.size [([109,105,110],8)]:=Z2H bK;have ce:Below w5.heap.size w5 ((w5.alloc (.map #[] 0)).putObj w5.heap.size (.map (esS [([109,105,110],8)] 0).toArray 1)):=Z0E b3 (zn _) _;have cs:(Instr.mapUpdate 253 (.map (some w5.heap.size)) (.string ⟨#[109,97,120]⟩) (int i64 9)).run prog ((w5.alloc (.map #[] 0)).putObj w5.heap.size (.map (esS [([109,105,110],8)] 0).toArray 1))=.ok () (((w5.alloc (.map #[] 0)).putObj w5.heap.size (.map (esS [([109,105,110],8)] 0).toArray 1)).putObj w5.heap.size (.map (esS [([109,105,110],8),([109,97,120],9)] 0).toArray 2)) := Z0C (t:=[109,97,120]) underlying253 underlying9 bQ (by decide) 9;have bR:SMap (((w5.alloc (.map #[] 0)).putObj w5.heap.size (.map (esS [([109,105,110],8)] 0).toArray 1)).putObj w5.heap.size (.map (esS [([109,105,110],8),([109,97,120],9)] 0).toArray 2)) w5.heap.size [([109,105,110],8),([109,97,120],9)]:=Z2H bQ;have bk:Below w5.heap.size w5 (((w5.alloc (.map #[] 0)).putObj w5.heap.size (.map (esS [([109,105,110],8)] 0).toArray 1)).putObj w5.heap.size (.map (esS [([109,105,110],8),([109,97,120],9)] 0).toArray 2)):=Z0E ce (zn _) _;have F8:=F5.out.but (But.of_below bk);have A8:At w pb B.heap.size (B.heap.size+1) w5.heap.size ts k (((w5.alloc (.map #[] 0)).putObj w5.heap.size (.map (esS [([109,105,110],8)] 0).toArray 1)).putObj w5.heap.size (.map (esS [([109,105,110],8),([109,97,120],9)] 0).toArray 2)) := ⟨F8,(bk.block _ (zs T5.out)).trans T5.out,S5.out.on (bk.block _ S5.out.lt),bR,by omega,by omega,by have:=F5.out.lt;omega⟩;have H:=zh (P5.out.on bk);have F:=zh A8;clear bQ ce bR bk bK b3 F8 A8 F5 P5 S5 T5;go_upto_region 4 with fail;clear cj cs cu;generalize (((w5.alloc (.map #[] 0)).putObj w5.heap.size (.map (esS [([109,105,110],8)] 0).toArray 1)).putObj w5.heap.size (.map (esS [([109,105,110],8),([109,97,120],9)] 0).toArray 2))=w8 at *
 generalize B.heap.size+1=r1 at *
 generalize B.heap.size=bt at *
 generalize w5.heap.size=r2 at *
 have y:=F.out.tok0;rcases HC.out with ⟨f,bn,rfl⟩ | ⟨f,bn,rfl⟩ | ⟨bT,b0,C⟩
 · have hq:kdAt ts k=2:=by rw [ZeA HK.out f,bn]
   rw [hq] at y;go_wp2_with fail;refine (Z8k _ pb v ts k H.out f 2 bn (by omega)).mono ?_;rintro e w9 ⟨rfl,p9,b9⟩;have P9:=zh p9;have bF:=zh (F.out.but b9);clear p9 b9 y F H;have F:=bF;obtain ⟨V,U,N,s3,s4,s5⟩:=F.out.1.six;go_wp2_with fail;refine bodyPost_ret (v:=.agg #[int i64 1,int i64 (dval (nxt ts k)),slice none 0 0]) (by simp [results,results307,go_sem,V,U,N]) rfl ?_;exact Z5t (x:=((1,dval (nxt ts k)),.nil)) M F.out.1.1 P9.out (FoD.nil _ (λ_=>False)) (λ_ h=>h.elim)
 · have hq:kdAt ts k=3:=by rw [ZeA HK.out f,bn]
   rw [hq] at y;go_wp2_with fail;refine (Z8k _ pb v ts k H.out f 3 bn (by omega)).mono ?_;rintro e w9 ⟨rfl,p9,b9⟩;have P9:=zh p9;have bF:=zh (F.out.but b9);clear p9 b9 y F H;have F:=bF;obtain ⟨V,U,N,s3,s4,s5⟩:=F.out.1.six;go_wp2_with fail;refine bodyPost_ret (v:=.agg #[int i64 2,int i64 (dval (nxt ts k)),slice none 0 0]) (by simp [results,results307,go_sem,V,U,N]) rfl ?_;exact Z5t (x:=((2,dval (nxt ts k)),.nil)) M F.out.1.1 P9.out (FoD.nil _ (λ_=>False)) (λ_ h=>h.elim)
 have d2:=Zan HK.out 2 (by omega) bT;have d3:=Zan HK.out 3 (by omega) b0;have e2:=F.out.tok2;have lv:=F.out.var;clear bT b0 HC;rcases C with ⟨f,d,rfl⟩ | ⟨d,C⟩
 · rw [zp d] at lv;obtain ⟨vv,bx⟩:∃ vv,vv=Z3q (nxt ts k):=⟨_,rfl⟩
   rw [<- bx] at lv d |-
   have dv:decide ((0:Int)<vv)=true:=by simpa using d
   have bc:PI (w8.setCell ⟨pb,1,none⟩ (int i64 ((k:Int)+1))) pb v ts (k+1):=by have:=H.out.set (k+1) (by omega);rwa [show (((k+1:Nat)):Int)=(k:Int)+1 by omega] at this
   have Z:At w pb bt r1 r2 ts k (w8.setCell ⟨pb,1,none⟩ (int i64 ((k:Int)+1))):=F.out.but ((But.refl _ _).set (p:=⟨pb,1,none⟩) rfl _);have cy:=Z.var;rw [<- bx,zp d] at cy;have e3:=Z.tok2;obtain ⟨V,U,N,s3,s4,s5⟩:=Z.1.six;have c1:=H.out.cell1;have f1:=H.out.free 1;have bq:=zh bc;have br:=zh Z;have cm:=zh bx;clear bc Z bx;go_wp2_with fail;refine bodyPost_ret (v:=.agg #[int i64 3,int i64 vv,slice none 0 0]) (by simp [results,results307,go_sem,V,U,N]) rfl ?_;rw [<- cm.out];exact Z5t (x:=((3,vv),.nil)) M br.out.1.1 bq.out (FoD.nil _ (λ_=>False)) (λ_ h=>h.elim)
 rw [zf d] at lv;have lb:=F.out.both;have HD:=zh C;clear C d;rcases HD.out with ⟨f,hb,C⟩ | ⟨hb,C⟩
 · rw [zp hb] at lb;obtain ⟨op,bP⟩:∃ op,op=Z1h (nxt ts k):=⟨_,rfl⟩
   rw [<- bP] at lb hb C;have db:decide ((0:Int)<op)=true:=by simpa using hb
   have bc:PI (w8.setCell ⟨pb,1,none⟩ (int i64 ((k:Int)+1))) pb v ts (k+1):=by have:=H.out.set (k+1) (by omega);rwa [show (((k+1:Nat)):Int)=(k:Int)+1 by omega] at this
   have Z:At w pb bt r1 r2 ts k (w8.setCell ⟨pb,1,none⟩ (int i64 ((k:Int)+1))):=F.out.but ((But.refl _ _).set (p:=⟨pb,1,none⟩) rfl _);have c1:=H.out.cell1;have f1:=H.out.free 1;have bq:=zh bc;have br:=zh Z;have cx:=zh bP;have HB:=zh hb;have HE:=zh C;clear bc Z bP C HD hb;go_wp2_with fail;clear lv lb y e2 c1 f1 F H;generalize w8.setCell ⟨pb,1,none⟩ (int i64 ((k:Int)+1))=cE at *
   rcases HE.out with ⟨O,rfl⟩ | ⟨G,bM,o1,⟨bE,be⟩,C⟩
   · refine (Z2G _ pb v ts (k+1) bq.out [40] O).mono ?_;rintro e bL ⟨rfl,R⟩;exact ⟨rfl,br.out.1.1.trans (But.of_below R),rfl⟩
   refine (Z1m _ pb v ts (k+1) bq.out bM [40] G).mono ?_;rintro e bL ⟨rfl,bd,R⟩;have bm:=zh bd;have S:=zh (br.out.but R);have HC1:=zh be;have HD1:=zh C;clear bd R bq br be C HE G bE;go_wp2_with fail;refine (HC1.out _ bm.out).mono ?_;rcases HD1.out with ⟨k2,rfl,rfl⟩ | ⟨a,k1,rfl,C⟩
   · rintro e I ⟨T,rfl⟩;exact ⟨rfl,S.out.1.1.trans T,rfl⟩
   rintro e I ⟨T,bf,A,c,rfl,Y⟩;have bs:=Tr.of Y S.out.1.lt;have l:=S.out.but T;have bg:=zh (Bx.new (x:=a) bs l.1.lt);have J:Below I.heap.size I (I.alloc (.cells #[int i64 a.1.1,int i64 a.1.2,slice A (flen a.2) c] 63)):=(zr _ _).alloc (zn _) _;have j:=zh (bf.on J);have m:=zh (l.but (But.of_below J));have bu:=zh C;clear T bf Y S bm bs l J C HD1 HC1;go_wp2_with fail;generalize I.alloc (.cells #[int i64 a.1.1,int i64 a.1.2,slice A (flen a.2) c] 63)=cv at *
   generalize I.heap.size=ba at *
   rcases bu.out with ⟨O,rfl⟩ | ⟨G,bD,o2,⟨cz,cb⟩,C⟩
   · refine (Z2G _ pb v ts k1 j.out [44] O).mono ?_;rintro e bO ⟨rfl,L⟩;exact ⟨rfl,m.out.1.1.trans (But.of_below L),rfl⟩
   refine (Z1m _ pb v ts k1 j.out bD [44] G).mono ?_;rintro e bO ⟨rfl,bh,L⟩;have bz:=zh bh;have g:=zh (m.out.but L);have bv:=zh (bg.out.but L M);have b4:=zh cb;have b8:=zh C;clear bh L j m bg cb C bu G cz;go_wp2_with fail;refine (b4.out _ bz.out).mono ?_;rcases b8.out with ⟨k2,rfl,rfl⟩ | ⟨b,k2,rfl,C⟩
   · rintro e q ⟨bj,rfl⟩;exact ⟨rfl,g.out.1.1.trans bj,rfl⟩
   rintro e q ⟨bj,bZ,A2,c2,rfl,Y⟩;have b7:=Tr.of Y g.out.1.lt;have bN:=g.out.but bj;have b1:=bv.out.but bj M;have cd:=zh (Bx.new (x:=b) b7 bN.1.lt);have J:Below q.heap.size q (q.alloc (.cells #[int i64 b.1.1,int i64 b.1.2,slice A2 (flen b.2) c2] 63)):=(zr _ _).alloc (zn _) _;have bC:=zh (bZ.on J);have bB:=zh (bN.but (But.of_below J));have cf:=zh (b1.but (But.of_below (pb:=pb) J) M);have cc:=zh C;clear bj bZ Y g bz b7 bN b1 bv J C b8 b4;go_wp2_with fail;generalize q.alloc (.cells #[int i64 b.1.1,int i64 b.1.2,slice A2 (flen b.2) c2] 63)=cD at *
   generalize q.heap.size=bb at *
   rcases cc.out with ⟨O,rfl⟩ | ⟨G,ck,rfl⟩
   · refine (Z2G _ pb v ts k2 bC.out [41] O).mono ?_;rintro e bS ⟨rfl,r⟩;exact ⟨rfl,bB.out.1.1.trans (But.of_below r),rfl⟩
   refine (Z1m _ pb v ts k2 bC.out ck [41] G).mono ?_;rintro e bS ⟨rfl,b5,r⟩;have ct:=zh b5;have bp:=zh (bB.out.but r);have bX:=zh (cf.out.but r M);have b6:=zh (cd.out.but r M);clear b5 r bC bB cf cd cc G;obtain ⟨V,U,N,s3,s4,s5⟩:=bp.out.1.six;obtain ⟨q0,q1,q2⟩:=bX.out.three;obtain ⟨q3,q4,q5⟩:=b6.out.three;have lb:=bp.out.both;rw [<- cx.out,zp HB.out] at lb;have e2:=bp.out.tok2;have ca:=bp.out.1.lt;go_wp2_with fail;refine bodyPost_ret (v:=.agg #[int i64 op,int i64 0,slice (some ⟨bS.heap.size,0,none⟩) 2 2]) (by simp [results,results307,go_sem,V,U,N,ca]) rfl ?_;exact Z8p (x:=Z2f op a b) bp.out.1 ct.out (λX h1 h2 h3=>FoD.two (D:=λb=>w.heap.size<b/\b<X.heap.size) ⟨ca,by omega⟩ h2 (bX.out.2.2.to h1 h3) (b6.out.2.2.to h1 h3) 2)
 rw [zf hb] at lb;have HE:=zh C;clear hb C HD;go_wp2_with fail;clear lv lb y e2;rcases HE.out with ⟨O,rfl⟩ | ⟨G,bM,o1,⟨bE,be⟩,C⟩
 · refine (Z2G _ pb v ts k H.out [40] O).mono ?_;rintro e bL ⟨rfl,R⟩;exact ⟨rfl,F.out.1.1.trans (But.of_below R),rfl⟩
 refine (Z1m _ pb v ts k H.out bM [40] G).mono ?_;rintro e bL ⟨rfl,bd,R⟩;have bm:=zh bd;have S:=zh (F.out.but R);have HC1:=zh be;have HD1:=zh C;clear bd R H F be C HE G bE;go_wp2_with fail;refine (HC1.out _ bm.out).mono ?_;rcases HD1.out with ⟨k2,rfl,rfl⟩ | ⟨a,k1,rfl,C⟩
 · rintro e I ⟨T,rfl⟩;exact ⟨rfl,S.out.1.1.trans T,rfl⟩
 rintro e I ⟨T,bf,A,c,rfl,Y⟩;have bs:=Tr.of Y S.out.1.lt;have l:=S.out.but T;have bg:=zh (Bx.new (x:=a) bs l.1.lt);have J:Below I.heap.size I (I.alloc (.cells #[int i64 a.1.1,int i64 a.1.2,slice A (flen a.2) c] 63)):=(zr _ _).alloc (zn _) _;have j:=zh (bf.on J);have m:=zh (l.but (But.of_below J));have bu:=zh C;clear T bf Y S bm bs l J C HD1 HC1;go_wp2_with fail;generalize I.alloc (.cells #[int i64 a.1.1,int i64 a.1.2,slice A (flen a.2) c] 63)=cv at *
 generalize I.heap.size=ba at *
 rcases bu.out with ⟨O,rfl⟩ | ⟨G,bD,rfl⟩
 · refine (Z2G _ pb v ts k1 j.out [41] O).mono ?_;rintro e bO ⟨rfl,L⟩;exact ⟨rfl,m.out.1.1.trans (But.of_below L),rfl⟩
 refine (Z1m _ pb v ts k1 j.out bD [41] G).mono ?_;rintro e bO ⟨rfl,bh,L⟩;have bz:=zh bh;have g:=zh (m.out.but L);have bv:=zh (bg.out.but L M);clear bh L j m bg bu G;obtain ⟨V,U,N,s3,s4,s5⟩:=g.out.1.six;obtain ⟨q0,q1,q2⟩:=bv.out.three;go_wp2_with fail;refine bodyPost_ret (v:=.agg #[int i64 a.1.1,int i64 a.1.2,slice A (flen a.2) c]) (by simp [results,results307,go_sem,V,U,N]) rfl ?_;exact Z5t M g.out.1.1 bz.out bv.out.2.2 (λb h=>h)
theorem ZiA (pb:Nat)(v:Value)(ts:List Tok)(k:Nat)(hk:k<=ts.length)(he:∀ k',k<k'->k'<=ts.length->RC 0 163 pb v ts k'):RC 6 307 pb v ts k:=by
 obtain ⟨o,B,D,C⟩:=Zmn pb v ts k hk he;exact ⟨o,B,D,Ziz pb v ts k o C⟩
theorem Zmp (pb:Nat)(v:Value)(ts:List Tok):∀ (d k:Nat),ts.length - k<=d->k<=ts.length -> RC 0 163 pb v ts k/\RC 2 219 pb v ts k/\RC 3 257 pb v ts k/\RC 4 283 pb v ts k/\RC 5 299 pb v ts k/\RC 6 307 pb v ts k:=by
 intro d;induction d with
 | zero =>
  intro k J hk;have I:∀ k',k<k'->k'<=ts.length->False:=λk' h1 B=>by omega
  have G:=ZiA pb v ts k hk (λk' h1 B=>(I k' h1 B).elim);have F:=Z9m pb v ts k hk (λk' h1 B=>by obtain rfl:k=k':=(by omega);exact G);have H:=Zph pb v ts k hk (λk' h1 B=>by obtain rfl:k=k':=(by omega);exact F);have D:=Z8q pb v ts k hk (λk' h1 B=>by obtain rfl:k=k':=(by omega);exact H) (λk' h1 B=>(I k' h1 B).elim);have B:=Zpi pb v ts k hk (λk' h1 B=>by obtain rfl:k=k':=(by omega);exact D);exact ⟨Zix pb v ts k hk (λk' h1 h2'=>by obtain rfl:k=k':=(by omega);exact B) (λk' h1 B=>(I k' h1 B).elim),B,D,H,F,G⟩
 | succ d ih =>
  intro k J hk;have C:∀ k',k<k'->k'<=ts.length->_:=λk' h1 B=>ih k' (by omega) B;have G:=ZiA pb v ts k hk (λk' h1 B=>(C k' h1 B).1);have F:=Z9m pb v ts k hk (λk' h1 B=>by
   by_cases e:k=k'
   · subst e;exact G
   · exact (C k' (by omega) B).2.2.2.2.2)
  have H:=Zph pb v ts k hk (λk' h1 B=>by
   by_cases e:k=k'
   · subst e;exact F
   · exact (C k' (by omega) B).2.2.2.2.1)
  have D:=Z8q pb v ts k hk (λk' h1 B=>by
   by_cases e:k=k'
   · subst e;exact H
   · exact (C k' (by omega) B).2.2.2.1) (λk' h1 B=>(C k' h1 B).2.2.1)
  have B:=Zpi pb v ts k hk (λk' h1 B=>by
   by_cases e:k=k'
   · subst e;exact D
   · exact (C k' (by omega) B).2.2.1)
  exact ⟨Zix pb v ts k hk (λk' h1 h2'=>by
   by_cases e:k=k'
   · subst e;exact B
   · exact (C k' (by omega) h2').2.1) (λk' h1 B=>(C k' h1 B).1),B,D,H,F,G⟩
theorem Zmq (pb:Nat)(v:Value)(ts:List Tok)(k:Nat)(hk:k<=ts.length):RC 0 163 pb v ts k:=(Zmp pb v ts (ts.length - k) k (zn _) hk).1
end
end Go.Proofs.YtnepkoepbapgeaaGreatDoor
