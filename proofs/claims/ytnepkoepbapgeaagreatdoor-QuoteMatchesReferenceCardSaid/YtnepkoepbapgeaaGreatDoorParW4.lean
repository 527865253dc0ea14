import Derived.Test.YtnepkoepbapgeaaGreatDoorParW1
import Derived.RegionDies
namespace Go.Proofs.YtnepkoepbapgeaaGreatDoor
open _root_.Go.Proofs.Tryz
open Value (int slice)
open IntKind (i64)
set_option maxHeartbeats 4000000
set_option maxRecDepth 100000
section
open Go.RowKit Lx Px
inductive Out where
 | ok (e:Ex) (k:Nat)
 | no (k:Nat)
def Out.res (ts:List Tok):Out->Res
 | .ok e k=>.ok e (txt ts k)
 | .no k=>.no (txt ts k)
def okK (ts:List Tok)(k:Nat):Out->Prop
 | .ok _ k'=>k<k'/\k'<=ts.length
 | .no k'=>k<=k'/\k'<=ts.length
def RP (pb:Nat)(v:Value)(ts:List Tok)(o:Out)(w:World)(e:Ending)(w':World):Prop :=
 match o with
 | .ok x k'=>But pb w w'/\PI w' pb v ts k'/\∃ A c,e=.returned (.agg #[int i64 x.1.1,int i64 x.1.2,slice A (flen x.2) c])/\FoD w' (λb=>w.heap.size<=b/\b<w'.heap.size) (slice A (flen x.2) c) x.2
 | .no k'=>But pb w w'/\e=.panicked [Zbq ts k']
def RC (n:Nat)(g:FuncId)(pb:Nat)(v:Value)(ts:List Tok)(k:Nat):Prop := ∃ o:Out,Rd n none (txt ts k) (o.res ts)/\okK ts k o/\∀ w,PI w pb v ts k->Calls prog g #[.pointer (some ⟨pb,0,none⟩)] w (RP pb v ts o w)
theorem Ziu {ts:List Tok}{o:Out}{e:Ex}{k B:Nat}(h:o.res ts=.ok e (txt ts k))(hk:k<=ts.length)(C:okK ts B o):o=.ok e k:=by
 cases o with
 | ok e' k' =>simp only [Out.res,Res.ok.injEq] at h;rw [h.1,Zij C.2 hk h.2]
 | no k'=>simp [Out.res] at h
theorem Ziv {ts:List Tok}{o:Out}{k B:Nat}(h:o.res ts=.no (txt ts k))(hk:k<=ts.length)(C:okK ts B o):o=.no k:=by
 cases o with
 | ok e' k'=>simp [Out.res] at h
 | no k' =>simp only [Out.res,Res.no.injEq] at h;rw [Zij C.2 hk h]
theorem Z1e {ts:List Tok}{k:Nat}(h:k<ts.length):txt ts k=nxt ts k::txt ts (k+1):=by rw [txt_at ts k h,nxt_at ts k h]
theorem ZeC (n:Nat):Px.opAt n []=0:=by
 unfold Px.opAt
 repeat' split
 all_goals first | rfl | (exfalso;rename_i h;revert h;decide)
theorem Zak {ts:List Tok}{n k:Nat}(e:Ex)(h:Px.opAt n (nxt ts k)=0):Rd n (some e) (txt ts k) (.ok e (txt ts k)):=by
 refine Z8w n e _ λu r hu=>?_;by_cases hk:k<ts.length
 · rw [Z1e hk] at hu;injection hu with hu _
   rw [<- hu];exact h
 · rw [Zai ts k (by omega)] at hu;cases hu
theorem op_lt {ts:List Tok}{n k:Nat}(h:Px.opAt n (nxt ts k)≠0):k<ts.length:=by
 by_cases hk:k<ts.length
 · exact hk
 · rw [Z5A ts k hk,ZeC] at h;exact absurd rfl h
theorem ZeD (ts:List Tok)(n:Nat):∀ (d k:Nat) (e:Ex),ts.length - k<=d->k<=ts.length->(∀ k',k<k'->k'<=ts.length->∃ o:Out,Rd (n+1) none (txt ts k') (o.res ts)/\okK ts k' o) -> ∃ o:Out,Rd n (some e) (txt ts k) (o.res ts)/\(match o with | .ok _ k'=>k<=k'/\k'<=ts.length | .no k'=>k<=k'/\k'<=ts.length):=by
 intro d;induction d with
 | zero =>intro k e I hk _;refine ⟨.ok e k,Zak e ?_,zn _,hk⟩;rw [Z5A ts k (by omega),ZeC]
 | succ d ih =>
  intro k e I hk D;by_cases h:Px.opAt n (nxt ts k)=0
  · exact ⟨.ok e k,Zak e h,zn _,hk⟩
  · have G:=op_lt h;obtain ⟨o,F,B⟩:=D (k+1) (by omega) (by omega);cases o with
    | no k'=>exact ⟨.no k',by rw [Z1e G];exact Z9i h F,by have:=B.1;omega,B.2⟩
    | ok b k' =>
     have L:=B.1;have M:=B.2;obtain ⟨H,J,C⟩:=ih k' (Z2f (Px.opAt n (nxt ts k)) e b) (by omega) (by omega) (λx hx hx'=>D x (by omega) hx');refine ⟨H,by rw [Z1e G];exact Zdp h F J,?_⟩;cases H with
     | ok e2 k2=>exact ⟨by have:=C.1;omega,C.2⟩
     | no k2=>exact ⟨by have:=C.1;omega,C.2⟩
def Zbs (pb:Nat)(w:World):Nat:=match w.cell? ⟨pb,1,none⟩ with
 | some (.int _ x)=>x.toNat
 | _=>0
theorem Z59 {w:World}{pb k:Nat}{v:Value}{ts:List Tok}(h:PI w pb v ts k):Zbs pb w=k:=by simp [Zbs,h.cell1]
def Z4w (w:World)(pb:Nat)(n:Nat)(r b7:Nat)(e1:Ex)(A:Option Addr)(c:Nat)(wr:World):Prop := But pb w wr/\RBox w #[int i64 0,int i64 0,slice none 0 0] 63 wr/\wr.heap[b7]?=some (.cells #[int i64 e1.1.1,int i64 e1.1.2,slice A (flen e1.2) c] 63 (0,0)) /\ FoD wr (λb=>w.heap.size<b/\b≠b7/\b<wr.heap.size) (slice A (flen e1.2) c) e1.2/\SMap wr r (Zbm n)
theorem Z4w.but {w:World}{pb:Nat}{n:Nat}{r B:Nat}{D:Ex}{A:Option Addr}{c:Nat}{wr F:World}(h:Z4w w pb n r B D A c wr)(hb:But pb wr F)(N:pb<w.heap.size)(L:B≠pb)(M:r≠pb):Z4w w pb n r B D A c F:=by
 obtain ⟨J,C,H,I,G⟩:=h;exact ⟨J.trans hb,(hb.block _ C.lt (by omega)).trans C,(hb.block _ (zs H) L).trans H,I.keep (λb x=>⟨x.1,x.2.1,by have:=hb.size;have:=x.2.2;omega⟩) (λb x=>hb.block b x.2.2 (by have:=x.1;omega)),G.on (hb.block _ G.lt M)⟩
theorem Z4w.cell {w:World}{pb:Nat}{n:Nat}{r C:Nat}{B:Ex}{A:Option Addr}{c:Nat}{wr:World}(h:Z4w w pb n r C B A c wr) : wr.cell? ⟨C,0,none⟩=some (int i64 B.1.1)/\wr.cell? ⟨C,1,none⟩=some (int i64 B.1.2)/\wr.cell? ⟨C,2,none⟩=some (slice A (flen B.2) c):=by
 refine ⟨?_,?_,?_⟩ <;> (rw [zc h.2.2.1];rfl)
theorem Z4w.six {w:World}{pb:Nat}{n:Nat}{r B:Nat}{C:Ex}{A:Option Addr}{c:Nat}{wr:World}(h:Z4w w pb n r B C A c wr) : wr.cell? ⟨B,0,none⟩=some (int i64 C.1.1)/\wr.cell? ⟨B,1,none⟩=some (int i64 C.1.2)/\wr.cell? ⟨B,2,none⟩=some (slice A (flen C.2) c)/\wr.frozen? ⟨B,0,none⟩=false/\wr.frozen? ⟨B,1,none⟩=false/\wr.frozen? ⟨B,2,none⟩=false:=by
 refine ⟨h.cell.1,h.cell.2.1,h.cell.2.2,?_,?_,?_⟩ <;> simp [World.frozen?,h.2.2.1]
theorem Z4w.free {w:World}{pb:Nat}{n:Nat}{r B:Nat}{C:Ex}{A:Option Addr}{c:Nat}{wr:World}(h:Z4w w pb n r B C A c wr)(i:Nat):wr.frozen? ⟨B,i,none⟩=false:=by
 simp [World.frozen?,h.2.2.1]
theorem Ziw {w:World}{b:Nat}{x y z C B D:Value}{F:TypeId}(h:w.heap[b]?=some (.cells #[x,y,z] F (0,0))):(((w.setCell ⟨b,0,none⟩ C).setCell ⟨b,1,none⟩ B).setCell ⟨b,2,none⟩ D).heap[b]?=some (.cells #[C,B,D] F (0,0)):=by
 simp [World.setCell,zM,h]
theorem Zbt {w:World}{b k:Nat}(hk:k≠b)(C B D:Value):(((w.setCell ⟨b,0,none⟩ C).setCell ⟨b,1,none⟩ B).setCell ⟨b,2,none⟩ D).heap[k]?=w.heap[k]?:=by
 rw [zg _ _ _ _ hk,zg _ _ _ _ hk,zg _ _ _ _ hk]
theorem Zbu (w:World)(b:Nat)(C B D:Value):(((w.setCell ⟨b,0,none⟩ C).setCell ⟨b,1,none⟩ B).setCell ⟨b,2,none⟩ D).heap.size=w.heap.size:=by simp [World.setCell]
theorem Z4w.next {w:World}{pb:Nat}{n:Nat}{r F lo:Nat}{C B:Ex}{H G:Option Addr}{c1 c2:Nat}{w':World}{op:Int}(h:Z4w w pb n r F C H c1 w')(q:r<w.heap.size)(A:w.heap.size<F)(y:F<lo)(Y:FoD w' (λb=>lo<=b/\b<w'.heap.size) (slice G (flen B.2) c2) B.2) : Z4w w pb n r F (Z2f op C B) (some ⟨w'.heap.size,0,none⟩) 2 ((((w'.setCell ⟨F,0,none⟩ (int i64 op)).setCell ⟨F,1,none⟩ (int i64 0)).setCell ⟨F,2,none⟩ (slice (some ⟨w'.heap.size,0,none⟩) 2 2)).alloc (.cells #[int i64 C.1.1,int i64 C.1.2,slice H (flen C.2) c1,int i64 B.1.1,int i64 B.1.2,slice G (flen B.2) c2] 63)):=by
 obtain ⟨l,R,N,d,U⟩:=h;have m:F<w'.heap.size:=(zs N)
 obtain ⟨W,J⟩:∃ W,W=((w'.setCell ⟨F,0,none⟩ (int i64 op)).setCell ⟨F,1,none⟩ (int i64 0)).setCell ⟨F,2,none⟩ (slice (some ⟨w'.heap.size,0,none⟩) 2 2):=⟨_,rfl⟩
 have T:W.heap.size=w'.heap.size:=by rw [J,Zbu]
 have L:∀ k,k≠F->W.heap[k]?=w'.heap[k]?:=λk hk=>by rw [J,Zbt hk]
 have g:W.heap[F]?=some (.cells #[int i64 op,int i64 0,slice (some ⟨w'.heap.size,0,none⟩) 2 2] 63 (0,0)):=by rw [J,Ziw N]
 have V:But pb w W:=by rw [J];exact ((l.new (p:=⟨F,0,none⟩) (by show w.heap.size<=F;omega) _).new (p:=⟨F,1,none⟩) (by show w.heap.size<=F;omega) _).new (p:=⟨F,2,none⟩) (by show w.heap.size<=F;omega) _
 rw [<- J];have O:=za W (.cells #[int i64 C.1.1,int i64 C.1.2,slice H (flen C.2) c1,int i64 B.1.1,int i64 B.1.2,slice G (flen B.2) c2] 63);rw [T] at O;have I:∀ k,k<w'.heap.size->(W.alloc (.cells #[int i64 C.1.1,int i64 C.1.2,slice H (flen C.2) c1,int i64 B.1.1,int i64 B.1.2,slice G (flen B.2) c2] 63)).heap[k]?=W.heap[k]?:=λk hk=>Below.heap_alloc _ _ _ (by omega);have M:(W.alloc (.cells #[int i64 C.1.1,int i64 C.1.2,slice H (flen C.2) c1,int i64 B.1.1,int i64 B.1.2,slice G (flen B.2) c2] 63)).heap.size=w'.heap.size+1:=by simp [T]
 have j:But pb w (W.alloc (.cells #[int i64 C.1.1,int i64 C.1.2,slice H (flen C.2) c1,int i64 B.1.1,int i64 B.1.2,slice G (flen B.2) c2] 63)):=V.alloc _;generalize W.alloc (.cells #[int i64 C.1.1,int i64 C.1.2,slice H (flen C.2) c1,int i64 B.1.1,int i64 B.1.2,slice G (flen B.2) c2] 63)=X at *
 have S:w.heap.size<w'.heap.size:=RBox.lt R;refine ⟨j,?_,?_,?_,?_⟩
 · show X.heap[w.heap.size]?=_;rw [I _ S,L _ (by omega)];exact R
 · rw [I _ m];exact g
 · have f:FoD X (λb=>w.heap.size<b/\b≠F/\b<X.heap.size) (slice H (flen C.2) c1) C.2:=d.keep (λb x=>⟨x.1,x.2.1,by rw [M];have:=x.2.2;omega⟩) (λb x=>by rw [I b x.2.2,L b x.2.1]);have Z:FoD X (λb=>w.heap.size<b/\b≠F/\b<X.heap.size) (slice G (flen B.2) c2) B.2:=Y.keep (λb x=>⟨by have:=x.1;omega,by have:=x.1;omega,by rw [M];have:=x.2;omega⟩) (λb x=>by rw [I b x.2,L b (by have:=x.1;omega)]);exact FoD.two (D:=λb=>w.heap.size<b/\b≠F/\b<X.heap.size) ⟨S,by omega,by rw [M];omega⟩ O f Z 2
 · show X.heap[r]?=_;rw [I r U.lt,L r (by omega)];exact U
theorem Z5t {w w5:World}{pb:Nat}{v:Value}{ts:List Tok}{G:Nat}{x:Ex}{A:Option Addr}{c:Nat}{D:Nat->Prop}(C:pb<w.heap.size)(hb:But pb w w5)(H:PI w5 pb v ts G)(I:FoD w5 D (slice A (flen x.2) c) x.2)(B:∀ b,D b->w.heap.size<b/\b<w5.heap.size) : RP pb v ts (.ok x G) w (.returned (.agg #[int i64 x.1.1,int i64 x.1.2,slice A (flen x.2) c])) (((w5.setCell ⟨w.heap.size,0,none⟩ (int i64 x.1.1)).setCell ⟨w.heap.size,1,none⟩ (int i64 x.1.2)).setCell ⟨w.heap.size,2,none⟩ (slice A (flen x.2) c)):=by
 refine ⟨((hb.new (p:=⟨w.heap.size,0,none⟩) (zn _) _).new (p:=⟨w.heap.size,1,none⟩) (zn _) _).new (p:=⟨w.heap.size,2,none⟩) (zn _) _,((H.far (p:=⟨w.heap.size,0,none⟩) C _).far (p:=⟨w.heap.size,1,none⟩) C _).far (p:=⟨w.heap.size,2,none⟩) C _,A,c,rfl,?_⟩;refine I.keep (λb h=>⟨by have:=(B b h).1;omega,by have:=(B b h).2;simp [World.setCell];omega⟩) (λb h=>?_);have F:b≠w.heap.size:=by have:=(B b h).1;omega
 rw [zg _ _ _ _ F,zg _ _ _ _ F,zg _ _ _ _ F]
theorem Zam (w:World):(zeroValue 3).run prog w=.ok (int i64 0) w:=by kernel_rfl
theorem Z7H (n:Nat)(hn:lft n)(g:FuncId)(bR:∀ (w:World) (args:Array Value),(callFunc g args).run prog w=.ok (.enter g args) w)(pb:Nat)(v:Value)(ts:List Tok)(k:Nat)(hk:k<=ts.length)(R:∀ k',k<=k'->k'<=ts.length->RC (n+1) g pb v ts k') : ∃ o:Out,Rd n none (txt ts k) (o.res ts)/\okK ts k o/\∀ (w:World) (r:Nat),PI w pb v ts k->SMap w r (Zbm n)->r≠pb -> Calls prog 218 #[.pointer (some ⟨pb,0,none⟩),.func (.func g) #[.pointer (some ⟨pb,0,none⟩)] #[],.map (some r)] w (RP pb v ts o w):=by
 have N:n≠0/\n≠3/\n<=5:=by unfold lft at hn;omega
 obtain ⟨o0,bc,M,f⟩:=R k (zn _) hk;cases o0 with
 | no k0 =>refine ⟨.no k0,Zgf N.1 N.2.1 N.2.2 bc,M,?_⟩;intro w r h T I;have J:Below w.heap.size w (w.alloc (.cells #[int i64 0,int i64 0,slice none 0 0] 63)):=(zr _ _).alloc (zn _) _;have Y:=zh (h.on J);have d:=zh f;have Z:=zh J;clear h f R J;go_enter func218,ntmps218;go_wp2_with fail;refine (d.out _ Y.out).mono ?_;rintro e D ⟨hb,rfl⟩;exact ⟨rfl,(But.of_below Z.out).trans hb,rfl⟩
 | ok e0 k0 =>
  obtain ⟨o,bg,V⟩:=ZeD ts n (ts.length - k0) k0 e0 (zn _) M.2 (λk' h1 O=>by obtain ⟨o,h3,h4,_⟩:=R k' (by have:=M.1;omega) O;exact ⟨o,h3,h4⟩);have ba:okK ts k o:=by
   have:=M.1;cases o with
   | ok e' k'=>exact ⟨by have:=V.1;omega,V.2⟩
   | no k'=>exact ⟨by have:=V.1;omega,V.2⟩
  refine ⟨o,Zj5 N.1 N.2.1 N.2.2 bc bg,ba,?_⟩;intro w r h T I;have J:Below w.heap.size w (w.alloc (.cells #[int i64 0,int i64 0,slice none 0 0] 63)):=(zr _ _).alloc (zn _) _;have r1:RBox w #[int i64 0,int i64 0,slice none 0 0] 63 (w.alloc (.cells #[int i64 0,int i64 0,slice none 0 0] 63)):=za w _;have j:=T.on (J.block r T.lt);have bJ:=T.lt;have Y:=zh (h.on J);have L:=h.lt;have d:=zh f;have Z:=zh J;have R1:=zh r1;have S1:=zh j;have HG:=zh R;have bn:=zh bg;have bj:=zh ba;have bB:=M.1;have bO:=M.2;clear h f R J r1 j T bg ba V bc M;go_enter func218,ntmps218;go_wp2_with fail;refine (d.out _ Y.out).mono ?_;rintro e D ⟨hb,O,A,c,rfl,hF⟩;have r2:RBox w #[int i64 0,int i64 0,slice none 0 0] 63 D:=(hb.block _ R1.out.lt (by omega)).trans R1.out;have S:SMap D r (Zbm n):=S1.out.on (hb.block r S1.out.lt I);have bz:But pb w D:=(But.of_below Z.out).trans hb;have bp:FoD D (λb=>w.heap.size<b/\b<D.heap.size) (slice A (flen e0.2) c) e0.2:=hF.keep (λb hb=>⟨by have:=hb.1;simp at this;omega,hb.2⟩) (λ_ _=>rfl);have I3:Z4w w pb n r D.heap.size e0 A c (D.alloc (.cells #[int i64 e0.1.1,int i64 e0.1.2,slice A (flen e0.2) c] 63)):=by have ha:Below D.heap.size D (D.alloc (.cells #[int i64 e0.1.1,int i64 e0.1.2,slice A (flen e0.2) c] 63)):=(zr _ _).alloc (zn _) _;exact ⟨bz.on ha,r2.on ha,za D _,bp.keep (λb hb=>⟨hb.1,by have:=hb.2;omega,by have:=hb.2;simp;omega⟩) (λb hb=>ha.block b hb.2),S.on (ha.block r S.lt)⟩
  have P3:PI (D.alloc (.cells #[int i64 e0.1.1,int i64 e0.1.2,slice A (flen e0.2) c] 63)) pb v ts k0:=O.on ((zr _ _).alloc (zn _) _);have I4:=zh I3;have P4:=zh P3;have bG:w.heap.size<D.heap.size:=r2.lt;clear hb O hF r2 S bz bp I3 P3 Y d Z R1 S1;go_wp2_with fail;generalize D.heap.size=F at *
  go_loopw [] (λwr=>∃ (B:Nat) (C:Ex) (A:Option Addr) (c:Nat),k<B/\PI wr pb v ts B/\Z4w w pb n r F C A c wr/\Rd n (some C) (txt ts B) (o.res ts)) (λwr=>ts.length - Zbs pb wr)
  case atStart=>exact ⟨k0,e0,A,c,bB,P4.out,I4.out,bn.out⟩
  case round =>
   obtain ⟨B,C,m,c1,bP,l,hI,hR⟩:=hrel;have HP:=zh l;have HI:=zh hI;have HR:=zh hR;have bD:=l.2.2.1;have bL:=l.2.2.2.1;have bN:=Z7G;clear l hI hR I4 P4 bn;go_wp2_with fail;refine (Z2t _ pb v ts B HP.out).mono ?_;rintro e w5 ⟨rfl,bd⟩;rw [tokV];have U:=zh (HP.out.on bd);have G:=zh (HI.out.but (But.of_below bd) L (by omega) I);clear bd HI;by_cases h0:Px.opAt n (nxt ts B)=0
   · have hlk:(Instr.lookup 253 (.map (some r)) (.string (mk (nxt ts B))) true).run prog w5=.ok (.tuple #[int i64 0,.bool false]) w5 := Z4b underlying253 underlying9 G.out.2.2.2.2 (by rw [Zew n hn,zp h0]) (Zam w5) true;obtain ⟨q0,q1,q2⟩:=G.out.cell;have z0:=G.out.2.1.cell 0 _ rfl;have z1:=G.out.2.1.cell 1 _ rfl;have z2:=G.out.2.1.cell 2 _ rfl;have y0:=G.out.2.1.free 0;have y1:=G.out.2.1.free 1;have y2:=G.out.2.1.free 2;have X:=zh h0;clear h0;go_wp2_with fail;have bb:=Ziu (ZbF HR.out (Zak C X.out)) bD bj.out;subst bb;refine bodyPost_ret (v:=.agg #[int i64 C.1.1,int i64 C.1.2,slice m (flen C.2) c1]) (by simp [results,results218,go_sem,z0,z1,z2]) rfl ?_;exact Z5t L G.out.1 U.out G.out.2.2.2.1 (λb h=>⟨h.1,h.2.2⟩)
   · have bk:=op_lt h0;have hlk:(Instr.lookup 253 (.map (some r)) (.string (mk (nxt ts B))) true).run prog w5=.ok (.tuple #[int i64 (Px.opAt n (nxt ts B)),.bool true]) w5 := Z4a underlying253 underlying9 G.out.2.2.2.2 (by rw [Zew n hn,zf h0]) true;obtain ⟨op,bf⟩:∃ op,op=Px.opAt n (nxt ts B):=⟨_,rfl⟩
     rw [<- bf] at hlk;have p0:=U.out.cell1;have p1:=U.out.free 1;have X:=zh h0;have bH:=zh bf;clear h0 bf;obtain ⟨o2,bt,y,bu⟩:=HG.out (B+1) (by omega) (by omega);have br:=zh bu;have bq:=zh bt;clear bu bt;go_upto_region 6 with fail;have P6:PI (w5.setCell ⟨pb,1,none⟩ (int i64 ((B:Int)+1))) pb v ts (B+1):=by have:=U.out.set (B+1) (by omega);rwa [show (((B+1:Nat)):Int)=(B:Int)+1 by omega] at this
     have I6:Z4w w pb n r F C m c1 (w5.setCell ⟨pb,1,none⟩ (int i64 ((B:Int)+1))):=G.out.but ((But.refl _ _).set (p:=⟨pb,1,none⟩) rfl _) L (by omega) I;clear U G p0 p1 hlk;generalize w5.setCell ⟨pb,1,none⟩ (int i64 ((B:Int)+1))=w6 at *
     have P7:=P6.drew;have H:Z4w w pb n r F C m c1 w6.drew:=I6.but (But.refl _ _).drew L (by omega) I;obtain ⟨q0,q1,q2⟩:=H.cell;clear P6 I6;have be:F≠pb:=by omega
     cases o2 with
     | no k2 =>
      have bb:=Ziv (ZbF HR.out (by rw [Z1e bk];exact Z9i X.out bq.out)) y.2 bj.out;subst bb;obtain ⟨s0,j,S,s3,s4,s5⟩:=H.six;go_region_dies
      all_goals (refine (br.out _ P7).mono ?_;rintro e w' ⟨hb,rfl⟩;exact ⟨rfl,H.1.trans hb,rfl⟩)
     | ok e2 k2 =>
      obtain ⟨s0,j,S,s3,s4,s5⟩:=H.six;have bM:=y.1;have bF:=y.2;obtain ⟨o3,q,bC⟩:=ZeD ts n (ts.length - k2) k2 (Z2f op C e2) (zn _) bF (λk' h1 O=>by obtain ⟨o,h3,h4,_⟩:=HG.out k' (by omega) O;exact ⟨o,h3,h4⟩);have bs:Rd n (some (Z2f op C e2)) (txt ts k2) (o.res ts):=by have h5:=Zdp (e:=C) X.out bq.out (by rw [bH.out] at q;exact q);rw [<- Z1e bk] at h5;rw [ZbF HR.out h5];exact q
      have bI:=zh bs;clear bs q bC;go_region_with (first | (refine (br.out _ P7).mono ?_;rintro e w' ⟨hb,bA,A2,c2,rfl,bK⟩;obtain ⟨x0,x1,x2,x3,x4,x5⟩:=(H.but hb L be I).six;have bQ:=(Array.getElem?_eq_some_iff.1 (H.but hb L be I).2.2.1).1))
      all_goals
       have bm:PI ((((w'.setCell ⟨F,0,none⟩ (int i64 op)).setCell ⟨F,1,none⟩ (int i64 0)).setCell ⟨F,2,none⟩ (slice (some ⟨w'.heap.size,0,none⟩) 2 2)).alloc (.cells #[int i64 C.1.1,int i64 C.1.2,slice m (flen C.2) c1,int i64 e2.1.1,int i64 e2.1.2,slice A2 (flen e2.2) c2] 63)) pb v ts k2 := (((bA.far (p:=⟨F,0,none⟩) (by show pb<F;omega) _).far (p:=⟨F,1,none⟩) (by show pb<F;omega) _).far (p:=⟨F,2,none⟩) (by show pb<F;omega) _).on ((zr _ _).alloc (zn _) _);have bE:=(H.but hb L be I).next (op:=op) (lo:=w6.drew.heap.size) bJ bG (zs H.2.2.1) bK;have bv:∃ (B:Nat) (C:Ex) (A:Option Addr) (c:Nat),k<B/\PI _ pb v ts B/\Z4w w pb n r F C A c _/\Rd n (some C) (txt ts B) (o.res ts):=⟨k2,Z2f op C e2,_,_,by omega,bm,bE,bI.out⟩
       have bh:=Z59 bm;have bx:=Z59 HP.out;go_roundw
      case rel=>exact ⟨_,_,_,_,_,_,_,_,_,_,_,_,_,_,_,_,_,_,_,_,_,_,_,_,_,_,bv,rfl⟩
      case measure=>rw [bh,bx];omega
      case rel=>exact ⟨_,_,_,_,_,_,_,_,_,_,_,_,_,_,_,_,_,_,_,_,_,_,_,_,_,_,bv,rfl⟩
      case measure=>rw [bh,bx];omega
end
section
open Go.RowKit Lx Px
theorem Z0E {B:Nat}{a w:World}(h:Below B a w){r:Nat}(C:B<=r)(o:Obj):Below B a (w.putObj r o) := ⟨h.os,h.tape,h.output,by simp [World.putObj];exact h.size,λk hk=>(zQ (by omega)).trans (h.block k hk)⟩
theorem Z2H {w:World}{r:Nat}{o B:Obj}(h:w.heap[r]?=some o):(w.putObj r B).heap[r]?=some B:=by
 have:=(zs h)
 simp [World.putObj,this]
theorem Z9m (pb:Nat)(v:Value)(ts:List Tok)(k:Nat)(hk:k<=ts.length)(F:∀ k',k<=k'->k'<=ts.length->RC 6 307 pb v ts k'):RC 5 299 pb v ts k:=by
 obtain ⟨o,f,X,S⟩:=Z7H 5 (by unfold lft;omega) 307 (λ_ _=>rfl) pb v ts k hk F;refine ⟨o,f,X,λw h=>?_⟩;have hmf:∀ (fn:Fn) (first cap:Array Value) (w:World),(Instr.makeFunc fn first cap).run prog w=.ok (.func fn first cap) w:=λ_ _ _ _=>rfl;have ba:=@run_makeMap prog;have j:=h.lt;have O:Below w.heap.size w (w.alloc (.cells #[int i64 0,int i64 0,slice none 0 0] 63)):=(zr _ _).alloc (zn _) _;have T:RBox w #[int i64 0,int i64 0,slice none 0 0] 63 (w.alloc (.cells #[int i64 0,int i64 0,slice none 0 0] 63)):=za w _;have M:=O.alloc (by simp) (.map #[] 0);have C:=SMap.new (w.alloc (.cells #[int i64 0,int i64 0,slice none 0 0] 63));have l:(w.alloc (.cells #[int i64 0,int i64 0,slice none 0 0] 63)).heap.size=w.heap.size+1:=by simp
 rw [l] at C;have u1:(Instr.mapUpdate 253 (.map (some (w.heap.size+1))) (.string ⟨#[42]⟩) (int i64 6)).run prog ((w.alloc (.cells #[int i64 0,int i64 0,slice none 0 0] 63)).alloc (.map #[] 0))=.ok () (((w.alloc (.cells #[int i64 0,int i64 0,slice none 0 0] 63)).alloc (.map #[] 0)).putObj (w.heap.size+1) (.map (esS [([42],6)] 0).toArray 1)) := Z0C (t:=[42]) underlying253 underlying9 C (by decide) 6;have D:SMap (((w.alloc (.cells #[int i64 0,int i64 0,slice none 0 0] 63)).alloc (.map #[] 0)).putObj (w.heap.size+1) (.map (esS [([42],6)] 0).toArray 1)) (w.heap.size+1) [([42],6)]:=Z2H C;have L:Below w.heap.size w (((w.alloc (.cells #[int i64 0,int i64 0,slice none 0 0] 63)).alloc (.map #[] 0)).putObj (w.heap.size+1) (.map (esS [([42],6)] 0).toArray 1)):=Z0E M (by omega) _;have u2:(Instr.mapUpdate 253 (.map (some (w.heap.size+1))) (.string ⟨#[47]⟩) (int i64 7)).run prog (((w.alloc (.cells #[int i64 0,int i64 0,slice none 0 0] 63)).alloc (.map #[] 0)).putObj (w.heap.size+1) (.map (esS [([42],6)] 0).toArray 1))=.ok () ((((w.alloc (.cells #[int i64 0,int i64 0,slice none 0 0] 63)).alloc (.map #[] 0)).putObj (w.heap.size+1) (.map (esS [([42],6)] 0).toArray 1)).putObj (w.heap.size+1) (.map (esS [([42],6),([47],7)] 0).toArray 2)) := Z0C (t:=[47]) underlying253 underlying9 D (by decide) 7;have G:SMap ((((w.alloc (.cells #[int i64 0,int i64 0,slice none 0 0] 63)).alloc (.map #[] 0)).putObj (w.heap.size+1) (.map (esS [([42],6)] 0).toArray 1)).putObj (w.heap.size+1) (.map (esS [([42],6),([47],7)] 0).toArray 2)) (w.heap.size+1) [([42],6),([47],7)]:=Z2H D;have b4:Below w.heap.size w ((((w.alloc (.cells #[int i64 0,int i64 0,slice none 0 0] 63)).alloc (.map #[] 0)).putObj (w.heap.size+1) (.map (esS [([42],6)] 0).toArray 1)).putObj (w.heap.size+1) (.map (esS [([42],6),([47],7)] 0).toArray 2)):=Z0E L (by omega) _;have H:RBox w #[int i64 0,int i64 0,slice none 0 0] 63 ((((w.alloc (.cells #[int i64 0,int i64 0,slice none 0 0] 63)).alloc (.map #[] 0)).putObj (w.heap.size+1) (.map (esS [([42],6)] 0).toArray 1)).putObj (w.heap.size+1) (.map (esS [([42],6),([47],7)] 0).toArray 2)):=by show ((((w.alloc (.cells #[int i64 0,int i64 0,slice none 0 0] 63)).alloc (.map #[] 0)).putObj (w.heap.size+1) (.map (esS [([42],6)] 0).toArray 1)).putObj (w.heap.size+1) (.map (esS [([42],6),([47],7)] 0).toArray 2)).heap[w.heap.size]?=_;rw [zQ (by omega),zQ (by omega),Below.heap_alloc _ _ _ (by simp)];exact T
 have J:PI ((((w.alloc (.cells #[int i64 0,int i64 0,slice none 0 0] 63)).alloc (.map #[] 0)).putObj (w.heap.size+1) (.map (esS [([42],6)] 0).toArray 1)).putObj (w.heap.size+1) (.map (esS [([42],6),([47],7)] 0).toArray 2)) pb v ts k:=by have hx:Below (pb+1) w ((((w.alloc (.cells #[int i64 0,int i64 0,slice none 0 0] 63)).alloc (.map #[] 0)).putObj (w.heap.size+1) (.map (esS [([42],6)] 0).toArray 1)).putObj (w.heap.size+1) (.map (esS [([42],6),([47],7)] 0).toArray 2)):=b4.mono (by omega);exact ⟨(hx.block _ (by omega)).trans h.1,h.2.1.below (hx.mono (by omega)),h.2.2.1,h.2.2.2.1,h.2.2.2.2.1,h.2.2.2.2.2.on (hx.mono (by omega))⟩
 have hs:w.heap.size+2=((((w.alloc (.cells #[int i64 0,int i64 0,slice none 0 0] 63)).alloc (.map #[] 0)).putObj (w.heap.size+1) (.map (esS [([42],6)] 0).toArray 1)).putObj (w.heap.size+1) (.map (esS [([42],6),([47],7)] 0).toArray 2)).heap.size:=by simp
 have U:=zh b4;have m:=zh G;have N:=zh H;have HP:=zh J;have r:=zh S;clear S F h O T M C L D b4 G H J;go_enter func299,ntmps299;go_wp2_with fail;generalize ((((w.alloc (.cells #[int i64 0,int i64 0,slice none 0 0] 63)).alloc (.map #[] 0)).putObj (w.heap.size+1) (.map (esS [([42],6)] 0).toArray 1)).putObj (w.heap.size+1) (.map (esS [([42],6),([47],7)] 0).toArray 2))=Y at *
 refine (r.out Y (w.heap.size+1) HP.out m.out (by omega)).mono ?_;cases o with
 | no k2 =>rintro e w' ⟨hb,rfl⟩;exact ⟨rfl,(But.of_below U.out).trans hb,rfl⟩
 | ok x k2 =>rintro e w' ⟨hb,R,A,c,rfl,I⟩;have B:RBox w #[int i64 0,int i64 0,slice none 0 0] 63 w':=(hb.block _ N.out.lt (by omega)).trans N.out;have q:=B.cell 0 _ rfl;have V:=B.cell 1 _ rfl;have y:=B.cell 2 _ rfl;have y0:=B.free 0;have y1:=B.free 1;have y2:=B.free 2;have Z:=zh R;have d:=zh I;have g:=zh hb;clear R I hb B;go_wp2_with fail;refine bodyPost_ret (v:=.agg #[int i64 x.1.1,int i64 x.1.2,slice A (flen x.2) c]) (by simp [results,results299,go_sem,q,V,y]) rfl ?_;exact Z5t j ((But.of_below U.out).trans g.out) Z.out d.out (λb h=>⟨by have:=h.1;omega,h.2⟩)
theorem Zph (pb:Nat)(v:Value)(ts:List Tok)(k:Nat)(hk:k<=ts.length)(F:∀ k',k<=k'->k'<=ts.length->RC 5 299 pb v ts k'):RC 4 283 pb v ts k:=by
 obtain ⟨o,f,X,S⟩:=Z7H 4 (by unfold lft;omega) 299 (λ_ _=>rfl) pb v ts k hk F;refine ⟨o,f,X,λw h=>?_⟩;have hmf:∀ (fn:Fn) (first cap:Array Value) (w:World),(Instr.makeFunc fn first cap).run prog w=.ok (.func fn first cap) w:=λ_ _ _ _=>rfl;have ba:=@run_makeMap prog;have j:=h.lt;have O:Below w.heap.size w (w.alloc (.cells #[int i64 0,int i64 0,slice none 0 0] 63)):=(zr _ _).alloc (zn _) _;have T:RBox w #[int i64 0,int i64 0,slice none 0 0] 63 (w.alloc (.cells #[int i64 0,int i64 0,slice none 0 0] 63)):=za w _;have M:=O.alloc (by simp) (.map #[] 0);have C:=SMap.new (w.alloc (.cells #[int i64 0,int i64 0,slice none 0 0] 63));have l:(w.alloc (.cells #[int i64 0,int i64 0,slice none 0 0] 63)).heap.size=w.heap.size+1:=by simp
 rw [l] at C;have u1:(Instr.mapUpdate 253 (.map (some (w.heap.size+1))) (.string ⟨#[43]⟩) (int i64 4)).run prog ((w.alloc (.cells #[int i64 0,int i64 0,slice none 0 0] 63)).alloc (.map #[] 0))=.ok () (((w.alloc (.cells #[int i64 0,int i64 0,slice none 0 0] 63)).alloc (.map #[] 0)).putObj (w.heap.size+1) (.map (esS [([43],4)] 0).toArray 1)) := Z0C (t:=[43]) underlying253 underlying9 C (by decide) 4;have D:SMap (((w.alloc (.cells #[int i64 0,int i64 0,slice none 0 0] 63)).alloc (.map #[] 0)).putObj (w.heap.size+1) (.map (esS [([43],4)] 0).toArray 1)) (w.heap.size+1) [([43],4)]:=Z2H C;have L:Below w.heap.size w (((w.alloc (.cells #[int i64 0,int i64 0,slice none 0 0] 63)).alloc (.map #[] 0)).putObj (w.heap.size+1) (.map (esS [([43],4)] 0).toArray 1)):=Z0E M (by omega) _;have u2:(Instr.mapUpdate 253 (.map (some (w.heap.size+1))) (.string ⟨#[45]⟩) (int i64 5)).run prog (((w.alloc (.cells #[int i64 0,int i64 0,slice none 0 0] 63)).alloc (.map #[] 0)).putObj (w.heap.size+1) (.map (esS [([43],4)] 0).toArray 1))=.ok () ((((w.alloc (.cells #[int i64 0,int i64 0,slice none 0 0] 63)).alloc (.map #[] 0)).putObj (w.heap.size+1) (.map (esS [([43],4)] 0).toArray 1)).putObj (w.heap.size+1) (.map (esS [([43],4),([45],5)] 0).toArray 2)) := Z0C (t:=[45]) underlying253 underlying9 D (by decide) 5;have G:SMap ((((w.alloc (.cells #[int i64 0,int i64 0,slice none 0 0] 63)).alloc (.map #[] 0)).putObj (w.heap.size+1) (.map (esS [([43],4)] 0).toArray 1)).putObj (w.heap.size+1) (.map (esS [([43],4),([45],5)] 0).toArray 2)) (w.heap.size+1) [([43],4),([45],5)]:=Z2H D;have b4:Below w.heap.size w ((((w.alloc (.cells #[int i64 0,int i64 0,slice none 0 0] 63)).alloc (.map #[] 0)).putObj (w.heap.size+1) (.map (esS [([43],4)] 0).toArray 1)).putObj (w.heap.size+1) (.map (esS [([43],4),([45],5)] 0).toArray 2)):=Z0E L (by omega) _;have H:RBox w #[int i64 0,int i64 0,slice none 0 0] 63 ((((w.alloc (.cells #[int i64 0,int i64 0,slice none 0 0] 63)).alloc (.map #[] 0)).putObj (w.heap.size+1) (.map (esS [([43],4)] 0).toArray 1)).putObj (w.heap.size+1) (.map (esS [([43],4),([45],5)] 0).toArray 2)):=by show ((((w.alloc (.cells #[int i64 0,int i64 0,slice none 0 0] 63)).alloc (.map #[] 0)).putObj (w.heap.size+1) (.map (esS [([43],4)] 0).toArray 1)).putObj (w.heap.size+1) (.map (esS [([43],4),([45],5)] 0).toArray 2)).heap[w.heap.size]?=_;rw [zQ (by omega),zQ (by omega),Below.heap_alloc _ _ _ (by simp)];exact T
 have J:PI ((((w.alloc (.cells #[int i64 0,int i64 0,slice none 0 0] 63)).alloc (.map #[] 0)).putObj (w.heap.size+1) (.map (esS [([43],4)] 0).toArray 1)).putObj (w.heap.size+1) (.map (esS [([43],4),([45],5)] 0).toArray 2)) pb v ts k:=by have hx:Below (pb+1) w ((((w.alloc (.cells #[int i64 0,int i64 0,slice none 0 0] 63)).alloc (.map #[] 0)).putObj (w.heap.size+1) (.map (esS [([43],4)] 0).toArray 1)).putObj (w.heap.size+1) (.map (esS [([43],4),([45],5)] 0).toArray 2)):=b4.mono (by omega);exact ⟨(hx.block _ (by omega)).trans h.1,h.2.1.below (hx.mono (by omega)),h.2.2.1,h.2.2.2.1,h.2.2.2.2.1,h.2.2.2.2.2.on (hx.mono (by omega))⟩
 have hs:w.heap.size+2=((((w.alloc (.cells #[int i64 0,int i64 0,slice none 0 0] 63)).alloc (.map #[] 0)).putObj (w.heap.size+1) (.map (esS [([43],4)] 0).toArray 1)).putObj (w.heap.size+1) (.map (esS [([43],4),([45],5)] 0).toArray 2)).heap.size:=by simp
 have U:=zh b4;have m:=zh G;have N:=zh H;have HP:=zh J;have r:=zh S;clear S F h O T M C L D b4 G H J;go_enter func283,ntmps283;go_wp2_with fail;generalize ((((w.alloc (.cells #[int i64 0,int i64 0,slice none 0 0] 63)).alloc (.map #[] 0)).putObj (w.heap.size+1) (.map (esS [([43],4)] 0).toArray 1)).putObj (w.heap.size+1) (.map (esS [([43],4),([45],5)] 0).toArray 2))=Y at *
 refine (r.out Y (w.heap.size+1) HP.out m.out (by omega)).mono ?_;cases o with
 | no k2 =>rintro e w' ⟨hb,rfl⟩;exact ⟨rfl,(But.of_below U.out).trans hb,rfl⟩
 | ok x k2 =>rintro e w' ⟨hb,R,A,c,rfl,I⟩;have B:RBox w #[int i64 0,int i64 0,slice none 0 0] 63 w':=(hb.block _ N.out.lt (by omega)).trans N.out;have q:=B.cell 0 _ rfl;have V:=B.cell 1 _ rfl;have y:=B.cell 2 _ rfl;have y0:=B.free 0;have y1:=B.free 1;have y2:=B.free 2;have Z:=zh R;have d:=zh I;have g:=zh hb;clear R I hb B;go_wp2_with fail;refine bodyPost_ret (v:=.agg #[int i64 x.1.1,int i64 x.1.2,slice A (flen x.2) c]) (by simp [results,results283,go_sem,q,V,y]) rfl ?_;exact Z5t j ((But.of_below U.out).trans g.out) Z.out d.out (λb h=>⟨by have:=h.1;omega,h.2⟩)
theorem Zpi (pb:Nat)(v:Value)(ts:List Tok)(k:Nat)(hk:k<=ts.length)(F:∀ k',k<=k'->k'<=ts.length->RC 3 257 pb v ts k'):RC 2 219 pb v ts k:=by
 obtain ⟨o,d,V,R⟩:=Z7H 2 (by unfold lft;omega) 257 (λ_ _=>rfl) pb v ts k hk F;refine ⟨o,d,V,λw h=>?_⟩;have hmf:∀ (fn:Fn) (first cap:Array Value) (w:World),(Instr.makeFunc fn first cap).run prog w=.ok (.func fn first cap) w:=λ_ _ _ _=>rfl;have ba:=@run_makeMap prog;have g:=h.lt;have M:Below w.heap.size w (w.alloc (.cells #[int i64 0,int i64 0,slice none 0 0] 63)):=(zr _ _).alloc (zn _) _;have S:RBox w #[int i64 0,int i64 0,slice none 0 0] 63 (w.alloc (.cells #[int i64 0,int i64 0,slice none 0 0] 63)):=za w _;have J:=M.alloc (by simp) (.map #[] 0);have C:=SMap.new (w.alloc (.cells #[int i64 0,int i64 0,slice none 0 0] 63));have j:(w.alloc (.cells #[int i64 0,int i64 0,slice none 0 0] 63)).heap.size=w.heap.size+1:=by simp
 rw [j] at C;have u1:(Instr.mapUpdate 253 (.map (some (w.heap.size+1))) (.string ⟨#[97,110,100]⟩) (int i64 13)).run prog ((w.alloc (.cells #[int i64 0,int i64 0,slice none 0 0] 63)).alloc (.map #[] 0))=.ok () (((w.alloc (.cells #[int i64 0,int i64 0,slice none 0 0] 63)).alloc (.map #[] 0)).putObj (w.heap.size+1) (.map (esS [([97,110,100],13)] 0).toArray 1)) := Z0C (t:=[97,110,100]) underlying253 underlying9 C (by decide) 13;have O:SMap (((w.alloc (.cells #[int i64 0,int i64 0,slice none 0 0] 63)).alloc (.map #[] 0)).putObj (w.heap.size+1) (.map (esS [([97,110,100],13)] 0).toArray 1)) (w.heap.size+1) [([97,110,100],13)]:=Z2H C;have D:Below w.heap.size w (((w.alloc (.cells #[int i64 0,int i64 0,slice none 0 0] 63)).alloc (.map #[] 0)).putObj (w.heap.size+1) (.map (esS [([97,110,100],13)] 0).toArray 1)):=Z0E J (by omega) _;have G:RBox w #[int i64 0,int i64 0,slice none 0 0] 63 (((w.alloc (.cells #[int i64 0,int i64 0,slice none 0 0] 63)).alloc (.map #[] 0)).putObj (w.heap.size+1) (.map (esS [([97,110,100],13)] 0).toArray 1)):=by show (((w.alloc (.cells #[int i64 0,int i64 0,slice none 0 0] 63)).alloc (.map #[] 0)).putObj (w.heap.size+1) (.map (esS [([97,110,100],13)] 0).toArray 1)).heap[w.heap.size]?=_;rw [zQ (by omega),Below.heap_alloc _ _ _ (by simp)];exact S
 have I:PI (((w.alloc (.cells #[int i64 0,int i64 0,slice none 0 0] 63)).alloc (.map #[] 0)).putObj (w.heap.size+1) (.map (esS [([97,110,100],13)] 0).toArray 1)) pb v ts k:=by have hx:Below (pb+1) w (((w.alloc (.cells #[int i64 0,int i64 0,slice none 0 0] 63)).alloc (.map #[] 0)).putObj (w.heap.size+1) (.map (esS [([97,110,100],13)] 0).toArray 1)):=D.mono (by omega);exact ⟨(hx.block _ (by omega)).trans h.1,h.2.1.below (hx.mono (by omega)),h.2.2.1,h.2.2.2.1,h.2.2.2.2.1,h.2.2.2.2.2.on (hx.mono (by omega))⟩
 have hs:w.heap.size+2=(((w.alloc (.cells #[int i64 0,int i64 0,slice none 0 0] 63)).alloc (.map #[] 0)).putObj (w.heap.size+1) (.map (esS [([97,110,100],13)] 0).toArray 1)).heap.size:=by simp
 have T:=zh D;have l:=zh O;have L:=zh G;have y:=zh I;have q:=zh R;clear R F h M S J C D O G I;go_enter func219,ntmps219;go_wp2_with fail;generalize (((w.alloc (.cells #[int i64 0,int i64 0,slice none 0 0] 63)).alloc (.map #[] 0)).putObj (w.heap.size+1) (.map (esS [([97,110,100],13)] 0).toArray 1))=X at *
 refine (q.out X (w.heap.size+1) y.out l.out (by omega)).mono ?_;cases o with
 | no k2 =>rintro e w' ⟨hb,rfl⟩;exact ⟨rfl,(But.of_below T.out).trans hb,rfl⟩
 | ok x k2 =>rintro e w' ⟨hb,N,A,c,rfl,H⟩;have B:RBox w #[int i64 0,int i64 0,slice none 0 0] 63 w':=(hb.block _ L.out.lt (by omega)).trans L.out;have m:=B.cell 0 _ rfl;have U:=B.cell 1 _ rfl;have r:=B.cell 2 _ rfl;have y0:=B.free 0;have y1:=B.free 1;have y2:=B.free 2;have Y:=zh N;have Z:=zh H;have f:=zh hb;clear N H hb B;go_wp2_with fail;refine bodyPost_ret (v:=.agg #[int i64 x.1.1,int i64 x.1.2,slice A (flen x.2) c]) (by simp [results,results219,go_sem,m,U,r]) rfl ?_;exact Z5t g ((But.of_below T.out).trans f.out) Y.out Z.out (λb h=>⟨by have:=h.1;omega,h.2⟩)
end
section
open Go.RowKit Lx Px
def Fx (w:World)(pb:Nat)(wx:World):Prop:=But pb w wx/\RBox w #[int i64 0,int i64 0,slice none 0 0] 63 wx/\pb<w.heap.size
theorem Fx.but {w:World}{pb:Nat}{C B:World}(h:Fx w pb C)(hb:But pb C B):Fx w pb B := ⟨h.1.trans hb,(hb.block _ h.2.1.lt (by have:=h.2.2;omega)).trans h.2.1,h.2.2⟩
theorem Fx.new {w:World}{pb:Nat}(h:pb<w.heap.size):Fx w pb (w.alloc (.cells #[int i64 0,int i64 0,slice none 0 0] 63)) := ⟨(But.refl _ _).alloc _,za w _,h⟩
theorem Fx.lt {w:World}{pb:Nat}{B:World}(h:Fx w pb B):w.heap.size<B.heap.size:=h.2.1.lt
theorem Fx.six {w:World}{pb:Nat}{B:World}(h:Fx w pb B):B.cell? ⟨w.heap.size,0,none⟩=some (int i64 0)/\B.cell? ⟨w.heap.size,1,none⟩=some (int i64 0)/\B.cell? ⟨w.heap.size,2,none⟩=some (slice none 0 0) /\ B.frozen? ⟨w.heap.size,0,none⟩=false/\B.frozen? ⟨w.heap.size,1,none⟩=false/\B.frozen? ⟨w.heap.size,2,none⟩=false := ⟨h.2.1.cell 0 _ rfl,h.2.1.cell 1 _ rfl,h.2.1.cell 2 _ rfl,h.2.1.free 0,h.2.1.free 1,h.2.1.free 2⟩
def Tr (w wx:World)(A:Option Addr)(c:Nat)(f:Fo):Prop:=FoD wx (λb=>w.heap.size<b/\b<wx.heap.size) (slice A (flen f) c) f
theorem Tr.but {w:World}{pb:Nat}{C B:World}{A:Option Addr}{c:Nat}{f:Fo}(h:Tr w C A c f)(hb:But pb C B)(D:pb<w.heap.size):Tr w B A c f := FoD.keep h (λb x=>⟨x.1,by have:=hb.size;have:=x.2;omega⟩) (λb x=>hb.block b x.2 (by have:=x.1;omega))
theorem Tr.of {w C B:World}{A:Option Addr}{c:Nat}{f:Fo}(h:FoD B (λb=>C.heap.size<=b/\b<B.heap.size) (slice A (flen f) c) f)(D:w.heap.size<C.heap.size):Tr w B A c f := FoD.keep h (λb x=>⟨by have:=x.1;omega,x.2⟩) (λ_ _=>rfl)
def Bx (w:World)(b:Nat)(x:Ex)(A:Option Addr)(c:Nat)(wx:World):Prop := wx.heap[b]?=some (.cells #[int i64 x.1.1,int i64 x.1.2,slice A (flen x.2) c] 63 (0,0))/\w.heap.size<b/\Tr w wx A c x.2
theorem Bx.but {w:World}{pb b:Nat}{x:Ex}{A:Option Addr}{c:Nat}{C B:World}(h:Bx w b x A c C)(hb:But pb C B)(D:pb<w.heap.size):Bx w b x A c B := ⟨(hb.block _ (zs h.1) (by have:=h.2.1;omega)).trans h.1,h.2.1,h.2.2.but hb D⟩
theorem Bx.three {w:World}{b:Nat}{x:Ex}{A:Option Addr}{c:Nat}{B:World}(h:Bx w b x A c B):B.cell? ⟨b,0,none⟩=some (int i64 x.1.1)/\B.cell? ⟨b,1,none⟩=some (int i64 x.1.2)/\B.cell? ⟨b,2,none⟩=some (slice A (flen x.2) c):=by
 refine ⟨?_,?_,?_⟩ <;> (rw [zc h.1];rfl)
theorem Bx.lt {w:World}{b:Nat}{x:Ex}{A:Option Addr}{c:Nat}{B:World}(h:Bx w b x A c B):b<B.heap.size:=(zs h.1)
theorem Bx.new {w B:World}{x:Ex}{A:Option Addr}{c:Nat}(h:Tr w B A c x.2)(C:w.heap.size<B.heap.size):Bx w B.heap.size x A c (B.alloc (.cells #[int i64 x.1.1,int i64 x.1.2,slice A (flen x.2) c] 63)) := ⟨za B _,C,FoD.keep h (λb y=>⟨y.1,by have:=y.2;simp;omega⟩) (λb y=>Below.heap_alloc _ _ _ y.2)⟩
theorem Z8p {w w':World}{pb:Nat}{v:Value}{ts:List Tok}{D:Nat}{x:Ex}{cs:Array Value}(h:Fx w pb w')(I:PI w' pb v ts D) (N:∀ X:World,(∀ b,w.heap.size<b->b<w'.heap.size->X.heap[b]?=w'.heap[b]?)->X.heap[w'.heap.size]?=some (.cells cs 63 (0,0))->X.heap.size=w'.heap.size+1->FoD X (λb=>w.heap.size<b/\b<X.heap.size) (slice (some ⟨w'.heap.size,0,none⟩) (flen x.2) (flen x.2)) x.2) : RP pb v ts (.ok x D) w (.returned (.agg #[int i64 x.1.1,int i64 x.1.2,slice (some ⟨w'.heap.size,0,none⟩) (flen x.2) (flen x.2)])) ((((w'.setCell ⟨w.heap.size,0,none⟩ (int i64 x.1.1)).setCell ⟨w.heap.size,1,none⟩ (int i64 x.1.2)).setCell ⟨w.heap.size,2,none⟩ (slice (some ⟨w'.heap.size,0,none⟩) (flen x.2) (flen x.2))).alloc (.cells cs 63)):=by
 obtain ⟨J,S,C⟩:=h;obtain ⟨W,B⟩:∃ W,W=((w'.setCell ⟨w.heap.size,0,none⟩ (int i64 x.1.1)).setCell ⟨w.heap.size,1,none⟩ (int i64 x.1.2)).setCell ⟨w.heap.size,2,none⟩ (slice (some ⟨w'.heap.size,0,none⟩) (flen x.2) (flen x.2)):=⟨_,rfl⟩
 have G:W.heap.size=w'.heap.size:=by rw [B,Zbu]
 have M:∀ k,k≠w.heap.size->W.heap[k]?=w'.heap[k]?:=λk hk=>by rw [B,Zbt hk]
 have L:But pb w W:=by rw [B];exact ((J.new (p:=⟨w.heap.size,0,none⟩) (zn _) _).new (p:=⟨w.heap.size,1,none⟩) (zn _) _).new (p:=⟨w.heap.size,2,none⟩) (zn _) _
 have R:PI W pb v ts D:=by rw [B];exact ((I.far (p:=⟨w.heap.size,0,none⟩) C _).far (p:=⟨w.heap.size,1,none⟩) C _).far (p:=⟨w.heap.size,2,none⟩) C _
 rw [<- B];have F:=za W (.cells cs 63);rw [G] at F;have O:(W.alloc (.cells cs 63)).heap.size=w'.heap.size+1:=by simp [G]
 have H:=N (W.alloc (.cells cs 63)) (λb hb1 hb2=>by rw [Below.heap_alloc _ _ _ (by omega),M b (by omega)]) F O;refine ⟨L.alloc _,R.on ((zr _ _).alloc (zn _) _),_,_,rfl,?_⟩;exact FoD.keep H (λb y=>⟨by have:=y.1;omega,y.2⟩) (λ_ _=>rfl)
theorem Tr.to {w w' X:World}{A:Option Addr}{c:Nat}{f:Fo}(h:Tr w w' A c f)(B:∀ b,w.heap.size<b->b<w'.heap.size->X.heap[b]?=w'.heap[b]?)(C:X.heap.size=w'.heap.size+1):FoD X (λb=>w.heap.size<b/\b<X.heap.size) (slice A (flen f) c) f := FoD.keep h (λb y=>⟨y.1,by have:=y.2;omega⟩) (λb y=>B b y.1 y.2)
theorem Z22 {ts:List Tok}{k:Nat}{t:Bytes}(h:nxt ts k≠t):(txt ts k).head?≠some t:=by
 by_cases hk:k<ts.length
 · rw [Z1e hk];simpa using h
 · rw [Zai ts k (by omega)];simp
theorem Z33 {ts:List Tok}{k:Nat}{t:Bytes}(h:nxt ts k=t)(B:t≠[]):k<ts.length:=by
 by_cases hk:k<ts.length
 · exact hk
 · rw [Z5A ts k hk] at h;exact absurd h.symm B
theorem op3_no {t:Bytes}(C:t≠[60])(B:t≠[61]):Px.opAt 3 t=0:=by simp [Px.opAt,C,B]
theorem Zbv (pb:Nat)(v:Value)(ts:List Tok)(k:Nat)(B:nxt ts k=kNot)(Y:∀ k',k<k'->k'<=ts.length->RC 3 257 pb v ts k'):RC 3 257 pb v ts k:=by
 have T:=Z33 B (by decide);obtain ⟨o,M,J,L⟩:=Y (k+1) (by omega) (by omega);have R:txt ts k=kNot::txt ts (k+1):=by rw [Z1e T,B]
 cases o with
 | no k2 =>refine ⟨.no k2,by rw [R];exact Zig M,⟨by have:=J.1;omega,J.2⟩,λw h=>?_⟩;have F:=zh (Fx.new h.lt);have H:=zh (h.on ((zr _ _).alloc (zn _) (.cells #[int i64 0,int i64 0,slice none 0 0] 63)));have V:=zh L;have S:=zh B;clear h L Y B R M;go_enter func257,ntmps257;go_wp2_with fail;refine (Z2y _ pb v ts k H.out T kNot S.out).mono ?_;rintro e m ⟨rfl,I,G⟩;have C:=zh (F.out.but G);have O:=zh I;clear I G H F;go_wp2_with fail;refine (V.out _ O.out).mono ?_;rintro e f ⟨N,rfl⟩;exact ⟨rfl,C.out.1.trans N,rfl⟩
 | ok x k2 =>refine ⟨.ok (oneE 15 x) k2,by rw [R];exact Zpn M,⟨by have:=J.1;omega,J.2⟩,λw h=>?_⟩;have F:=zh (Fx.new h.lt);have H:=zh (h.on ((zr _ _).alloc (zn _) (.cells #[int i64 0,int i64 0,slice none 0 0] 63)));have V:=zh L;have S:=zh B;have hlw:=h.lt;clear h L Y B R M;go_enter func257,ntmps257;go_wp2_with fail;refine (Z2y _ pb v ts k H.out T kNot S.out).mono ?_;rintro e m ⟨rfl,I,G⟩;have C:=zh (F.out.but G);have O:=zh I;clear I G H F;go_wp2_with fail;refine (V.out _ O.out).mono ?_;rintro e f ⟨N,g,A,c,rfl,d⟩;have T3:=zh (Tr.of d C.out.lt);have U:=zh (C.out.but N);have j:=zh g;obtain ⟨q,l,r,s3,y,s5⟩:=U.out.six;have Z:=U.out.lt;clear N g d C O;go_wp2_with fail;refine bodyPost_ret (v:=.agg #[int i64 15,int i64 0,slice (some ⟨f.heap.size,0,none⟩) 1 1]) (by simp [results,results257,go_sem,q,l,r,Z]) rfl ?_;exact Z8p (x:=oneE 15 x) U.out j.out (λX h1 h2 h3=>FoD.one (D:=λb=>w.heap.size<b/\b<X.heap.size) ⟨Z,by omega⟩ h2 (T3.out.to h1 h3) 1)
end
end Go.Proofs.YtnepkoepbapgeaaGreatDoor
