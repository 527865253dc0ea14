import Derived.Test.YtnepkoepbapgeaaGreatDoorQuoPlain
namespace Go.Proofs.YtnepkoepbapgeaaGreatDoor
open _root_.Go.Proofs.Tryz
open Value (int slice)
open IntKind (i64)
set_option maxHeartbeats 8000000
set_option maxRecDepth 100000
section
open Go.RowKit Lx Px
end
section
open Go.RowKit Lx Px
end
section
open Go.RowKit Lx Px
def Rh (w:World)(wx:World):Prop := wx.heap[w.heap.size]?=some (.cells #[int i64 0] 35 (0,0))/\wx.heap[w.heap.size+1]?=some (.cells #[int i64 0] 3 (0,0))/\Below w.heap.size w wx
theorem Rh.keep {w C B:World}(h:Rh w C)(hb:Below w.heap.size w B)(F:B.heap[w.heap.size]?=C.heap[w.heap.size]?)(D:B.heap[w.heap.size+1]?=C.heap[w.heap.size+1]?):Rh w B := ⟨F.trans h.1,D.trans h.2.1,hb⟩
theorem Rh.but {w B D:World}(h:Rh w B)(hb:But (w.heap.size+2) B D):Rh w D:=by
 obtain ⟨F,C,G⟩:=h;have H:w.heap.size+1<B.heap.size:=(zs C)
 exact ⟨(hb.block _ (by omega) (by omega)).trans F,(hb.block _ H (by omega)).trans C, G.trans ⟨hb.os,hb.tape,hb.output,hb.size,λk hk=>hb.block k (by omega) (by omega)⟩⟩
def RatesP (w:World)(a:AllR)(e:Ending)(w':World):Prop := Below w.heap.size w w'/\(match a with
  | .ok l=>∃ v,e=.returned (.tuple #[v,int i64 0,int i64 0])/\RtsV w' w'.heap.size v (l.map Rr.rt)
  | .err er ln=>∃ v,e=.returned (.tuple #[v,int i64 er,int i64 ln]))
theorem rh_new (w:World)(v:Value):Rh w (((w.alloc (.cells #[int i64 0] 35)).alloc (.cells #[int i64 0] 3)).alloc (.cells #[v,int i64 0] 174)) /\ (((w.alloc (.cells #[int i64 0] 35)).alloc (.cells #[int i64 0] 3)).alloc (.cells #[v,int i64 0] 174)).heap[w.heap.size+2]?=some (.cells #[v,int i64 0] 174 (0,0)):=by
 refine ⟨⟨?_,?_,(((zr _ _).alloc (zn _) _).alloc (by simp) _).alloc (by simp;omega) _⟩,?_⟩
 · rw [Below.heap_alloc _ _ _ (by simp;omega),Below.heap_alloc _ _ _ (by simp)];exact za w _
 · rw [Below.heap_alloc _ _ _ (by simp)];have:=za (w.alloc (.cells #[int i64 0] 35)) (.cells #[int i64 0] 3);simpa using this
 · have:=za ((w.alloc (.cells #[int i64 0] 35)).alloc (.cells #[int i64 0] 3)) (.cells #[v,int i64 0] 174);simpa using this
theorem PI.low {w w':World}{pb k:Nat}{v:Value}{ts:List Tok}(h:PI w pb v ts k)(hb:Below (pb+1) w w'):PI w' pb v ts k := ⟨(hb.block _ (by omega)).trans h.1,h.2.1.below (hb.mono (by omega)),h.2.2.1,h.2.2.2.1,h.2.2.2.2.1,h.2.2.2.2.2.on (hb.mono (by omega))⟩
theorem Rh.low {w C B:World}(h:Rh w C)(hb:Below (w.heap.size+3) C B):Rh w B := h.keep (h.2.2.trans (hb.mono (by omega))) (hb.block _ (by omega)) (hb.block _ (by omega))
theorem Zis {w B w':World}(h:Rh w B){er C:Int}(L:Set2 w.heap.size (w.heap.size+1) er C B w') : w'.heap[w.heap.size]?=some (.cells #[int i64 er] 35 (0,0))/\w'.heap[w.heap.size+1]?=some (.cells #[int i64 C] 3 (0,0))/\Below w.heap.size w w':=by
 obtain ⟨R,J,H⟩:=h;obtain ⟨O,N,D,F,G,M,I⟩:=L;have S:w.heap.size+1<B.heap.size:=(zs J)
 exact ⟨O,N,H.trans ⟨G,M,I,F,λk hk=>D k (by omega) (by omega) (by omega)⟩⟩
def RL (w:World)(tv:Value)(ts:List Tok)(ex:Nat->Out)(R:AllR)(v:Value)(wr:World):Prop := ∃ (k:Nat) (acc:List Rr),acc.length<=k/\PI wr (w.heap.size+2) tv ts k/\Rh w wr/\OwnR wr (w.heap.size+3) v (acc.map Rr.rt)/\Z27 ex ts (ts.length - k) k acc=R
theorem toL (l:Bytes):(mk l).toList=l:=by rw [ByteArray.toList_eq];rfl
theorem toL_eq (l:Bytes):((mk l).toList==l)=true:=by rw [toL];simp
theorem toL_ne {l m:Bytes}(h:l≠m):((mk l).toList==m)=false:=by rw [toL];exact beq_eq_false_iff_ne.2 h
theorem Zq8 (l:List Rr)(A:Option Addr)(c:Nat):Value.slice A (l.map Rr.rt).length c=slice A l.length c:=by rw [List.length_map]
theorem Zit (w:World)(v:Value)(ts:List Tok)(hS:Sl w w.heap.size v ts)(b4:ts.length<=1000000)(hK:Knd ts)(hM:Mx w w.heap.size) : Calls prog 83 #[v] w (RatesP w (allO (exOf ts) ts)):=by
 obtain ⟨S,c0,rfl,_⟩:=id hS;have bZ:=Z5g ts;have bU:=Znv (w.heap.size+2) (slice S ts.length c0) ts;generalize exOf ts=ex at *
 obtain ⟨bu,bS⟩:=rh_new w (slice S ts.length c0);have P3:PI (((w.alloc (.cells #[int i64 0] 35)).alloc (.cells #[int i64 0] 3)).alloc (.cells #[slice S ts.length c0,int i64 0] 174)) (w.heap.size+2) (slice S ts.length c0) ts 0 := ⟨bS,(hS.below bu.2.2).mono (by omega),Nat.zero_le _,b4,hK,by obtain ⟨m,h1,h2⟩:=hM.on bu.2.2;exact ⟨m,h1,by omega⟩⟩;have HW:=zh bu;have M:=zh P3;have bt:=zh bZ;have b0:=zh bU;have bP:∀ (er ln:Int) (w':World),Rh w w'->CallsD prog 119 #[.pointer (some ⟨w.heap.size,0,none⟩),.pointer (some ⟨w.heap.size+1,0,none⟩)] (.panicking [{ v:=.iface 177 (.agg #[int i64 er,int i64 ln]),recovered:=false }]) w' λe T G =>
  e=.returned (.tuple #[])/\T=.panicking [{ v:=.iface 177 (.agg #[int i64 er,int i64 ln]),recovered:=true }]/\G.heap[w.heap.size]?=some (.cells #[int i64 er] 35 (0,0))/\G.heap[w.heap.size+1]?=some (.cells #[int i64 ln] 3 (0,0))/\Below w.heap.size w G:=by
  intro er ln w' hw;refine (Z7B w.heap.size (w.heap.size+1) 0 0 er ln [] w' (by omega) hw.1 hw.2.1).mono ?_;rintro e T G ⟨rfl,rfl,hs⟩;exact ⟨rfl,rfl,Zis hw hs⟩
 have be:=zh bP;obtain ⟨R,B⟩:∃ R,allO ex ts=R:=⟨_,rfl⟩
 rw [B];have HR:=zh B;obtain ⟨i0,hi,bN,bH,bV⟩:=info_parts Tryz.infoRate;have hI:=zh hi;have bY:=zh bN;have bR:=zh bH;have bX:=zh bV;clear hi bN bH bV bu bS P3 hS hM hK bZ bU bP B;go_enter_defers func83,ntmps83;go_wp2_with fail;generalize ((w.alloc (.cells #[int i64 0] 35)).alloc (.cells #[int i64 0] 3)).alloc (.cells #[slice S ts.length c0,int i64 0] 174)=W3 at *
 go_loopw [2] (λv wr=>RL w (slice S ts.length c0) ts ex R v wr) (λ_ wr=>ts.length - Zbs (w.heap.size+2) wr)
 case atStart=>exact ⟨0,[],Nat.zero_le _,M.out,HW.out,OwnR.nil _ _,HR.out⟩
 case round =>
  obtain ⟨k,acc,cg,hP,hH,hO,bW⟩:=hrel;obtain ⟨A,c,rfl⟩:=hO.form;rw [Zq8] at hO |-
  have M:=zh hP;have y:=zh hH;have HO:=zh hO;have O:=zh bW;have bT:=M;have ce:=hP.2.2.1;have cb:=hP.2.2.2.1;have c1:=hP.cell1;have cd:=Z7G;have cf:=Zey;have cc:w.heap.size+1+1=w.heap.size+2:=rfl;clear hP hH hO bW;by_cases hlt:k<ts.length
  · have dl:decide ((k:Int)<(ts.length:Int))=true:=by simpa using hlt
    by_cases hl:acc.length=100/\nxt ts k=Z6H
    · have d1:((acc.length:Int)==100)=true:=by simp;omega
      have d2:=hl.2;have B:=Zct (ex:=ex) hlt hl;rw [O.out] at B;subst B;clear hl;have d3:((mk (nxt ts k)).toList==[114,97,116,101])=true:=by rw [d2];exact toL_eq Z6H
      clear d2;go_wp2_with fail;refine (Z2t _ _ _ ts k M.out).mono ?_;rintro e w1 ⟨rfl,U⟩;rw [tokV];have bQ:=zh (M.out.on U);have b3:=zh (y.out.but (But.of_below U));clear U M y HO;go_wp2_with fail;refine (Z2t _ _ _ ts k bQ.out).mono ?_;rintro e C ⟨rfl,b2⟩;rw [tokV];have b7:=zh (b3.out.but (But.of_below b2));clear b2 bQ b3;go_wp2_with fail;refine leaves_cons (f:=119) (args:=#[.pointer (some ⟨w.heap.size,0,none⟩),.pointer (some ⟨w.heap.size+1,0,none⟩)]) (by simp) (by simp [go_sem]) ?_;refine (be.out 2 (lnAt ts k) _ b7.out).mono ?_;rintro e T G ⟨rfl,rfl,z,L,N⟩;have I:G.cell? ⟨w.heap.size,0,none⟩=some (int i64 2):=by rw [zc z];rfl
      have H:G.cell? ⟨w.heap.size+1,0,none⟩=some (int i64 (lnAt ts k)):=by rw [zc L];rfl
      exact ⟨.tuple #[slice A acc.length c,int i64 2,int i64 (lnAt ts k)],by simp [results,results83,go_sem,I,H],N,_,rfl⟩
    · by_cases hl1:acc.length=100
      · have d1:((acc.length:Int)==100)=true:=by simp;omega
        have d3:((mk (nxt ts k)).toList==[114,97,116,101])=false:=toL_ne (λh=>hl ⟨hl1,h⟩);have d:=zh hl;clear hl hl1;go_wp2_with fail;refine (Z2t _ _ _ ts k M.out).mono ?_;rintro e q ⟨rfl,U⟩;rw [tokV];have br:=zh (M.out.on U);have l:=zh (y.out.but (But.of_below U));have bE:=zh (HO.out.but (But.of_below (pb:=w.heap.size+2) U) (by omega));clear U y HO;go_wp2_with fail;have hcall:=ZeB (w.heap.size+2) (slice S ts.length c0) ts ex b0.out k q br.out (Z4v ex ts k) rfl;refine hcall.mono ?_;cases hro:Z4v ex ts k with
        | no j =>
         have B:=Zcu (ex:=ex) hlt d.out hro;rw [O.out] at B;subst B;rintro e C ⟨hb,rfl⟩;have V:=l.out.but hb;refine leaves_cons (f:=119) (args:=#[.pointer (some ⟨w.heap.size,0,none⟩),.pointer (some ⟨w.heap.size+1,0,none⟩)]) (by simp) (by simp [go_sem]) ?_;refine (be.out 8 (Z3E ts j) _ V).mono ?_;rintro e T G ⟨rfl,rfl,z,L,N⟩;have I:G.cell? ⟨w.heap.size,0,none⟩=some (int i64 8):=by rw [zc z];rfl
         have H:G.cell? ⟨w.heap.size+1,0,none⟩=some (int i64 (Z3E ts j)):=by rw [zc L];rfl
         exact ⟨.tuple #[slice A acc.length c,int i64 8,int i64 (Z3E ts j)],by simp [results,results83,go_sem,I,H],N,_,rfl⟩
        | bad =>
         have B:=Za3 (ex:=ex) hlt d.out hro;rw [O.out] at B;subst B;rintro e C ⟨hb,rfl⟩;have V:=l.out.but hb;refine leaves_cons (f:=119) (args:=#[.pointer (some ⟨w.heap.size,0,none⟩),.pointer (some ⟨w.heap.size+1,0,none⟩)]) (by simp) (by simp [go_sem]) ?_;refine (be.out 1 (lnAt ts k) _ V).mono ?_;rintro e T G ⟨rfl,rfl,z,L,N⟩;have I:G.cell? ⟨w.heap.size,0,none⟩=some (int i64 1):=by rw [zc z];rfl
         have H:G.cell? ⟨w.heap.size+1,0,none⟩=some (int i64 (lnAt ts k)):=by rw [zc L];rfl
         exact ⟨.tuple #[slice A acc.length c,int i64 1,int i64 (lnAt ts k)],by simp [results,results83,go_sem,I,H],N,_,rfl⟩
        | ok r k' =>
         have B:=Z5H (ex:=ex) bt.out hlt d.out hro;rw [O.out] at B;have b9:=Z6p bt.out hro;rintro e C ⟨hb,bg,F,c1,D,c2,rfl,bq,bb⟩;obtain ⟨ms,Z,Y,bs⟩:=bE.out;have bh:acc.length=ms.length:=by have:=congrArg List.length Z;simpa using this.symm
         have b5:w.heap.size+2<q.heap.size:=br.out.lt;have J:But (w.heap.size+2) q (C.alloc (.cells #[int i64 r.id,int i64 r.lv,int i64 r.kd,int i64 r.fr,int i64 r.un,int i64 r.ls,int i64 r.mo,int i64 r.ar,int i64 (pctN r.kp),int i64 (pctD r.kp),int i64 r.wh.1.1,int i64 r.wh.1.2,slice F (flen r.wh.2) c1,int i64 r.pr.1.1,int i64 r.pr.1.2,slice D (flen r.pr.2) c2] 65)):=hb.alloc _;have bn:=Z7w Y (λk h1 h2=>J.block k h2 (by omega));have b6:=hb.size;have bm:=za C (.cells #[int i64 r.id,int i64 r.lv,int i64 r.kd,int i64 r.fr,int i64 r.un,int i64 r.ls,int i64 r.mo,int i64 r.ar,int i64 (pctN r.kp),int i64 (pctD r.kp),int i64 r.wh.1.1,int i64 r.wh.1.2,slice F (flen r.wh.2) c1,int i64 r.pr.1.1,int i64 r.pr.1.2,slice D (flen r.pr.2) c2] 65);have bj:=bg.on ((zr _ _).alloc (zn _) (.cells #[int i64 r.id,int i64 r.lv,int i64 r.kd,int i64 r.fr,int i64 r.un,int i64 r.ls,int i64 r.mo,int i64 r.ar,int i64 (pctN r.kp),int i64 (pctD r.kp),int i64 r.wh.1.1,int i64 r.wh.1.2,slice F (flen r.wh.2) c1,int i64 r.pr.1.1,int i64 r.pr.1.2,slice D (flen r.pr.2) c2] 65));have ba:=l.out.but J;have X:Below C.heap.size C (C.alloc (.cells #[int i64 r.id,int i64 r.lv,int i64 r.kd,int i64 r.fr,int i64 r.un,int i64 r.ls,int i64 r.mo,int i64 r.ar,int i64 (pctN r.kp),int i64 (pctD r.kp),int i64 r.wh.1.1,int i64 r.wh.1.2,slice F (flen r.wh.2) c1,int i64 r.pr.1.1,int i64 r.pr.1.2,slice D (flen r.pr.2) c2] 65)):=(zr _ _).alloc (zn _) _;have f1:FoD (C.alloc (.cells #[int i64 r.id,int i64 r.lv,int i64 r.kd,int i64 r.fr,int i64 r.un,int i64 r.ls,int i64 r.mo,int i64 r.ar,int i64 (pctN r.kp),int i64 (pctD r.kp),int i64 r.wh.1.1,int i64 r.wh.1.2,slice F (flen r.wh.2) c1,int i64 r.pr.1.1,int i64 r.pr.1.2,slice D (flen r.pr.2) c2] 65)) (λb=>q.heap.size<=b/\b<(C.alloc (.cells #[int i64 r.id,int i64 r.lv,int i64 r.kd,int i64 r.fr,int i64 r.un,int i64 r.ls,int i64 r.mo,int i64 r.ar,int i64 (pctN r.kp),int i64 (pctD r.kp),int i64 r.wh.1.1,int i64 r.wh.1.2,slice F (flen r.wh.2) c1,int i64 r.pr.1.1,int i64 r.pr.1.2,slice D (flen r.pr.2) c2] 65)).heap.size) (slice F (flen r.wh.2) c1) r.wh.2:=bq.keep (λb h=>⟨h.1,by have:=h.2;simp;omega⟩) (λb h=>X.block b h.2)
         have f2:FoD (C.alloc (.cells #[int i64 r.id,int i64 r.lv,int i64 r.kd,int i64 r.fr,int i64 r.un,int i64 r.ls,int i64 r.mo,int i64 r.ar,int i64 (pctN r.kp),int i64 (pctD r.kp),int i64 r.wh.1.1,int i64 r.wh.1.2,slice F (flen r.wh.2) c1,int i64 r.pr.1.1,int i64 r.pr.1.2,slice D (flen r.pr.2) c2] 65)) (λb=>q.heap.size<=b/\b<(C.alloc (.cells #[int i64 r.id,int i64 r.lv,int i64 r.kd,int i64 r.fr,int i64 r.un,int i64 r.ls,int i64 r.mo,int i64 r.ar,int i64 (pctN r.kp),int i64 (pctD r.kp),int i64 r.wh.1.1,int i64 r.wh.1.2,slice F (flen r.wh.2) c1,int i64 r.pr.1.1,int i64 r.pr.1.2,slice D (flen r.pr.2) c2] 65)).heap.size) (slice D (flen r.pr.2) c2) r.pr.2:=bb.keep (λb h=>⟨h.1,by have:=h.2;simp;omega⟩) (λb h=>X.block b h.2);have bB:q.heap.size<=(C.alloc (.cells #[int i64 r.id,int i64 r.lv,int i64 r.kd,int i64 r.fr,int i64 r.un,int i64 r.ls,int i64 r.mo,int i64 r.ar,int i64 (pctN r.kp),int i64 (pctD r.kp),int i64 r.wh.1.1,int i64 r.wh.1.2,slice F (flen r.wh.2) c1,int i64 r.pr.1.1,int i64 r.pr.1.2,slice D (flen r.pr.2) c2] 65)).heap.size:=by simp;omega
         have bK:=zh bn;have bI:=zh (Zfr bm [int i64 r.id,int i64 r.lv,int i64 r.kd,int i64 r.fr,int i64 r.un,int i64 r.ls,int i64 r.mo,int i64 r.ar,int i64 (pctN r.kp),int i64 (pctD r.kp),int i64 r.wh.1.1,int i64 r.wh.1.2,slice F (flen r.wh.2) c1,int i64 r.pr.1.1,int i64 r.pr.1.2,slice D (flen r.pr.2) c2] rfl);have bC:=zh B;have bD:=zh bj;have bG:=zh ba;have bA:=zh bs;have bk:=zh Y;have bJ:=zh f1;have bO:=zh f2;have bx:=zh J;have bM:=zh Z;have bc:=zh bh;clear bn bm B bj ba bs Y f1 f2 J Z bq bb bg hb X bh hcall;rw [rrV];go_wp2_with (first | (at_builtin;refine wpList_append_lies _ rfl _ _ 22 rfl (w.heap.size+3) 65 i0 _ 16 160 underlying22 hI.out bY.out bR.out bX.out rfl (by decide) (slice A acc.length c) _ _ rfl bK.out ⟨C.heap.size,0,none⟩ 1 1 _ rfl rfl bI.out (by simp [Value.oneCell']) (by omega) (by have:=bc.out;unfold maxLen;omega) (by have:=bc.out;omega) (by omega) _ rfl ?_;intro g cap w4 bz bf hg b8));have bp:=(zr (w.heap.size+3) _).grown bf (by simp;omega) (λg e=>(bk.out.lt g e).1);have bd:=bD.out.low bp;have bv:=bG.out.low bp;have hO4:=OwnR.snoc (m:=⟨r.rt,slice F (flen r.wh.2) c1,slice D (flen r.pr.2) c2⟩) bA.out (λk e=>bk.out.lt k e) bJ.out bO.out (λk h1 h2=>bx.out.block k h2 (by omega)) bB (by omega) bz rfl bf rfl hg;rw [List.map_append,bM.out] at hO4;have bF:Zbs (w.heap.size+2) w4=k':=Z59 bd;have bL:Zbs (w.heap.size+2) wr=k:=Z59 bT.out;refine ⟨⟨k',acc++[r],by rw [zj,List.length_singleton];omega,bd,bv,?_,bC.out.symm⟩,by rw [bF,bL];omega⟩;rw [List.map_append];exact hO4
      · have d1:((acc.length:Int)==100)=false:=by simp;omega
        have d:=zh hl;clear hl hl1;go_wp2_with fail;have br:=M;have l:=y;have bE:=HO;have ca:wr=wr:=rfl;have hcall:=ZeB (w.heap.size+2) (slice S ts.length c0) ts ex b0.out k wr br.out (Z4v ex ts k) rfl;refine hcall.mono ?_;cases hro:Z4v ex ts k with
        | no j =>
         have B:=Zcu (ex:=ex) hlt d.out hro;rw [O.out] at B;subst B;rintro e C ⟨hb,rfl⟩;have V:=l.out.but hb;refine leaves_cons (f:=119) (args:=#[.pointer (some ⟨w.heap.size,0,none⟩),.pointer (some ⟨w.heap.size+1,0,none⟩)]) (by simp) (by simp [go_sem]) ?_;refine (be.out 8 (Z3E ts j) _ V).mono ?_;rintro e T G ⟨rfl,rfl,z,L,N⟩;have I:G.cell? ⟨w.heap.size,0,none⟩=some (int i64 8):=by rw [zc z];rfl
         have H:G.cell? ⟨w.heap.size+1,0,none⟩=some (int i64 (Z3E ts j)):=by rw [zc L];rfl
         exact ⟨.tuple #[slice A acc.length c,int i64 8,int i64 (Z3E ts j)],by simp [results,results83,go_sem,I,H],N,_,rfl⟩
        | bad =>
         have B:=Za3 (ex:=ex) hlt d.out hro;rw [O.out] at B;subst B;rintro e C ⟨hb,rfl⟩;have V:=l.out.but hb;refine leaves_cons (f:=119) (args:=#[.pointer (some ⟨w.heap.size,0,none⟩),.pointer (some ⟨w.heap.size+1,0,none⟩)]) (by simp) (by simp [go_sem]) ?_;refine (be.out 1 (lnAt ts k) _ V).mono ?_;rintro e T G ⟨rfl,rfl,z,L,N⟩;have I:G.cell? ⟨w.heap.size,0,none⟩=some (int i64 1):=by rw [zc z];rfl
         have H:G.cell? ⟨w.heap.size+1,0,none⟩=some (int i64 (lnAt ts k)):=by rw [zc L];rfl
         exact ⟨.tuple #[slice A acc.length c,int i64 1,int i64 (lnAt ts k)],by simp [results,results83,go_sem,I,H],N,_,rfl⟩
        | ok r k' =>
         have B:=Z5H (ex:=ex) bt.out hlt d.out hro;rw [O.out] at B;have b9:=Z6p bt.out hro;rintro e C ⟨hb,bg,F,c1,D,c2,rfl,bq,bb⟩;obtain ⟨ms,Z,Y,bs⟩:=bE.out;have bh:acc.length=ms.length:=by have:=congrArg List.length Z;simpa using this.symm
         have b5:w.heap.size+2<wr.heap.size:=br.out.lt;have J:But (w.heap.size+2) wr (C.alloc (.cells #[int i64 r.id,int i64 r.lv,int i64 r.kd,int i64 r.fr,int i64 r.un,int i64 r.ls,int i64 r.mo,int i64 r.ar,int i64 (pctN r.kp),int i64 (pctD r.kp),int i64 r.wh.1.1,int i64 r.wh.1.2,slice F (flen r.wh.2) c1,int i64 r.pr.1.1,int i64 r.pr.1.2,slice D (flen r.pr.2) c2] 65)):=hb.alloc _;have bn:=Z7w Y (λk h1 h2=>J.block k h2 (by omega));have b6:=hb.size;have bm:=za C (.cells #[int i64 r.id,int i64 r.lv,int i64 r.kd,int i64 r.fr,int i64 r.un,int i64 r.ls,int i64 r.mo,int i64 r.ar,int i64 (pctN r.kp),int i64 (pctD r.kp),int i64 r.wh.1.1,int i64 r.wh.1.2,slice F (flen r.wh.2) c1,int i64 r.pr.1.1,int i64 r.pr.1.2,slice D (flen r.pr.2) c2] 65);have bj:=bg.on ((zr _ _).alloc (zn _) (.cells #[int i64 r.id,int i64 r.lv,int i64 r.kd,int i64 r.fr,int i64 r.un,int i64 r.ls,int i64 r.mo,int i64 r.ar,int i64 (pctN r.kp),int i64 (pctD r.kp),int i64 r.wh.1.1,int i64 r.wh.1.2,slice F (flen r.wh.2) c1,int i64 r.pr.1.1,int i64 r.pr.1.2,slice D (flen r.pr.2) c2] 65));have ba:=l.out.but J;have X:Below C.heap.size C (C.alloc (.cells #[int i64 r.id,int i64 r.lv,int i64 r.kd,int i64 r.fr,int i64 r.un,int i64 r.ls,int i64 r.mo,int i64 r.ar,int i64 (pctN r.kp),int i64 (pctD r.kp),int i64 r.wh.1.1,int i64 r.wh.1.2,slice F (flen r.wh.2) c1,int i64 r.pr.1.1,int i64 r.pr.1.2,slice D (flen r.pr.2) c2] 65)):=(zr _ _).alloc (zn _) _;have f1:FoD (C.alloc (.cells #[int i64 r.id,int i64 r.lv,int i64 r.kd,int i64 r.fr,int i64 r.un,int i64 r.ls,int i64 r.mo,int i64 r.ar,int i64 (pctN r.kp),int i64 (pctD r.kp),int i64 r.wh.1.1,int i64 r.wh.1.2,slice F (flen r.wh.2) c1,int i64 r.pr.1.1,int i64 r.pr.1.2,slice D (flen r.pr.2) c2] 65)) (λb=>wr.heap.size<=b/\b<(C.alloc (.cells #[int i64 r.id,int i64 r.lv,int i64 r.kd,int i64 r.fr,int i64 r.un,int i64 r.ls,int i64 r.mo,int i64 r.ar,int i64 (pctN r.kp),int i64 (pctD r.kp),int i64 r.wh.1.1,int i64 r.wh.1.2,slice F (flen r.wh.2) c1,int i64 r.pr.1.1,int i64 r.pr.1.2,slice D (flen r.pr.2) c2] 65)).heap.size) (slice F (flen r.wh.2) c1) r.wh.2:=bq.keep (λb h=>⟨h.1,by have:=h.2;simp;omega⟩) (λb h=>X.block b h.2)
         have f2:FoD (C.alloc (.cells #[int i64 r.id,int i64 r.lv,int i64 r.kd,int i64 r.fr,int i64 r.un,int i64 r.ls,int i64 r.mo,int i64 r.ar,int i64 (pctN r.kp),int i64 (pctD r.kp),int i64 r.wh.1.1,int i64 r.wh.1.2,slice F (flen r.wh.2) c1,int i64 r.pr.1.1,int i64 r.pr.1.2,slice D (flen r.pr.2) c2] 65)) (λb=>wr.heap.size<=b/\b<(C.alloc (.cells #[int i64 r.id,int i64 r.lv,int i64 r.kd,int i64 r.fr,int i64 r.un,int i64 r.ls,int i64 r.mo,int i64 r.ar,int i64 (pctN r.kp),int i64 (pctD r.kp),int i64 r.wh.1.1,int i64 r.wh.1.2,slice F (flen r.wh.2) c1,int i64 r.pr.1.1,int i64 r.pr.1.2,slice D (flen r.pr.2) c2] 65)).heap.size) (slice D (flen r.pr.2) c2) r.pr.2:=bb.keep (λb h=>⟨h.1,by have:=h.2;simp;omega⟩) (λb h=>X.block b h.2);have bB:wr.heap.size<=(C.alloc (.cells #[int i64 r.id,int i64 r.lv,int i64 r.kd,int i64 r.fr,int i64 r.un,int i64 r.ls,int i64 r.mo,int i64 r.ar,int i64 (pctN r.kp),int i64 (pctD r.kp),int i64 r.wh.1.1,int i64 r.wh.1.2,slice F (flen r.wh.2) c1,int i64 r.pr.1.1,int i64 r.pr.1.2,slice D (flen r.pr.2) c2] 65)).heap.size:=by simp;omega
         have bK:=zh bn;have bI:=zh (Zfr bm [int i64 r.id,int i64 r.lv,int i64 r.kd,int i64 r.fr,int i64 r.un,int i64 r.ls,int i64 r.mo,int i64 r.ar,int i64 (pctN r.kp),int i64 (pctD r.kp),int i64 r.wh.1.1,int i64 r.wh.1.2,slice F (flen r.wh.2) c1,int i64 r.pr.1.1,int i64 r.pr.1.2,slice D (flen r.pr.2) c2] rfl);have bC:=zh B;have bD:=zh bj;have bG:=zh ba;have bA:=zh bs;have bk:=zh Y;have bJ:=zh f1;have bO:=zh f2;have bx:=zh J;have bM:=zh Z;have bc:=zh bh;clear bn bm B bj ba bs Y f1 f2 J Z bq bb bg hb X bh hcall;rw [rrV];go_wp2_with (first | (at_builtin;refine wpList_append_lies _ rfl _ _ 22 rfl (w.heap.size+3) 65 i0 _ 16 160 underlying22 hI.out bY.out bR.out bX.out rfl (by decide) (slice A acc.length c) _ _ rfl bK.out ⟨C.heap.size,0,none⟩ 1 1 _ rfl rfl bI.out (by simp [Value.oneCell']) (by omega) (by have:=bc.out;unfold maxLen;omega) (by have:=bc.out;omega) (by omega) _ rfl ?_;intro g cap w4 bz bf hg b8));have bp:=(zr (w.heap.size+3) _).grown bf (by simp;omega) (λg e=>(bk.out.lt g e).1);have bd:=bD.out.low bp;have bv:=bG.out.low bp;have hO4:=OwnR.snoc (m:=⟨r.rt,slice F (flen r.wh.2) c1,slice D (flen r.pr.2) c2⟩) bA.out (λk e=>bk.out.lt k e) bJ.out bO.out (λk h1 h2=>bx.out.block k h2 (by omega)) bB (by omega) bz rfl bf rfl hg;rw [List.map_append,bM.out] at hO4;have bF:Zbs (w.heap.size+2) w4=k':=Z59 bd;have bL:Zbs (w.heap.size+2) wr=k:=Z59 bT.out;refine ⟨⟨k',acc++[r],by rw [zj,List.length_singleton];omega,bd,bv,?_,bC.out.symm⟩,by rw [bF,bL];omega⟩;rw [List.map_append];exact hO4
  · have dl:decide ((k:Int)<(ts.length:Int))=false:=by simpa using hlt
    have B:=Zhd (ex:=ex) (acc:=acc) hlt;rw [O.out] at B;subst B;obtain ⟨z0,z1,zb⟩:=y.out;have I:wr.cell? ⟨w.heap.size,0,none⟩=some (int i64 0):=by rw [zc z0];rfl
    have H:wr.cell? ⟨w.heap.size+1,0,none⟩=some (int i64 0):=by rw [zc z1];rfl
    have y3:wr.frozen? ⟨w.heap.size,0,none⟩=false:=by simp [World.frozen?,z0]
    have y4:wr.frozen? ⟨w.heap.size+1,0,none⟩=false:=by simp [World.frozen?,z1]
    have bN:=(zs z0)
    have bH:=(zs z1)
    go_wp2_with fail;refine leaves_cons (f:=119) (args:=#[.pointer (some ⟨w.heap.size,0,none⟩),.pointer (some ⟨w.heap.size+1,0,none⟩)]) (by simp) (by simp [go_sem]) ?_;refine (Ze4 w.heap.size (w.heap.size+1) _).mono ?_;rintro e T G ⟨rfl,rfl,rfl⟩;refine ⟨.tuple #[slice A acc.length c,int i64 0,int i64 0],by simp [results,results83,go_sem,I,H],?_,_,rfl,?_⟩
    · exact (zb.setCell (p:=⟨w.heap.size,0,none⟩) (zn _) _).setCell (p:=⟨w.heap.size+1,0,none⟩) (by show w.heap.size<=w.heap.size+1;omega) _
    · refine (HO.out.keep (by simp [World.setCell]) (λk h1 h2=>?_)).v;rw [zg _ _ _ _ (show k≠w.heap.size+1 by omega),zg _ _ _ _ (show k≠w.heap.size by omega)]
end
section
open Go.RowKit Lx Px
def SrcP (w:World)(a:AllR)(e:Ending)(w':World):Prop := Below w.heap.size w w'/\(match a with
  | .ok l=>∃ A c,e=.returned (.tuple #[slice A l.length c,int i64 0,int i64 0])/\RtsV w' w'.heap.size (slice A l.length c) (l.map Rr.rt)
  | .err er ln=>e=.returned (.tuple #[slice none 0 0,int i64 er,int i64 ln]))
theorem Zgk {ex:Nat->Out}{ts:List Tok}:∀ (f k:Nat) (acc:List Rr) {er B:Int},Z27 ex ts f k acc=.err er B->er=1\/er=2\/er=8:=by
 intro f;induction f with
 | zero=>intro k acc er B h;cases h
 | succ f ih =>
  intro k acc er B h;simp only [Z27] at h;split at h
  · split at h
    · injection h with h1 h2;exact .inr (.inl h1.symm)
    · split at h
      · exact ih _ _ h
      · injection h with h1 h2;exact .inr (.inr h1.symm)
      · injection h with h1 h2;exact .inl h1.symm
  · cases h
theorem Z8n (s:ByteArray)(w:World)(H:Mx w w.heap.size):Calls prog 47 #[.string s] w (SrcP w (srcO (bl s))):=by
 obtain ⟨G,Z⟩:=Zns (bl s);obtain ⟨ts,er,B,F⟩:∃ ts er B,toks (bl s)=(ts,er,B):=⟨_,_,_,rfl⟩
 have N:∀ W:World,Calls prog 82 #[.string s] W (Zae W (ts,er,B)):=λW=>by have:=Ze5 s W;rwa [F] at this
 rw [F] at G Z;dsimp only at G Z;have O:=zh N;have j:=zh H;have HK:=zh G;by_cases he:er=0
 · subst he;rw [Zkc F];have g:=λI v D H=>Zit I v ts D (by omega) HK.out H;have X:∀ er B:Int,allO (exOf ts) ts=.err er B->er=1\/er=2\/er=8:=λer B h=>Zgk _ _ _ h;generalize allO (exOf ts) ts=R at *
   have q:=zh g;have y:=zh X;clear N H G F g X;go_enter func47,ntmps47;go_wp2_with fail;refine (O.out _).mono ?_;rintro e I ⟨v,rfl,D,C⟩;have f:=q.out I v D (by obtain ⟨m,h1,M⟩:=j.out.on C;exact ⟨m,h1,by have:=C.size;omega⟩);have Y:=zh f;have J:=zh C;clear f C D;go_wp2_with fail;refine Y.out.mono ?_;rintro e w2 ⟨T,M⟩;have S:=zh (Z00 J.out T);clear T Y;cases hO:R with
   | ok l =>subst hO;obtain ⟨A,rfl,L⟩:=M;obtain ⟨V,c2,rfl,_⟩:=id L;have r:=zh L;clear L;go_wp2_with fail;refine bodyPost_ret (v:=.tuple #[slice V (l.map Rr.rt).length c2,int i64 0,int i64 0]) (by simp [results,results47,go_sem]) rfl ?_;refine ⟨S.out,V,c2,by rw [List.length_map],?_⟩;have:=r.out;rwa [List.length_map] at this
   | err er ln2 =>
    subst hO;obtain ⟨A,rfl⟩:=M;have U:er≠0:=by rcases y.out er ln2 rfl with rfl | rfl | rfl <;> decide
    have d:(er != 0)=true:=by simpa using U
    clear U;go_wp2_with fail;refine bodyPost_ret (v:=.tuple #[slice none 0 0,int i64 er,int i64 ln2]) (by simp [results,results47,go_sem]) rfl ?_;exact ⟨S.out,rfl⟩
 · rw [Znw F he];have d:(er != 0)=true:=by simpa using he
   clear N H G F he;go_enter func47,ntmps47;go_wp2_with fail;refine (O.out _).mono ?_;rintro e I ⟨v,rfl,D,C⟩;have J:=zh C;obtain ⟨A0,c0,rfl,_⟩:=D;clear C;go_wp2_with fail;refine bodyPost_ret (v:=.tuple #[slice none 0 0,int i64 er,int i64 B]) (by simp [results,results47,go_sem]) rfl ?_;exact ⟨J.out,rfl⟩
end
end Go.Proofs.YtnepkoepbapgeaaGreatDoor
