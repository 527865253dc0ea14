import Derived.Test.YtkgagcbefagpcaaGreatDoorQuoVs2
import Derived.Deep.RegionLawGrows
namespace Go.Proofs.YtkgagcbefagpcaaGreatDoor
open _root_.Go.Proofs.Tryz
open Value (int slice)
open IntKind (i64)
set_option maxHeartbeats 16000000
set_option maxRecDepth 100000
section
open Go.RowKit Lx Px Qx
attribute [local irreducible] Qx.Vr.dig
theorem VxB.grown {p:Nat}{v:Vr}{rv:Value}{W C:World}(h:VxB p v rv W)(B:W.grownBy C none):VxB p v rv C := ⟨(B.block p h.lt (by intro e;cases e)).trans h.h,h.r.on ((zr p W).grown B (zl h.lt) (λg e=>by cases e))⟩
theorem Z7k {W F:World}{B:Nat}{ad:Addr}{C:List Value}(h:∀ j u,C[j]?=some u->W.cell? (ad.add j)=some u)(G:C≠[]->ad.block<B)(hb:Below B W F):∀ j u,C[j]?=some u->F.cell? (ad.add j)=some u:=by
 intro j u D;refine (hb.cell ?_).trans (h j u D);rw [Z4B];exact G (by intro e;rw [e] at D;simp at D)
structure Vm where
 v:Vr
 rv:Value
def Vm.cells (m:Vm):List Value:=[vI m.v.num,vI m.v.time,m.rv]
def Z09 (ms:List Vm):List Value:=ms.flatMap Vm.cells
theorem Z3r (B:List Vm):(Z09 B).length=B.length*3:=by
 induction B with
 | nil=>rfl
 | cons m B ih=>simp only [Z09,List.flatMap_cons,zj,zw,Vm.cells] at ih |-;rw [ih];simp;omega
theorem Z9a (B:List Vm)(k j:Nat)(h:k<B.length)(D:j<3):(Z09 B)[k*3+j]?=B[k].cells[j]?:=by
 induction B generalizing k with
 | nil=>simp at h
 | cons m B ih =>
  have C:Z09 (m::B)=m.cells++Z09 B:=by simp [Z09]
  rw [C];cases k with
  | zero=>simp only [Nat.zero_mul,Nat.zero_add,List.getElem_cons_zero];rw [List.getElem?_append_left (by show j<3;omega)]
  | succ k =>rw [List.getElem?_append_right (by show 3<=_;omega)];have:=ih k (by simpa using h);simp only [List.getElem_cons_succ];rw [<- this];congr 1;show (k+1)*3+j - 3=_;omega
theorem Z8h {w:World}{B:Nat}{A:Option Addr}{n c:Nat}{l:List Vr}(h:VssV w B (slice A n c) l):n=l.length/\∃ D:List Vm,D.map (·.v)=l/\(∀ m∈D,m.rv.oneCell'=true/\RtsV w B m.rv m.v.rs)/\(∀ ad,A=some ad->∀ j u,(Z09 D)[j]?=some u->w.cell? (ad.add j)=some u)/\(A=none->l=[])/\(∀ ad,A=some ad->l≠[]->ad.block<B):=by
 obtain ⟨Z,c',e,_,S⟩:=h;injection e with e1 e2 e3
 subst e1 e3;refine ⟨e2,?_⟩;by_cases hl:l=[]
 . subst hl;exact ⟨[],rfl,λm h=>by simp at h,λad _ j u I=>by simp [Z09] at I,λ_=>rfl,λ_ _ h=>absurd rfl h⟩
 obtain ⟨g,o,rfl,C,R⟩:=S hl;obtain ⟨D,U,J⟩:=Z92 (λ(i:Nat) (m:Vm)=>∃ G:i<l.length,m.v=l[i]/\m.rv.oneCell'=true/\RtsV w B m.rv m.v.rs/\w.cell? ⟨g,o+i*3,none⟩=some (vI m.v.num)/\w.cell? ⟨g,o+i*3+1,none⟩=some (vI m.v.time)/\w.cell? ⟨g,o+i*3+2,none⟩=some m.rv) l.length (λi G=>by obtain ⟨RA,rc,h1,H,L,M⟩:=R i G;exact ⟨⟨l[i],slice RA l[i].rs.length rc⟩,G,rfl,rfl,h1,H,L,M⟩);refine ⟨D,?_,?_,?_,?_,?_⟩
 . refine List.ext_getElem (by simpa using U) (λi h1 H=>?_);rw [List.getElem_map];obtain ⟨_,e,_⟩:=J i (by simpa using h1);exact e
 . intro m T;obtain ⟨i,G,rfl⟩:=List.getElem_of_mem T;obtain ⟨_,_,N,Y,_⟩:=J i G;exact ⟨N,Y⟩
 . intro ad F j u I;injection F with F
   subst F;have d:j<D.length*3:=by rw [<- Z3r];exact (List.getElem?_eq_some_iff.1 I).1
   have hk:j / 3<D.length:=by omega
   obtain ⟨_,_,_,_,H,L,M⟩:=J (j / 3) hk;have C:=Z9a D (j / 3) (j % 3) hk (by omega);rw [show j / 3*3+j % 3=j from by omega,I] at C;have X:(⟨g,o,none⟩:Addr).add j=⟨g,o+j,none⟩:=by
    unfold Addr.add;split
    . rename_i O;subst O;rfl
    . rfl
   rw [X];have V:j % 3=0\/j % 3=1\/j % 3=2:=by omega
   rcases V with e | e | e
   . rw [e] at C;simp only [Vm.cells,List.getElem?_cons_zero] at C;rw [C,<- H];congr 2;omega
   . rw [e] at C;simp only [Vm.cells,List.getElem?_cons_succ,List.getElem?_cons_zero] at C;rw [C,<- L];congr 2;omega
   . rw [e] at C;simp only [Vm.cells,List.getElem?_cons_succ,List.getElem?_cons_zero] at C;rw [C,<- M];congr 2;omega
 . intro h;cases h
 . intro ad F _;injection F with F
   subst F;exact C
theorem Z5k {w:World}{base B n:Nat}{v:Value}{C:List Vm}(h:w.ownsRow base 36 3 v n (Z09 C))(M:n=C.length)(N:∀ m∈C,RtsV w B m.rv m.v.rs)(I:B<=w.heap.size):VssV w w.heap.size v (C.map (·.v)):=by
 subst M;rcases h.2 with ⟨D,J⟩ | ⟨g,cap,T,D,_,L,S,_⟩
 . have:C=[]:=List.length_eq_zero_iff.1 J;subst this;subst D;exact VssV.nil _ _ _
 . refine ⟨some ⟨g,0,none⟩,cap,by rw [D,List.length_map],by rw [List.length_map];exact S,λ_=>⟨g,0,rfl,(zF2.1 L).1,λi hi=>?_⟩⟩;have G:i<C.length:=by simpa using hi
   have H:=N C[i] (List.getElem_mem G);obtain ⟨R,O,e,_⟩:=id H;have F:=λj u (hj:j<3) (hu:C[i].cells[j]?=some u)=>(show w.cell? ⟨g,i*3+j,none⟩=some u by subst D;rw [h.cellAt (i*3+j) (by omega),Z9a C i j G hj,hu])
   simp only [List.getElem_map,Nat.zero_add];refine ⟨R,O,?_,F 0 _ (by omega) rfl,F 1 _ (by omega) rfl,?_⟩
   . rw [<- e];exact H.up I
   . rw [<- e];exact F 2 _ (by omega) rfl
theorem Tryz.infoVr:(Tryz.prog.info? 36).map (λi=>(i.zero,i.size,i.bytes))=some (some (.agg #[vI 0,vI 0,slice none 0 0]),3,40):=by kernel_rfl
def Zcv (l:List Vr)(t:Int)(rs:List Rt)(w:World)(e:Ending)(w':World):Prop := ∃ SV,e=.returned (.tuple #[SV,vI (Z4z l t rs)])/\(if Z4z l t rs=0 then VssV w' w'.heap.size SV (l++[Z2F l t rs]) else SV=slice none 0 0)/\Below w.heap.size w w'
theorem Zks {l:List Vr}{t:Int}{rs:List Rt}(h:vsB l=false):Z4z l t rs=1:=by unfold Z4z;rw [zp (Z5a.1 h)]
theorem Zef {l:List Vr}{t:Int}{rs:List Rt}(h:vsB l=true)(B:0<l.length)(C:t<(l[l.length - 1]'(by omega)).time):Z4z l t rs=6:=by
 unfold Z4z;rw [zf (by rw [Classical.not_not];exact Z0B.1 h),zp ⟨B,C⟩]
theorem Z3f {l:List Vr}{t:Int}{rs:List Rt}(h:vsB l=true)(C:∀ B:0<l.length,(l[l.length - 1]'(by omega)).time<=t):Z4z l t rs=if l.length=100\/1000000<(Z2F l t rs).num then 2 else if (Z2F l t rs).okB=true then 0 else 1:=by
 unfold Z4z;rw [zf (by rw [Classical.not_not];exact Z0B.1 h),zf (by rintro ⟨B,D⟩;have:=C B;omega)]
theorem Z8i (l:List Vr)(t:Int)(rs:List Rt)(v rv:Value)(w:World)(hv:VssV w w.heap.size v l)(hr:RtsV w w.heap.size rv rs)(ce:l.length<=1000)(ht:Tabs w.heap.size w) : Calls prog 12 #[v,vI t,rv] w (Zcv l t rs w):=by
 have b5:=Z3g l v w hv ce ht;have bX:=λW x X (hb:Below w.heap.size w W) hX=>Z9s x X W hX (Z0v ht hb);obtain ⟨A,c,rfl,_⟩:=id hv;obtain ⟨D,C,rfl,_⟩:=id hr;obtain ⟨HV,HR,cb,bT⟩:=zh4 hv hr b5 bX;clear hv hr b5 bX ht;unfold Zcv;obtain ⟨E,hE⟩:∃ E,Z4z l t rs=E:=⟨_,rfl⟩
 rw [hE];have HE:=zh hE;clear hE;go_enter func12,ntmps12;go_wp2_with fail;refine cb.o.mono ?_;rintro e H ⟨rfl,U⟩;cases Y:vsB l with
 | false =>have he:E=1:=HE.o.symm.trans (Zks Y);subst he;have HB:=zh U;clear U;go_wp2_with fail;go_ret2;exact ⟨_,rfl,by simp,HB.o⟩
 | true =>
  have bC:=Z0B.1 Y;have bb:=VxB.new (v:=⟨1,t,rs⟩) ((HR.o.on U).up U.size);have bp:=U.alloc U.size (.cells #[vI 1,vI t,slice D rs.length C] 36);have bE:=HV.o.on bp;have ct:=bC.2;dsimp only at bb;have bV:Z2F l t rs=Z2F l t rs:=rfl;by_cases h0:0<l.length
  . obtain ⟨m,G⟩:∃ m,l.length=m+1:=⟨l.length - 1,by omega⟩
    have bM:m<l.length:=by omega
    obtain ⟨g,o,RB,rb,rfl,hg,cj,c0,c1,c2⟩:=Z36 bE bM;obtain ⟨b3,_⟩:=bC.1 m bM bM;obtain ⟨_,_,_,b0,b1⟩:=Z6u b3;have T:l[l.length - 1]'(by omega)=l[m]:=by congr 1;omega
    have f:Z2F l t rs=⟨1+l[m].num,t,rs⟩:=by unfold Z2F;rw [dif_pos h0,T]
    have bY:=λ(h:t<l[m].time)=>HE.o.symm.trans (Zef Y h0 (by rw [T];exact h));have bd:=λ(h:l[m].time<=t)=>HE.o.symm.trans (Z3f Y (λ_=>by rw [T];exact h));rw [f] at bd;have bD:=zh f;clear f T bV b3 bC;generalize l[m]=x at *
    have dz:decide ((l.length:Int) > 0)=true:=by simp;omega
    have cr:(l.length:Int) - 1=(m:Int):=by omega
    have cd:IntKind.i64.wrap (1+x.num)=1+x.num:=zi _ (by omega);have R:=bb.fr 0;obtain ⟨O,M,n3⟩:=bb.cells;dsimp only at O M n3;obtain ⟨b9,b4,cn,b2,bW,bq,HM⟩:=zh7 bb bp bE bY bd U G;clear bb bp bE bY bd U G cj;have cm:(0:Int)<=m:=by omega
    have b7:=HV.o.cap;have cf:(0:Int)<=l.length:=by omega
    have b8:(l.length:Int)<=c:=by omega
    have cs:(m:Int)<l.length:=by omega
    go_upto_region 6 with fail;go_region;have bj:VxB H.heap.size ⟨1+x.num,t,rs⟩ (slice D rs.length C) (H.alloc (.cells #[vI (1+x.num),vI t,slice D rs.length C] 36)).drew:=(VxB.new (v:=⟨1+x.num,t,rs⟩) ((HR.o.on bq.o).up bq.o.size)).on (zr _ _).drew
    have bO:Below w.heap.size w (H.alloc (.cells #[vI (1+x.num),vI t,slice D rs.length C] 36)).drew:=(bq.o.alloc bq.o.size _).drew;have ck:(H.alloc (.cells #[vI (1+x.num),vI t,slice D rs.length C] 36)).drew.cell? ⟨g,o+m*3+1,none⟩=some (vI x.time):=(bO.cell (p:=⟨g,o+m*3+1,none⟩) hg).trans ((b4.o.cell (p:=⟨g,o+m*3+1,none⟩) hg).symm.trans c1);clear c0 c1 c2 R O M n3 b9 b4 cd;generalize bZ:1+x.num=N at *
    generalize (H.alloc (.cells #[vI N,vI t,slice D rs.length C] 36)).drew=w4 at *
    obtain ⟨R,O,M⟩:=bj.cells;dsimp only at R O M;obtain ⟨d,L,bU⟩:=zh3 bj bO bZ;clear bj bO bZ;by_cases hT:t<x.time
    . have dT:decide (x.time > t)=true:=by simpa using hT
      have he:E=6:=b2.o hT;subst he;go_wp2_with fail;go_ret2;exact ⟨_,rfl,by simp,L.o⟩
    . have dT:decide (x.time > t)=false:=by simpa using hT
      have V:=zh (bW.o (by omega));clear bW b2;have ca:Z09 []=[]:=rfl;by_cases hn:l.length=100
      . have dn:((l.length:Int)==100)=true:=by simp;omega
        have he:E=2:=V.o.trans (zp (.inl hn));subst he;clear hn;go_wp2_with fail;go_ret2;exact ⟨_,rfl,by simp,L.o⟩
      . have dn:((l.length:Int)==100)=false:=by simp;omega
        by_cases I:1000000<N
        . have dN:decide (N > 1000000)=true:=by simpa using I
          have he:E=2:=V.o.trans (zp (.inr I));subst he;go_wp2_with fail;go_ret2;exact ⟨_,rfl,by simp,L.o⟩
        . have dN:decide (N > 1000000)=false:=by simpa using I
          have he:E=if (⟨N,t,rs⟩:Vr).okB=true then 0 else 1:=V.o.trans (zf (show ¬ (l.length=100\/1000000<N) from λh=>h.elim hn I));have y:=bT.o _ _ _ L.o d.o.v;obtain ⟨b,hb⟩:∃ b,(⟨N,t,rs⟩:Vr).okB=b:=⟨_,rfl⟩
          rw [hb] at he y;have br:=zh y;have bc:=zh he;clear y he;go_wp2_with fail;refine br.o.mono ?_;rintro e w5 ⟨rfl,bf⟩;have r:=Z00 L.o bf;have J:=zh r;have bt:=zh (d.o.on bf);have cc:=zh (HV.o.on r);clear r L d bf br R O M;cases b with
          | false =>have he:E=1:=bc.o;subst he;go_wp2_with fail;go_ret2;exact ⟨_,rfl,by simp,J.o⟩
          | true =>
           have he:E=0:=bc.o;subst he;clear bc;obtain ⟨R,O,M⟩:=bt.o.cells;dsimp only at R O M;obtain ⟨i0,hI,bn,bs,bu⟩:=info_parts Tryz.infoVr;obtain ⟨_,F,ba,bz,bm,bk,hmb⟩:=Z8h HV.o;have bv:∀ W,Below w.heap.size w W->∀ m∈F,RtsV W w.heap.size m.rv m.v.rs:=λW hb m G=>((bz m G).2).on hb;clear bz;have bg:F.length=l.length:=by rw [<- ba,List.length_map]
           have bB:(Z09 F).length=l.length*3:=by rw [Z3r,bg]
           have be:Z09 F≠[]->l≠[]:=λh e=>h (by have:F=[]:=List.length_eq_zero_iff.1 (by rw [bg,e];rfl);rw [this];rfl);have bA:∀ ad:Addr,((some ⟨g,o,none⟩):Option Addr)=some ad->∀ j u,(Z09 F)[j]?=some u->w5.cell? (ad.add j)=some u:=λad e=>Z7k (bm ad e) (λh=>hmb ad e (be h)) J.o;clear bm;obtain ⟨bL,bI,bK,cg,bQ,bS,bF,HI,bJ,bH,bN⟩:=zh11 ba bv bA bk hmb bB be hI bn bs bu;clear ba bv bA bk hmb bB be hI bn bs bu;go_wp2_with fail;go_region_held3 (λw'=>w'.cell? ⟨H.heap.size,0,none⟩=some (vI N)/\w'.cell? ⟨H.heap.size,1,none⟩=some (vI t)/\w'.cell? ⟨H.heap.size,2,none⟩=some (slice D rs.length C)) (first | go_keep | with_reducible exact hz) ((refine step_append_grows (by rfl) (.tmp 58) (.tmp 60) 22 (by rfl) 36 i0 _ 3 40 underlying22 HI.o bJ.o bH.o bN.o (by rfl) (by decide) (some ⟨g,o,none⟩) l.length l.length (Z09 F) (by rfl) (λh=>by cases h) bS.o (λb hb=>Z7k (W:=w5) (bK.o b hb) (λh=>Nat.lt_of_lt_of_le (bQ.o b hb (bF.o h)) J.o.size) ((zr _ _).drew.alloc (zn _) _)) ⟨w5.heap.size,0,none⟩ 1 1 [vI N,vI t,slice D rs.length C] (by rfl) (by rfl) (World.news_of_block (za w5.drew _)) (by simp [Value.oneCell']) (by omega) (by unfold maxLen;omega) (by omega) ?_;intro v' Z q bh;have hz:=((bt.o.on ((zr _ _).drew.alloc (zn _) (.cells #[vI N,vI t,slice D rs.length C] 36))).grown bh).cells));have S:Below w.heap.size w Z:=((J.o.drew).alloc J.o.size (.cells #[vI N,vI t,slice D rs.length C] 36)).grown bh (by simp;have:=J.o.size;omega) (λg e=>by cases e);have bx:VssV Z Z.heap.size v' (l++[⟨N,t,rs⟩]):=by
            have Y:Z09 F++[vI N,vI t,slice D rs.length C]=Z09 (F++[⟨⟨N,t,rs⟩,slice D rs.length C⟩]):=by simp [Z09,Vm.cells]
            rw [Y] at q;have h2:=Z5k (B:=w.heap.size) q (by rw [zj,List.length_singleton,bg]) (λm G=>?_) S.size
            . rw [List.map_append,bL.o] at h2;exact h2
            . rw [zC,List.mem_singleton] at G;rcases G with G | rfl
              . exact bI.o Z S m G
              . exact HR.o.on S
           have T:Z2F l t rs=⟨N,t,rs⟩:=bD.o;obtain ⟨bP,bR,bG⟩:=zh3 S bx T;clear S bx T q bh hz;go_wp2_with fail;go_ret2;refine ⟨_,rfl,?_,bP.o⟩;rw [bG.o];exact bR.o
  . have ch:l=[]:=List.length_eq_zero_iff.1 (by omega);have f:Z2F l t rs=⟨1,t,rs⟩:=by unfold Z2F;rw [dif_neg h0];rfl
    have bd:=HE.o.symm.trans (Z3f Y (λh=>absurd h h0));rw [f] at bd;have dz:decide ((l.length:Int) > 0)=false:=by simp;omega
    have b7:=HV.o.cap;have cf:(0:Int)<=l.length:=by omega
    have b8:(l.length:Int)<=c:=by omega
    have bU:=zh f;have bD:=zh f;have bj:VxB H.heap.size ⟨1,t,rs⟩ (slice D rs.length C) (H.alloc (.cells #[vI 1,vI t,slice D rs.length C] 36)):=bb;obtain ⟨V,d,L,bq⟩:=zh4 bd bj bp U;clear bd bj U bp bE bb f bV bC ch;go_upto_region 7 with fail;generalize H.alloc (.cells #[vI 1,vI t,slice D rs.length C] 36)=w4 at *
    obtain ⟨N,I⟩:∃ N:Int,1=N:=⟨_,rfl⟩
    have b6:E=if l.length=100\/1000000<N then 2 else if (⟨N,t,rs⟩:Vr).okB=true then 0 else 1:=by rw [<- I];exact V.o
    clear V;have V:=zh b6;clear b6;rw [I] at d bD bU;obtain ⟨R,O,M⟩:=d.o.cells;dsimp only at R O M;clear I;have ca:Z09 []=[]:=rfl;by_cases hn:l.length=100
    . have dn:((l.length:Int)==100)=true:=by simp;omega
      have he:E=2:=V.o.trans (zp (.inl hn));subst he;clear hn;go_wp2_with fail;go_ret2;exact ⟨_,rfl,by simp,L.o⟩
    . have dn:((l.length:Int)==100)=false:=by simp;omega
      by_cases I:1000000<N
      . have dN:decide (N > 1000000)=true:=by simpa using I
        have he:E=2:=V.o.trans (zp (.inr I));subst he;go_wp2_with fail;go_ret2;exact ⟨_,rfl,by simp,L.o⟩
      . have dN:decide (N > 1000000)=false:=by simpa using I
        have he:E=if (⟨N,t,rs⟩:Vr).okB=true then 0 else 1:=V.o.trans (zf (show ¬ (l.length=100\/1000000<N) from λh=>h.elim hn I));have y:=bT.o _ _ _ L.o d.o.v;obtain ⟨b,hb⟩:∃ b,(⟨N,t,rs⟩:Vr).okB=b:=⟨_,rfl⟩
        rw [hb] at he y;have br:=zh y;have bc:=zh he;clear y he;go_wp2_with fail;refine br.o.mono ?_;rintro e w5 ⟨rfl,bf⟩;have r:=Z00 L.o bf;have J:=zh r;have bt:=zh (d.o.on bf);have cc:=zh (HV.o.on r);clear r L d bf br R O M;cases b with
        | false =>have he:E=1:=bc.o;subst he;go_wp2_with fail;go_ret2;exact ⟨_,rfl,by simp,J.o⟩
        | true =>
         have he:E=0:=bc.o;subst he;clear bc;obtain ⟨R,O,M⟩:=bt.o.cells;dsimp only at R O M;obtain ⟨i0,hI,bn,bs,bu⟩:=info_parts Tryz.infoVr;obtain ⟨_,F,ba,bz,bm,bk,hmb⟩:=Z8h HV.o;have bv:∀ W,Below w.heap.size w W->∀ m∈F,RtsV W w.heap.size m.rv m.v.rs:=λW hb m G=>((bz m G).2).on hb;clear bz;have bg:F.length=l.length:=by rw [<- ba,List.length_map]
         have bB:(Z09 F).length=l.length*3:=by rw [Z3r,bg]
         have be:Z09 F≠[]->l≠[]:=λh e=>h (by have:F=[]:=List.length_eq_zero_iff.1 (by rw [bg,e];rfl);rw [this];rfl);have bA:∀ ad:Addr,(A:Option Addr)=some ad->∀ j u,(Z09 F)[j]?=some u->w5.cell? (ad.add j)=some u:=λad e=>Z7k (bm ad e) (λh=>hmb ad e (be h)) J.o;clear bm;obtain ⟨bL,bI,bK,cg,bQ,bS,bF,HI,bJ,bH,bN⟩:=zh11 ba bv bA bk hmb bB be hI bn bs bu;clear ba bv bA bk hmb bB be hI bn bs bu;go_wp2_with fail;go_region_held3 (λw'=>w'.cell? ⟨H.heap.size,0,none⟩=some (vI N)/\w'.cell? ⟨H.heap.size,1,none⟩=some (vI t)/\w'.cell? ⟨H.heap.size,2,none⟩=some (slice D rs.length C)) (first | go_keep | with_reducible exact hz) ((refine step_append_grows (by rfl) (.tmp 58) (.tmp 60) 22 (by rfl) 36 i0 _ 3 40 underlying22 HI.o bJ.o bH.o bN.o (by rfl) (by decide) A l.length l.length (Z09 F) (by rfl) (λh=>⟨by omega,by omega⟩) bS.o (λb hb=>Z7k (W:=w5) (bK.o b hb) (λh=>Nat.lt_of_lt_of_le (bQ.o b hb (bF.o h)) J.o.size) ((zr _ _).drew.alloc (zn _) _)) ⟨w5.heap.size,0,none⟩ 1 1 [vI N,vI t,slice D rs.length C] (by rfl) (by rfl) (World.news_of_block (za w5.drew _)) (by simp [Value.oneCell']) (by omega) (by unfold maxLen;omega) (by omega) ?_;intro v' Z q bh;have hz:=((bt.o.on ((zr _ _).drew.alloc (zn _) (.cells #[vI N,vI t,slice D rs.length C] 36))).grown bh).cells));have S:Below w.heap.size w Z:=((J.o.drew).alloc J.o.size (.cells #[vI N,vI t,slice D rs.length C] 36)).grown bh (by simp;have:=J.o.size;omega) (λg e=>by cases e);have bx:VssV Z Z.heap.size v' (l++[⟨N,t,rs⟩]):=by
          have Y:Z09 F++[vI N,vI t,slice D rs.length C]=Z09 (F++[⟨⟨N,t,rs⟩,slice D rs.length C⟩]):=by simp [Z09,Vm.cells]
          rw [Y] at q;have h2:=Z5k (B:=w.heap.size) q (by rw [zj,List.length_singleton,bg]) (λm G=>?_) S.size
          . rw [List.map_append,bL.o] at h2;exact h2
          . rw [zC,List.mem_singleton] at G;rcases G with G | rfl
            . exact bI.o Z S m G
            . exact HR.o.on S
         have T:Z2F l t rs=⟨N,t,rs⟩:=bD.o;obtain ⟨bP,bR,bG⟩:=zh3 S bx T;clear S bx T q bh hz;go_wp2_with fail;go_ret2;refine ⟨_,rfl,?_,bP.o⟩;rw [bG.o];exact bR.o
end
section
open Go.RowKit Lx Px Qx Go.Sort
attribute [local irreducible] Qx.Vr.dig Qx.powP
theorem Zeg (q:Qt)(H:Value)(p:Nat)(x:Vr)(X:Value)(w:World)(G:VrV w w.heap.size X x)(F:QbK p q H w) : Calls prog 30 #[X,.pointer (some ⟨p,0,none⟩)] w λe w'=>e=.returned (.bool (decide (x.num=q.ver)))/\Below w.heap.size w w':=by
 obtain ⟨A,c,rfl,D⟩:=G;have B:=VxB.new D;have hb:=(zr w.heap.size w).alloc (zn _) (.cells #[vI x.num,vI x.time,slice A x.rs.length c] 36);have J:(w.alloc (.cells #[vI x.num,vI x.time,slice A x.rs.length c] 36)).cell? ⟨p,0,none⟩=some (vI q.ver):=(F.on hb).c 0 _ rfl;obtain ⟨N,L,M⟩:=B.cells;have C:decide (x.num=q.ver)=(x.num==q.ver):=by rw [zA];simp
 rw [C];unfold vrV;have I:=zh hb;clear hb B D F C;go_enter func30,ntmps30;go_wp2_with fail;go_ret;exact ⟨rfl,I.o⟩
def HonP (x:Int × Int × Int)(w:World)(e:Ending)(w':World):Prop:=e=.returned (.tuple #[vI x.1,vI x.2.1,vI x.2.2])/\Below w.heap.size w w'
theorem Zkt {l:List Vr}{q:Qt}{p:Int}(h:¬ (vsB l=true/\memB p=true)):honV l q p=(0,0,1):=by unfold honV;rw [zp h]
theorem ZfG {l:List Vr}{q:Qt}{p:Int}(B:vsB l=true)(C:memB p=true)(h:numI l q.ver<0):honV l q p=(0,0,4):=by
 unfold honV;rw [zf (by simp [B,C])];split
 . rfl
 . rw [zp h]
theorem Zku {l:List Vr}{q:Qt}{p:Int}(B:vsB l=true)(D:memB p=true){i:Nat}(C:i<l.length)(h:numI l q.ver=i):honV l q p=if (Z0C l[i] q p).1=true then (if inF l q.time=i then (q.total,q.keep,0) else (0,0,6)) else (0,0,9):=by
 unfold honV;rw [zf (by simp [B,D]),h];simp only [zB,zv C];rw [zf (by omega)]
theorem Zcw {v:Vr}{q:Qt}{p:Int}(B:v.okB=true)(C:memB p=true):(Z0C v q p).2=0:=by
 unfold Z0C;rw [B,C];simp only [Bool.and_self,if_true];split
 . split <;> rfl
 . rfl
theorem Z5m (l:List Vr)(q:Qt)(p:Int)(v U:Value)(w:World)(N:VssV w w.heap.size v l)(hU:QtV w w.heap.size U q)(bj:l.length<=1000)(hr:∀ x∈q.says,-9223372036854775808<=x/\x<=9223372036854775807)(bP:q.dig<18446744073709551616)(bS:q.nights.length<=50000)(ht:Tabs w.heap.size w) : Calls prog 15 #[v,U,vI p] w (HonP (honV l q p) w):=by
 obtain ⟨C,c1,rfl,hI⟩:=Z4c hU;have b4:∀ (fn:Fn) (first cap:Array Value) (w:World),(Instr.makeFunc fn first cap).run prog w=.ok (.func fn first cap) w:=λ_ _ _ _=>rfl;have bJ:=(zr w.heap.size w).alloc (zn _) (.cells (qtC q (slice C q.nights.length c1)) 31);have bm:=QbK.new (q:=q) hI;have bM:=λW (hb:Below w.heap.size w W)=>Z3g l v W ((N.on hb).up hb.size) bj (Z0v ht hb);have bv:=λW (hb:Below w.heap.size w W)=>Z9t l q.time v W ((N.on hb).up hb.size) bj;have bG:=λW=>Z7n p W;have bn:=λW (hb:Below w.heap.size w W) (hQ:QbK w.heap.size q (slice C q.nights.length c1) W)=>ZgH l (λx=>decide (x.num=q.ver)) 30 ⟨w.heap.size,0,none⟩ v W ((N.on hb).up hb.size) bj (λx X W' hX hbW=>Zeg q (slice C q.nights.length c1) w.heap.size x X W' hX (hQ.on hbW)) (λ_ _=>rfl);have H:=λx X W (hb:Below w.heap.size w W) (hX:VrV W W.heap.size X x) (hQ:QbK w.heap.size q (slice C q.nights.length c1) W)=>Ziy x q p X _ W hX hQ.v hr bP bS (Z0v ht hb);have bk:Hid (numI l q.ver=Z1x (λx=>decide (x.num=q.ver)) l):=rfl;rw [<- bk.o] at bn;have G:=Z2n (λx:Vr=>decide (x.num=q.ver)) l;rw [<- bk.o] at G;obtain ⟨M,O⟩:∃ M,honV l q p=M:=⟨_,rfl⟩
 have bD:=λh=>O.symm.trans (@Zkt l q p h);have bB:=λh1 h2 h=>O.symm.trans (@ZfG l q p h1 h2 h);have bN:=λh1 h2 i L h=>O.symm.trans (@Zku l q p h1 h2 i L h);rw [O];obtain ⟨A,c,rfl,_⟩:=id N;obtain ⟨k0,k1,f,S,Z,T,k6,y,R,k9,ba,V⟩:=bm.all;have b1:=Z0A q C q.nights.length c1;obtain ⟨HV,bh,bK,bA,b0,bI,bu,bW,bt,bO,bH,bY⟩:=zh12 N bJ bm bM bv bG bn H bD bB bN G;clear N bJ bm bM bv bG bn H bD bB bN G ht hU hI hr O bk;go_enter func15,ntmps15;go_wp2_with fail;generalize w.alloc (.cells (qtC q (slice C q.nights.length c1)) 31)=w1 at *
 refine (bA.o _ bh.o).mono ?_;rintro e w2 ⟨rfl,bg⟩;have be:=zh (Z00 bh.o bg);have bL:=zh (bK.o.on bg);clear bg bA bh bK k0 k1 f S Z T k6 y R k9 ba V;cases h1:vsB l with
 | false =>have B:=bt.o (λh=>by rw [h1] at h;cases h.1);subst B;go_wp2_with fail;refine bodyPost_ret (v:=.tuple #[vI 0,vI 0,vI 1]) (by simp [results,results15,go_sem]) rfl ?_;exact ⟨rfl,be.o⟩
 | true =>
  go_wp2_with fail;refine (bI.o _).mono ?_;rintro e w3 ⟨rfl,bc⟩;have HB3:=zh (Z00 be.o bc);have bd:=zh (bL.o.on bc);clear bc bI be bL;cases h2:memB p with
  | false =>have B:=bt.o (λh=>by rw [h2] at h;cases h.2);subst B;go_wp2_with fail;refine bodyPost_ret (v:=.tuple #[vI 0,vI 0,vI 1]) (by simp [results,results15,go_sem]) rfl ?_;exact ⟨rfl,HB3.o⟩
  | true =>
   have bQ:=zh (bO.o h1 h2);have bU:=zh (bH.o h1 h2);have bT:=zh ((Z0B.1 h1).1);clear bt bO bH;go_wp2_with fail;refine (bu.o _ HB3.o bd.o).mono ?_;rintro e D ⟨rfl,br⟩;have F:=zh (Z00 HB3.o br);have r:=zh (bd.o.on br);clear br bu HB3 bd;generalize numI l q.ver=I at *
   by_cases h4:I<0
   . have B:=bQ.o h4;subst B;have d4:decide (I<0)=true:=by simpa using h4
     go_wp2_with fail;refine bodyPost_ret (v:=.tuple #[vI 0,vI 0,vI 4]) (by simp [results,results15,go_sem]) rfl ?_;exact ⟨rfl,F.o⟩
   . have d4:decide (I<0)=false:=by simpa using h4
     obtain ⟨i,rfl⟩:=zE2 (show 0<=I by omega);have G:=bY.o;have L:i<l.length:=by have:=G.2;omega
     have b2:(0:Int)<=i:=by omega
     have b5:(i:Int)<l.length:=by omega
     have hm:=bU.o i L rfl;have bx:=(bT.o i L L).1;obtain ⟨g,o,RA,rc,rfl,hg,hR,x0,x1,x2⟩:=Z36 (HV.o.on F.o) L;have H:=λW (hb:Below w.heap.size w W) (hX:VrV W W.heap.size (.agg #[vI l[i].num,vI l[i].time,slice RA l[i].rs.length rc]) l[i]) (hQ:QbK w.heap.size q (slice C q.nights.length c1) W)=>bW.o l[i] _ W hb hX hQ;rw [Zcw bx h2] at H;generalize (Z0C l[i] q p).1=b at *
     generalize l[i]=x at *
     clear G h4;have bb:∀ d os,Calls prog 31 #[.agg #[vI x.num,vI x.time,slice RA x.rs.length rc],.agg (qtC q (slice C q.nights.length c1)),vI p] (grow (redrawn D d) os) λe w''=>e=.returned (.tuple #[.bool b,vI 0])/\∃ p:Regrown,w''=grow (redrawn D p.d) p.os:=λd os =>Calls.regrown_of (H _ (Z00 F.o (below_regrown D d os)) ((Zf3 hR F.o.size).on (below_regrown D d os) |>.up (below_regrown D d os).size) (r.o.on (below_regrown D d os)));unfold qtC at bb;obtain ⟨k0,k1,f,S,Z,T,k6,y,R,k9,ba,V⟩:=r.o.all;have e0:=cell_regrown x0;have e1:=cell_regrown x1;have e2:=cell_regrown x2;have j0:=cell_regrown k0;have j1:=cell_regrown k1;have j2:=cell_regrown f;have j3:=cell_regrown S;have j4:=cell_regrown Z;have j5:=cell_regrown T;have j6:=cell_regrown k6;have j7:=cell_regrown y;have j8:=cell_regrown R;have j9:=cell_regrown k9;have bR:=cell_regrown ba;have bZ:=cell_regrown V;have bq:=zh hm;clear hm H bx hR;go_wp2_with fail;refine wp_region_quiet_below (by kernel_rfl) (by kernel_rfl) ?_
     repeat (first | go_big_quiet_step (exact bb _ _) | quiet_step (exact bb _ _))
     refine wpQuiet_nil ?_;intro _ bV;obtain ⟨⟨dq,bE⟩,bX⟩:=bV;subst bX;have bf:=below_regrown D dq bE;have bF:=Z00 F.o bf;have bz:=r.o.on bf;generalize grow (redrawn D dq) bE=w6 at *
     have m:=zh bF;have bp:=zh bz;clear bF bz bf bb F r e0 e1 e2 j0 j1 j2 j3 j4 j5 j6 j7 j8 j9 bR bZ x0 x1 x2 k0 k1 f S Z T k6 y R k9 ba V;cases b with
     | false =>have B:M=(0,0,9):=bq.o;subst B;go_wp2_with fail;refine bodyPost_ret (v:=.tuple #[vI 0,vI 0,vI 9]) (by simp [results,results15,go_sem]) rfl ?_;exact ⟨rfl,m.o⟩
     | true =>
      have j:Hid (M=if inF l q.time=i then (q.total,q.keep,0) else (0,0,6)):=bq.o;clear bq;have t1:=bp.o.c 1 (vI q.time) rfl;go_wp2_with fail;refine (b0.o _ m.o).mono ?_;rintro e w7 ⟨rfl,bs⟩;have Y:=bp.o.on bs;have t2:=Y.c 2 (vI q.total) rfl;have t3:=Y.c 3 (vI q.keep) rfl;have bC:=zh (Z00 m.o bs);have b3:=zh Y;clear Y bs m bp t1;by_cases h5:inF l q.time=i
      . have B:=j.o.trans (zp h5);subst B;have d5:(inF l q.time != (i:Int))=false:=by rw [h5];simp
        generalize inF l q.time=J at *
        clear h5 j;go_wp2_with fail;go_quiet (fail);go_wp2_with fail;refine bodyPost_ret (v:=.tuple #[vI q.total,vI q.keep,vI 0]) (by simp [results,results15,go_sem]) rfl ?_;exact ⟨rfl,Z04 bC.o _⟩
      . have B:=j.o.trans (zf h5);subst B;have d5:(inF l q.time != (i:Int))=true:=by simpa using h5
        generalize inF l q.time=J at *
        clear h5 j;go_wp2_with fail;refine bodyPost_ret (v:=.tuple #[vI 0,vI 0,vI 6]) (by simp [results,results15,go_sem]) rfl ?_;exact ⟨rfl,bC.o⟩
end
section
open Go.RowKit Lx Px Qx
namespace Qx
attribute [local irreducible] Vr.dig powP sigE sigS
def hvA:Vr:=⟨1,10,[Z4u.rt]⟩
def hvB:Vr:=⟨2,20,[Z4b.rt]⟩
theorem ZfH:hvA.okB=true:=by
 unfold hvA Vr.okB;simp only [Zn6,List.all_cons,List.all_nil,Zn7];rfl
theorem ZqC:hvB.okB=true:=by
 unfold hvB Vr.okB;simp only [Zna,List.all_cons,List.all_nil,Znb];rfl
theorem hv_ok1:VsOk [hvA]:=by
 refine ⟨λi h _=>?_,by decide⟩;have:i=0:=by simp at h;omega
 subst this;exact ⟨ZfH,λh=>absurd h (by decide)⟩
theorem Zg0:VsOk [hvA,hvB]:=by
 refine ⟨λi h _=>?_,by decide⟩;have:i=0\/i=1:=by simp at h;omega
 rcases this with rfl | rfl
 . exact ⟨ZfH,λh=>absurd h (by decide)⟩
 . exact ⟨ZqC,λ_=>⟨(show (1:Int)<2 by decide),(show (10:Int)<=20 by decide)⟩⟩
theorem hv_nil:VsOk []:=⟨λi h _=>absurd h (by simp),by decide⟩
theorem Zg1:Z4z [] 10 [Z4u.rt]=0/\Z2F [] 10 [Z4u.rt]=hvA:=by
 have e:Z2F [] 10 [Z4u.rt]=hvA:=rfl;refine ⟨?_,e⟩;rw [Z3f (Z0B.2 hv_nil) (λh=>absurd h (by simp)),e,ZfH];rfl
theorem Zg2:Z4z [hvA] 20 [Z4b.rt]=0/\Z2F [hvA] 20 [Z4b.rt]=hvB:=by
 have e:Z2F [hvA] 20 [Z4b.rt]=hvB:=rfl;refine ⟨?_,e⟩;rw [Z3f (Z0B.2 hv_ok1) (λ_=>(show (10:Int)<=20 by decide)),e,ZqC];rfl
theorem Zpt:Z4z [hvA,hvB] 19 [Z4b.rt]=6:=Zef (Z0B.2 Zg0) (by decide) (by decide)
theorem Zs0 (t:Int)(k:Int)(h:inF [hvA,hvB] t=k)(B:Z18 t=true):atV [hvA,hvB] t=if k<0 then (.zero,false,0) else ([hvA,hvB].getD k.toNat .zero,true,0):=by
 unfold atV;rw [Z0B.2 Zg0,B,h];rfl
theorem Zs1:atV [hvA,hvB] 19=(hvA,true,0):=Zs0 19 0 (by decide) (by decide)
theorem Zs2:atV [hvA,hvB] 20=(hvB,true,0):=Zs0 20 1 (by decide) (by decide)
theorem hv_at9:atV [hvA,hvB] 9=(.zero,false,0):=(Zs0 9 (-1) (by decide) (by decide)).trans (zp (by decide))
def hvW (t:Int):Qt:=⟨1,t,20000,10000,Zdm,[10000,10000],hvA.dig,0,0⟩
def hvQ (t:Int):Qt:={ hvW t with sE:=(sigE 5 6 (hvW t).says:Nat),sS:=(sigS 5 6 (hvW t).says:Nat) }
theorem Zb9 (t:Int)(h:t=15\/t=25):Z6D hvA Zdm t 5 6=(hvQ t,0):=by
 have B:Z1j hvA Zdm t=.ok (hvW t):=Z8k (ns:=[10000,10000]) Zf1;rw [Zg9 ZfH (by decide) (by rcases h with rfl | rfl <;> decide) (by decide) (by decide),zf (by rcases h with rfl | rfl <;> decide),B];rw [show (5:Int).toNat=5 from rfl,show (6:Int).toNat=6 from rfl];unfold hvQ;rfl
theorem ZqD:memB (powP 4 5:Nat)=true:=ZmD 5 (ZmE 5)
theorem Zkv (q:Qt)(b:Bool)(C:q.ver=1)(B:Z0C hvA q (powP 4 5:Nat)=(b,0))(x:Int × Int × Int)(F:(if b then (if inF [hvA,hvB] q.time=0 then (q.total,q.keep,0) else (0,0,6)) else (0,0,9))=x):honV [hvA,hvB] q (powP 4 5:Nat)=x:=by
 have D:numI [hvA,hvB] q.ver=(0:Nat):=by rw [C];decide
 rw [Zku (Z0B.2 Zg0) ZqD (i:=0) (by decide) D];show (if (Z0C hvA q (powP 4 5:Nat)).1=true then _ else _)=x;rw [B];exact F
theorem Zg3 (t:Int)(h:t=15\/t=25):Z0C hvA (hvQ t) (powP 4 5:Nat)=(true,0):=by
 have h:=Zi0 (Zb9 t h);rwa [show (5:Int).toNat=5 from rfl] at h
theorem Zs3:honV [hvA,hvB] (hvQ 15) (powP 4 5:Nat)=(20000,10000,0):=Zkv _ true rfl (Zg3 15 (.inl rfl)) _ (by rw [zp rfl,zp (show inF [hvA,hvB] (hvQ 15).time=0 from (show inF [hvA,hvB] 15=0 by decide))];rfl)
theorem Zs4:honV [hvA,hvB] (hvQ 25) (powP 4 5:Nat)=(0,0,6):=Zkv _ true rfl (Zg3 25 (.inr rfl)) _ (by rw [zp rfl,zf (show ¬ inF [hvA,hvB] (hvQ 25).time=0 from (show ¬ inF [hvA,hvB] 25=0 by decide))])
theorem Zpu:Z0C hvA { hvQ 15 with total:=20001 } (powP 4 5:Nat)=(false,0):=by
 refine Zem (Zb9 15 (.inl rfl)) rfl rfl ?_ ZqD;rw [<- Bool.not_eq_true,Qt.same_iff];rintro ⟨_,_,h,_⟩;exact absurd (show (20001:Int)=20000 from h) (by decide)
theorem Zs5:honV [hvA,hvB] { hvQ 15 with total:=20001 } (powP 4 5:Nat)=(0,0,9):=Zkv _ false rfl Zpu _ rfl
theorem Zba (t k:Int)(h:0<=t/\t<=100)(hk:0<=k/\k<=100000):(∀ x∈({ hvQ t with total:=k }:Qt).says,-9223372036854775808<=x/\x<=9223372036854775807):=by
 have C:=Z9e hvA;unfold hvQ hvW;generalize hvA.dig=d at *
 intro x B;simp only [Qt.says,Zdm,zC,zD,List.not_mem_nil,or_false] at B;rcases B with (B | B) | B
 . rcases B with rfl | rfl | rfl | rfl | rfl | rfl | rfl | rfl | rfl <;> first | omega | decide
 . rcases B with rfl | rfl <;> decide
 . rcases B with rfl | rfl <;> omega
theorem Zpv:vsB [hvA,hvB]=true:=Z0B.2 Zg0
theorem Zs6:vsB [⟨0,0,[]⟩]=false:=Z5a.2 λh=>absurd ((h.1 0 (by decide) (by decide)).1) (by decide)
end Qx
end
section
open Go.RowKit Lx Px Qx
attribute [local irreducible] Qx.Vr.dig Qx.powP Qx.sigE Qx.sigS
def hv2:List Vr:=[hvA,hvB]
structure VmB (B:Nat) (l:List Vr) (M:Value) (W:World):Prop where
 s:VssV W B M l
 le:B<=W.heap.size
theorem VmB.v {B:Nat}{l:List Vr}{M:Value}{W:World}(h:VmB B l M W):VssV W W.heap.size M l:=h.s.up h.le
theorem VmB.far {B C:Nat}{l:List Vr}{M:Value}{W D:World}(h:VmB B l M W)(hb:Below C W D)(F:B<=C):VmB B l M D:=⟨h.s.on (hb.mono F),zt h.le hb.size⟩
theorem VmB.on {B:Nat}{l:List Vr}{M:Value}{W C:World}(h:VmB B l M W)(hb:Below W.heap.size W C):VmB B l M C:=h.far hb h.le
theorem hv_zs (W:World):VssV (W.alloc (.cells #[vI 0,vI 0,slice none 0 0] 36)) (W.alloc (.cells #[vI 0,vI 0,slice none 0 0] 36)).heap.size (slice (some ⟨W.heap.size,0,none⟩) 1 1) [⟨0,0,[]⟩]:=by
 have h:=za W (.cells #[vI 0,vI 0,slice none 0 0] 36);refine ⟨_,1,rfl,zn _,λ_=>⟨_,0,rfl,by simp,λk hk=>?_⟩⟩;have:k=0:=by simp at hk;omega
 subst this;exact ⟨none,0,RtsV.nil _ _,by rw [zH h];rfl,by rw [zH h];rfl,by rw [zH h];rfl⟩
structure AxB (p:Nat) (W:World):Prop where
 h:W.heap[p]?=some (.cells #[vI 1,vI 4,vI 6,vI 2] 25 (0,0))
theorem AxB.on {p:Nat}{W B:World}(h:AxB p W)(hb:Below W.heap.size W B):AxB p B:=⟨(hb.block _ (zF2.1 h.h).1).trans h.h⟩
theorem AxB.c {p:Nat}{W:World}(h:AxB p W):W.cell? ⟨p,0,none⟩=some (vI 1)/\W.cell? ⟨p,1,none⟩=some (vI 4)/\W.cell? ⟨p,2,none⟩=some (vI 6)/\W.cell? ⟨p,3,none⟩=some (vI 2) := ⟨by rw [zH h.h];rfl,by rw [zH h.h];rfl,by rw [zH h.h];rfl,by rw [zH h.h];rfl⟩
theorem Zg4 {p c:Nat}{A:Option Addr}{W:World}(h:VxB p hvA (slice A 1 c) W):W.cell? ⟨p,0,none⟩=some (vI 1)/\W.cell? ⟨p,1,none⟩=some (vI 10)/\W.cell? ⟨p,2,none⟩=some (slice A 1 c):=h.cells
theorem ZhC (w:World)(ht:Tabs w.heap.size w)(hM:Mx w w.heap.size):Calls prog 4 #[] w λe w'=>e=.returned (.bool true)/\Below w.heap.size w w':=by
 have F:=zh ht;have HM:=zh hM;clear ht hM;go_enter func4,ntmps4;go_wp2_with fail;refine (Zdq w HM.o).mono ?_;rintro e w1 ⟨b4,A1,c1,rfl,hR⟩;have I:=Z8i [] 10 [Z4u.rt] (slice none 0 0) (slice A1 1 c1) w1 (VssV.nil _ _ _) hR (by simp) (Z0v F.o b4);unfold Zcv at I;rw [Zg1.1,Zg1.2] at I;have HP:=zh I;have cT:=zh b4;clear I b4 hR;go_wp2_with fail;refine HP.o.mono ?_;rintro e w2 ⟨SV,rfl,D,cS⟩;simp only [if_true] at D;obtain ⟨A2,c2,rfl,_⟩:=id D;dsimp only [zw,zx,Nat.reduceAdd,zn2] at D |-
 have bM:=zh (Z00 cT.o cS);have c8:=zh D;clear D cT HP cS;go_wp2_with fail;refine (Z83 w2 (Zng HM.o bM.o)).mono ?_;rintro e w3 ⟨bj,A3,c3,rfl,hR⟩;have bF:=Z00 bM.o bj;have I:=Z8i [hvA] 20 [Z4b.rt] (slice A2 1 c2) (slice A3 1 c3) w3 ((c8.o.on bj).up bj.size) hR (by simp) (Z0v F.o bF);unfold Zcv at I;rw [Zg2.1,Zg2.2] at I;have HP:=zh I;have dn:=zh bF;clear I bF hR bj bM c8;go_wp2_with fail;refine HP.o.mono ?_;rintro e w4 ⟨SV,rfl,D,dF⟩;simp only [if_true] at D;obtain ⟨H,c4,rfl,_⟩:=id D;dsimp only [zw,zx,Nat.reduceAdd,zc2,zn2] at D |-
 have da:=Z00 dn.o dF;have cj:VmB w4.heap.size hv2 (slice H 2 c4) w4:=⟨D,zn _⟩
 have bz:=zh da;have bT:=zh cj;clear da cj dn HP dF D;have B:=Zh0 hv2 19 (slice H 2 c4) w4 bT.o.v (by decide) (Z0v F.o bz.o);unfold hv2 at B;rw [Zs1] at B;have C:=zh B;clear B;go_wp2_with fail;refine C.o.mono ?_;rintro e w5 ⟨V,rfl,hV,b6⟩;obtain ⟨S,M,rfl,dm⟩:=hV;rw [show vrV hvA (slice S hvA.rs.length M)=.agg #[vI 1,vI 10,slice S 1 M] from rfl];clear C;have dk:=zh (Z00 bz.o b6);have ct:=zh (bT.o.on b6);clear bz bT b6;have bN:=(zr w5.heap.size w5).alloc (zn _) (.cells #[vI 1,vI 10,slice S 1 M] 36);have ds:VxB w5.heap.size hvA (slice S 1 M) (w5.alloc (.cells #[vI 1,vI 10,slice S 1 M] 36)):=VxB.new (v:=hvA) dm;have ca:=zh ds;clear ds;have bX:=zh (Z00 dk.o bN);have bZ:=zh (ct.o.on bN);clear dk ct bN dm;dsimp only;go_upto_region 4 with (refine wpList_store_vrn rfl _ _ rfl _ _ rfl rfl rfl rfl rfl ?_);generalize w5.alloc (.cells #[vI 1,vI 10,slice S 1 M] 36)=w6 at *
 have B:=Zh0 hv2 20 (slice H 2 c4) w6 bZ.o.v (by decide) (Z0v F.o bX.o);unfold hv2 at B;rw [Zs2] at B;have C:=zh B;clear B;go_wp2_with fail;refine C.o.mono ?_;rintro e l ⟨V,rfl,hV,bu⟩;obtain ⟨d,g,rfl,dN⟩:=hV;rw [show vrV hvB (slice d hvB.rs.length g)=.agg #[vI 2,vI 20,slice d 1 g] from rfl];clear C;have cL:=zh (Z00 bX.o bu);have cf:=zh (bZ.o.on bu);have cW:=zh (ca.o.on bu);clear bX bZ ca bu;have bk:=(zr l.heap.size l).alloc (zn _) (.cells #[vI 2,vI 20,slice d 1 g] 36);have dG:VxB l.heap.size hvB (slice d 1 g) (l.alloc (.cells #[vI 2,vI 20,slice d 1 g] 36)):=VxB.new (v:=hvB) dN;have cg:=zh dG;clear dG;have bR:=zh (Z00 cL.o bk);have bv:=zh (cf.o.on bk);have cE:=zh (cW.o.on bk);clear cL cf cW bk dN;dsimp only;go_upto_region 5 with (refine wpList_store_vrn rfl _ _ rfl _ _ rfl rfl rfl rfl rfl ?_);generalize l.alloc (.cells #[vI 2,vI 20,slice d 1 g] 36)=w8 at *
 have B:=Zh0 hv2 9 (slice H 2 c4) w8 bv.o.v (by decide) (Z0v F.o bR.o);unfold hv2 at B;rw [hv_at9] at B;have C:=zh B;clear B;go_wp2_with fail;refine C.o.mono ?_;rintro e w9 ⟨V,rfl,hV,y⟩;obtain ⟨AZ,cZ,rfl,d8⟩:=hV;rw [show vrV Vr.zero (slice AZ Vr.zero.rs.length cZ)=.agg #[vI 0,vI 0,slice AZ 0 cZ] from rfl];clear C;have dv:=zh (Z00 bR.o y);have cG:=zh (bv.o.on y);have cC:=zh (cE.o.on y);have ck:=zh (cg.o.on y);clear bR bv cE cg y;have A:=(zr w9.heap.size w9).alloc (zn _) (.cells #[vI 0,vI 0,slice AZ 0 cZ] 36);have cx:=zh (Z00 dv.o A);have cJ:=zh (cG.o.on A);have cK:=zh (cC.o.on A);have cM:=zh (ck.o.on A);clear dv cG cC ck A d8;dsimp only;go_upto_region 6 with (refine wpList_store_vrn rfl _ _ rfl _ _ rfl rfl rfl rfl rfl ?_);generalize w9.alloc (.cells #[vI 0,vI 0,slice AZ 0 cZ] 36)=bc at *
 have be:=(zr bc.heap.size bc).alloc (zn _) (.cells #[vI 1,vI 4,vI 6,vI 2] 25);have du:AxB bc.heap.size (bc.alloc (.cells #[vI 1,vI 4,vI 6,vI 2] 25)):=⟨za _ _⟩
 have bQ:=zh du;clear du;have b0:=zh (Z00 cx.o be);have dQ:=zh (cJ.o.on be);have bm:=zh (cK.o.on be);have dR:=zh (cM.o.on be);clear cx cJ cK cM be;go_upto_region 9 with fail;generalize bc.alloc (.cells #[vI 1,vI 4,vI 6,vI 2] 25)=dU at *
 obtain ⟨q0,q1,q2⟩:=Zg4 bm.o;obtain ⟨q3,q4,q5,q6⟩:=bQ.o.c;have B:=ZcE hvA Zdm 15 5 6 (.agg #[vI 1,vI 10,slice S 1 M]) dU bm.o.v (Z0v F.o b0.o);rw [Zb9 15 (by decide)] at B;have C:=zh B;clear B;go_wp2_with fail;refine C.o.mono ?_;rintro e J ⟨QV,rfl,hq,r⟩;clear C q0 q1 q2 q3 q4 q5 q6;obtain ⟨AP,cP,rfl,X⟩:=Z4c hq;clear hq;obtain ⟨L,G⟩:∃ nv,(Value.slice AP (hvQ 15).nights.length cP)=nv:=⟨_,rfl⟩
 have hone:(qtC (hvQ 15) L).all (·.oneCell')=true:=by rw [<- G];exact Z0A _ _ _ _
 have dK:∀ W p,QbK p (hvQ 15) L W->QtV W W.heap.size (.agg (qtC (hvQ 15) L)) (hvQ 15):=by rw [<- G];exact λW p h=>h.v
 have dc:∀ W p,QbK p { hvQ 15 with total:=20001 } L W->QtV W W.heap.size (.agg (qtC { hvQ 15 with total:=20001 } L)) { hvQ 15 with total:=20001 }:=by rw [<- G];exact λW p h=>h.v
 rw [G] at X |-
 clear G;have dV:=zh dK;have fd:=zh dc;clear dK dc;have b8:=zh (Z00 b0.o r);have bH:=zh (dQ.o.on r);have bL:=zh (bm.o.on r);have bG:=zh (dR.o.on r);have cU:=zh (bQ.o.on r);clear b0 dQ bm dR bQ r;have fb:=b8.o.size;have d0:=bL.o.lt;have d4:=bG.o.lt;have dZ:=bH.o.le;have j:=(zr J.heap.size J).alloc (zn _) (.cells (qtC (hvQ 15) L) 31);have dq:=zh (QbK.new (q:=hvQ 15) X);have bA:=zh (Z00 b8.o j);have dh:=zh (bH.o.on j);have bs:=zh (bL.o.on j);have cy:=zh (bG.o.on j);have bV:=zh (cU.o.on j);clear b8 bH bL bG cU j X;dsimp only;go_upto_region 10 with (refine Z1g rfl _ _ rfl _ _ rfl rfl rfl (Z5s _ _) hone ?_);generalize J.alloc (.cells (qtC (hvQ 15) L) 31)=d2 at *
 clear hone;obtain ⟨q0,q1,q2⟩:=Zg4 bs.o;obtain ⟨q3,q4,q5,q6⟩:=bV.o.c;have B:=ZcE hvA Zdm 25 5 6 (.agg #[vI 1,vI 10,slice S 1 M]) d2 bs.o.v (Z0v F.o bA.o);rw [Zb9 25 (by decide)] at B;have C:=zh B;clear B;go_wp2_with fail;refine C.o.mono ?_;rintro e bp ⟨QV,rfl,hq,Z⟩;clear C q0 q1 q2 q3 q4 q5 q6;obtain ⟨AQ,cQ,rfl,X⟩:=Z4c hq;clear hq;obtain ⟨O,G⟩:∃ nv,(Value.slice AQ (hvQ 25).nights.length cQ)=nv:=⟨_,rfl⟩
 have hone:(qtC (hvQ 25) O).all (·.oneCell')=true:=by rw [<- G];exact Z0A _ _ _ _
 have cO:∀ W p,QbK p (hvQ 25) O W->QtV W W.heap.size (.agg (qtC (hvQ 25) O)) (hvQ 25):=by rw [<- G];exact λW p h=>h.v
 have cD:∀ W p,QbK p { hvQ 25 with total:=20001 } O W->QtV W W.heap.size (.agg (qtC { hvQ 25 with total:=20001 } O)) { hvQ 25 with total:=20001 }:=by rw [<- G];exact λW p h=>h.v
 rw [G] at X |-
 clear G;have dT:=zh cO;have fg:=zh cD;clear cO cD;have dx:=zh (Z00 bA.o Z);have dO:=zh (dh.o.on Z);have cs:=zh (bs.o.on Z);have cN:=zh (cy.o.on Z);have dg:=zh (bV.o.on Z);have dC:=zh (dq.o.on Z);clear bA dh bs cy bV dq Z;have Y:=(zr bp.heap.size bp).alloc (zn _) (.cells (qtC (hvQ 25) O) 31);have cI:=zh (QbK.new (q:=hvQ 25) X);have cz:=zh (Z00 dx.o Y);have cv:=zh (dO.o.on Y);have cb:=zh (cs.o.on Y);have dt:=zh (cN.o.on Y);have dy:=zh (dg.o.on Y);have cA:=zh (dC.o.on Y);clear dx dO cs cN dg dC Y X;dsimp only;go_upto_region 11 with (refine Z1g rfl _ _ rfl _ _ rfl rfl rfl (Z5s _ _) hone ?_);generalize bp.alloc (.cells (qtC (hvQ 25) O) 31)=fa at *
 clear hone;have bq:=Zi2 5 fa (by decide);rw [show (5:Int).toNat=5 from rfl] at bq;have bD:=Zs3;have bC:=Zs4;have bE:=Zs5;generalize powP 4 5=pb at bq bD bC bE;obtain ⟨dj,dP,dr,cR⟩:=zh4 bq bD bC bE;clear bq bD bC bE;go_wp2_with fail;refine dj.o.mono ?_;rintro e fc ⟨rfl,U⟩;clear dj;have bK:=zh (Z00 cz.o U);have bJ:=zh (cv.o.on U);have cH:=zh (cb.o.on U);have dE:=zh (dt.o.on U);have ce:=zh (dy.o.on U);have br:=zh (cA.o.on U);have cY:=zh (cI.o.on U);clear cz cv cb dt dy cA cI U;have R:=zh br.o.h;go_wp2_with (refine Z0G rfl _ rfl J.heap.size rfl _ (Z5s _ _) _ R.o ?_);have B:=Z5m hv2 (hvQ 15) (pb:Nat) (slice H 2 c4) (.agg (qtC (hvQ 15) L)) fc bJ.o.v (dV.o _ _ br.o) (by decide) (Zba 15 20000 (by decide) (by decide)) (show hvA.dig<18446744073709551616 from Z9e hvA) (show ([10000,10000]:List Int).length<=50000 by decide) (Z0v F.o bK.o);unfold HonP hv2 at B;rw [dP.o] at B;have C:=zh B;clear B;refine C.o.mono ?_;rintro e dW ⟨rfl,T⟩;dsimp only;clear C R dP;have bP:=zh (Z00 bK.o T);have bO:=zh (bJ.o.on T);have dI:=zh (cH.o.on T);have dd:=zh (dE.o.on T);have db:=zh (ce.o.on T);have cn:=zh (br.o.on T);have bh:=zh (cY.o.on T);clear bK bJ cH dE ce br cY T;have R:=zh bh.o.h;go_wp2_with (refine Z0G rfl _ rfl bp.heap.size rfl _ (Z5s _ _) _ R.o ?_);have B:=Z5m hv2 (hvQ 25) (pb:Nat) (slice H 2 c4) (.agg (qtC (hvQ 25) O)) dW bO.o.v (dT.o _ _ bh.o) (by decide) (Zba 25 20000 (by decide) (by decide)) (show hvA.dig<18446744073709551616 from Z9e hvA) (show ([10000,10000]:List Int).length<=50000 by decide) (Z0v F.o bP.o);unfold HonP hv2 at B;rw [dr.o] at B;have C:=zh B;clear B;refine C.o.mono ?_;rintro e b1 ⟨rfl,N⟩;dsimp only;clear C R dr;have cr:=Z00 bP.o N;have cc:=bO.o.on N;have dB:=dI.o.on N;have df:=dd.o.on N;have dL:=db.o.on N;have dp:=cn.o.on N;have cB:=bh.o.on N;have dA:=zh cr
 obtain ⟨dH,dM,cd,dX,bg,d7⟩:=zh6 cc dB df dL dp cB;clear cr cc dB df dL dp cB bP bO dI dd db cn bh N d7 dX;have t2:b1.cell? ⟨J.heap.size,2,none⟩=some (vI 20000):=bg.o.c 2 _ rfl;have f2:=bg.o.f 2;have bd:=(zr J.heap.size b1).setCell (p:=⟨J.heap.size,2,none⟩) (zn _) (vI 20001);have bn:=zh (bg.o.set2 20001);have cm:=zh (dM.o.far bd d0);have dJ:=zh (cd.o.far bd d4);have bU:=zh (dH.o.far bd dZ);have bY:=zh (dA.o.trans (bd.mono fb));clear bd dA dH dM cd bg;go_upto_region 15 with fail;generalize b1.setCell ⟨J.heap.size,2,none⟩ (vI 20001)=d3 at *
 clear t2 f2;have R:=zh bn.o.h;go_wp2_with (refine Z0G rfl _ rfl J.heap.size rfl _ (Z5s _ _) _ R.o ?_);have B:=Z5m hv2 { hvQ 15 with total:=20001 } (pb:Nat) (slice H 2 c4) (.agg (qtC { hvQ 15 with total:=20001 } L)) d3 bU.o.v (fd.o _ _ bn.o) (by decide) (Zba 15 20001 (by decide) (by decide)) (show hvA.dig<18446744073709551616 from Z9e hvA) (show ([10000,10000]:List Int).length<=50000 by decide) (Z0v F.o bY.o);unfold HonP hv2 at B;rw [cR.o] at B;have C:=zh B;clear B;refine C.o.mono ?_;rintro e dS ⟨rfl,m⟩;dsimp only;clear C R cR;have bI:=zh (Z00 bY.o m);have c7:=zh (bU.o.on m);have b9:=zh (cm.o.on m);have dz:=zh (dJ.o.on m);have d9:=zh (bn.o.on m);clear bY bU cm dJ bn m d9;go_wp2_with fail;refine (Z83 dS (Zng HM.o bI.o)).mono ?_;rintro e dY ⟨ba,A9,c9,rfl,c6⟩;have bB:=zh (Z00 bI.o ba);have b3:=zh (c7.o.on ba);have dD:=zh (b9.o.on ba);have cF:=zh (dz.o.on ba);clear bI c7 b9 dz ba;have B:=Z8i hv2 19 [Z4b.rt] (slice H 2 c4) (slice A9 1 c9) dY b3.o.v c6 (by decide) (Z0v F.o bB.o);unfold Zcv hv2 at B;rw [Zpt] at B;have C:=zh B;clear B c6;go_wp2_with fail;refine C.o.mono ?_;rintro e b5 ⟨SV,rfl,D,bb⟩;rw [zf (by decide)] at D;subst D;clear C;have b7:=zh (Z00 bB.o bb);have bS:=zh (b3.o.on bb);have bx:=zh (dD.o.on bb);have bW:=zh (cF.o.on bb);clear bB b3 dD cF bb;have v0:b5.cell? ⟨w5.heap.size,0,none⟩=some (vI 1):=bx.o.cells.1;have x0:b5.cell? ⟨l.heap.size,0,none⟩=some (vI 2):=bW.o.cells.1;have B:=Z3g hv2 (slice H 2 c4) b5 bS.o.v (by decide) (Z0v F.o b7.o);unfold hv2 at B;rw [Zpv] at B;have C:=zh B;clear B;go_wp2_with fail;refine C.o.mono ?_;rintro e bt ⟨rfl,bf⟩;clear C v0 x0;have c5:=Z00 b7.o bf;have cu:=bS.o.on bf;have de:=bx.o.on bf;have ch:=bW.o.on bf;obtain ⟨b2,ff,fh,fe⟩:=zh4 c5 cu de ch
 clear c5 cu de ch b7 bS bx bW bf;have B:=Z3g [⟨0,0,[]⟩] (slice (some ⟨bt.heap.size,0,none⟩) 1 1) _ (hv_zs bt) (by decide) (Z0v (Z0v F.o b2.o) ((zr bt.heap.size bt).alloc (zn _) _));rw [Zs6] at B;have C:=zh B;have d1:=zh (b2.o.alloc b2.o.size (.cells #[vI 0,vI 0,slice none 0 0] 36));clear B;go_wp2_with fail;refine C.o.mono ?_;rintro e fj ⟨rfl,d5⟩;have d6:=zh (Z00 d1.o d5);go_wp2_with fail;go_ret;exact ⟨rfl,d6.o⟩
end
section
open Go.RowKit Lx Px Qx
theorem Zcx (rs:List Rt)(v:Value)(w:World)(B:RtsV w w.heap.size v rs):Calls prog 6 #[v] w λe w'=>(∃ b,e=.returned (.bool b))/\Below w.heap.size w w':=by
 obtain ⟨A,c,rfl,_⟩:=id B;have C:=Zai rs _ w B;obtain ⟨I,J⟩:∃ b,decide ((rs.length:Int)<=20)=b:=⟨_,rfl⟩
 have G:=zh C;clear C B;go_enter func6,ntmps6;go_wp2_with fail;refine (G.o).mono ?_;rintro e H ⟨⟨b,rfl⟩,F⟩;have D:=zh F;clear F;cases b
 . go_wp2_with fail;go_ret;exact ⟨⟨_,rfl⟩,D.o⟩
 . go_wp2_with fail;go_ret;exact ⟨⟨_,rfl⟩,D.o⟩
theorem Zeh (v:Vr)(V U:Value)(w:World)(l:VrV w w.heap.size V v)(q:VrV w w.heap.size U v)(O:∀ r∈v.rs,Zbk r)(T:v.rs.length<=1000000)(H:Zf2 v.rs v.rs) : Calls prog 11 #[V,U] w λe w'=>e=.returned (.bool true)/\Below w.heap.size w w':=by
 obtain ⟨A,c,rfl,R⟩:=l;obtain ⟨B,c2,rfl,S⟩:=q;have hb:=((zr w.heap.size w).alloc (zn _) (.cells #[vI v.num,vI v.time,slice A v.rs.length c] 36)).alloc (by simp) (.cells #[vI v.num,vI v.time,slice B v.rs.length c2] 36);have C:=za w (.cells #[vI v.num,vI v.time,slice A v.rs.length c] 36);have C:=Z0w C (.cells #[vI v.num,vI v.time,slice B v.rs.length c2] 36);have G:=za (w.alloc (.cells #[vI v.num,vI v.time,slice A v.rs.length c] 36)) (.cells #[vI v.num,vI v.time,slice B v.rs.length c2] 36);rw [zk] at G;have J:=Z9z v.rs v.rs _ _ _ w.heap.size (R.on hb) (S.on hb) hb.size O T H;unfold vrV;obtain ⟨X,M,N,L⟩:=zh4 hb C G J;clear hb C G J R S H O;go_enter func11,ntmps11;go_upto_region 1 with fail;generalize (w.alloc (.cells #[vI v.num,vI v.time,slice A v.rs.length c] 36)).alloc (.cells #[vI v.num,vI v.time,slice B v.rs.length c2] 36)=I at *
 have D:=λi u (hu:(#[vI v.num,vI v.time,slice A v.rs.length c]:Array Value)[i]?=some u)=>(show I.cell? ⟨w.heap.size,i,none⟩=some u by rw [zH M.o,hu])
 have F:=λi u (hu:(#[vI v.num,vI v.time,slice B v.rs.length c2]:Array Value)[i]?=some u)=>(show I.cell? ⟨w.heap.size+1,i,none⟩=some u by rw [zH N.o,hu])
 have j:=D 0 _ rfl;have d:=D 1 _ rfl;have f:=D 2 _ rfl;have g:=F 0 _ rfl;have y:=F 1 _ rfl;have b2:=F 2 _ rfl;clear D F M N T;generalize v.num=Y at *
 generalize v.time=ba at *
 have e1:decide (Y=Y)=true:=by simp
 go_wp2_with fail;refine L.o.mono ?_;rintro e w2 ⟨rfl,Z⟩;have m:=zh (Z00 X.o Z);clear Z X L j d f g y b2;go_wp2_with fail;go_ret;exact ⟨rfl,m.o⟩
end
section
open Go.RowKit Lx Px Qx Go.Sort
theorem Z3y (l:List Vr)(v:Value)(w:World)(hv:VssV w w.heap.size v l)(bn:l.length<=1000000) : Calls prog 10 #[v] w λe w'=>e=.returned (.bool (vsB l))/\Below w.heap.size w w':=by
 obtain ⟨A,c,rfl,_⟩:=id hv;have HV:=zh hv;have bd:=zh (zr w.heap.size w);clear hv;go_enter func10,ntmps10;go_wp2_with fail;go_loopw [3] (λi wr=>∃ k:Nat,k<=l.length/\i=vI k/\VsK l k/\Below w.heap.size w wr/\k<=100) (λi _=>l.length - (intOf i).toNat)
 case atStart=>exact ⟨0,Nat.zero_le _,rfl,VsK.zero l,bd.o,by omega⟩
 case round =>
  clear bd;obtain ⟨k,hk,rfl,y,V,bh⟩:=hrel;by_cases hlt:k<l.length
  . obtain ⟨g,o,RA,rc,rfl,hg,hR,c0,c1,c2⟩:=Z36 (HV.o.on V) hlt;have dl:decide ((k:Int)<l.length)=true:=by simpa using hlt
    have i1:(k:Int)<l.length:=by omega
    have f:=λW (hb:Below wr.heap.size wr W)=>Z53 l[k] _ W (Zf3 (hR.on (hb.mono V.size)) (zt V.size hb.size));have S:=@Zr7 l k hlt;have T:=λh1 h2=>y.succ hlt h1 h2;have ba:∀ (_:0<k),∃ n t,n=l[k - 1].num/\t=l[k - 1].time/\wr.cell? ⟨g,o+(k - 1)*3,none⟩=some (vI n)/\wr.cell? ⟨g,o+(k - 1)*3+1,none⟩=some (vI t):=λh0=>by
     obtain ⟨g',o',bu,br,e',_,_,O,R,_⟩:=Z36 (HV.o.on V) (k:=k - 1) (by omega);injection e' with e'
     injection e' with q j
     subst q j;exact ⟨_,_,rfl,rfl,O,R⟩
    rcases hx:l[k] with ⟨num,time,xs⟩
    rw [hx] at hR c0 c1 c2 S T f;dsimp only at hR c0 c1 c2 S T f;obtain ⟨b,hb⟩:∃ b,(⟨num,time,xs⟩:Vr).okB=b:=⟨_,rfl⟩
    rw [hb] at f;have X:=zh f;have G:=zh V;clear f V hR y;by_cases h100:k=100
    . subst h100;have dg:decide (((100:Nat):Int)>=(100:Int))=true:=by decide
      have U:Hid (vsB l=false):=zh (Z5a.2 λhc=>by have:=hc.2;omega);clear ba S T hx;go_wp2_with fail;have M:=cell_regrown c0;have I:=cell_regrown c1;have N:=cell_regrown c2;have B:=λd os=>Calls.regrown_of (X.o _ (below_regrown wr d os));refine wp_region_quiet_below (by kernel_rfl) (by kernel_rfl) ?_
      repeat (first | go_big_quiet_step (exact B _ _) | quiet_step (exact B _ _))
      refine wpQuiet_nil ?_;intro _ L;obtain ⟨⟨F,C⟩,H⟩:=L;subst H;have D:=Z00 G.o (below_regrown wr F C);generalize grow (redrawn wr F) C=w5 at *
      clear B G M c0 I c1 N c2;have J:=zh D;clear D;go_wp2_with fail;go_ret;rw [U.o];exact ⟨rfl,J.o⟩
    have dg:decide ((k:Int)>=(100:Int))=false:=by simp;omega
    have bv:decide ((100:Int)<=k)=false:=by simp;omega
    by_cases h0:0<k
    . obtain ⟨m,rfl⟩:∃ m,k=m+1:=⟨k - 1,by omega⟩
      obtain ⟨pn,pt,q,j,O,R⟩:=ba h0;simp only [Nat.add_sub_cancel] at q j O R S T;simp only [<- q,<- j] at S T;clear ba hx q j;have dz:decide (((m+1:Nat):Int) > 0)=true:=by simp
      have bp:decide ((100:Int)<=m+1)=false:=by simp;omega
      have bj:decide ((m:Int)+1<(l.length:Int))=true:=by simp;omega
      have bm:(((m+1:Nat):Int) - 1)=(m:Int):=by omega
      have bk:m<l.length:=by omega
      have bs:(0:Int)<=m:=by omega
      have bq:(m:Int)<l.length:=by omega
      have r:=zh S;have bb:=zh T;clear S T;cases b with
      | false =>
       go_wp2_with fail;have M:=cell_regrown c0;have I:=cell_regrown c1;have N:=cell_regrown c2;have Y:=cell_regrown O;have Z:=cell_regrown R;have B:=λd os=>Calls.regrown_of (X.o _ (below_regrown wr d os));refine wp_region_quiet_below (by kernel_rfl) (by kernel_rfl) ?_
       repeat (first | go_big_quiet_step (exact B _ _) | quiet_step (exact B _ _))
       refine wpQuiet_nil ?_;intro _ L;obtain ⟨⟨F,C⟩,H⟩:=L;subst H;have D:=Z00 G.o (below_regrown wr F C);generalize grow (redrawn wr F) C=w5 at *
       clear B G M c0 I c1 N c2 Y O Z R;have U:=zh (r.o (λh=>by rw [hb] at h;cases h.1));have J:=zh D;clear D;go_wp2_with fail;go_ret;rw [U.o];exact ⟨rfl,J.o⟩
      | true =>
       by_cases hn:num<=pn
       . have dn:decide (num<=pn)=true:=by simpa using hn
         go_wp2_with fail;have M:=cell_regrown c0;have I:=cell_regrown c1;have N:=cell_regrown c2;have Y:=cell_regrown O;have Z:=cell_regrown R;have B:=λd os=>Calls.regrown_of (X.o _ (below_regrown wr d os));refine wp_region_quiet_below (by kernel_rfl) (by kernel_rfl) ?_
         repeat (first | go_big_quiet_step (exact B _ _) | quiet_step (exact B _ _))
         refine wpQuiet_nil ?_;intro _ L;obtain ⟨⟨F,C⟩,H⟩:=L;subst H;have D:=Z00 G.o (below_regrown wr F C);generalize grow (redrawn wr F) C=w5 at *
         clear B G M c0 I c1 N c2 Y O Z R;have U:=zh (r.o (λh=>by have:=(h.2 (by omega)).1;omega));have J:=zh D;clear D;go_wp2_with fail;go_ret;rw [U.o];exact ⟨rfl,J.o⟩
       . have dn:decide (num<=pn)=false:=by simpa using hn
         by_cases ht:time<pt
         . have dt:decide (time<pt)=true:=by simpa using ht
           go_wp2_with fail;have M:=cell_regrown c0;have I:=cell_regrown c1;have N:=cell_regrown c2;have Y:=cell_regrown O;have Z:=cell_regrown R;have B:=λd os=>Calls.regrown_of (X.o _ (below_regrown wr d os));refine wp_region_quiet_below (by kernel_rfl) (by kernel_rfl) ?_
           repeat (first | go_big_quiet_step (exact B _ _) | quiet_step (exact B _ _))
           refine wpQuiet_nil ?_;intro _ L;obtain ⟨⟨F,C⟩,H⟩:=L;subst H;have D:=Z00 G.o (below_regrown wr F C);generalize grow (redrawn wr F) C=w5 at *
           clear B G M c0 I c1 N c2 Y O Z R;have U:=zh (r.o (λh=>by have:=(h.2 (by omega)).2;omega));have J:=zh D;clear D;go_wp2_with fail;go_ret;rw [U.o];exact ⟨rfl,J.o⟩
         . have dt:decide (time<pt)=false:=by simpa using ht
           go_wp2_with fail;have M:=cell_regrown c0;have I:=cell_regrown c1;have N:=cell_regrown c2;have Y:=cell_regrown O;have Z:=cell_regrown R;have B:=λd os=>Calls.regrown_of (X.o _ (below_regrown wr d os));refine wp_region_quiet_below (by kernel_rfl) (by kernel_rfl) ?_
           repeat (first | go_big_quiet_step (exact B _ _) | quiet_step (exact B _ _))
           refine wpQuiet_nil ?_;intro _ L;obtain ⟨⟨F,C⟩,H⟩:=L;subst H;have D:=Z00 G.o (below_regrown wr F C);generalize grow (redrawn wr F) C=w5 at *
           clear B G M c0 I c1 N c2 Y O Z R;have J:=zh D;clear D;go_wp2_with fail;go_roundw
           case rel=>exact ⟨_,by omega,by go_num,bb.o hb (λ_=>⟨by omega,by omega⟩),J.o,by omega⟩
           case measure=>simp [intOf];omega
    . have be:k=0:=by omega
      subst be;have dz:decide (((0:Nat):Int) > 0)=false:=by decide
      simp only [Nat.zero_mul,Nat.add_zero] at c0 c1 c2;clear ba hx;have r:=zh S;have bb:=zh T;clear S T;cases b with
      | false =>
       go_wp2_with fail;have M:=cell_regrown c0;have I:=cell_regrown c1;have N:=cell_regrown c2;have B:=λd os=>Calls.regrown_of (X.o _ (below_regrown wr d os));refine wp_region_quiet_below (by kernel_rfl) (by kernel_rfl) ?_
       repeat (first | go_big_quiet_step (exact B _ _) | quiet_step (exact B _ _))
       refine wpQuiet_nil ?_;intro _ L;obtain ⟨⟨F,C⟩,H⟩:=L;subst H;have D:=Z00 G.o (below_regrown wr F C);generalize grow (redrawn wr F) C=w5 at *
       clear B G M c0 I c1 N c2;have U:=zh (r.o (λh=>by rw [hb] at h;cases h.1));have J:=zh D;clear D;go_wp2_with fail;go_ret;rw [U.o];exact ⟨rfl,J.o⟩
      | true =>
       go_wp2_with fail;have M:=cell_regrown c0;have I:=cell_regrown c1;have N:=cell_regrown c2;have B:=λd os=>Calls.regrown_of (X.o _ (below_regrown wr d os));refine wp_region_quiet_below (by kernel_rfl) (by kernel_rfl) ?_
       repeat (first | go_big_quiet_step (exact B _ _) | quiet_step (exact B _ _))
       refine wpQuiet_nil ?_;intro _ L;obtain ⟨⟨F,C⟩,H⟩:=L;subst H;have D:=Z00 G.o (below_regrown wr F C);generalize grow (redrawn wr F) C=w5 at *
       clear B G M c0 I c1 N c2;have J:=zh D;clear D;go_wp2_with fail;go_roundw
       case rel=>exact ⟨_,by omega,by go_num,bb.o hb (λh=>absurd h (by omega)),J.o,by omega⟩
       case measure=>simp [intOf];omega
  . have bg:k=l.length:=by omega
    subst bg;have dl:decide ((l.length:Int)<l.length)=false:=by simp
    have bc:vsB l=true:=Z0B.2 ⟨y,bh⟩;obtain ⟨G,bt,bf⟩:=zh3 V y bc;clear V y bc;go_wp2_with fail;go_ret;rw [bf.o];exact ⟨rfl,G.o⟩
end
section
open Go.RowKit Lx Px Qx Go.Sort
def vrSm (x:Vr):Prop:=(∀ r∈x.rs,Zbk r)/\x.rs.length<=1000000
theorem Zg5 (a:Int × Int)(f:Fo):Z6b a a f f=true:=by
 have:=(Zjd f f).2 rfl;simp [Z6b,this]
theorem Zkw (r:Rt):Znd r r:=⟨rfl,rfl,rfl,rfl,rfl,rfl,rfl,rfl,rfl,rfl,Zg5 _ _,Zg5 _ _⟩
theorem ZhD (l:List Rt):Zf2 l l:=⟨rfl,λ_ _ _=>Zkw _⟩
theorem ok_sm {x:Vr}(h:x.okB=true):vrSm x:=by
 unfold Vr.okB at h;simp only [zd,decide_eq_true_eq] at h;obtain ⟨F,D,_⟩:=(Z1A _).1 h.1.2;refine ⟨λr hr=>?_,by omega⟩;have C:=D r hr;have B:Z49 r=true:=by
  unfold Z17 at C;split at C
  . assumption
  . cases C
 unfold Z49 at B;simp only [zd] at B;have a:=(Z1m B.1.2).2.2;have b:=(Z1m B.2).2.2;exact ⟨by omega,by omega⟩
theorem Zei:vrSm ⟨0,0,[]⟩:=⟨λr h=>(by cases h),by decide⟩
theorem vs_sm {l:List Vr}(h:vsB l=true):∀ x∈l,vrSm x:=λx hx=>by
 obtain ⟨k,hk,rfl⟩:=List.getElem_of_mem hx;exact ok_sm ((Z0B.1 h).1 k hk hk).1
theorem Zaa (v:Vr)(V U:Value)(w:World)(C:VrV w w.heap.size V v)(B:VrV w w.heap.size U v)(h:vrSm v) : Calls prog 11 #[V,U] w λe w'=>e=.returned (.bool true)/\Below w.heap.size w w':=Zeh v V U w C B h.1 h.2 (ZhD _)
theorem Zkx (l:List Vr)(V U:Value)(w:World)(G:VssV w w.heap.size V l)(H:VssV w w.heap.size U l)(I:∀ x∈l,vrSm x)(bd:l.length<=1000000) : Calls prog 14 #[V,U] w λe w'=>e=.returned (.bool true)/\Below w.heap.size w w':=by
 obtain ⟨A,c,rfl,_⟩:=id G;obtain ⟨A2,c2,rfl,_⟩:=id H;have C:((l.length:Int) != (l.length:Int))=false:=by simp
 have j:=zh G;have HU:=zh H;have N:=zh (zr w.heap.size w);have HS:=zh I;clear G H I;go_enter func14,ntmps14;go_wp2_with fail;go_loopw [5] (λi wr=>∃ k:Nat,k<=l.length/\i=vI k/\Below w.heap.size w wr) (λi _=>l.length - (intOf i).toNat)
 case atStart=>exact ⟨0,Nat.zero_le _,rfl,N.o⟩
 case round =>
  clear N C;obtain ⟨k,hk,rfl,B⟩:=hrel;by_cases hlt:k<l.length
  . obtain ⟨g,o,RA,rc,rfl,hg,S,c0,c1,c2⟩:=Z36 (j.o.on B) hlt;obtain ⟨g',o',bj,bf,rfl,bg,M,C,X,O⟩:=Z36 (HU.o.on B) hlt;have dl:decide ((k:Int)<l.length)=true:=by simpa using hlt
    have i1:(k:Int)<l.length:=by omega
    have J:=λW (hb:Below wr.heap.size wr W)=>Zaa l[k] _ _ W (Zf3 (S.on (hb.mono B.size)) (zt B.size hb.size)) (Zf3 (M.on (hb.mono B.size)) (zt B.size hb.size)) (HS.o _ (List.getElem_mem hlt));generalize l[k].num=bh at *
    generalize l[k].time=be at *
    generalize l[k].rs.length=rl at *
    have f:=zh J;have D:=zh B;clear J B S M;go_wp2_with fail;have y:=cell_regrown c0;have Z:=cell_regrown c1;have ba:=cell_regrown c2;have bb:=cell_regrown C;have bc:=cell_regrown X;have yd2:=cell_regrown O;have F:=λd os=>Calls.regrown_of (f.o _ (below_regrown wr d os));refine wp_region_quiet_below (by kernel_rfl) (by kernel_rfl) ?_
    repeat (first | go_big_quiet_step (exact F _ _) | quiet_step (exact F _ _))
    refine wpQuiet_nil ?_;intro _ r;obtain ⟨⟨T,L⟩,Y⟩:=r;subst Y;have R:=Z00 D.o (below_regrown wr T L);generalize grow (redrawn wr T) L=w5 at *
    clear F D y Z ba bb bc yd2 c0 c1 c2 C X O;have q:=zh R;clear R;go_wp2_with fail;go_roundw
    case rel=>exact ⟨k+1,by omega,by go_num,q.o⟩
    case measure=>simp [intOf];omega
  . have m:k=l.length:=by omega
    subst m;have dl:decide ((l.length:Int)<l.length)=false:=by simp
    have D:=zh B;clear B;go_wp2_with fail;go_ret;exact ⟨rfl,D.o⟩
end
section
open Go.RowKit Lx Px Qx
theorem atV_ok {l:List Vr}{t:Int}(B:VsOk l)(C:Z18 t=true):atV l t=if inF l t<0 then (.zero,false,0) else (l.getD (inF l t).toNat .zero,true,0):=by
 unfold atV;rw [Z0B.2 B,C];rfl
theorem atV_sm {l:List Vr}{t:Int}(B:VsOk l)(C:Z18 t=true):∃ x b,atV l t=(x,b,0)/\vrSm x:=by
 rw [atV_ok B C];split
 . exact ⟨_,_,rfl,Zei⟩
 . refine ⟨_,_,rfl,?_⟩;rw [List.getD_eq_getElem?_getD];cases h:l[(inF l t).toNat]? with
   | none=>exact Zei
   | some x=>exact vs_sm (Z0B.2 B) x (List.mem_of_getElem? h)
end
section
open Go.RowKit Lx Px Qx
attribute [local irreducible] Qx.sigE Qx.sigS Qx.Vr.dig Qx.powP
theorem ZhE {v:Vr}{a:Qx.Ask}{t s o:Int}{q:Qt}(h:Z6D v a t s o=(q,0)):(∀ x∈q.says,0<=x/\x<=4294967295)/\q.dig<18446744073709551616/\q.nights.length<=60/\q.ver=v.num/\q.time=t/\q.ask=a/\Z0c v.rs a=.ok (q.nights,q.keep)/\q.total=q.nights.sum:=by
 obtain ⟨V,R,Z,h4,h5,h6,W,hw,B⟩:=Z9j h;obtain ⟨d,T,J,O,D,U⟩:=Z7q hw;obtain ⟨bb,j,y,ba,f⟩:=Z6u V;have X:=Z9e v;have ht:0<=t/\t<=1000000000:=by simpa [Z18] using Z
 obtain ⟨l,f2,f3,f4,_⟩:=Z3t D;have S:=Z6s D;have Y:=Z6w D;obtain ⟨g,A,a3,a4,m,a6,a7,r⟩:=Z1w R;have e:q.says=W.says:=by rw [B];rfl
 have G:q.dig=W.dig:=by rw [B]
 have F:q.nights=W.nights:=by rw [B]
 have I:q.ver=W.ver:=by rw [B]
 have N:q.time=W.time:=by rw [B]
 have H:q.ask=W.ask:=by rw [B]
 have M:q.keep=W.keep:=by rw [B]
 have L:q.total=W.total:=by rw [B]
 rw [e,G,F,I,N,H,M,L];refine ⟨?_,by omega,S,d,T,J,D,U⟩;clear B e G F I N H M L h hw;intro x C;simp only [Qt.says,zC,zD,List.not_mem_nil,or_false] at C;rw [<- O] at X;rcases C with (C | C) | C
 . rcases C with rfl | rfl | rfl | rfl | rfl | rfl | rfl | rfl | rfl
   all_goals (try rw [J]);omega
 . have:=Y x C;omega
 . rcases C with rfl | rfl
   all_goals omega
namespace Qx
end Qx
namespace Qx
end Qx
end
section
open Go.RowKit Lx Px Qx
theorem Zab {w:World}{B:Nat}{v:Value}{l:Bytes}(h:Own8 w B v l):BytV w w.heap.size v l:=by
 rcases h.2 with ⟨C,D⟩ | ⟨g,cap,G,C,_,F,_,_,_,_⟩
 . have:l=[]:=List.length_eq_zero_iff.1 D;subst this;exact ⟨none,0,C,λh=>absurd rfl h⟩
 . refine ⟨some ⟨g,0,none⟩,cap,C,λ_=>⟨g,0,rfl,(zF2.1 F).1,λk hk=>?_⟩⟩;subst C;rw [Nat.zero_add,h.cellAt k (by omega),Lib.byteCells,List.getElem?_map,zv hk];rfl
theorem Z9b (v:Value)(l:Bytes)(w:World)(R:BytV w w.heap.size v l)(X:l.length<=1000000000) : Calls prog 108 #[v] w λe w'=>e=.returned (.int .u64 (sumD l:Nat))/\w=w':=by
 obtain ⟨A,c,rfl,I⟩:=R;obtain ⟨D,B⟩:∃ D,sumD l=D:=⟨_,rfl⟩
 rw [B];have S:=zh I;have L:=zh B;clear I B;go_enter func108,ntmps108;go_wp2_with fail;go_loop [3,4] (λd i=>∃ k:Nat,k<=l.length/\i=vI k/\d=.int .u64 (fnv Z29 (l.take k):Nat)) (λ_ i=>l.length - (intOf i).toNat)
 case atStart=>exact ⟨0,Nat.zero_le _,rfl,rfl⟩
 case round =>
  obtain ⟨k,hk,rfl,rfl⟩:=hrel;have J:=Z6C Z29 (l.take k) Z4n;by_cases hlt:k<l.length
  . obtain ⟨b,o,rfl,T,G⟩:=S.o (by intro e;rw [e] at hlt;simp at hlt);have Z:w.cell? ⟨b,o+k,none⟩=some (.int .u8 l[k].toNat):=G k hlt;have F:=ZfE Z29 l k hlt;have V:l[k].toNat<256:=l[k].toNat_lt;generalize l[k].toNat=x at *
    generalize fnv Z29 (l.take k)=C at *
    have g:=bits_xor_u64_nat C x J (by omega);have f:C ^^^ x<18446744073709551616:=Nat.xor_lt_two_pow (n:=64) (by omega) (by omega);generalize C ^^^ x=y at *
    have hw:IntKind.u64.wrap ((y:Int)*1099511628211)=((y*1099511628211 % 18446744073709551616:Nat):Int):=by rw [IntKind.wrap_u64];omega
    have O:decide ((k:Int)<l.length)=true:=by simpa using hlt
    have Y:(0:Int)<=k:=by omega
    have U:(k:Int)<l.length:=by omega
    generalize y*1099511628211 % 18446744073709551616=z at *
    have N:=zh F;clear F G;go_wp2_with fail;go_round
    case rel=>exact ⟨k+1,by omega,by go_num,by rw [N.o]⟩
    case measure=>simp [intOf];omega
  . have M:k=l.length:=by omega
    subst M;have O:decide ((l.length:Int)<l.length)=false:=by simp
    rw [List.take_length];have H:fnv Z29 l=D:=L.o;rw [H];clear J H;go_wp2_with fail;go_ret;exact ⟨rfl,rfl⟩
theorem Zg6 (l:List Int)(D:∀ x∈l,0<=x/\x<=1000000000000):∀ k,(Z2E (l.take k)).length<=20*k:=by
 intro k;induction k with
 | zero=>simp [Z2E]
 | succ k ih =>
  by_cases h:k<l.length
  . rw [Z7j l k h];obtain ⟨C,B⟩:=D _ (List.getElem_mem h);rw [Z6h _ C B];have:=Z0q l[k] C B;simp only [zj,zw,zx];omega
  . rw [List.take_of_length_le (by omega)] at ih |-
    omega
theorem ZhF (d:Nat)(v:Value)(l:List Int)(w:World)(hv:Z03 w w.heap.size v l)(hl:l.length<=1000000)(hr:∀ x∈l,0<=x/\x<=1000000000000) : Calls prog 146 #[.int .u64 (d:Nat),v] w λe w'=>Below w.heap.size w w'/\∃ V,e=.returned V/\BytV w' w'.heap.size V (Z1p d++Z2E l):=by
 obtain ⟨i0,hi,bv,bj,ba⟩:=info_parts Tryz.infoByte;obtain ⟨A,c,rfl,_⟩:=id hv;obtain ⟨S,X,T,q,HV,HR⟩:=zh6 hi bv bj ba hv hr;have bM:=zh (Zg6 l hr);clear hi bv bj ba hv hr;go_enter func146,ntmps146;go_wp2_with fail;go_loopw [5,6] (λo i wr=>∃ k:Nat,k<=8/\i=vI k/\Own8 wr w.heap.size o ((Z1p d).take k)/\Below w.heap.size w wr) (λ_ i _=>8 - (intOf i).toNat)
 case atStart=>exact ⟨0,by omega,rfl,Z6i _ _,zr _ _⟩
 case round =>
  obtain ⟨k,hk,rfl,B,C⟩:=hrel;have y:=C.size;by_cases hlt:k<8
  . have f:decide ((k:Int)<8)=true:=by simp;omega
    have bU:(0:Int)<=56 - 8*(k:Int):=by omega
    have bR:56 - 8*(k:Int)<=64:=by omega
    have w8:IntKind.i64.wrap (8*(k:Int))=8*(k:Int):=zi _ (by omega);have bT:IntKind.i64.wrap (56 - 8*(k:Int))=56 - 8*(k:Int):=zi _ (by omega);have bS:=ZfF d k;obtain ⟨Z,hg⟩:=Zcu d k hlt;have G:(Z1p d).take (k+1)=(Z1p d).take k++[Zb8 d k]:=by rw [zT (by omega),hg]
    have be:((Z1p d).take k).length=k:=by rw [List.length_take,Z];omega
    generalize Zb8 d k=bb at *
    generalize (Z1p d).take k=H at *
    obtain ⟨M,c1,rfl⟩:=Z22 B;obtain ⟨F,D,HS,bs⟩:=zh4 B C G be;clear B C G be;go_wp2_with (at_builtin;refine wpList_append_own _ rfl _ _ 96 rfl w.heap.size 5 i0 _ 1 1 underlying96 S.o X.o T.o q.o rfl (by decide) _ _ _ rfl (F.o.alloc _) ⟨wr.heap.size,0,none⟩ 1 1 [.int .u8 bb.toNat] rfl rfl (Z60 _ _ _ _ rfl) (by simp [Value.oneCell']) (by have:=bs.o;unfold maxLen;omega) (by have:=bs.o;omega) (by simp;omega) ?_;intro v' w3 bF bQ I;clear I);have bO:Own8 w3 w.heap.size v' (H++[bb]):=by show World.ownsRow _ _ _ _ _ _ _;rw [zj,List.length_singleton,Lib.byteCells_append];exact bF
    have bD:Below w.heap.size w w3:=Z4D D.o y F.o bQ;go_roundw
    case rel=>exact ⟨k+1,by omega,by go_num,by rw [HS.o];exact bO,bD⟩
    case measure=>simp [intOf];omega
  . have bp:k=8:=by omega
    have bd:(k:Int)=8:=by omega
    have f:decide ((8:Int)<8)=false:=by decide
    have bc:(Z1p d).take 8=Z1p d++Z2E (l.take 0):=by simp [Z1p,Z2E]
    rw [bp,bc] at B;rw [bd];clear bp bd hlt hk bc;have F:=zh B;have D:=zh C;clear B C;go_wp2_with fail;go_loopw [5,7] (λo i wr=>∃ k:Nat,k<=l.length/\i=vI k/\Own8 wr w.heap.size o (Z1p d++Z2E (l.take k))/\Below w.heap.size w wr) (λ_ i _=>l.length - (intOf i).toNat)
    case atStart=>exact ⟨0,by omega,rfl,F.o,D.o⟩
    case round =>
     clear F D y;obtain ⟨k,hk,rfl,B,C⟩:=hrel;have y:=C.size;by_cases hlt:k<l.length
     . obtain ⟨g,o,rfl,hg,bk⟩:=Z4p (HV.o.on C) (by intro e;rw [e] at hlt;simp at hlt);have ck:wr.cell? ⟨g,o+k,none⟩=some (vI l[k]):=bk k hlt;obtain ⟨j,O⟩:=HR.o _ (List.getElem_mem hlt);have G:=Z7j l k hlt;rw [Z6h _ j O] at G;have bq:=Z0q l[k] j O;have bE:=bM.o k;have Z:(Z1p d).length=8:=rfl;have bu:Z1p d++Z2E (l.take (k+1))=((Z1p d++Z2E (l.take k))++dec l[k])++[32]:=by rw [G];simp
       have bg:(Z1p d++Z2E (l.take k)).length<=8+20*k:=by rw [zj,Z];omega
       have bm:=λW=>Z0r l[k] W j O;have f:decide ((k:Int)<l.length)=true:=by simpa using hlt
       have j0:(0:Int)<=k:=by omega
       have j1:(k:Int)<l.length:=by omega
       generalize Z1p d++Z2E (l.take k)=H at *
       generalize bN:dec l[k]=Y at *
       generalize l[k]=z at *
       clear bk bN G bE;obtain ⟨M,c1,rfl⟩:=Z22 B;obtain ⟨F,D,bP,L,J,bn⟩:=zh6 B C bu bg bq bm;clear B C bu bg bq bm;go_wp2_with fail;refine (bn.o wr).mono ?_;rintro e w2 ⟨rfl,m⟩;have bx:Own8 w2 w.heap.size (slice M H.length c1) H:=Z2u F.o m;have N:=Z00 D.o m;have bf:=N.size;have bh:=zh bx;have bG:=zh N;clear bx N m F D bn ck;go_wp2_with (first
        | (at_builtin;refine Lib.wpList_append_own_string _ rfl _ _ 96 9 rfl w.heap.size 5 i0 underlying96 underlying9 S.o X.o T.o q.o _ _ _ rfl bh.o (mk Y) rfl (by have:=L.o;have:=J.o;rw [Z62];unfold maxLen;omega) (by have:=L.o;have:=J.o;rw [Z62];omega) bf ?_;intro v1 U R bz I;clear I;rw [Z61,Z62] at R
           have br:Own8 U w.heap.size v1 (H++Y):=by (show World.ownsRow _ _ _ _ _ _ _;rw [zj,Lib.byteCells_append];exact R)
           have r:Below w.heap.size w U:=bG.o.grown bz bf (λg e=>(bh.o.lt g e).1)
           have bI:=r.size
           have bt:=zh br
           have bC:=zh r
           clear R bz br r)
        | (at_builtin;refine wpList_append_own _ rfl _ _ 96 rfl w.heap.size 5 i0 _ 1 1 underlying96 S.o X.o T.o q.o rfl (by decide) _ _ _ rfl (bt.o.alloc _) ⟨U.heap.size,0,none⟩ 1 1 [.int .u8 32] rfl rfl (Z60 _ _ _ _ rfl) (by simp [Value.oneCell']) (by have:=L.o;have:=J.o;rw [zj];unfold maxLen;omega) (by have:=L.o;have:=J.o;rw [zj];omega) (by simp;omega) ?_;intro v2 w5 bK bJ I;clear I))
       have bA:Own8 w5 w.heap.size v2 ((H++Y)++[32]):=by show World.ownsRow _ _ _ _ _ _ _;rw [zj,List.length_singleton,Lib.byteCells_append];exact bK
       have bB:Below w.heap.size w w5:=Z4D bC.o bI bt.o bJ;go_roundw
       case rel=>exact ⟨k+1,by omega,by go_num,by rw [bP.o];exact bA,bB⟩
       case measure=>simp [intOf];omega
     . have bH:k=l.length:=by omega
       subst bH;have f:decide ((l.length:Int)<l.length)=false:=by simp
       rw [List.take_length] at B;obtain ⟨M,c1,rfl⟩:=Z22 B;have F:=zh B;have D:=zh C;have bL:=zh (Zab B);clear B C;go_wp2_with fail;go_ret;exact ⟨D.o,_,rfl,bL.o⟩
theorem Zac (d:Nat)(v:Value)(l:List Int)(w:World)(H:Z03 w w.heap.size v l)(R:l.length<=1000000)(B:∀ x∈l,0<=x/\x<=1000000000000) : Calls prog 107 #[.int .u64 (d:Nat),v] w λe w'=>e=.returned (.int .u64 (Z56 d l:Nat))/\Below w.heap.size w w':=by
 have L:=ZhF d v l w H R B;have F:=Zg6 l B l.length;rw [List.take_length] at F;have J:Z56 d l=sumD (Z1p d++Z2E l):=rfl;have D:(Z1p d++Z2E l).length<=1000000000:=by rw [zj];have:(Z1p d).length=8:=rfl;omega
 rw [J];have C:=λV W h=>Z9b V (Z1p d++Z2E l) W h D;generalize Z1p d++Z2E l=U at *
 obtain ⟨A,c,rfl,_⟩:=H;have I:=zh L;have T:=zh C;clear L C B F J D;go_enter func107,ntmps107;go_wp2_with fail;refine I.o.mono ?_;rintro e O ⟨M,V,rfl,G⟩;have S:=zh M;have N:=zh G;clear M G I;go_wp2_with fail;refine (T.o V O N.o).mono ?_;rintro e w' ⟨rfl,rfl⟩;go_wp2_with fail;go_ret;exact ⟨rfl,S.o⟩
end
