import Derived.Test.YtnepkoepbapgeaaGreatDoorQuoSay
namespace Go.Proofs.YtnepkoepbapgeaaGreatDoor
open _root_.Go.Proofs.Tryz
open Value (int slice)
open IntKind (i64)
set_option maxHeartbeats 16000000
set_option maxRecDepth 100000
section
open Go.RowKit Lx Px Qx
theorem Z9d {B:Array Oper}{rest:List Oper}{op:Oper}{a:Act}{w:World}{Q:Exit->Act->World->Prop}(G:op.guard=none)(x:Operand)(F:op.op=.load 32 x) (g o:Nat) (D:a.eval x=.pointer (some ⟨g,o,none⟩)) (cs:Array Value) (H:cs.size=12) (C:∀ j v,cs[j]?=some v->w.cell? ⟨g,o+j,none⟩=some v) (h:wpList prog B Q rest (a.put op.dst (.agg cs)) w):wpList prog B Q (op::rest) a w:=by
 refine wpList_plain G λ_ hK=>?_;have I:=Z1c w g o 32 cs _ C underlying32 rfl (by rw [Tryz.infoQtSz,H]);unfold Oper.wp execOp;simp only [F,D,Instr.loadAt,Instr.sureAddr,Sem.run_bind,Sem.run_pure,Result.andThen_ok,I];exact hK _ _ h
theorem Z0g {B:Array Oper}{rest:List Oper}{op:Oper}{a:Act}{w:World}{Q:Exit->Act->World->Prop}(G:op.guard=none)(x:Operand)(F:op.op=.load 32 x) (g:Nat) (C:a.eval x=.pointer (some ⟨g,0,none⟩)) (cs:Array Value) (H:cs.size=12) (t:TypeId) (D:w.heap[g]?=some (.cells cs t (0,0))) (h:wpList prog B Q rest (a.put op.dst (.agg cs)) w):wpList prog B Q (op::rest) a w := Z9d G x F g 0 C cs H (λj v hv=>by rw [Nat.zero_add,zc D,hv]) h
theorem Z08 {B:Array Oper}{rest:List Oper}{op:Oper}{a:Act}{w:World}{Q:Exit->Act->World->Prop}(H:op.guard=none)(x y:Operand)(G:op.op=.store 32 x y) (g:Nat) (zs cs:Array Value) (C:a.eval x=.pointer (some ⟨g,0,none⟩)) (J:a.eval y=.agg cs) (D:w.heap[g]?=some (.cells zs 32 (0,0))) (L:zs.size=12) (I:cs.size=12) (F:cs.all (·.oneCell')=true) (h:wpList prog B Q rest (a.put op.dst undef) (w.setRow g cs)):wpList prog B Q (op::rest) a w :=
 wpList_store_row H 32 x y G g cs C J _ zs D (by rw [Tryz.infoQtSz,I]) (by omega) F h
theorem Z0h {B:Array Oper}{rest:List Oper}{op:Oper}{a:Act}{w:World}{Q:Exit->Act->World->Prop}(G:op.guard=none)(x y:Operand)(F:op.op=.store 32 x y) (zs cs:Array Value) (C:a.eval x=.pointer (some ⟨w.heap.size,0,none⟩)) (I:a.eval y=.agg cs) (J:zs.size=12) (H:cs.size=12) (D:cs.all (·.oneCell')=true) (h:wpList prog B Q rest (a.put op.dst undef) (w.alloc (.cells cs 32))):wpList prog B Q (op::rest) a (w.alloc (.cells zs 32)):=by
 refine wpList_store_row G 32 x y F w.heap.size cs C I _ zs (za w _) (by rw [Tryz.infoQtSz,H]) (by omega) D ?_;rw [Z2F];exact h
theorem Z9e {B:Array Oper}{rest:List Oper}{op:Oper}{a:Act}{w:World}{Q:Exit->Act->World->Prop}(G:op.guard=none)(x:Operand)(F:op.op=.load 89 x) (g o:Nat) (D:a.eval x=.pointer (some ⟨g,o,none⟩)) (cs:Array Value) (H:cs.size=12) (C:∀ j v,cs[j]?=some v->w.cell? ⟨g,o+j,none⟩=some v) (h:wpList prog B Q rest (a.put op.dst (.agg cs)) w):wpList prog B Q (op::rest) a w:=by
 refine wpList_plain G λ_ hK=>?_;have I:=Z1c w g o 89 cs _ C underlying89 rfl (by rw [Tryz.infoNtSz,H]);unfold Oper.wp execOp;simp only [F,D,Instr.loadAt,Instr.sureAddr,Sem.run_bind,Sem.run_pure,Result.andThen_ok,I];exact hK _ _ h
theorem Z98 {B:Array Oper}{rest:List Oper}{op:Oper}{a:Act}{w:World}{Q:Exit->Act->World->Prop}(G:op.guard=none)(x:Operand)(F:op.op=.load 89 x) (g:Nat) (C:a.eval x=.pointer (some ⟨g,0,none⟩)) (cs:Array Value) (H:cs.size=12) (t:TypeId) (D:w.heap[g]?=some (.cells cs t (0,0))) (h:wpList prog B Q rest (a.put op.dst (.agg cs)) w):wpList prog B Q (op::rest) a w := Z9e G x F g 0 C cs H (λj v hv=>by rw [Nat.zero_add,zc D,hv]) h
theorem Z56 {B:Array Oper}{rest:List Oper}{op:Oper}{a:Act}{w:World}{Q:Exit->Act->World->Prop}(H:op.guard=none)(x y:Operand)(G:op.op=.store 89 x y) (g:Nat) (zs cs:Array Value) (C:a.eval x=.pointer (some ⟨g,0,none⟩)) (J:a.eval y=.agg cs) (D:w.heap[g]?=some (.cells zs 89 (0,0))) (L:zs.size=12) (I:cs.size=12) (F:cs.all (·.oneCell')=true) (h:wpList prog B Q rest (a.put op.dst undef) (w.setRow g cs)):wpList prog B Q (op::rest) a w :=
 wpList_store_row H 89 x y G g cs C J _ zs D (by rw [Tryz.infoNtSz,I]) (by omega) F h
theorem Z0n {B:Array Oper}{rest:List Oper}{op:Oper}{a:Act}{w:World}{Q:Exit->Act->World->Prop}(G:op.guard=none)(x y:Operand)(F:op.op=.store 89 x y) (zs cs:Array Value) (C:a.eval x=.pointer (some ⟨w.heap.size,0,none⟩)) (I:a.eval y=.agg cs) (J:zs.size=12) (H:cs.size=12) (D:cs.all (·.oneCell')=true) (h:wpList prog B Q rest (a.put op.dst undef) (w.alloc (.cells cs 89))):wpList prog B Q (op::rest) a (w.alloc (.cells zs 89)):=by
 refine wpList_store_row G 89 x y F w.heap.size cs C I _ zs (za w _) (by rw [Tryz.infoNtSz,H]) (by omega) D ?_;rw [Z2F];exact h
end
section
open Go.RowKit Lx Px Qx
structure SmK (w:World) (P:Array Value) (PV:Value) (pn:List Int) (Q:Array Value) (QV:Value) (qn:List Int) (W:World):Prop where
 p:W.heap[w.heap.size]?=some (.cells P 32 (0,0))
 q:W.heap[w.heap.size+1]?=some (.cells Q 32 (0,0))
 i:Z03 W W.heap.size PV pn
 j:Z03 W W.heap.size QV qn
 b:Below w.heap.size w W
theorem SmK.on {w W B:World}{P Q:Array Value}{G D:Value}{C F:List Int}(h:SmK w P G C Q D F W)(hb:Below W.heap.size W B):SmK w P G C Q D F B := ⟨(hb.block _ (zs h.p)).trans h.p,(hb.block _ (zs h.q)).trans h.q,(h.i.on hb).up hb.size,(h.j.on hb).up hb.size,Z00 h.b hb⟩
theorem SmK.new (w:World){P Q:Array Value}{F C:Value}{B D:List Int}(h:Z03 w w.heap.size F B)(G:Z03 w w.heap.size C D):SmK w P F B Q C D ((w.alloc (.cells P 32)).alloc (.cells Q 32)):=by
 have hb:=((zr w.heap.size w).alloc (zn _) (.cells P 32)).alloc (by simp) (.cells Q 32);refine ⟨Z0A (za w _) _,?_,(h.on hb).up hb.size,(G.on hb).up hb.size,hb⟩;have:=za (w.alloc (.cells P 32)) (.cells Q 32);rwa [zk] at this
theorem SmK.cp {w W:World}{P Q:Array Value}{G C:Value}{B D:List Int}(h:SmK w P G B Q C D W)(i:Nat)(v:Value)(F:P[i]?=some v):W.cell? ⟨w.heap.size,i,none⟩=some v:=by rw [zc h.p,F]
theorem SmK.cq {w W:World}{P Q:Array Value}{G C:Value}{B D:List Int}(h:SmK w P G B Q C D W)(i:Nat)(v:Value)(F:Q[i]?=some v):W.cell? ⟨w.heap.size+1,i,none⟩=some v:=by rw [zc h.q,F]
theorem Z99 (p q:Qt)(V U:Value)(w:World)(hV:QtV w w.heap.size V p)(hU:QtV w w.heap.size U q)(hn:p.nights.length<=1000000) : Calls prog 27 #[V,U] w λe w'=>e=.returned (.bool (p.same q))/\Below w.heap.size w w':=by
 obtain ⟨PA,pc,rfl,hI⟩:=hV;obtain ⟨QA,qc,rfl,hJ⟩:=hU;have bb:=λW (h1:Z03 W W.heap.size (slice PA p.nights.length pc) p.nights) (h2:Z03 W W.heap.size (slice QA q.nights.length qc) q.nights)=>Zbz _ _ p.nights q.nights W.heap.size W h1 h2 (zn _) hn;have y:=Qt.same_iff p q;obtain ⟨R,hR⟩:∃ R,p.same q=R:=⟨_,rfl⟩
 rw [hR] at y |-
 clear hR;obtain ⟨pv,T,X,N,⟨L,H,M,I⟩,J,G,pe,ps⟩:=p;obtain ⟨m,f,r,l,⟨Y,d,Z,g⟩,O,F,qe,qs⟩:=q;simp only [qtV] at bb hI hJ |-
 simp only [Ask.mk.injEq] at y hn;have bc:=SmK.new w (P:=#[int i64 pv,int i64 T,int i64 X,int i64 N,int i64 L,int i64 H,int i64 M,int i64 I,slice PA J.length pc,.int .u64 (G:Nat),int i64 pe,int i64 ps]) (Q:=#[int i64 m,int i64 f,int i64 r,int i64 l,int i64 Y,int i64 d,int i64 Z,int i64 g,slice QA O.length qc,.int .u64 (F:Nat),int i64 qe,int i64 qs]) hI hJ;have be:¬ (pv=m/\T=f/\X=r/\N=l/\(L=Y/\H=d/\M=Z/\I=g)/\J=O/\G=F)->R=false:=λh=>by
  cases R with
  | false=>rfl
  | true=>exact absurd (y.1 rfl) h
 have bf:pv=m/\T=f/\X=r/\N=l/\(L=Y/\H=d/\M=Z/\I=g)/\J=O/\G=F->R=true:=λh=>y.2 h;have B:=zh bc;have bp:=zh bb;have D:=zh be;have bj:=zh bf;clear bc bb be bf hI hJ y;have c0:=B.out.cp 0 (int i64 pv) rfl;have c1:=B.out.cp 1 (int i64 T) rfl;have c2:=B.out.cp 2 (int i64 X) rfl;have c3:=B.out.cp 3 (int i64 N) rfl;have c4:=B.out.cp 4 (int i64 L) rfl;have c5:=B.out.cp 5 (int i64 H) rfl;have c6:=B.out.cp 6 (int i64 M) rfl;have c7:=B.out.cp 7 (int i64 I) rfl;have c8:=B.out.cp 8 (slice PA J.length pc) rfl;have c9:=B.out.cp 9 (.int .u64 (G:Nat)) rfl;have bk:=B.out.cp 10 (int i64 pe) rfl;have bm:=B.out.cp 11 (int i64 ps) rfl;have e0:=B.out.cq 0 (int i64 m) rfl;have e1:=B.out.cq 1 (int i64 f) rfl;have e2:=B.out.cq 2 (int i64 r) rfl;have e3:=B.out.cq 3 (int i64 l) rfl;have e4:=B.out.cq 4 (int i64 Y) rfl;have e5:=B.out.cq 5 (int i64 d) rfl;have e6:=B.out.cq 6 (int i64 Z) rfl;have e7:=B.out.cq 7 (int i64 g) rfl;have e8:=B.out.cq 8 (slice QA O.length qc) rfl;have e9:=B.out.cq 9 (.int .u64 (F:Nat)) rfl;have bh:=B.out.cq 10 (int i64 qe) rfl;have bn:=B.out.cq 11 (int i64 qs) rfl;by_cases h0:pv=m
 · subst h0;by_cases h1:T=f
   · subst h1;by_cases h2:X=r
     · subst h2;by_cases h3:N=l
       · subst h3;by_cases h4:L=Y
         · subst h4;by_cases h5:H=d
           · subst h5;by_cases h6:M=Z
             · subst h6;by_cases h7:I=g
               · subst h7;have hc:=bp.out _ B.out.i B.out.j;have HC:=zh hc;clear hc;go_enter func27,ntmps27;go_wp2_with fail;generalize (w.alloc (.cells #[int i64 pv,int i64 T,int i64 X,int i64 N,int i64 L,int i64 H,int i64 M,int i64 I,slice PA J.length pc,.int .u64 (G:Nat),int i64 pe,int i64 ps] 32)).alloc (.cells #[int i64 pv,int i64 T,int i64 X,int i64 N,int i64 L,int i64 H,int i64 M,int i64 I,slice QA O.length qc,.int .u64 (F:Nat),int i64 qe,int i64 qs] 32)=w1 at *
                 refine HC.out.mono ?_;rintro e w2 ⟨rfl,bd⟩;have bg:=B.out.on bd;have A:=zh bg;clear bg bd B HC c0 e0 c1 e1 c2 e2 c3 e3 c4 e4 c5 e5 c6 e6 c7 e7 c8 e8 c9 e9 bk bh bm bn;have c9:=A.out.cp 9 (.int .u64 (G:Nat)) rfl;have e9:=A.out.cq 9 (.int .u64 (F:Nat)) rfl;by_cases hns:J=O
                 · have ba:decide (J=O)=true:=by simpa using hns
                   rw [ba];by_cases hdd:G=F
                   · subst hdd;have C:=bj.out (by simp [hns]);subst C;go_wp2_with fail;go_ret;exact ⟨rfl,A.out.b⟩
                   · have S:((G:Int)==(F:Int))=false:=by simp;omega
                     have d2:¬ ((G:Int)=(F:Int)):=by omega
                     have C:=D.out (λh=>hdd h.2.2.2.2.2.2);subst C;go_wp2_with fail;go_ret;exact ⟨rfl,A.out.b⟩
                 · have ba:decide (J=O)=false:=by simpa using hns
                   rw [ba];have C:=D.out (λh=>hns h.2.2.2.2.2.1);subst C;go_wp2_with fail;go_ret;exact ⟨rfl,A.out.b⟩
               · have S:(I==g)=false:=by simpa using h7
                 have C:=D.out (λh=>h7 (h.2.2.2.2.1.2.2.2));subst C;go_enter func27,ntmps27;go_wp2_with fail;go_ret;exact ⟨rfl,B.out.b⟩
             · have S:(M==Z)=false:=by simpa using h6
               have C:=D.out (λh=>h6 (h.2.2.2.2.1.2.2.1));subst C;go_enter func27,ntmps27;go_wp2_with fail;go_ret;exact ⟨rfl,B.out.b⟩
           · have S:(H==d)=false:=by simpa using h5
             have C:=D.out (λh=>h5 (h.2.2.2.2.1.2.1));subst C;go_enter func27,ntmps27;go_wp2_with fail;go_ret;exact ⟨rfl,B.out.b⟩
         · have S:(L==Y)=false:=by simpa using h4
           have C:=D.out (λh=>h4 (h.2.2.2.2.1.1));subst C;go_enter func27,ntmps27;go_wp2_with fail;go_ret;exact ⟨rfl,B.out.b⟩
       · have S:(N==l)=false:=by simpa using h3
         have C:=D.out (λh=>h3 (h.2.2.2.1));subst C;go_enter func27,ntmps27;go_wp2_with fail;go_ret;exact ⟨rfl,B.out.b⟩
     · have S:(X==r)=false:=by simpa using h2
       have C:=D.out (λh=>h2 (h.2.2.1));subst C;go_enter func27,ntmps27;go_wp2_with fail;go_ret;exact ⟨rfl,B.out.b⟩
   · have S:(T==f)=false:=by simpa using h1
     have C:=D.out (λh=>h1 (h.2.1));subst C;go_enter func27,ntmps27;go_wp2_with fail;go_ret;exact ⟨rfl,B.out.b⟩
 · have S:(pv==m)=false:=by simpa using h0
   have C:=D.out (λh=>h0 (h.1));subst C;go_enter func27,ntmps27;go_wp2_with fail;go_ret;exact ⟨rfl,B.out.b⟩
theorem ZhB (p q:Qt)(V U:Value)(w:World)(hV:QtV w w.heap.size V p)(hU:QtV w w.heap.size U q)(hn:p.nights.length<=1000000) : Calls prog 18 #[V,U] w λe w'=>e=.returned (.bool (p.same q&&(decide (p.sE=q.sE)&&decide (p.sS=q.sS))))/\Below w.heap.size w w':=by
 have N:=λW h1 h2=>Z99 p q V U W h1 h2 hn;obtain ⟨H,F,rfl,O⟩:=hV;obtain ⟨J,I,rfl,X⟩:=hU;generalize p.same q=R at *
 have S:∀ W,Z03 W W.heap.size (slice H p.nights.length F) p.nights->QtV W W.heap.size (qtV p (slice H p.nights.length F)) p:=λW h=>⟨H,F,rfl,h⟩
 have T:∀ W,Z03 W W.heap.size (slice J q.nights.length I) q.nights->QtV W W.heap.size (qtV q (slice J q.nights.length I)) q:=λW h=>⟨J,I,rfl,h⟩
 obtain ⟨pv,pt,po,pk,⟨y,Z,u1,g⟩,m,r,G,D⟩:=p;obtain ⟨qv,qt,qo,qk,⟨d,A,u2,s2⟩,qn,l,L,M⟩:=q;simp only [qtV] at N O X S T hn |-
 have C:=SmK.new w (P:=#[int i64 pv,int i64 pt,int i64 po,int i64 pk,int i64 y,int i64 Z,int i64 u1,int i64 g,slice H m.length F,.int .u64 (r:Nat),int i64 G,int i64 D]) (Q:=#[int i64 qv,int i64 qt,int i64 qo,int i64 qk,int i64 d,int i64 A,int i64 u2,int i64 s2,slice J qn.length I,.int .u64 (l:Nat),int i64 L,int i64 M]) O X;have hc:=N _ (S _ C.i) (T _ C.j);have bb:=C.p;have f:=C.q;have Y:=zh C;have HC:=zh hc;have bd:=zh bb;have bc:=zh f;clear C hc bb f O X N S T;go_enter func18,ntmps18;go_wp2_with (first | (with_reducible refine Z0g rfl _ rfl w.heap.size rfl _ rfl _ bd.out ?_) | (with_reducible refine Z0g rfl _ rfl (w.heap.size+1) rfl _ rfl _ bc.out ?_));generalize (w.alloc (.cells #[int i64 pv,int i64 pt,int i64 po,int i64 pk,int i64 y,int i64 Z,int i64 u1,int i64 g,slice H m.length F,.int .u64 (r:Nat),int i64 G,int i64 D] 32)).alloc (.cells #[int i64 qv,int i64 qt,int i64 qo,int i64 qk,int i64 d,int i64 A,int i64 u2,int i64 s2,slice J qn.length I,.int .u64 (l:Nat),int i64 L,int i64 M] 32)=w1 at *
 refine HC.out.mono ?_;rintro e w2 ⟨rfl,hb2⟩;have ba:=Y.out.on hb2;have B:=zh ba;clear ba hb2 Y HC;cases R with
 | false =>go_wp2_with fail;go_ret;exact ⟨by simp,B.out.b⟩
 | true =>
  have bf:=B.out.cp 10 (int i64 G) rfl;have bg:=B.out.cp 11 (int i64 D) rfl;have be:=B.out.cq 10 (int i64 L) rfl;have bh:=B.out.cq 11 (int i64 M) rfl;by_cases h1:G=L
  · subst h1;by_cases h2:D=M
    · subst h2;go_wp2_with fail;go_ret;exact ⟨by simp,B.out.b⟩
    · have d1:(D==M)=false:=by simpa using h2
      go_wp2_with fail;go_ret;exact ⟨by simp,B.out.b⟩
  · have d1:(G==L)=false:=by simpa using h1
    go_wp2_with fail;go_ret;exact ⟨by simp [h1],B.out.b⟩
end
section
open Go.RowKit Lx Px Qx
structure LwB (w:World) (v:Vr) (rv:Value) (a:Qx.Ask) (W:World):Prop where
 hv:W.heap[w.heap.size]?=some (.cells #[int i64 v.num,int i64 v.time,rv] 24 (0,0))
 ha:W.heap[w.heap.size+1]?=some (.cells #[int i64 a.kind,int i64 a.fr,int i64 a.un,int i64 a.pers] 26 (0,0))
 hR:RtsV W w.heap.size rv v.rs
 b:Below w.heap.size w W
theorem LwB.on {w W B:World}{v:Vr}{rv:Value}{a:Qx.Ask}(h:LwB w v rv a W)(hb:Below W.heap.size W B):LwB w v rv a B := ⟨(hb.block _ (zs h.hv)).trans h.hv,(hb.block _ (zs h.ha)).trans h.ha,h.hR.on (hb.mono h.b.size),Z00 h.b hb⟩
theorem LwB.new (w:World)(v:Vr)(rv:Value)(a:Qx.Ask)(h:RtsV w w.heap.size rv v.rs):LwB w v rv a ((w.alloc (.cells #[int i64 v.num,int i64 v.time,rv] 24)).alloc (.cells #[int i64 a.kind,int i64 a.fr,int i64 a.un,int i64 a.pers] 26)):=by
 have hb:=((zr w.heap.size w).alloc (zn _) (.cells #[int i64 v.num,int i64 v.time,rv] 24)).alloc (by simp) (.cells #[int i64 a.kind,int i64 a.fr,int i64 a.un,int i64 a.pers] 26);refine ⟨Z0A (za w _) _,?_,h.on hb,hb⟩;have:=za (w.alloc (.cells #[int i64 v.num,int i64 v.time,rv] 24)) (.cells #[int i64 a.kind,int i64 a.fr,int i64 a.un,int i64 a.pers] 26);rwa [zk] at this
theorem LwB.cells {w W:World}{v:Vr}{rv:Value}{a:Qx.Ask}(h:LwB w v rv a W):W.cell? ⟨w.heap.size,0,none⟩=some (int i64 v.num)/\W.cell? ⟨w.heap.size,1,none⟩=some (int i64 v.time)/\W.cell? ⟨w.heap.size,2,none⟩=some rv /\ W.cell? ⟨w.heap.size+1,0,none⟩=some (int i64 a.kind)/\W.cell? ⟨w.heap.size+1,1,none⟩=some (int i64 a.fr)/\W.cell? ⟨w.heap.size+1,2,none⟩=some (int i64 a.un)/\W.cell? ⟨w.heap.size+1,3,none⟩=some (int i64 a.pers):=by
 refine ⟨?_,?_,?_,?_,?_,?_,?_⟩
 · rw [zc h.hv];rfl
 · rw [zc h.hv];rfl
 · rw [zc h.hv];rfl
 · rw [zc h.ha];rfl
 · rw [zc h.ha];rfl
 · rw [zc h.ha];rfl
 · rw [zc h.ha];rfl
theorem LwB.ver {w W:World}{v:Vr}{A:Option Addr}{c:Nat}{a:Qx.Ask}(h:LwB w v (slice A v.rs.length c) a W):VrV W W.heap.size (.agg #[int i64 v.num,int i64 v.time,slice A v.rs.length c]) v:=⟨A,c,rfl,h.hR.up h.b.size⟩
theorem LwB.far {w W B:World}{v:Vr}{rv:Value}{a:Qx.Ask}(h:LwB w v rv a W)(hb:Below (w.heap.size+2) W B):LwB w v rv a B := ⟨(hb.block _ (by omega)).trans h.hv,(hb.block _ (by omega)).trans h.ha,h.hR.on (hb.mono (by omega)),h.b.trans (hb.mono (by omega))⟩
end
end Go.Proofs.YtnepkoepbapgeaaGreatDoor
