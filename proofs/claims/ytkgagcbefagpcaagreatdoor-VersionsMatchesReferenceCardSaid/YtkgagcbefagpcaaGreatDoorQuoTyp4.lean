import Derived.Test.YtkgagcbefagpcaaGreatDoorLexT2
import Derived.Deep.AppendLies
namespace Go.Proofs.YtkgagcbefagpcaaGreatDoor
open _root_.Go.Proofs.Tryz
open Value (int slice)
open IntKind (i64)
set_option maxHeartbeats 4000000
set_option maxRecDepth 100000
section
open Go.RowKit Lx Px
def Set2 (be bl:Nat)(er ln:Int)(w w':World):Prop := w'.heap[be]?=some (.cells #[vI er] 37 (0,0))/\w'.heap[bl]?=some (.cells #[vI ln] 3 (0,0))/\(∀ k,k<w.heap.size->k≠be->k≠bl->w'.heap[k]?=w.heap[k]?)/\w.heap.size<=w'.heap.size/\w'.os=w.os/\w'.tape=w.tape/\w'.output=w.output
theorem Zdd {P:Program}{c:Code}{Q:Exit->Act->List Frame->World->Prop}{a:Act}{cs:List Frame}{w:World}(R:Act->World->Prop)(h:c.wp P (λe a' w'=>e=.normal/\R a' w') a w)(B:∀ a' w',R a' w'->Q .normal a' cs w'):c.wpS P Q a cs w :=
 wpS_of_wp (Code.wp_mono (λe a' w' h=>by obtain ⟨he,C⟩:=h;subst he;exact B a' w' C) h)
theorem Zmz {w:World}{b:Nat}{x:Value}{B:TypeId}(h:w.heap[b]?=some (.cells #[x] B (0,0)))(y:Value):(w.setCell ⟨b,0,none⟩ y).heap[b]?=some (.cells #[y] B (0,0)):=by
 simp [World.setCell,zM,h]
theorem Z89 (B bl:Nat)(x y er C:Int)(R:List PanicEntry)(w:World)(L:B≠bl)(he:w.heap[B]?=some (.cells #[vI x] 37 (0,0)))(F:w.heap[bl]?=some (.cells #[vI y] 3 (0,0))) : CallsD prog 85 #[.pointer (some ⟨B,0,none⟩),.pointer (some ⟨bl,0,none⟩)] (.panicking ({ v:=.iface 134 (.agg #[vI er,vI C]),recovered:=false }::R)) w λe u' w' =>
  e=.returned (.tuple #[])/\u'=.panicking ({ v:=.iface 134 (.agg #[vI er,vI C]),recovered:=true }::R)/\Set2 B bl er C w w':=by
 refine callsD_of_wpS func85 rfl λc₀ cs hu=>?_;apply wpS_seq;apply wpS_region;simp [wpOpsS,go_sem,recoverD,hu,ntmps85,Exit.thenS];refine Zdd (λN w'=>N.defers=[]/\Set2 B bl er C w w') ?_ ?_
 . have S:∀ V:Value,(#[Value.pointer (some ⟨B,0,none⟩),Value.pointer (some ⟨bl,0,none⟩)]++(Array.replicate 19 undef).setIfInBounds 5 V)=#[Value.pointer (some ⟨B,0,none⟩),Value.pointer (some ⟨bl,0,none⟩),undef,undef,undef,undef,undef,V,undef,undef,undef,undef,undef,undef,undef,undef,undef,undef,undef,undef,undef]:=λ_=>by kernel_rfl
   rw [S];have U:∀ w:World,(Instr.typeAssert (.iface 134 (.agg #[vI er,vI C])) 20 134 true).run prog w=.ok (.tuple #[.agg #[vI er,vI C],.bool true]) w:=λ_=>by kernel_rfl
   have J:(w.alloc (.cells #[vI er,vI C] 134)).heap[B]?=some (.cells #[vI x] 37 (0,0)):=(Below.heap_alloc _ _ _ (zF2.1 he).1).trans he;have O:(w.alloc (.cells #[vI er,vI C] 134)).heap[bl]?=some (.cells #[vI y] 3 (0,0)):=(Below.heap_alloc _ _ _ (zF2.1 F).1).trans F;have I:Below w.heap.size w (w.alloc (.cells #[vI er,vI C] 134)):=(zr _ _).alloc (zn _) _;have Z:B<w.heap.size:=(zF2.1 he).1;have f:bl<w.heap.size:=(zF2.1 F).1;have H:=zh J;have G:=zh O;have M:=zh (za w (.cells #[vI er,vI C] 134));have D:=zh I;clear he F J O I hu S;go_upto_region 7 with fail;clear U;generalize w.alloc (.cells #[vI er,vI C] 134)=W at *
   have m:W.cell? ⟨B,0,none⟩=some (vI x):=by rw [zH H.o];rfl
   have Y:W.cell? ⟨bl,0,none⟩=some (vI y):=by rw [zH G.o];rfl
   have g:W.cell? ⟨w.heap.size,0,none⟩=some (vI er):=by rw [zH M.o];rfl
   have A:W.cell? ⟨w.heap.size,1,none⟩=some (vI C):=by rw [zH M.o];rfl
   have l:W.frozen? ⟨B,0,none⟩=false:=by simp [World.frozen?,H.o]
   have d:W.frozen? ⟨bl,0,none⟩=false:=by simp [World.frozen?,G.o]
   have hn1:B≠w.heap.size:=by omega
   have j:bl≠w.heap.size:=by omega
   go_region;refine ⟨rfl,rfl,?_,?_,?_,?_,D.o.os,D.o.tape,D.o.output⟩
   . show ((W.setCell ⟨B,0,none⟩ (vI er)).setCell ⟨bl,0,none⟩ (vI C)).heap[B]?=_;rw [zg _ _ _ _ L];exact Zmz H.o _
   . show ((W.setCell ⟨B,0,none⟩ (vI er)).setCell ⟨bl,0,none⟩ (vI C)).heap[bl]?=_;refine Zmz (x:=vI y) ?_ _;rw [zg _ _ _ _ (Ne.symm L)];exact G.o
   . intro k hk X T;show ((W.setCell ⟨B,0,none⟩ (vI er)).setCell ⟨bl,0,none⟩ (vI C)).heap[k]?=_;rw [zg _ _ _ _ T,zg _ _ _ _ X];exact D.o.block k hk
   . show w.heap.size<=((W.setCell ⟨B,0,none⟩ (vI er)).setCell ⟨bl,0,none⟩ (vI C)).heap.size;have:=D.o.size;simp only [World.setCell,Array.size_modify];exact this
 . rintro N w' ⟨r,q⟩;cases c₀;simp_all [bodyPostS,results,results85]
theorem Zey (B bl:Nat)(w:World) : CallsD prog 85 #[.pointer (some ⟨B,0,none⟩),.pointer (some ⟨bl,0,none⟩)] .returning w λe u' w'=>e=.returned (.tuple #[])/\u'=.returning/\w'=w:=by
 refine callsD_of_wpS func85 rfl λc₀ cs hu=>?_;apply wpS_seq;apply wpS_region;simp [wpOpsS,go_sem,recoverD,hu,ntmps85,Exit.thenS];refine Zdd (λD w'=>D.defers=[]/\w'=w) ?_ ?_
 . have C:∀ V:Value,(#[Value.pointer (some ⟨B,0,none⟩),Value.pointer (some ⟨bl,0,none⟩)]++(Array.replicate 19 undef).setIfInBounds 5 V)=#[Value.pointer (some ⟨B,0,none⟩),Value.pointer (some ⟨bl,0,none⟩),undef,undef,undef,undef,undef,V,undef,undef,undef,undef,undef,undef,undef,undef,undef,undef,undef,undef,undef]:=λ_=>by kernel_rfl
   rw [C];clear C hu;go_wp2_with fail
 . rintro D w' ⟨F,rfl⟩;cases c₀;simp_all [bodyPostS,results,results85]
end
section
open Go.RowKit Lx Px
theorem Zez (s:ByteArray)(w:World):Calls prog 55 #[.string s] w (Zay w (toks (bl s))):=by
 by_cases hs:s.size<=1000000000
 . exact Zha s w hs
 . have B:20000<s.size:=by omega
   rw [Zf7 s B];go_enter func55,ntmps55;go_wp2_with fail;refine bodyPost_ret (v:=.tuple #[slice none 0 0,vI 2,vI 0]) (by simp [results,results55,go_sem]) rfl ?_;exact ⟨_,rfl,Sl.nil _ _,(((Zbu w).alloc (zn _) _).alloc (by simp) _).alloc (by simp;omega) _⟩
theorem Zqa:∀ (B:List (Int × Bytes)) (acc:List Tok),Knd acc->acc.length<=5000->Knd (coll acc B).1/\(coll acc B).1.length<=5000:=by
 intro B;induction B with
 | nil=>intro acc h D;exact ⟨h,D⟩
 | cons p B ih =>
  intro acc h D;obtain ⟨G,t⟩:=p;simp only [coll];split
  . exact ⟨λt ht=>by simp at ht,by simp⟩
  . split
    . exact ⟨λt ht=>by simp at ht,by simp⟩
    . rename_i F H;refine ih _ ?_ (by simp;omega);intro u C;rw [zC,List.mem_singleton] at C;rcases C with C | rfl
      . exact h u C
      . exact ⟨rfl,F⟩
theorem Zqb (s:Bytes):Knd (toks s).1/\(toks s).1.length<=5000:=by
 unfold toks;split
 . exact ⟨λt ht=>by simp at ht,by simp⟩
 . exact Zqa _ [] (λt ht=>by simp at ht) (by simp)
end
section
open Go.RowKit Lx Px
end
section
open Go.RowKit Lx Px
inductive AllR where
 | ok (l:List Rr)
 | err (e ln:Int)
def Z28 (ex:Nat->Out)(ts:List Tok):Nat->Nat->List Rr->AllR
 | 0,_,acc=>.ok acc
 | f+1,k,acc =>
  if k<ts.length then
   (if acc.length=100/\nxt ts k=Z68 then .err 2 (lnAt ts k)
   else match Z4w ex ts k with
    | .ok r k'=>Z28 ex ts f k' (acc++[r])
    | .no j=>.err 8 (Z3H ts j)
    | .bad=>.err 1 (lnAt ts k))
  else .ok acc
def Zbh (ts:List Tok)(ex:Nat->Out):Prop:=∀ k,k<=ts.length->Rd 0 none (txt ts k) ((ex k).res ts)/\okK ts k (ex k)
theorem Z1t {s:Bytes}{ts:List Tok}{k B:Nat}{n:Int}(h:Z0g s ts k=.ok (n,B)):k<B/\B<=ts.length/\nxt ts k=s:=by
 unfold Z0g at h;split at h
 . split at h
   . rename_i D C;injection h with h
     injection h with h3 h4
     have:k+1<ts.length:=by
      by_cases hk:k+1<ts.length
      . exact hk
      . exfalso;rw [Z5F ts _ hk] at C;revert C;decide
     exact ⟨by omega,by omega,D⟩
   . cases h
 . cases h
theorem Z3a {x:Except Nat (Int × Nat)}{f:Int->Nat->ROut}{r:Rr}{B:Nat}(h:Z71 x f=.ok r B):∃ n k,x=.ok (n,k)/\f n k=.ok r B:=by
 unfold Z71 at h;split at h
 . cases h
 . exact ⟨_,_,rfl,h⟩
theorem Z8r {s:Bytes}{ts:List Tok}{k:Nat}{f:Nat->ROut}{r:Rr}{B:Nat}(h:Z4v s ts k f=.ok r B):nxt ts k=s/\f (k+1)=.ok r B:=by
 unfold Z4v at h;split at h
 . exact ⟨‹_›,h⟩
 . cases h
theorem Zgn {o:Out}{f:Ex->Nat->ROut}{r:Rr}{B:Nat}(h:Zh2 o f=.ok r B):∃ e k,o=.ok e k/\f e k=.ok r B:=by
 unfold Zh2 at h;split at h
 . cases h
 . exact ⟨_,_,rfl,h⟩
theorem ZeA {ts:List Tok}{k:Nat}{s:Bytes}(h:nxt ts k=s)(B:s≠[]):k<ts.length:=by
 by_cases hk:k<ts.length
 . exact hk
 . rw [Z5F ts k hk] at h;exact absurd h.symm B
structure Zr3 (ex:Nat->Out) (ts:List Tok) (k:Nat) (r:Rr) (k':Nat):Prop where
 steps:∃ k1 k2 k3 k4 k5 k6 k7 k8 k9 k10 k11,Z0g Z68 ts k=.ok (r.id,k1)/\Z0g Z9A ts k1=.ok (r.lv,k2)/\Z0g Zh3 ts k2=.ok (r.kd,k3)/\Z0g Z72 ts k3=.ok (r.fr,k4)/\Z0g kTo ts k4=.ok (r.un,k5) /\ Z0g Zh4 ts k5=.ok (r.ls,k6)/\Z0g kTo ts k6=.ok (r.mo,k7)/\Z0g Z73 ts k7=.ok (r.ar,k8)/\Z0g Zh5 ts k8=.ok (r.kp,k9)/\nxt ts k9=[37]/\nxt ts (k9+1)=Zdt/\ex (k9+1+1)=.ok r.wh k10/\nxt ts k10=Z8v /\ ex (k10+1)=.ok r.pr k11/\nxt ts k11=[59]/\k'=k11+1
 val:Z0f r.wh.1.1 r.wh.1.2 r.wh.2=true/\Z0f r.pr.1.1 r.pr.1.2 r.pr.2=true
theorem Zqc {ex:Nat->Out}{ts:List Tok}{k:Nat}{r:Rr}{B:Nat}(h:Z4w ex ts k=.ok r B):Zr3 ex ts k r B:=by
 unfold Z4w at h;obtain ⟨id,R,V,h⟩:=Z3a h;obtain ⟨lv,q,F,h⟩:=Z3a h;obtain ⟨kd,O,j,h⟩:=Z3a h;obtain ⟨fr,l,y,h⟩:=Z3a h;obtain ⟨un,S,m,h⟩:=Z3a h;obtain ⟨ls,f,L,h⟩:=Z3a h;obtain ⟨A,d,D,h⟩:=Z3a h;obtain ⟨ar,G,H,h⟩:=Z3a h;obtain ⟨kp,X,I,h⟩:=Z3a h;obtain ⟨N,h⟩:=Z8r h;obtain ⟨M,h⟩:=Z8r h;obtain ⟨wh,T,Z,h⟩:=Zgn h;obtain ⟨g,h⟩:=Z8r h;obtain ⟨pr,J,U,h⟩:=Zgn h;obtain ⟨Y,h⟩:=Z8r h;split at h
 . rename_i C;injection h with h16 h17
   subst h16;simp only [zd] at C;exact ⟨⟨R,q,O,l,S,f,d,G,X,T,J,V,F,j,y,m,L,D,H,I,N,M,Z,g,U,Y,h17.symm⟩,C⟩
 . cases h
theorem Z6A {ex:Nat->Out}{ts:List Tok}(I:Zbh ts ex){k:Nat}{r:Rr}{C:Nat}(h:Z4w ex ts k=.ok r C):k<C/\C<=ts.length/\nxt ts k=Z68:=by
 obtain ⟨k1,k2,A,k4,k5,k6,k7,l,H,B,G,T,J,Y,d,Z,O,f,M,N,y,R,V,X,S,U,h16⟩:=(Zqc h).steps;have L:=Z1t T;have g2:=Z1t J;have g3:=Z1t Y;have g4:=Z1t d;have g5:=Z1t Z;have g6:=Z1t O;have g7:=Z1t f;have g8:=Z1t M;have q:=Z1t N;have ba:=ZeA R (by decide);have F:=(I (H+1+1) (by omega)).2;rw [V] at F;have g:H+1+1<B/\B<=ts.length:=F;have m:=ZeA X (by decide);have D:=(I (B+1) (by omega)).2;rw [S] at D;have j:B+1<G/\G<=ts.length:=D;have bb:=ZeA U (by decide);exact ⟨by omega,by omega,L.2.2⟩
theorem ZeB {ex:Nat->Out}{ts:List Tok}(D:Zbh ts ex):∀ (f k:Nat) (acc:List Rr),ts.length - k<=f->Z28 ex ts f k acc=Z28 ex ts (ts.length - k) k acc:=by
 intro f;induction f using Nat.strongRecOn with
 | ind f ih =>
  intro k acc G;cases f with
  | zero=>rw [show ts.length - k=0 by omega]
  | succ f =>
   by_cases hk:k<ts.length
   . obtain ⟨d,C⟩:∃ d,ts.length - k=d+1:=⟨ts.length - k - 1,by omega⟩
     rw [C];simp only [Z28,zp hk];split
     . rfl
     . split
       . rename_i r B F;have H:=Z6A D F;rw [ih f (by omega) B _ (by omega),ih d (by omega) B _ (by omega)]
       . rfl
       . rfl
   . rw [show ts.length - k=0 by omega];simp only [Z28,zf hk]
def allO (ex:Nat->Out)(ts:List Tok):AllR:=Z28 ex ts ts.length 0 []
theorem Z4k {ex:Nat->Out}{ts:List Tok}(C:Zbh ts ex){k:Nat}{acc:List Rr}(hk:k<ts.length)(G:¬ (acc.length=100/\nxt ts k=Z68)){r:Rr}{B:Nat}(D:Z4w ex ts k=.ok r B) : Z28 ex ts (ts.length - k) k acc=Z28 ex ts (ts.length - B) B (acc++[r]):=by
 obtain ⟨d,F⟩:∃ d,ts.length - k=d+1:=⟨ts.length - k - 1,by omega⟩
 have H:=Z6A C D;rw [F];simp only [Z28,zp hk,zf G,D];exact ZeB C d B _ (by omega)
theorem Zis {ex:Nat->Out}{ts:List Tok}{k:Nat}{acc:List Rr}(hk:¬ k<ts.length):Z28 ex ts (ts.length - k) k acc=.ok acc:=by
 rw [show ts.length - k=0 by omega];rfl
theorem Zde {ex:Nat->Out}{ts:List Tok}{k:Nat}{acc:List Rr}(hk:k<ts.length)(C:acc.length=100/\nxt ts k=Z68):Z28 ex ts (ts.length - k) k acc=.err 2 (lnAt ts k):=by
 obtain ⟨d,B⟩:∃ d,ts.length - k=d+1:=⟨ts.length - k - 1,by omega⟩
 rw [B];simp only [Z28,zp hk,zp C]
theorem Zdf {ex:Nat->Out}{ts:List Tok}{k j:Nat}{acc:List Rr}(hk:k<ts.length)(D:¬ (acc.length=100/\nxt ts k=Z68))(B:Z4w ex ts k=.no j):Z28 ex ts (ts.length - k) k acc=.err 8 (Z3H ts j):=by
 obtain ⟨d,C⟩:∃ d,ts.length - k=d+1:=⟨ts.length - k - 1,by omega⟩
 rw [C];simp only [Z28,zp hk,zf D,B]
theorem Zan {ex:Nat->Out}{ts:List Tok}{k:Nat}{acc:List Rr}(hk:k<ts.length)(D:¬ (acc.length=100/\nxt ts k=Z68))(B:Z4w ex ts k=.bad):Z28 ex ts (ts.length - k) k acc=.err 1 (lnAt ts k):=by
 obtain ⟨d,C⟩:∃ d,ts.length - k=d+1:=⟨ts.length - k - 1,by omega⟩
 rw [C];simp only [Z28,zp hk,zf D,B]
end
section
open Go.RowKit Lx Px
theorem Zgp (pb:Nat)(v:Value)(ts:List Tok):∃ ex:Nat->Out,Zbh ts ex/\(∀ k,¬ k<=ts.length->ex k=.no 0)/\∀ k,k<=ts.length->okK ts k (ex k)/\∀ w,PI w pb v ts k->Calls prog 116 #[.pointer (some ⟨pb,0,none⟩)] w (RP pb v ts (ex k) w):=by
 have h:∀ k,∃ o:Out,(k<=ts.length->Rd 0 none (txt ts k) (o.res ts)/\okK ts k o/\∀ w,PI w pb v ts k->Calls prog 116 #[.pointer (some ⟨pb,0,none⟩)] w (RP pb v ts o w))/\(¬ k<=ts.length->o=.no 0):=by
  intro k;by_cases hk:k<=ts.length
  . obtain ⟨o,C,F,D⟩:=Znm pb v ts k hk;exact ⟨o,λ_=>⟨C,F,D⟩,λh=>absurd hk h⟩
  . exact ⟨.no 0,λh=>absurd h hk,λ_=>rfl⟩
 obtain ⟨ex,B⟩:=Classical.axiomOfChoice h;exact ⟨ex,λk hk=>⟨((B k).1 hk).1,((B k).1 hk).2.1⟩,λk hk=>(B k).2 hk,λk hk=>⟨((B k).1 hk).2.1,((B k).1 hk).2.2⟩⟩
theorem ZmA {ts:List Tok}{ex C:Nat->Out}(h:Zbh ts ex)(D:Zbh ts C)(F:∀ k,¬ k<=ts.length->ex k=.no 0)(G:∀ k,¬ k<=ts.length->C k=.no 0):ex=C:=by
 funext k;by_cases hk:k<=ts.length
 . have B:=Zbt (h k hk).1 (D k hk).1;cases hx:C k with
   | ok e j =>rw [hx] at B;have:=D k hk;rw [hx] at this;exact Zjw B this.2.2 (h k hk).2
   | no j =>rw [hx] at B;have:=D k hk;rw [hx] at this;exact Zjx B this.2.2 (h k hk).2
 . rw [F k hk,G k hk]
theorem ZmB (ts:List Tok):∃ ex:Nat->Out,Zbh ts ex/\∀ k,¬ k<=ts.length->ex k=.no 0:=by
 obtain ⟨ex,C,B,_⟩:=Zgp 0 (slice none 0 0) ts;exact ⟨ex,C,B⟩
noncomputable def exOf (ts:List Tok):Nat->Out:=Classical.choose (ZmB ts)
theorem Z48 (ts:List Tok):Zbh ts (exOf ts):=(Classical.choose_spec (ZmB ts)).1
theorem Zqd (ts:List Tok):∀ k,¬ k<=ts.length->exOf ts k=.no 0:=(Classical.choose_spec (ZmB ts)).2
theorem Zsu {ts:List Tok}{ex:Nat->Out}(h:Zbh ts ex)(B:∀ k,¬ k<=ts.length->ex k=.no 0):exOf ts=ex:=ZmA (Z48 ts) h (Zqd ts) B
theorem Zqe (pb:Nat)(v:Value)(ts:List Tok):∀ k,k<=ts.length->okK ts k (exOf ts k)/\∀ w,PI w pb v ts k->Calls prog 116 #[.pointer (some ⟨pb,0,none⟩)] w (RP pb v ts (exOf ts k) w):=by
 obtain ⟨ex,B,D,C⟩:=Zgp pb v ts;rw [Zsu B D];exact C
end
section
open Go.RowKit Lx Px
noncomputable def srcO (s:Bytes):AllR:=if (toks s).2.1=0 then allO (exOf (toks s).1) (toks s).1 else .err (toks s).2.1 (toks s).2.2
theorem Zqf {s:Bytes}{ts:List Tok}{er B:Int}(h:toks s=(ts,er,B))(he:er≠0):srcO s=.err er B:=by unfold srcO;rw [h];exact zf he
theorem ZeC {s:Bytes}{ts:List Tok}{B:Int}(h:toks s=(ts,0,B)):srcO s=allO (exOf ts) ts:=by unfold srcO;rw [h];exact zp rfl
end
section
open Go.RowKit Lx Px
theorem Zsv {ts:List Tok}{k:Nat}(hk:k<=ts.length){o:Out}(h:Rd 0 none (txt ts k) (o.res ts))(B:okK ts k o):exOf ts k=o:=by
 obtain ⟨F,D⟩:=Z48 ts k hk;have C:=Zbt F h;cases o with
 | ok e j=>exact Zjw C B.2 D
 | no j=>exact Zjx C B.2 D
theorem Zgq {ex:Nat->Out}{ts:List Tok}{k:Nat}{r:Rr}{B:Nat}(h:Zr3 ex ts k r B):Z4w ex ts k=.ok r B:=by
 obtain ⟨⟨f,A,d,y,g,q,m,Y,l,j,Z,N,D,T,V,U,H,X,F,G,J,I,R,S,M,O,L⟩,C⟩:=h;unfold Z4w;rw [N];dsimp only [Z71];rw [D];dsimp only;rw [T];dsimp only;rw [V];dsimp only;rw [U];dsimp only;rw [H];dsimp only;rw [X];dsimp only;rw [F];dsimp only;rw [G];dsimp only;rw [Z4v,zp J,Z4v,zp I,R];dsimp only [Zh2];rw [Z4v,zp S,M];dsimp only;rw [Z4v,zp O,zp (by rw [C.1,C.2];rfl),L]
theorem Z8s {ts:List Tok}(f k:Nat)(hk:k<=ts.length){e:Ex}(j:Nat)(h:rd f 0 none (txt ts k)=some (.ok e (txt ts j)))(B:k<j/\j<=ts.length):exOf ts k=.ok e j:=Zsv (o:=.ok e j) hk ⟨f,h⟩ B
end
section
open Go.RowKit Lx Px
def tk (t:Bytes):Tok:=(Z0e t,1,t)
end
section
open Go.RowKit Lx Px
def Rr.rt (r:Rr):Rt:=⟨r.id,r.lv,r.kd,r.fr,r.un,r.ls,r.mo,r.ar,pctN r.kp,pctD r.kp,r.wh.1.1,r.wh.1.2,r.wh.2,r.pr.1.1,r.pr.1.2,r.pr.2⟩
def Z3G (r:Rt)(wv pv:Value):List Value:=[vI r.id,vI r.lv,vI r.kd,vI r.fr,vI r.un,vI r.ls,vI r.mo,vI r.ar,vI r.kn,vI r.kq,vI r.wo,vI r.wn,wv,vI r.po,vI r.pn,pv]
structure Rm where
 r:Rt
 wv:Value
 pv:Value
def Rm.cells (m:Rm):List Value:=Z3G m.r m.wv m.pv
theorem Rm.cells_len (m:Rm):m.cells.length=16:=rfl
def Z4m (ms:List Rm):List Value:=ms.flatMap Rm.cells
theorem Zdg (B:List Rm)(m:Rm):Z4m (B++[m])=Z4m B++m.cells:=by simp [Z4m]
theorem ZeD (B:List Rm)(k j:Nat)(h:k<B.length)(D:j<16):(Z4m B)[k*16+j]?=B[k].cells[j]?:=by
 induction B generalizing k with
 | nil=>simp at h
 | cons m B ih =>
  have C:Z4m (m::B)=m.cells++Z4m B:=by simp [Z4m]
  rw [C];cases k with
  | zero=>simp only [Nat.zero_mul,Nat.zero_add,List.getElem_cons_zero];rw [List.getElem?_append_left (by rw [Rm.cells_len];omega)]
  | succ k =>rw [List.getElem?_append_right (by rw [Rm.cells_len];omega)];have:=ih k (by simpa using h);simp only [Rm.cells_len,List.getElem_cons_succ];rw [<- this];congr 1;omega
def RtAt (w:World)(B:Nat)(p:Addr)(r:Rt):Prop := p.spot=none/\∃ wv pv,(∀ j u,(Z3G r wv pv)[j]?=some u->w.cell? ⟨p.block,p.off+j,none⟩=some u)/\FoV w B wv r.wl/\FoV w B pv r.pl
def RtsV (w:World)(B:Nat)(v:Value)(rs:List Rt):Prop := ∃ A c,v=slice A rs.length c/\∀ i (h:i<rs.length),∃ ad,A=some ad/\ad.block<B/\RtAt w B (ad.add (i*16)) rs[i]
theorem RtAt.keep {w w':World}{B:Nat}{p:Addr}{r:Rt}(h:RtAt w B p r)(hb:Below B w w')(F:p.block<B):RtAt w' B p r:=by
 obtain ⟨C,H,pv,G,I,D⟩:=h;exact ⟨C,H,pv,λj u hj=>(hb.cell (p:=⟨p.block,p.off+j,none⟩) F).trans (G j u hj),I.on hb,D.on hb⟩
theorem RtAt.up {w:World}{B C:Nat}{p:Addr}{r:Rt}(h:RtAt w B p r)(hb:B<=C):RtAt w C p r:=by
 obtain ⟨D,H,pv,G,I,F⟩:=h;exact ⟨D,H,pv,G,I.up hb,F.up hb⟩
theorem RtsV.on {w w':World}{B:Nat}{v:Value}{rs:List Rt}(h:RtsV w B v rs)(hb:Below B w w'):RtsV w' B v rs:=by
 obtain ⟨A,c,e,G⟩:=h;refine ⟨A,c,e,λi hi=>?_⟩;obtain ⟨ad,F,C,D⟩:=G i hi;exact ⟨ad,F,C,D.keep hb (by rw [Z4B];exact C)⟩
theorem RtsV.up {w:World}{B C:Nat}{v:Value}{rs:List Rt}(h:RtsV w B v rs)(hb:B<=C):RtsV w C v rs:=by
 obtain ⟨A,c,e,F⟩:=h;refine ⟨A,c,e,λi hi=>?_⟩;obtain ⟨ad,D,H,G⟩:=F i hi;exact ⟨ad,D,by omega,G.up hb⟩
theorem RtsV.nil (w:World)(B:Nat):RtsV w B (slice none 0 0) []:=⟨none,0,rfl,λi h=>absurd h (by simp)⟩
def OwnD (w:World)(lo:Nat)(v:Value)(b:Nat):Prop:=lo<=b/\b<w.heap.size/\some b≠v.ownBlock
def OwnR (w:World)(lo:Nat)(v:Value)(rs:List Rt):Prop := ∃ ms:List Rm,ms.map (·.r)=rs/\w.ownsRow lo 81 16 v ms.length (Z4m ms)/\∀ m∈ms,FoD w (OwnD w lo v) m.wv m.r.wl/\FoD w (OwnD w lo v) m.pv m.r.pl
theorem OwnR.nil (w:World)(lo:Nat):OwnR w lo (slice none 0 0) []:=⟨[],rfl,World.ownsRow_nil _ _ _ _,λm h=>absurd h (by simp)⟩
theorem Z81 {w w':World}{lo size n:Nat}{e:TypeId}{v:Value}{C:List Value}(h:w.ownsRow lo e size v n C)(hb:∀ k,lo<=k->k<w.heap.size->w'.heap[k]?=w.heap[k]?):w'.ownsRow lo e size v n C:=by
 refine ⟨h.1,?_⟩;rcases h.2 with G | ⟨g,cap,F,rfl,B,D,rest⟩
 . exact .inl G
 . exact .inr ⟨g,cap,F,rfl,B,(hb g B (zF2.1 D).1).trans D,rest⟩
theorem OwnR.keep {w w':World}{lo:Nat}{v:Value}{rs:List Rt}(h:OwnR w lo v rs)(J:w.heap.size<=w'.heap.size)(hb:∀ k,lo<=k->k<w.heap.size->w'.heap[k]?=w.heap[k]?):OwnR w' lo v rs:=by
 obtain ⟨G,e,C,D⟩:=h;refine ⟨G,e,⟨C.1,?_⟩,λm hm=>⟨(D m hm).1.keep (λb x=>⟨x.1,by have:=x.2.1;omega,x.2.2⟩) (λb x=>hb b x.1 x.2.1),(D m hm).2.keep (λb x=>⟨x.1,by have:=x.2.1;omega,x.2.2⟩) (λb x=>hb b x.1 x.2.1)⟩⟩;rcases C.2 with I | ⟨g,cap,H,rfl,B,F,rest⟩
 . exact .inl I
 . exact .inr ⟨g,cap,H,rfl,B,(hb g B (zF2.1 F).1).trans F,rest⟩
theorem OwnR.but {w w':World}{lo pb:Nat}{v:Value}{rs:List Rt}(h:OwnR w lo v rs)(hb:But pb w w')(B:pb<lo):OwnR w' lo v rs:=h.keep hb.size (λk h1 h2=>hb.block k h2 (by omega))
theorem OwnR.form {w:World}{lo:Nat}{v:Value}{rs:List Rt}(h:OwnR w lo v rs):∃ A c,v=slice A rs.length c:=by
 obtain ⟨F,e,D,_⟩:=h;have G:rs.length=F.length:=by rw [<- e,List.length_map]
 rw [G];rcases D.2 with ⟨B,C⟩ | ⟨g,cap,H,B,_⟩
 . exact ⟨none,0,by rw [B,C]⟩
 . exact ⟨_,_,B⟩
theorem OwnR.snoc {w B I:World}{lo:Nat}{v D:Value}{C:List Rm}{m:Rm}{c g:Nat} (V:∀ x∈C,FoD w (OwnD w lo v) x.wv x.r.wl/\FoD w (OwnD w lo v) x.pv x.r.pl) (T:∀ k,v.ownBlock=some k->lo<=k/\k<w.heap.size) (U:FoD B (λb=>w.heap.size<=b/\b<B.heap.size) m.wv m.r.wl) (M:FoD B (λb=>w.heap.size<=b/\b<B.heap.size) m.pv m.r.pl) (hw:∀ k,lo<=k->k<w.heap.size->B.heap[k]?=w.heap[k]?) (Z:w.heap.size<=B.heap.size) (f:lo<=w.heap.size) (S:I.ownsRow lo 81 16 D c (Z4m C++m.cells)) (N:c=C.length+1) (H:B.grownBy I v.ownBlock) (R:D.ownBlock=some g) (G:v.ownBlock=some g\/g=B.heap.size) : OwnR I lo D ((C++[m]).map (·.r)):=by
 refine ⟨C++[m],rfl,?_,?_⟩
 . rw [zj,List.length_singleton,<- N,Zdg];exact S
 . have J:∀ b,lo<=b->b<B.heap.size->some b≠v.ownBlock->some b≠D.ownBlock:=by
    intro b d j X e;rw [R] at e;injection e with e
    rcases G with G | G
    . exact X (by rw [G,e])
    . omega
   intro x F;rw [zC,List.mem_singleton] at F;rcases F with F | rfl
   . obtain ⟨O,Y⟩:=V x F;refine ⟨O.keep (λb y=>⟨y.1,?_,?_⟩) (λb y=>?_),Y.keep (λb y=>⟨y.1,?_,?_⟩) (λb y=>?_)⟩
     all_goals first
      | (have:=y.2.1;have:=H.size;omega)
      | exact J b y.1 (by have:=y.2.1;omega) y.2.2
      | (rw [H.block b (by have:=y.2.1;omega) y.2.2,hw b y.1 y.2.1])
   . have L:∀ b,w.heap.size<=b->some b≠v.ownBlock:=by intro b hb e;have:=(T b e.symm).2;omega
     refine ⟨U.keep (λb y=>⟨?_,?_,?_⟩) (λb y=>?_),M.keep (λb y=>⟨?_,?_,?_⟩) (λb y=>?_)⟩
     all_goals first
      | (have:=y.1;omega)
      | (have:=y.2;have:=H.size;omega)
      | exact J b (by have:=y.1;omega) y.2 (L b y.1)
      | exact H.block b y.2 (L b y.1)
theorem OwnR.v {w:World}{lo:Nat}{v:Value}{rs:List Rt}(h:OwnR w lo v rs):RtsV w w.heap.size v rs:=by
 obtain ⟨B,rfl,F,L⟩:=h;rcases F.2 with ⟨C,I⟩ | ⟨g,cap,O,C,_,J,_⟩
 . have:B=[]:=List.length_eq_zero_iff.1 I;subst this;subst C;exact RtsV.nil _ _
 . refine ⟨some ⟨g,0,none⟩,cap,by rw [C,List.length_map],λi hi=>⟨⟨g,0,none⟩,rfl,(zF2.1 J).1,?_⟩⟩;have G:i<B.length:=by simpa using hi
   obtain ⟨M,N⟩:=L B[i] (List.getElem_mem G);rw [Z6e];refine ⟨rfl,B[i].wv,B[i].pv,?_,?_,?_⟩
   . intro j u D;subst C;have H:j<16:=by
      rcases Nat.lt_or_ge j 16 with h | h
      . exact h
      . rw [List.getElem?_eq_none (by show 16<=j;exact h)] at D;cases D
     show w.cell? ⟨g,i*16+j,none⟩=some u;rw [F.cellAt (i*16+j) (by omega),ZeD B i j G H,<- D];simp only [List.getElem_map];rfl
   . simp only [List.getElem_map];exact M.v (λb x=>x.2.1)
   . simp only [List.getElem_map];exact N.v (λb x=>x.2.1)
theorem Zgr {w:World}{b:Nat}{cs:Array Value}{t:TypeId}{fr:Nat × Nat}(h:w.heap[b]?=some (.cells cs t fr))(l:List Value)(B:l=cs.toList):∀ j u,l[j]?=some u->w.cell? ((⟨b,0,none⟩:Addr).add j)=some u:=by
 subst B;exact World.news_of_block h
theorem Tryz.infoRate:(Tryz.prog.info? 81).map (λi=>(i.zero,i.size,i.bytes))=some (some (.agg #[vI 0,vI 0,vI 0,vI 0,vI 0,vI 0,vI 0,vI 0,vI 0,vI 0,vI 0,vI 0,slice none 0 0,vI 0,vI 0,slice none 0 0]),16,160):=by kernel_rfl
end
section
open Go.ChangeShapes Go.WideShapes Go.ChangeAt Go.RowKit Go.Deep Lx Px
theorem Zsw {B C:Nat}{w:World}(h:Tabs B w)(D:B<=C)(F:C<=w.heap.size):Tabs C w:=⟨Zqy h D,by have:=h.2.1;omega,F,h.2.2.2⟩
theorem Z0v {w w':World}(h:Tabs w.heap.size w)(hb:Below w.heap.size w w'):Tabs w'.heap.size w':=Zsw (h.on hb) hb.size (zn _)
theorem Z82 {p:Addr}{k j:Nat}(h:(p.add k).spot=none):p.add (k+j)=⟨(p.add k).block,(p.add k).off+j,none⟩:=by
 unfold Addr.add at h |-
 by_cases hk:k=0
 . subst hk;rw [zp rfl] at h |-
   by_cases hj:j=0
   . subst hj;rw [zp rfl];cases p;cases h;rfl
   . rw [zf (by omega)];simp
 . rw [zf (by omega),zf hk];simp only [Nat.add_assoc]
theorem Z6B {w:World}{p:Addr}{v:Value}(h:w.cell? p=some v):p.spot=none:=by
 unfold World.cell? at h;split at h
 . split at h
   . cases h
   . rename_i B;cases hp:p.spot with
     | none=>rfl
     | some x=>rw [hp] at B;simp at B
 . cases h
theorem Z9n {H:Type}{enc:TypeId × Value->H}{W:World}{n:Nat}{cs:List Value}{y:DataW H × List MemPlace}(h:DataW.trod enc prog W 0 (λ_=>true) true n 81 cs=some y) : ∃ (r:Rt) (l m:Option Addr) (j q:Nat),cs=Z3G r (slice l (flen r.wl) j) (slice m (flen r.pl) q)/\FoV W W.heap.size (slice l (flen r.wl) j) r.wl/\FoV W W.heap.size (slice m (flen r.pl) q) r.pl:=by
 obtain ⟨A,B,bj,_,hl,be,C⟩:=DataW.trod_struct underlying81 h;rw [Tryz.cellsRate] at hl;obtain ⟨c0,c1,c2,c3,c4,c5,Y,d,F,N,T,M,J,R,L,G,rfl⟩:∃ c0 c1 c2 c3 c4 c5 Y d F N T M J R L G,cs=[c0,c1,c2,c3,c4,c5,Y,d,F,N,T,M,J,R,L,G]:=by
  match cs,hl with
  | [c0,c1,c2,c3,c4,c5,Y,d,F,N,T,M,J,R,L,G],_=>exact ⟨c0,c1,c2,c3,c4,c5,Y,d,F,N,T,M,J,R,L,G,rfl⟩
 obtain ⟨f,V,Z,D,g,U,X,S,I,O,rfl⟩:∃ f V Z D g U X S I O,A=[f,V,Z,D,g,U,X,S,I,O]:=by
  have bf:A.length=10:=be
  match A,bf with
  | [f,V,Z,D,g,U,X,S,I,O],_=>exact ⟨f,V,Z,D,g,U,X,S,I,O,rfl⟩
 have g0:DataW.trod enc prog W 0 (λ_=>true) true B 3 [c0]=some f:=C 0 _ rfl;have g1:DataW.trod enc prog W 0 (λ_=>true) true B 3 [c1]=some V:=C 1 _ rfl;have g2:DataW.trod enc prog W 0 (λ_=>true) true B 3 [c2]=some Z:=C 2 _ rfl;have g3:DataW.trod enc prog W 0 (λ_=>true) true B 74 [c3,c4]=some D:=C 3 _ rfl;have g4:DataW.trod enc prog W 0 (λ_=>true) true B 3 [c5]=some g:=C 4 _ rfl;have g5:DataW.trod enc prog W 0 (λ_=>true) true B 3 [Y]=some U:=C 5 _ rfl;have g6:DataW.trod enc prog W 0 (λ_=>true) true B 3 [d]=some X:=C 6 _ rfl;have g7:DataW.trod enc prog W 0 (λ_=>true) true B 76 [F,N]=some S:=C 7 _ rfl;have g8:DataW.trod enc prog W 0 (λ_=>true) true B 79 [T,M,J]=some I:=C 8 _ rfl;have g9:DataW.trod enc prog W 0 (λ_=>true) true B 79 [R,L,G]=some O:=C 9 _ rfl;obtain ⟨k0,e0,_,_⟩:=DataW.trod_int underlying3 g0;obtain ⟨k1,e1,_,_⟩:=DataW.trod_int underlying3 g1;obtain ⟨k2,e2,_,_⟩:=DataW.trod_int underlying3 g2;obtain ⟨k5,e5,_,_⟩:=DataW.trod_int underlying3 g4;obtain ⟨k6,e6,_,_⟩:=DataW.trod_int underlying3 g5;obtain ⟨k7,e7,_,_⟩:=DataW.trod_int underlying3 g6;obtain ⟨k3,k4,e3,e4⟩:=Zfd underlying74 ⟨rfl,rfl⟩ ⟨rfl,rfl⟩ (show DataW.trod enc prog W 0 (λ_=>true) true B 74 [c3,c4]=some D from g3);obtain ⟨k8,k9,e8,e9⟩:=Zfd underlying76 ⟨rfl,rfl⟩ ⟨rfl,rfl⟩ (show DataW.trod enc prog W 0 (λ_=>true) true B 76 [F,N]=some S from g7);obtain ⟨wo,wn,wv,n8,y8,bd,_,t8⟩:=Z8E (show DataW.trod enc prog W 0 (λ_=>true) true B 79 [T,M,J]=some I from g8);obtain ⟨po,pn,pv,n9,y9,bb,_,t9⟩:=Z8E (show DataW.trod enc prog W 0 (λ_=>true) true B 79 [R,L,G]=some O from g9);obtain ⟨wl,bc,_⟩:=Z7D n8 wv y8 t8;obtain ⟨pl,ba,_⟩:=Z7D n9 pv y9 t9;have bg:=bc;have bh:=ba;obtain ⟨l,j,rfl,_⟩:=bg;obtain ⟨m,q,rfl,_⟩:=bh;simp only [List.cons.injEq,and_true] at e0 e1 e2 e5 e6 e7 bd bb;obtain ⟨rfl,rfl,rfl⟩:=bd;obtain ⟨rfl,rfl,rfl⟩:=bb;subst e0 e1 e2 e3 e4 e5 e6 e7 e8 e9;refine ⟨⟨k0,k1,k2,k3,k4,k5,k6,k7,k8,k9,wo,wn,wl,po,pn,pl⟩,l,m,j,q,rfl,bc,ba⟩
theorem Zsx {r:Rt}(h:r.can=true):r.text.length<=10100:=by
 simp only [Rt.can,zd,Rt.nums,List.all_cons,List.all_nil,Bool.and_true,numB,decide_eq_true_eq,beq_iff_eq] at h;obtain ⟨⟨⟨⟨L,H,G,I,C,F,J,D⟩,_,_⟩,B⟩,hw,R⟩:=h;obtain ⟨M,O,g⟩:=Z1m hw;obtain ⟨S,N,X⟩:=Z1m R;have j:=Z2z r.wo r.wn r.wl M O;have T:=Z2z r.po r.pn r.pl S N;have U:=Z0q r.id L.1 (Int.le_trans L.2 (by omega));have l:=Z0q r.lv H.1 (Int.le_trans H.2 (by omega));have m:=Z0q r.kd G.1 (Int.le_trans G.2 (by omega));have Y:=Z0q r.fr I.1 (Int.le_trans I.2 (by omega));have d:=Z0q r.un C.1 (Int.le_trans C.2 (by omega));have V:=Z0q r.ls F.1 (Int.le_trans F.2 (by omega));have q:=Z0q r.mo J.1 (Int.le_trans J.2 (by omega));have Z:=Z0q r.ar D.1 (Int.le_trans D.2 (by omega));have f:=Z0q r.pct B.1 (Int.le_trans B.2 (by omega));simp only [Rt.text,Rt.items,Z23,Z7b,zj,zw,zx];omega
end
section
open Lx Px
namespace Qx
inductive V where
 | ok (n d:Int)
 | no (e:Int)
 deriving DecidableEq
def redN (n d:Int):Int:=n.tdiv (Nat.gcd n.natAbs d.natAbs:Nat)
def redD (n d:Int):Int:=d.tdiv (Nat.gcd n.natAbs d.natAbs:Nat)
def ratV (n d:Int):V:=if 1000000000<(redN n d).natAbs\/1000000<redD n d then .no 3 else .ok (redN n d) (redD n d)
def Z14 (n d:Int):V:=if d<0 then ratV (-n) (-d) else ratV n d
def addV (a b c d:Int):V:=ratV (a*d+c*b) (b*d)
def subV (a b c d:Int):V:=ratV (a*d - c*b) (b*d)
def mulV (a b c d:Int):V:=ratV (a*c) (b*d)
def divV (a b c d:Int):V:=if c=0 then .no 22 else Z14 (a*d) (b*c)
def cmpI (a b c d:Int):Int:=if a*d<c*b then -1 else if c*b<a*d then 1 else 0
def truV (b:Bool):V:=if b then .ok 1 1 else .ok 0 1
def appV (op a b c d:Int):V :=
 if op=4 then addV a b c d
 else if op=5 then subV a b c d
 else if op=6 then mulV a b c d
 else if op=7 then divV a b c d
 else if op=8 then (if cmpI a b c d<0 then .ok a b else .ok c d)
 else if op=9 then (if 0<cmpI a b c d then .ok a b else .ok c d)
 else if op=11 then truV (decide (cmpI a b c d<0))
 else if op=12 then truV (decide (cmpI a b c d=0))
 else if op=13 then truV (decide (a=1)&&decide (c=1))
 else truV (decide (a=1) || decide (c=1))
structure Vs where
 a:Int
 b:Int
 c:Int
 d:Int
def Vs.at (v:Vs)(n:Int):Int:=if n=1 then v.a else if n=2 then v.b else if n=3 then v.c else v.d
def opV (v:Vs)(op n:Int)(x y z:V):V :=
 if op=1\/op=2 then Z14 n 1
 else if op=3 then Z14 (v.at n) 1
 else match x with
  | .no e=>.no e
  | .ok a b =>
   if op=15 then truV (decide (a=0))
   else if op=10 then (if a=1 then y else z)
   else match y with
    | .no e=>.no e
    | .ok c d=>appV op a b c d
def valF (v:Vs):Fo->Nat->V
 | .nil,_=>.no 22
 | .node _ _ a l _,0=>opV v a.1 a.2 (valF v l 0) (valF v l 1) (valF v l 2)
 | .node _ _ _ _ r,k+1=>valF v r k
def valE (v:Vs)(a:Int × Int)(l:Fo):V:=opV v a.1 a.2 (valF v l 0) (valF v l 1) (valF v l 2)
theorem Zgs (v:Vs):∀ (f:Fo) (k:Nat),k<flen f->valF v f k=valE v (getF f k).1 (getF f k).2:=by
 intro f;induction f with
 | nil=>intro k h;simp [flen] at h
 | node b o a l r _ ihr =>
  intro k h;cases k with
  | zero=>rfl
  | succ k=>exact ihr k (by simp [flen] at h;omega)
def opT (op:Int)(x y z:Int):Int :=
 if op=1\/op=3 then 1
 else if op=2 then 2
 else if op=4\/op=5\/op=8\/op=9 then (if x=y/\x≠3 then x else 0)
 else if op=6 then (if x=1/\y=1 then 1 else if x=2/\y=1\/x=1/\y=2 then 2 else 0)
 else if op=7 then (if y=1/\x≠3 then x else 0)
 else if op=11\/op=12 then (if x=y/\x≠3 then 3 else 0)
 else if op=13\/op=14 then (if x=3/\y=3 then 3 else 0)
 else if op=15 then (if x=3 then 3 else 0)
 else if op=10 then (if x=3/\y=z then y else 0)
 else 0
def allT:Fo->Bool
 | .nil=>true
 | .node _ _ a l r=>allT l&&allT r&&decide (opT a.1 (typK l 0) (typK l 1) (typK l 2)≠0)
where
 typK:Fo->Nat->Int
 | .nil,_=>0
 | .node _ _ a l _,0=>opT a.1 (typK l 0) (typK l 1) (typK l 2)
 | .node _ _ _ _ r,k+1=>typK r k
def typE (a:Int × Int)(l:Fo):Int:=if allT l then opT a.1 (allT.typK l 0) (allT.typK l 1) (allT.typK l 2) else 0
end Qx
end
section
open Lx Px
namespace Qx
def rndE (n d:Int):Int:=if d<2*(n % d)\/2*(n % d)=d/\(n / d) % 2=1 then n / d+1 else n / d
def Z49 (r:Rt):Bool :=
 decide (1<=r.id)&&decide (r.id<=1000000)&&decide (0<=r.lv)&&decide (r.lv<=100)&&decide (1<=r.kd)&&decide (r.kd<=20)&&decide (1<=r.ar)&&decide (r.ar<=127)
 && decide (0<=r.fr)&&decide (r.fr<r.un)&&decide (r.un<=366)&&ratB r.kn r.kq&&decide (0<=r.kn)&&decide (r.kn<=r.kq)
 && decide (1<=r.ls)&&decide (r.ls<=r.mo)&&decide (r.mo<=60)&&Z0f r.wo r.wn r.wl&&Z0f r.po r.pn r.pl
def Z17 (r:Rt):Int:=if Z49 r then (if typE (r.wo,r.wn) r.wl=3/\typE (r.po,r.pn) r.pl=2 then 0 else 20) else 1
def useL (seen:List Int):List Rt->Bool
 | []=>true
 | r::l=>Z17 r==0&&!seen.contains r.id&&useL (r.id::seen) l
def useB (l:List Rt):Bool:=decide (l.length<=100)&&useL [] l
structure Ask where
 kind:Int
 fr:Int
 un:Int
 pers:Int
 deriving DecidableEq
def Ask.okB (a:Ask):Bool:=decide (0<=a.fr)&&decide (a.fr<a.un)&&decide (a.un<=366)&&decide (a.un - a.fr<=60)&&decide (1<=a.kind)&&decide (a.kind<=20)&&decide (1<=a.pers)&&decide (a.pers<=8)
def wday (n:Int):Int:=(n+3) % 7
def Z0t (a:Ask)(night:Int):Vs:=⟨a.un - a.fr,a.pers,night - a.fr,wday night⟩
def bitB (arr:Int)(day:Nat):Bool:=decide (arr / 2 ^ day % 2=1)
def Z9p (r:Rt)(a:Ask)(night:Int):Bool :=
 decide (r.kd=a.kind)&&decide (r.fr<=night)&&decide (night<r.un)&&decide (r.ls<=a.un - a.fr)&&decide (a.un - a.fr<=r.mo)&&bitB r.ar (wday a.fr).toNat
def apR (r:Rt)(a:Ask)(night:Int):Int :=
 if Z9p r a night then (match valE (Z0t a night) (r.wo,r.wn) r.wl with
  | .ok n _=>if n=1 then 1 else 0
  | .no e=>-e) else 0
def Z4a (r:Rt):Option Rt->Bool
 | none=>true
 | some b=>decide (b.lv<r.lv) || decide (r.lv=b.lv)&&decide (r.id<b.id)
def Z2b (a:Ask)(night:Int):Option Rt->List Rt->Except Int (Option Rt)
 | o,[]=>.ok o
 | o,r::l=>if apR r a night<0 then .error (-(apR r a night)) else Z2b a night (if apR r a night=1/\Z4a r o=true then some r else o) l
inductive N where
 | ok (c:Int) (r:Rt)
 | no (e:Int)
def Z0i (l:List Rt)(a:Ask)(night:Int):N :=
 match Z2b a night none l with
 | .error e=>.no e
 | .ok none=>.no 4
 | .ok (some r)=>match valE (Z0t a night) (r.po,r.pn) r.pl with
  | .no e=>.no e
  | .ok n d=>if rndE n d<0 then .no 22 else .ok (rndE n d) r
def Z8a (n:Int)(r:Rt):Int:=rndE (n*r.kn) r.kq
def Z0a (l:List Rt)(a:Ask):Nat->Int->Except Int (List Int × Int)
 | 0,_=>.ok ([],0)
 | k+1,night=>match Z0i l a night with
  | .no e=>.error e
  | .ok c r=>match Z0a l a k (night+1) with
   | .error e=>.error e
   | .ok (cs,kp)=>.ok (c::cs,Z8a c r+kp)
def Z0c (l:List Rt)(a:Ask):Except Int (List Int × Int) :=
 if useB l&&a.okB then (match Z0a l a (a.un - a.fr).toNat a.fr with
  | .error e=>.error e
  | .ok (cs,kp)=>if 1000000000<cs.sum then .error 3 else .ok (cs,kp)) else .error 1
end Qx
end
section
open Lx Px
namespace Qx
def fnv (d:Nat)(l:Bytes):Nat:=l.foldl (λd b=>((d ^^^ b.toNat)*1099511628211) % 18446744073709551616) d
def Z29:Nat:=14695981039346656037
def sumD (l:Bytes):Nat:=fnv Z29 l
def decS (n:Int):Bytes:=Lib.itoa n
def Z2E:List Int->Bytes
 | []=>[]
 | n::l=>decS n++[32]++Z2E l
def Z1p (d:Nat):Bytes:=[UInt8.ofNat (d / 2 ^ 56),UInt8.ofNat (d / 2 ^ 48),UInt8.ofNat (d / 2 ^ 40),UInt8.ofNat (d / 2 ^ 32),UInt8.ofNat (d / 2 ^ 24),UInt8.ofNat (d / 2 ^ 16),UInt8.ofNat (d / 2 ^ 8),UInt8.ofNat d]
def Z56 (d:Nat)(l:List Int):Nat:=sumD (Z1p d++Z2E l)
theorem fnv_append (d:Nat)(a b:Bytes):fnv d (a++b)=fnv (fnv d a) b:=by simp [fnv]
theorem Z6C (d:Nat)(l:Bytes)(h:d<18446744073709551616):fnv d l<18446744073709551616:=by
 induction l generalizing d with
 | nil=>exact h
 | cons a l ih=>exact ih _ (Nat.mod_lt _ (by decide))
theorem Z4n:Z29<18446744073709551616:=by decide
theorem Zbi (d:Nat)(l:List Int):Z56 d l<18446744073709551616:=Z6C _ _ Z4n
def mP:Nat:=2147483579
def mQ:Nat:=1073741789
def powF:Nat->Nat->Nat->Nat->Nat->Nat
 | 0,out,_,_,_=>out
 | f+1,out,a,x,m=>if x=0 then out else powF f (if x % 2=1 then out*a % m else out) (a*a % m) (x / 2) m
theorem Zsy:∀ (f B a x m:Nat),x<2 ^ f->B<m->powF f B a x m=B*a ^ x % m:=by
 intro f;induction f with
 | zero =>
  intro B a x m D C;have:x=0:=by simpa using D
  subst this;simp [powF,Nat.mod_eq_of_lt C]
 | succ f ih =>
  intro B a x m D C;unfold powF;by_cases h0:x=0
  . subst h0;simp [Nat.mod_eq_of_lt C]
  . rw [zf h0];have I:0<m:=by omega
    have G:x / 2<2 ^ f:=by rw [Nat.pow_succ] at D;omega
    have H:(if x % 2=1 then B*a % m else B)<m:=by split;exact Nat.mod_lt _ I;exact C
    rw [ih _ _ _ _ G H];have F:(a*a % m) ^ (x / 2) % m=a ^ (2*(x / 2)) % m:=by rw [<- Nat.pow_mod,Nat.pow_mul,Nat.pow_two]
    by_cases h1:x % 2=1
    . rw [zp h1,Nat.mul_mod,F];have ex:x=2*(x / 2)+1:=by omega
      conv=>rhs;rw [ex,Nat.pow_succ,show B*(a ^ (2*(x / 2))*a)=B*a*a ^ (2*(x / 2)) by rw [Nat.mul_assoc,Nat.mul_comm (a ^ _) a]]
      rw [Nat.mul_mod (B*a),Nat.mod_mod]
    . rw [zf h1,Nat.mul_mod,F,<- Nat.mul_mod];have ex:2*(x / 2)=x:=by omega
      rw [ex]
def powP (a x:Nat):Nat:=a ^ x % mP
theorem ZmC (a x:Nat)(h:x<2 ^ 64):powP a x=powF 64 1 a x mP:=by rw [Zsy 64 1 a x mP h (by decide),Nat.one_mul];rfl
def memB (a:Int):Bool:=decide (1<=a)&&decide (a<2147483579)&&decide (powP a.toNat mQ=1)
def secB (x:Int):Bool:=decide (1<=x)&&decide (x<1073741789)
def expB (x:Int):Bool:=decide (0<=x)&&decide (x<1073741789)
def chal (l:List Int):Nat:=Z56 (sumD []) l % mQ
def sigE (s o:Nat)(l:List Int):Nat:=chal ((powP 4 o:Int)::(powP 4 s:Int)::l)
def sigS (s o:Nat)(l:List Int):Nat:=(o+sigE s o l*s) % mQ
def Z7v (p:Nat)(e s:Nat):Nat:=powP 4 s*powP p ((mQ - e) % mQ) % mP
def verB (p:Nat)(e s:Int)(l:List Int):Bool:=expB e&&expB s&&decide ((chal ((Z7v p e.toNat s.toNat:Int)::(p:Int)::l):Int)=e)
theorem Zqg:powP 4 mQ=1:=by rw [ZmC _ _ (by decide)];decide
theorem Zgt (a x y:Nat):powP a x*powP a y % mP=powP a (x+y):=by unfold powP;rw [<- Nat.mul_mod,<- Nat.pow_add]
theorem Z5p (a x y:Nat):powP (powP a x) y=powP a (x*y):=by unfold powP;rw [<- Nat.pow_mod,<- Nat.pow_mul]
theorem Zgu {a:Nat}(h:powP a mQ=1)(x:Nat):powP a (x % mQ)=powP a x:=by
 have e:x=mQ*(x / mQ)+x % mQ:=(Nat.div_add_mod x mQ).symm
 conv=>rhs;rw [e,<- Zgt,<- Z5p,h]
 have:powP 1 (x / mQ)=1:=by unfold powP;rw [Nat.one_pow];rfl
 rw [this,Nat.one_mul];exact (Nat.mod_eq_of_lt (Nat.mod_lt _ (by decide))).symm
theorem Zsz (s o:Nat)(l:List Int):verB (powP 4 s) (sigE s o l:Int) (sigS s o l:Int) l=true:=by
 have H:sigE s o l<mQ:=Nat.mod_lt _ (by decide);have G:sigS s o l<mQ:=Nat.mod_lt _ (by decide);have hb:Z7v (powP 4 s) (sigE s o l) (sigS s o l)=powP 4 o:=by
  unfold Z7v;rw [Z5p,Zgt];have F:powP 4 (sigS s o l+s*((mQ - sigE s o l) % mQ))=powP 4 ((sigS s o l+s*((mQ - sigE s o l) % mQ)) % mQ):=(Zgu Zqg _).symm;rw [F];have C:(sigS s o l+s*((mQ - sigE s o l) % mQ)) % mQ=o % mQ:=by
   unfold sigS;generalize sigE s o l=e at *
   rw [Nat.add_mod,Nat.mod_mod,Nat.mul_mod s,Nat.mod_mod,<- Nat.mul_mod,<- Nat.add_mod];have:o+e*s+s*(mQ - e)=o+mQ*s:=by rw [Nat.mul_comm e s,Nat.add_assoc,<- Nat.mul_add,Nat.add_sub_cancel' (by omega),Nat.mul_comm s]
   rw [this,Nat.add_mul_mod_self_left]
  rw [C,Zgu Zqg]
 unfold verB;have D:expB (sigE s o l:Int)=true:=by unfold expB mQ at *;simp;omega
 have B:expB (sigS s o l:Int)=true:=by unfold expB mQ at *;simp;omega
 rw [D,B];simp only [zB,hb,Bool.true_and,decide_eq_true_eq];rfl
theorem ZmD (s:Nat)(D:powP 4 s≠0):memB (powP 4 s:Int)=true:=by
 have C:powP 4 s<mP:=Nat.mod_lt _ (by decide);have B:powP (powP 4 s) mQ=1:=by rw [Z5p,Nat.mul_comm,<- Z5p,Zqg];unfold powP;rw [Nat.one_pow];rfl
 unfold memB;simp only [zB,B];unfold mP at C;simp;omega
theorem ZmE (s:Nat):powP 4 s≠0:=by
 intro h;have:powP (powP 4 s) mQ=1:=by rw [Z5p,Nat.mul_comm,<- Z5p,Zqg];unfold powP;rw [Nat.one_pow];rfl
 rw [h] at this;unfold powP at this;rw [Nat.zero_pow (by decide)] at this;exact absurd this (by decide)
structure Qt where
 ver:Int
 time:Int
 total:Int
 keep:Int
 ask:Ask
 nights:List Int
 dig:Nat
 sE:Int
 sS:Int
 deriving DecidableEq
structure Vr where
 num:Int
 time:Int
 rs:List Rt
def Z18 (n:Int):Bool:=decide (0<=n)&&decide (n<=1000000000)
def Vr.okB (v:Vr):Bool:=decide (1<=v.num)&&decide (v.num<=1000000)&&Z18 v.time&&useB v.rs&&v.rs.all Rt.can
def Z1C (l:List Rt):Bytes:=l.flatMap λr=>r.text++[10]
def Vr.dig (v:Vr):Nat:=Z56 (sumD (Z1C v.rs)) [v.num,v.time]
def Qt.says (q:Qt):List Int:=[q.ver,q.time,q.total,q.keep,q.ask.kind,q.ask.fr,q.ask.un,q.ask.pers,(q.nights.length:Int)]++q.nights++[((q.dig / 4294967296:Nat):Int),((q.dig % 4294967296:Nat):Int)]
def Qt.zero:Qt:=⟨0,0,0,0,⟨0,0,0,0⟩,[],0,0,0⟩
def Z1j (v:Vr)(a:Ask)(time:Int):Except Int Qt :=
 match Z0c v.rs a with
 | .error e=>.error e
 | .ok (ns,kp)=>.ok ⟨v.num,time,ns.sum,kp,a,ns,v.dig,0,0⟩
def Z6D (v:Vr)(a:Ask)(time secret once:Int):Qt × Int :=
 if v.okB&&a.okB&&Z18 time&&secB secret&&secB once then
  (if time<v.time then (.zero,6) else match Z1j v a time with
   | .error e=>(.zero,e)
   | .ok q=>({ q with sE:=sigE secret.toNat once.toNat q.says,sS:=sigS secret.toNat once.toNat q.says },0))
 else (.zero,1)
def Qt.same (a b:Qt):Bool:=decide ({ a with sE:=0,sS:=0 }={ b with sE:=0,sS:=0 })
def Z0C (v:Vr)(q:Qt)(pub:Int):Bool × Int :=
 if v.okB&&memB pub then
  (if q.ask.okB&&Z18 q.time&&decide (v.time<=q.time) then (match Z1j v q.ask q.time with
   | .error _=>(false,0)
   | .ok w=>(q.same w&&verB pub.toNat q.sE q.sS q.says,0)) else (false,0))
 else (false,1)
end Qx
end
section
open Go.RowKit Lx Px Qx
def Z03 (w:World)(B:Nat)(v:Value)(l:List Int):Prop := ∃ A c,v=slice A l.length c/\(l≠[]->∃ b o,A=some ⟨b,o,none⟩/\b<B/\∀ i (h:i<l.length),w.cell? ⟨b,o+i,none⟩=some (vI l[i]))
theorem Z03.nil (w:World)(B c:Nat):Z03 w B (slice none 0 c) []:=⟨none,c,rfl,λh=>absurd rfl h⟩
theorem Z03.on {w w':World}{B:Nat}{v:Value}{l:List Int}(h:Z03 w B v l)(hb:Below B w w'):Z03 w' B v l:=by
 obtain ⟨A,c,e,F⟩:=h;refine ⟨A,c,e,λhl=>?_⟩;obtain ⟨b,o,D,C,G⟩:=F hl;exact ⟨b,o,D,C,λi hi=>(hb.cell (p:=⟨b,o+i,none⟩) C).trans (G i hi)⟩
theorem Z03.up {w:World}{B C:Nat}{v:Value}{l:List Int}(h:Z03 w B v l)(hb:B<=C):Z03 w C v l:=by
 obtain ⟨A,c,e,F⟩:=h;refine ⟨A,c,e,λhl=>?_⟩;obtain ⟨b,o,D,H,G⟩:=F hl;exact ⟨b,o,D,by omega,G⟩
theorem Z03.own {w:World}{base n:Nat}{e:TypeId}{v:Value}{l:List Int}(h:w.ownsRow base e 1 v n (l.map (.int .i64)))(F:n=l.length):Z03 w w.heap.size v l:=by
 subst F;rcases h.2 with ⟨B,C⟩ | ⟨g,cap,G,B,_,D,_,_,_,_⟩
 . have:l=[]:=List.length_eq_zero_iff.1 C;subst this;exact ⟨none,0,B,λh=>absurd rfl h⟩
 . refine ⟨some ⟨g,0,none⟩,cap,B,λ_=>⟨g,0,rfl,(zF2.1 D).1,λk hk=>?_⟩⟩;subst B;rw [Nat.zero_add,h.cellAt k (by omega)];simp [zv hk]
theorem Z03.block {w:World}{g:Nat}{l:List Int}{t:TypeId}{B:Nat × Nat}(h:w.heap[g]?=some (.cells (l.map (.int .i64)).toArray t B))(c:Nat):Z03 w w.heap.size (slice (some ⟨g,0,none⟩) l.length c) l:=by
 refine ⟨_,c,rfl,λ_=>⟨g,0,rfl,(zF2.1 h).1,λi hi=>?_⟩⟩;rw [zH h,Nat.zero_add];simp [zv hi]
theorem Z4p {w:World}{B:Nat}{A:Option Addr}{k c:Nat}{l:List Int}(h:Z03 w B (slice A k c) l)(D:l≠[]):∃ b o:Nat,A=some ⟨b,o,none⟩/\b<B/\∀ i (h:i<l.length),w.cell? ⟨b,o+i,none⟩=some (vI l[i]):=by
 obtain ⟨F,c',e,C⟩:=h;injection e with e1 _ e3
 subst e1;exact C D
def Z3b (w:World)(r:Nat)(L:List (Int × Value)):Prop:=w.heap[r]?=some (.map (esOf L 0).toArray L.length)
theorem Z3b.new (w:World):Z3b (w.alloc (.map #[] 0)) w.heap.size []:=za w _
theorem Z3b.lt {w:World}{r:Nat}{L:List (Int × Value)}(h:Z3b w r L):r<w.heap.size:=(zF2.1 h).1
theorem Z3b.on {w w':World}{r:Nat}{L:List (Int × Value)}(h:Z3b w r L)(hb:Below w.heap.size w w'):Z3b w' r L:=(hb.block r h.lt).trans h
theorem Z0d {P:Program}{t k e:TypeId}(F:P.underlying t=some (.map k e))(hk:P.underlying k=some (.int .i64)){o:Oper}{a:Act}{K:Act->World->Prop}{Q:Exit->Act->World->Prop}{w:World}{r:Nat}{L:List (Int × Value)}{op:Int}{V:Value}(h:Z3b w r L) (G:∀ p∈L,p.1≠op) (H:∀ w',Z3b w' r (L++[(op,V)])->w.grownBy w' (some r)->Oper.upon P o a K Q (.ok .skip w')) : Oper.upon P o a K Q (((Instr.mapUpdate t (.map (some r)) (vI op) V).run P w).andThen λ_ w'=>.ok .skip w'):=by
 have D:w.heap[r]?=some (.map (esOf L 0).toArray L.length):=h;have B:=Z2f (P:=P) (v:=V) F hk D (Z2B op L 0 0 G);rw [B];have C:=h.lt;refine H _ ?_ ⟨rfl,rfl,rfl,by simp [World.putObj],λi hi hne=>zQ (by intro e;subst e;exact hne rfl)⟩;simp [Z3b,World.putObj,C,Z94]
theorem Zbj {P:Program}{t k e:TypeId}(F:P.underlying t=some (.map k e))(hk:P.underlying k=some (.int .i64)){w:World}{r:Nat}{L L2:List (Int × Value)}{op:Int}{V:Value}(h:Z3b w r (L++(op,V)::L2))(B:∀ p∈L,p.1≠op) : (Instr.lookup t (.map (some r)) (vI op) false).run P w=.ok V w:=by
 have D:w.heap[r]?=some (.map (esOf (L++(op,V)::L2) 0).toArray (L++(op,V)::L2).length):=h;have C:=Z7f op V L L2 0 0 B;have G:(Instr.checkKey (esOf (L++(op,V)::L2) 0).toArray.isEmpty (9999+1) k (vI op)).run P w=.ok () w:=Go.MapKept.run_checkKey hk (by simp [MapKept.IsKey]) _ 9999;simp only [Instr.lookup,Instr.findKey,Sem.run_bind,Sem.run_pure,zy F,zy hk,Go.MapKept.run_getObj_map D,G,C,Result.andThen_ok];rfl
namespace Qx
def wfF:Fo->Prop
 | .nil=>True
 | .node _ _ a l r=>Z07 a.1 a.2 (flen l)=true/\wfF l/\wfF r
theorem ZsA:∀ (f:Fo) (C B x:Int),Z1D f C B=(true,x)->wfF f:=by
 intro f;induction f with
 | nil=>intro C B x _;trivial
 | node b o a l r ihl ihr =>
  intro C B x h;rw [Z1D] at h;split at h
  . simp at h
  . rename_i D;split at h
    . simp at h
    . rename_i y e;exact ⟨by simpa using λe=>D (.inr (.inr e)),ihl _ _ _ e,ihr _ _ _ h⟩
theorem Z4q {op n:Int}{l:Fo}(h:Z0f op n l=true):Z07 op n (flen l)=true/\wfF l:=by
 unfold Z0f at h;obtain ⟨b,x,e⟩:∃ b x,Z1D (.node 0 0 (op,n) l .nil) 30 200=(b,x):=⟨_,_,rfl⟩
 rw [e] at h;simp only at h;subst h;have:=ZsA _ _ _ _ e;exact ⟨this.1,this.2.1⟩
theorem Zgv:∀ {f:Fo} {k:Nat},wfF f->k<flen f->Z07 (getF f k).1.1 (getF f k).1.2 (flen (getF f k).2)=true/\wfF (getF f k).2:=by
 intro f;induction f with
 | nil=>intro k _ h;simp [flen] at h
 | node b o a l r _ ihr =>
  intro k h hk;cases k with
  | zero=>exact ⟨h.1,h.2.1⟩
  | succ k=>exact ihr h.2.2 (by simp [flen] at hk;omega)
end Qx
end
section
open Go.RowKit Lx Px Qx
namespace Qx
def tyK (l:Fo)(k:Nat):Int:=if k<flen l then typE (getF l k).1 (getF l k).2 else 0
def opL (op:Int)(ts:List Int):Int:=opT op (ts.getD 0 0) (ts.getD 1 0) (ts.getD 2 0)
theorem Zgw {a:Int × Int}{l:Fo}(h:allT l=true):typE a l=opT a.1 (allT.typK l 0) (allT.typK l 1) (allT.typK l 2):=by unfold typE;rw [zp h]
theorem Zr4 {a:Int × Int}{l:Fo}(h:allT l=false):typE a l=0:=by unfold typE;rw [zf (by simp [h])]
theorem Zgx:∀ (l:Fo),allT l=true ↔ ∀ k,k<flen l->typE (getF l k).1 (getF l k).2≠0:=by
 intro l;induction l with
 | nil=>simp [allT,flen]
 | node b o a l r _ ihr =>
  simp only [allT,zd,decide_eq_true_eq,ihr];constructor
  . rintro ⟨⟨B,F⟩,D⟩ k hk;cases k with
    | zero=>show typE a l≠0;rw [Zgw B];exact D
    | succ k=>exact F k (by simp [flen] at hk;omega)
  . intro h;have C:typE a l≠0:=h 0 (by simp [flen]);have B:allT l=true:=by
     cases hl:allT l with
     | true=>rfl
     | false=>exact absurd (Zr4 hl) C
    refine ⟨⟨B,λk hk=>h (k+1) (by simp [flen];omega)⟩,?_⟩;rwa [Zgw B] at C
theorem ZeE:∀ (l:Fo),allT l=true->∀ k,allT.typK l k=tyK l k:=by
 intro l;induction l with
 | nil=>intro _ k;simp [allT.typK,tyK,flen]
 | node b o a l r _ ihr =>
  intro h k;simp only [allT,zd,decide_eq_true_eq] at h;cases k with
  | zero =>
   have:tyK (.node b o a l r) 0=typE a l:=by simp [tyK,flen,getF]
   rw [this,Zgw h.1.1];rfl
  | succ k =>
   have:tyK (.node b o a l r) (k+1)=tyK r k:=by simp [tyK,flen,getF]
   rw [this,<- ihr h.1.2 k];rfl
theorem ZmF {a:Int × Int}{l:Fo}{ts:List Int}(C:ts.length=flen l)(h:∀ k,k<flen l->ts.getD k 0=typE (getF l k).1 (getF l k).2/\ts.getD k 0≠0):typE a l=opL a.1 ts:=by
 have B:allT l=true:=(Zgx l).2 λk hk=>by rw [<- (h k hk).1];exact (h k hk).2
 have hk:∀ k,tyK l k=ts.getD k 0:=by
  intro k;unfold tyK;split
  . rename_i hk;exact (h k hk).1.symm
  . rename_i hk;rw [List.getD_eq_getElem?_getD,List.getElem?_eq_none (by omega)];rfl
 rw [Zgw B,ZeE l B,ZeE l B,ZeE l B,hk,hk,hk,opL]
theorem ZmG {a:Int × Int}{l:Fo}{k:Nat}(hk:k<flen l)(h:typE (getF l k).1 (getF l k).2=0):typE a l=0:=by
 refine Zr4 ?_;rw [<- Bool.not_eq_true,Zgx];exact λhc=>hc k hk h
theorem Zdh {op x y z:Int}(C:0<=x/\x<=3)(B:0<=y/\y<=3):0<=opT op x y z/\opT op x y z<=3:=by
 unfold opT
 repeat' split
 all_goals omega
theorem Zap:∀ (l:Fo) (k:Nat),0<=allT.typK l k/\allT.typK l k<=3:=by
 intro l;induction l with
 | nil=>intro k;simp [allT.typK]
 | node b o a l r ihl ihr =>
  intro k;cases k with
  | zero=>exact Zdh (ihl 0) (ihl 1)
  | succ k=>exact ihr k
theorem Zaq (a:Int × Int)(l:Fo):0<=typE a l/\typE a l<=3:=by
 unfold typE;split
 . exact Zdh (Zap l 0) (Zap l 1)
 . omega
def arO (op:Int):Nat:=if op=10 then 3 else if op=15 then 1 else if op=1\/op=2\/op=3 then 0 else 2
theorem Z6E {op n:Int}{k:Nat}(h:Z07 op n k=true):k=arO op/\1<=op/\op<=15:=by
 unfold Z07 at h;unfold arO
 repeat' split at h
 all_goals simp at h
 all_goals (repeat' split) <;> omega
end Qx
end
section
open Go.RowKit Lx Px Qx
theorem ZeF (w:World)(n:Nat):Below w.heap.size w (w.drewN n):=Z04 (zr _ _) n
def Z7w:PanicEntry:={ v:=.iface 210 (.agg #[]),recovered:=false }
theorem Z6F (w:World):Calls prog 205 #[.bool true] w λe w'=>e=.returned (.tuple #[])/\w=w':=by
 go_enter func205,ntmps205;go_wp2_with fail;exact ⟨rfl,_,results_none rfl _ _ _,rfl,rfl⟩
theorem Z4r (w:World):Calls prog 205 #[.bool false] w λe w'=>e=.panicked [Z7w]/\w=w':=by
 go_enter func205,ntmps205;go_wp2_with fail;exact ⟨rfl,rfl,rfl⟩
def TP (t:Int)(w:World)(e:Ending)(w':World):Prop:=Below w.heap.size w w'/\((t≠0/\e=.returned (vI t))\/(t=0/\e=.panicked [Z7w]))
theorem TP.yes {t:Int}{w w':World}{e:Ending}(h:TP t w e w')(B:t≠0):Below w.heap.size w w'/\e=.returned (vI t):=by
 obtain ⟨hb,h | h⟩:=h
 . exact ⟨hb,h.2⟩
 . exact absurd h.1 B
theorem TP.no {w w':World}{e:Ending}(h:TP 0 w e w'):Below w.heap.size w w'/\e=.panicked [Z7w]:=by
 obtain ⟨hb,h | h⟩:=h
 . exact absurd rfl h.1
 . exact ⟨hb,h.2⟩
theorem Zgy {w:World}{B:Nat}{A:Option Addr}{k c:Nat}{x y:Int}(h:Z03 w B (slice A k c) [x,y]):∃ b o:Nat,A=some ⟨b,o,none⟩/\w.cell? ⟨b,o,none⟩=some (vI x)/\w.cell? ⟨b,o+1,none⟩=some (vI y):=by
 obtain ⟨b,o,rfl,_,C⟩:=Z4p h (by simp);exact ⟨b,o,rfl,C 0 (by simp),C 1 (by simp)⟩
theorem Zit {w:World}{B:Nat}{A:Option Addr}{k c:Nat}{x y z:Int}(h:Z03 w B (slice A k c) [x,y,z]):∃ b o:Nat,A=some ⟨b,o,none⟩/\w.cell? ⟨b,o,none⟩=some (vI x)/\w.cell? ⟨b,o+1,none⟩=some (vI y)/\w.cell? ⟨b,o+2,none⟩=some (vI z):=by
 obtain ⟨b,o,rfl,_,C⟩:=Z4p h (by simp);exact ⟨b,o,rfl,C 0 (by simp),C 1 (by simp),C 2 (by simp)⟩
theorem Zdi (x y:Int)(A:Option Addr)(c B:Nat)(w:World)(h:Z03 w B (slice A 2 c) [x,y])(C:x≠0) : Calls prog 201 #[slice A 2 c] w (TP (if x=y/\x≠3 then x else 0) w):=by
 obtain ⟨b,o,rfl,c0,c1⟩:=Zgy h;clear h;by_cases h3:x=3
 . subst h3;rw [zf (by simp)];go_enter func201,ntmps201;go_wp2_with fail;refine wp_region_still_tail 13 (by kernel_rfl) (by kernel_rfl) ?_;simp only [List.take_succ_cons,List.take_zero,List.drop_succ_cons,List.drop_zero]
   repeat ((with_reducible refine wpStill_step (λK hK=>?_));go_simp;(with_reducible refine hK _ ?_);clear hK K)
   with_reducible refine wpStill_nil ?_
   go_wp2_with fail;refine (Z4r _).mono ?_;rintro e w' ⟨rfl,rfl⟩;exact ⟨rfl,ZeF _ 1,.inr ⟨rfl,rfl⟩⟩
 . have F:(x==3)=false:=by simpa using h3
   have G:(x != 3)=true:=by simpa using h3
   by_cases hxy:x=y
   . subst hxy;rw [zp ⟨rfl,h3⟩];have D:=zh C;have H:=zh h3;clear C h3;go_enter func201,ntmps201;go_wp2_with fail;go_quiet ((go_at_call 205;exact Calls.quiet_of_same ((Z6F _).mono λ_ _ h=>⟨h.1,h.2.symm⟩)));go_wp2_with fail;go_ret;exact ⟨ZeF _ _,.inl ⟨D.o,rfl⟩⟩
   . have I:(x==y)=false:=by simpa using hxy
     rw [zf (λh=>hxy h.1)];go_enter func201,ntmps201;go_wp2_with fail;refine wp_region_still_tail 13 (by kernel_rfl) (by kernel_rfl) ?_;simp only [List.take_succ_cons,List.take_zero,List.drop_succ_cons,List.drop_zero]
     repeat ((with_reducible refine wpStill_step (λK hK=>?_));go_simp;(with_reducible refine hK _ ?_);clear hK K)
     with_reducible refine wpStill_nil ?_
     go_wp2_with fail;refine (Z4r _).mono ?_;rintro e w' ⟨rfl,rfl⟩;exact ⟨rfl,ZeF _ 1,.inr ⟨rfl,rfl⟩⟩
theorem ZeG (x y:Int)(A:Option Addr)(c B:Nat)(w:World)(h:Z03 w B (slice A 2 c) [x,y])(G:x≠0) : Calls prog 200 #[slice A 2 c] w (TP (if x=y/\x≠3 then 3 else 0) w):=by
 have C:=Zdi x y A c B w h G;by_cases hk:x=y/\x≠3
 . rw [zp hk] at C |-
   obtain ⟨H,I,D⟩:=zh3 h hk C;clear h hk C;go_enter func200,ntmps200;go_wp2_with fail;refine D.o.mono ?_;intro e w' F;obtain ⟨hb,rfl⟩:=F.yes G;go_wp2_with fail;go_ret;exact ⟨hb,.inl ⟨by decide,rfl⟩⟩
 . rw [zf hk] at C |-
   obtain ⟨H,I,D⟩:=zh3 h hk C;clear h hk C;go_enter func200,ntmps200;go_wp2_with fail;refine D.o.mono ?_;intro e w' F;obtain ⟨hb,rfl⟩:=F.no;go_wp2_with fail;exact ⟨rfl,hb,.inr ⟨rfl,rfl⟩⟩
def all3 (l:List Int):Int:=if l.all (·==3) then 3 else 0
theorem Ziu (l:List Int)(A:Option Addr)(c B:Nat)(w:World)(h:Z03 w B (slice A l.length c) l)(R:l.length<=10) : Calls prog 203 #[slice A l.length c] w (TP (all3 l) w):=by
 have M:=zh h;clear h;go_enter func203,ntmps203;go_wp2_with fail;go_loop [4,7] (λ_ i=>∃ k:Nat,k<=l.length/\i=vI k/\Hid ((l.take k).all (·==3)=true)) (λ_ i=>l.length - (intOf i).toNat)
 case atStart=>exact ⟨0,Nat.zero_le _,rfl,by simp [Hid]⟩
 case round =>
  obtain ⟨k,hk,rfl,H⟩:=hrel;by_cases hlt:k<l.length
  . obtain ⟨b,o,rfl,_,G⟩:=Z4p M.o (by intro e;rw [e] at hlt;simp at hlt);have I:=G k hlt;clear G;have J:decide ((k:Int)<l.length)=true:=by simpa using hlt
    have F:Hid ((l.take (k+1)).all (·==3)=(l[k]==3)):=by show _=_;rw [zT hlt,List.all_append,H.o];simp
    by_cases h3:l[k]=3
    . rw [h3] at I F;clear h3;go_wp2_with fail;refine (Z6F _).mono ?_;rintro e w' ⟨rfl,rfl⟩;go_wp2_with fail;go_round
      case rel=>exact ⟨k+1,by omega,by go_num,by rw [F.o];rfl⟩
      case measure=>simp [intOf];omega
    . have N:(l[k]==3)=false:=by simpa using h3
      have C:all3 l=0:=by unfold all3;rw [zf];intro L;exact h3 (by simpa using List.all_eq_true.1 L _ (List.getElem_mem hlt))
      generalize l[k]=z at *
      have D:=zh C;have O:=zh h3;clear C h3;go_wp2_with fail;refine (Z4r _).mono ?_;rintro e w' ⟨rfl,rfl⟩;go_wp2_with fail;rw [D.o];exact ⟨rfl,zr _ _,.inr ⟨rfl,rfl⟩⟩
  . have C:all3 l=3:=by have:=H.o;rw [List.take_of_length_le (by omega)] at this;unfold all3;rw [zp this]
    have J:decide ((k:Int)<l.length)=false:=by simpa using hlt
    have D:=zh C;clear C;go_wp2_with fail;go_ret;rw [D.o];exact ⟨zr _ _,.inl ⟨by decide,rfl⟩⟩
theorem ZsB (x y:Int)(A:Option Addr)(c B:Nat)(w:World)(h:Z03 w B (slice A 2 c) [x,y])(C:x≠0) : Calls prog 207 #[slice A 2 c] w (TP (if y=1/\x≠3 then x else 0) w):=by
 obtain ⟨b,o,rfl,c0,c1⟩:=Zgy h;clear h;by_cases h3:x=3
 . subst h3;rw [zf (by simp)];go_enter func207,ntmps207;go_wp2_with fail;refine (Z4r _).mono ?_;rintro e w' ⟨rfl,rfl⟩;go_wp2_with fail;exact ⟨rfl,zr _ _,.inr ⟨rfl,rfl⟩⟩
 . have F:(x==3)=false:=by simpa using h3
   have G:(x != 3)=true:=by simpa using h3
   by_cases hy:y=1
   . subst hy;rw [zp ⟨rfl,h3⟩];have D:=zh C;have H:=zh h3;clear C h3;go_enter func207,ntmps207;go_wp2_with fail;refine (Z6F _).mono ?_;rintro e w' ⟨rfl,rfl⟩;go_wp2_with fail;go_ret;exact ⟨zr _ _,.inl ⟨D.o,rfl⟩⟩
   . have I:(y==1)=false:=by simpa using hy
     rw [zf (λh=>hy h.1)];go_enter func207,ntmps207;go_wp2_with fail;refine (Z4r _).mono ?_;rintro e w' ⟨rfl,rfl⟩;go_wp2_with fail;exact ⟨rfl,zr _ _,.inr ⟨rfl,rfl⟩⟩
theorem if_any (x y z:Int)(A:Option Addr)(c B:Nat)(w:World)(h:Z03 w B (slice A 3 c) [x,y,z])(C:y≠0) : Calls prog 208 #[slice A 3 c] w (TP (if x=3/\y=z then y else 0) w):=by
 obtain ⟨b,o,rfl,c0,c1,c2⟩:=Zit h;clear h;by_cases h3:x=3
 . subst h3;by_cases hyz:y=z
   . subst hyz;rw [zp ⟨rfl,rfl⟩];have D:=zh C;clear C;go_enter func208,ntmps208;go_wp2_with fail;go_quiet ((go_at_call 205;exact Calls.quiet_of_same ((Z6F _).mono λ_ _ h=>⟨h.1,h.2.symm⟩)));go_wp2_with fail;go_ret;exact ⟨ZeF _ _,.inl ⟨D.o,rfl⟩⟩
   . have G:(y==z)=false:=by simpa using hyz
     rw [zf (λh=>hyz h.2)];go_enter func208,ntmps208;go_wp2_with fail;refine wp_region_still_tail 13 (by kernel_rfl) (by kernel_rfl) ?_;simp only [List.take_succ_cons,List.take_zero,List.drop_succ_cons,List.drop_zero]
     repeat ((with_reducible refine wpStill_step (λK hK=>?_));go_simp;(with_reducible refine hK _ ?_);clear hK K)
     with_reducible refine wpStill_nil ?_
     go_wp2_with fail;refine (Z4r _).mono ?_;rintro e w' ⟨rfl,rfl⟩;exact ⟨rfl,ZeF _ 1,.inr ⟨rfl,rfl⟩⟩
 . have F:(x==3)=false:=by simpa using h3
   rw [zf (λh=>h3 h.1)];go_enter func208,ntmps208;go_wp2_with fail;refine wp_region_still_tail 13 (by kernel_rfl) (by kernel_rfl) ?_;simp only [List.take_succ_cons,List.take_zero,List.drop_succ_cons,List.drop_zero]
   repeat ((with_reducible refine wpStill_step (λK hK=>?_));go_simp;(with_reducible refine hK _ ?_);clear hK K)
   with_reducible refine wpStill_nil ?_
   go_wp2_with fail;refine (Z4r _).mono ?_;rintro e w' ⟨rfl,rfl⟩;exact ⟨rfl,ZeF _ 1,.inr ⟨rfl,rfl⟩⟩
theorem ZeH (t:Int)(p:Addr)(v:Value)(w:World)(h:w.cell? p=some (vI t)):Calls prog 250 #[v,.pointer (some p)] w λe w'=>e=.returned (vI t)/\w=w':=by
 go_enter func250,ntmps250;go_wp2_with fail;go_ret;exact ⟨rfl,rfl⟩
theorem Z7x (t:Int)(w:World):Calls prog 202 #[vI t] w λe w'=>e=.returned (.func (.func 250) #[] #[.pointer (some ⟨w.heap.size,0,none⟩)])/\w'=w.alloc (.cells #[vI t] 3):=by
 have B:∀ (fn:Fn) (first cap:Array Value) (w:World),(Instr.makeFunc fn first cap).run prog w=.ok (.func fn first cap) w:=λ_ _ _ _=>rfl;go_enter func202,ntmps202;go_wp2_with fail;go_ret;exact ⟨rfl,rfl⟩
end
section
open Go.RowKit Lx Px Qx
def TFn (W:World)(v:Value)(op:Int):Prop := ∃ g cap,v=.func (.func g) #[] cap/\(∀ args w,(callFunc g args).run prog w=.ok (.enter g args) w) /\ ∀ (W':World) (A:Option Addr) (c B:Nat) (ts:List Int),Below W.heap.size W W'->ts.length=arO op->(∀ t∈ts,1<=t/\t<=3)->Z03 W' B (slice A ts.length c) ts->Calls prog g (#[slice A ts.length c]++cap) W' (TP (opL op ts) W')
theorem TFn.on {W C:World}{v:Value}{op:Int}(h:TFn W v op)(hb:Below W.heap.size W C):TFn C v op:=by
 obtain ⟨g,cap,e,D,F⟩:=h;exact ⟨g,cap,e,D,λW2 A c B ts hb2=>F W2 A c B ts (Z00 hb hb2)⟩
theorem Zar {ts:List Int}(h:ts.length=2):∃ x y,ts=[x,y]:=by
 match ts,h with
 | [x,y],_=>exact ⟨x,y,rfl⟩
theorem Zqh {ts:List Int}(h:ts.length=3):∃ x y z,ts=[x,y,z]:=by
 match ts,h with
 | [x,y,z],_=>exact ⟨x,y,z,rfl⟩
theorem one_of {ts:List Int}(h:ts.length=1):∃ x,ts=[x]:=by
 match ts,h with
 | [x],_=>exact ⟨x,rfl⟩
theorem Z6G (W:World){op:Int}(h:op=4\/op=5\/op=8\/op=9):TFn W (.func (.func 201) #[] #[]) op:=by
 refine ⟨_,_,rfl,enters_of func201 (by kernel_rfl) rfl,λW' A c B ts _ hl hn hv=>?_⟩;have C:arO op=2:=by unfold arO;rcases h with rfl | rfl | rfl | rfl <;> decide
 obtain ⟨x,y,rfl⟩:=Zar (hl.trans C);have:=Zdi x y A c B W' hv (by have:=hn x (by simp);omega);rwa [show opL op [x,y]=if x=y/\x≠3 then x else 0 by unfold opL opT;rcases h with rfl | rfl | rfl | rfl <;> rfl]
theorem Z9q (W:World){op:Int}(h:op=11\/op=12):TFn W (.func (.func 200) #[] #[]) op:=by
 refine ⟨_,_,rfl,enters_of func200 (by kernel_rfl) rfl,λW' A c B ts _ hl hn hv=>?_⟩;have C:arO op=2:=by unfold arO;rcases h with rfl | rfl <;> decide
 obtain ⟨x,y,rfl⟩:=Zar (hl.trans C);have:=ZeG x y A c B W' hv (by have:=hn x (by simp);omega);rwa [show opL op [x,y]=if x=y/\x≠3 then 3 else 0 by unfold opL opT;rcases h with rfl | rfl <;> rfl]
theorem Z7y (W:World){op:Int}(h:op=13\/op=14\/op=15):TFn W (.func (.func 203) #[] #[]) op:=by
 refine ⟨_,_,rfl,enters_of func203 (by kernel_rfl) rfl,λW' A c B ts _ hl _ hv=>?_⟩;have C:ts.length<=10:=by rw [hl];unfold arO;(repeat' split) <;> omega
 have:=Ziu ts A c B W' hv C;rwa [show opL op ts=all3 ts from ?_];rcases h with rfl | rfl | rfl
 . obtain ⟨x,y,rfl⟩:=Zar hl;simp [opL,opT,all3]
 . obtain ⟨x,y,rfl⟩:=Zar hl;simp [opL,opT,all3]
 . obtain ⟨x,rfl⟩:=one_of hl;simp [opL,opT,all3]
theorem ZsC (W:World):TFn W (.func (.func 207) #[] #[]) 7:=by
 refine ⟨_,_,rfl,enters_of func207 (by kernel_rfl) rfl,λW' A c B ts _ hl hn hv=>?_⟩;obtain ⟨x,y,rfl⟩:=Zar hl;exact ZsB x y A c B W' hv (by have:=hn x (by simp);omega)
theorem tfn_if (W:World):TFn W (.func (.func 208) #[] #[]) 10:=by
 refine ⟨_,_,rfl,enters_of func208 (by kernel_rfl) rfl,λW' A c B ts _ hl hn hv=>?_⟩;obtain ⟨x,y,z,rfl⟩:=Zqh hl;exact if_any x y z A c B W' hv (by have:=hn y (by simp);omega)
def Bx1 (w:World)(b:Nat)(t:Int):Prop:=w.heap[b]?=some (.cells #[vI t] 3 (0,0))
theorem Z7z {W:World}{b:Nat}{op t:Int}(h:Bx1 W b t)(F:t≠0)(D:opL op []=t)(G:arO op=0):TFn W (.func (.func 250) #[] #[.pointer (some ⟨b,0,none⟩)]) op:=by
 refine ⟨_,_,rfl,enters_of func250 (by kernel_rfl) rfl,λW' A c B ts hb hl _ _=>?_⟩;have:ts=[]:=List.length_eq_zero_iff.1 (hl.trans G);subst this;have C:W'.heap[b]?=_:=(hb.block b (zF2.1 h).1).trans h;refine (ZeH t ⟨b,0,none⟩ _ W' (by rw [zH C];rfl)).mono ?_;rintro e w' ⟨rfl,rfl⟩;rw [D];exact ⟨zr _ _,.inl ⟨F,rfl⟩⟩
theorem ZsD (x y:Int)(A:Option Addr)(c B:Nat)(w:World)(h:Z03 w B (slice A 2 c) [x,y])(X:1<=x/\x<=3)(V:1<=y/\y<=3) : Calls prog 204 #[slice A 2 c] w (TP (opL 6 [x,y]) w):=by
 obtain ⟨b,o,rfl,_,M⟩:=Z4p h (by simp);have G:∀ (k:Int) (W:World),W=w->Calls prog 206 #[slice (some ⟨b,o,none⟩) 2 c,vI k] W λe w'=>e=.returned (.bool ([x,y].contains k))/\w'=W:=λk W hW=>by subst hW;exact Tryz.slices_Contains_int b o 2 c [x,y] k W (by simp) (by omega) (λj hj=>by rw [M j hj];simp [List.getD_eq_getElem?_getD,zv hj])
 have c0:w.cell? ⟨b,o,none⟩=some (vI x):=M 0 (by simp);have c1:w.cell? ⟨b,o+1,none⟩=some (vI y):=M 1 (by simp);have S:=h;clear h M S;by_cases h3:x=3\/y=3
 . have H:[x,y].contains 3=true:=by rcases h3 with rfl | rfl <;> simp
   have D:opL 6 [x,y]=0:=by unfold opL opT;rcases h3 with rfl | rfl <;> simp
   have C:=G 3;rw [H] at C;obtain ⟨L,J,O⟩:=zh3 C D h3;clear C D h3 G H;go_enter func204,ntmps204;go_wp2_with fail;refine (L.o w rfl).mono ?_;rintro e w' ⟨rfl,rfl⟩;go_wp2_with fail;refine (Z4r _).mono ?_;rintro e w' ⟨rfl,rfl⟩;go_wp2_with fail;rw [J.o];exact ⟨rfl,zr _ _,.inr ⟨rfl,rfl⟩⟩
 . have H:[x,y].contains 3=false:=by simp;omega
   have C:=G 3;rw [H] at C;by_cases h1:x=1\/y=1
   . have I:[x,y].contains 1=true:=by rcases h1 with rfl | rfl <;> simp
     have D:opL 6 [x,y]=max x y:=by unfold opL opT;simp;omega
     have R:max x y≠0:=by omega
     have F:=G 1;rw [I] at F;obtain ⟨L,N,J,U,T,O⟩:=zh6 C F D R h1 h3;clear C F D R h1 h3 G H I;go_enter func204,ntmps204;go_wp2_with fail;refine (L.o w rfl).mono ?_;rintro e w' ⟨rfl,rfl⟩;go_wp2_with fail;refine (N.o _ rfl).mono ?_;rintro e w' ⟨rfl,rfl⟩;go_wp2_with fail;refine (Z6F _).mono ?_;rintro e w' ⟨rfl,rfl⟩;go_wp2_with fail;go_region
     all_goals (go_wp2_with fail;go_ret;rw [J.o];exact ⟨ZeF _ 1,.inl ⟨U.o,rfl⟩⟩)
   . have I:[x,y].contains 1=false:=by simp;omega
     have D:opL 6 [x,y]=0:=by unfold opL opT;simp;omega
     have F:=G 1;rw [I] at F;obtain ⟨L,N,J,T,O⟩:=zh5 C F D h1 h3;clear C F D h1 h3 G H I;go_enter func204,ntmps204;go_wp2_with fail;refine (L.o w rfl).mono ?_;rintro e w' ⟨rfl,rfl⟩;go_wp2_with fail;refine (N.o _ rfl).mono ?_;rintro e w' ⟨rfl,rfl⟩;go_wp2_with fail;refine (Z4r _).mono ?_;rintro e w' ⟨rfl,rfl⟩;go_wp2_with fail;rw [J.o];exact ⟨rfl,zr _ _,.inr ⟨rfl,rfl⟩⟩
theorem ZsE (W:World):TFn W (.func (.func 204) #[] #[]) 6:=by
 refine ⟨_,_,rfl,enters_of func204 (by kernel_rfl) rfl,λW' A c B ts _ hl hn hv=>?_⟩;obtain ⟨x,y,rfl⟩:=Zar hl;exact ZsD x y A c B W' hv (hn x (by simp)) (hn y (by simp))
def ZmH (F:World->Value->Int->Prop)(lo:Int)(w:World)(r:Nat):Prop:=∀ op,lo<=op->op<=15->∃ L1 V L2,Z3b w r (L1++(op,V)::L2)/\(∀ p∈L1,p.1≠op)/\F w V op
theorem Z08 {w C:World}{B r:Nat}(F:w.grownBy C (some r))(D:B<=w.heap.size)(G:B<=r):Below B w C:=(zr B w).grown F D (λg e=>by injection e with e;omega)
theorem Bx1.ins {w B:World}{b r:Nat}{t:Int}(h:Bx1 w b t)(D:w.grownBy B (some r))(C:b≠r):Bx1 B b t:=(D.block b (zF2.1 h).1 (by simp;exact C)).trans h
theorem Bx1.on {w B:World}{b:Nat}{t:Int}(h:Bx1 w b t)(hb:Below w.heap.size w B):Bx1 B b t:=(hb.block b (zF2.1 h).1).trans h
def OpsP (w:World)(e:Ending)(w':World):Prop:=∃ r,e=.returned (.map (some r))/\ZmH TFn 1 w' r/\w.heap.size<=r/\Below w.heap.size w w'
theorem Zgz (w:World):Calls prog 166 #[] w (OpsP w):=by
 have bF:=@run_makeMap prog;have h0:=Z3b.new w;have g0:Below w.heap.size w (w.alloc (.map #[] 0)):=(zr _ _).alloc (zn _) _;have l0:w.heap.size<(w.alloc (.map #[] 0)).heap.size:=by simp
 go_enter func166,ntmps166;go_wp2_with fail;generalize w.alloc (.map #[] 0)=M at *
 clear bF;refine (Z7x 1 _).mono ?_;rintro e w' ⟨rfl,rfl⟩;have a0:=(zr M.heap.size M).alloc (zn _) (.cells #[vI 1] 3);have B:Bx1 (M.alloc (.cells #[vI 1] 3)) M.heap.size 1:=za M _;have G:M.heap.size≠w.heap.size:=by omega
 have bn:=h0.on a0;have bz:=Z00 g0 a0;have br:w.heap.size<(M.alloc (.cells #[vI 1] 3)).heap.size:=by simp;omega
 clear h0 g0 l0 a0;go_wp2_with fail;generalize bE:M.heap.size=x1 at *
 clear bE;generalize M.alloc (.cells #[vI 1] 3)=v0 at *
 refine Z0d underlying212 underlying3 bn (by simp) ?_;intro J h1 q;have g1:=bz.trans (Z08 q (zl br) (zn _));have l1:w.heap.size<J.heap.size:=by have:=q.size;omega
 replace B:=B.ins q G;simp only [zn2] at h1;clear bn bz br q;go_wp2_with fail;refine (Z7x 1 _).mono ?_;rintro e w' ⟨rfl,rfl⟩;have m:=(zr J.heap.size J).alloc (zn _) (.cells #[vI 1] 3);have C:Bx1 (J.alloc (.cells #[vI 1] 3)) J.heap.size 1:=za J _;have H:J.heap.size≠w.heap.size:=by omega
 have bt:=h1.on m;have bg:=Z00 g1 m;have be:w.heap.size<(J.alloc (.cells #[vI 1] 3)).heap.size:=by simp;omega
 replace B:=B.on m;clear h1 g1 l1 m;go_wp2_with fail;generalize bD:J.heap.size=x3 at *
 clear bD;generalize J.alloc (.cells #[vI 1] 3)=v1 at *
 refine Z0d underlying212 underlying3 bt (by simp) ?_;intro L A l;have g2:=bg.trans (Z08 l (zl be) (zn _));have l2:w.heap.size<L.heap.size:=by have:=l.size;omega
 replace B:=B.ins l G;replace C:=C.ins l H;simp only [zn2,zc2] at A;clear bt bg be l;go_wp2_with fail;refine (Z7x 2 _).mono ?_;rintro e w' ⟨rfl,rfl⟩;have j:=(zr L.heap.size L).alloc (zn _) (.cells #[vI 2] 3);have D:Bx1 (L.alloc (.cells #[vI 2] 3)) L.heap.size 2:=za L _;have I:L.heap.size≠w.heap.size:=by omega
 have bB:=A.on j;have bj:=Z00 g2 j;have bm:w.heap.size<(L.alloc (.cells #[vI 2] 3)).heap.size:=by simp;omega
 replace B:=B.on j;replace C:=C.on j;clear A g2 l2 j;go_wp2_with fail;generalize bJ:L.heap.size=x2 at *
 clear bJ;generalize L.alloc (.cells #[vI 2] 3)=v2 at *
 refine Z0d underlying212 underlying3 bB (by simp) ?_;intro w3 h3 R;have g3:=bj.trans (Z08 R (zl bm) (zn _));have l3:w.heap.size<w3.heap.size:=by have:=R.size;omega
 replace B:=B.ins R G;replace C:=C.ins R H;replace D:=D.ins R I;simp only [zn2,zc2] at h3;clear bB bj bm R;go_wp2_with fail;refine Z0d underlying212 underlying3 h3 (by simp) ?_;intro w4 h4 V;have g4:=g3.trans (Z08 V (zl l3) (zn _));have l4:w.heap.size<w4.heap.size:=by have:=V.size;omega
 replace B:=B.ins V G;replace C:=C.ins V H;replace D:=D.ins V I;simp only [zn2,zc2] at h4;clear h3 g3 l3 V;go_wp2_with fail;refine Z0d underlying212 underlying3 h4 (by simp) ?_;intro w5 h5 T;have g5:=g4.trans (Z08 T (zl l4) (zn _));have l5:w.heap.size<w5.heap.size:=by have:=T.size;omega
 replace B:=B.ins T G;replace C:=C.ins T H;replace D:=D.ins T I;simp only [zn2,zc2] at h5;clear h4 g4 l4 T;go_wp2_with fail;refine Z0d underlying212 underlying3 h5 (by simp) ?_;intro w6 r S;have g6:=g5.trans (Z08 S (zl l5) (zn _));have l6:w.heap.size<w6.heap.size:=by have:=S.size;omega
 replace B:=B.ins S G;replace C:=C.ins S H;replace D:=D.ins S I;simp only [zn2,zc2] at r;clear h5 g5 l5 S;go_wp2_with fail;refine Z0d underlying212 underlying3 r (by simp) ?_;intro w7 h7 Y;have g7:=g6.trans (Z08 Y (zl l6) (zn _));have l7:w.heap.size<w7.heap.size:=by have:=Y.size;omega
 replace B:=B.ins Y G;replace C:=C.ins Y H;replace D:=D.ins Y I;simp only [zn2,zc2] at h7;clear r g6 l6 Y;go_wp2_with fail;refine Z0d underlying212 underlying3 h7 (by simp) ?_;intro w8 h8 O;have g8:=g7.trans (Z08 O (zl l7) (zn _));have l8:w.heap.size<w8.heap.size:=by have:=O.size;omega
 replace B:=B.ins O G;replace C:=C.ins O H;replace D:=D.ins O I;simp only [zn2,zc2] at h8;clear h7 g7 l7 O;go_wp2_with fail;refine Z0d underlying212 underlying3 h8 (by simp) ?_;intro w9 h9 Z;have g9:=g8.trans (Z08 Z (zl l8) (zn _));have l9:w.heap.size<w9.heap.size:=by have:=Z.size;omega
 replace B:=B.ins Z G;replace C:=C.ins Z H;replace D:=D.ins Z I;simp only [zn2,zc2] at h9;clear h8 g8 l8 Z;go_wp2_with fail;refine Z0d underlying212 underlying3 h9 (by simp) ?_;intro bH y g;have bf:=g9.trans (Z08 g (zl l9) (zn _));have bh:w.heap.size<bH.heap.size:=by have:=g.size;omega
 replace B:=B.ins g G;replace C:=C.ins g H;replace D:=D.ins g I;simp only [zn2,zc2] at y;clear h9 g9 l9 g;go_wp2_with fail;refine Z0d underlying212 underlying3 y (by simp) ?_;intro bC ba f;have bk:=bf.trans (Z08 f (zl bh) (zn _));have bs:w.heap.size<bC.heap.size:=by have:=f.size;omega
 replace B:=B.ins f G;replace C:=C.ins f H;replace D:=D.ins f I;simp only [zn2,zc2] at ba;clear y bf bh f;go_wp2_with fail;refine Z0d underlying212 underlying3 ba (by simp) ?_;intro bM bc d;have bu:=bk.trans (Z08 d (zl bs) (zn _));have bA:w.heap.size<bM.heap.size:=by have:=d.size;omega
 replace B:=B.ins d G;replace C:=C.ins d H;replace D:=D.ins d I;simp only [zn2,zc2] at bc;clear ba bk bs d;go_wp2_with fail;refine Z0d underlying212 underlying3 bc (by simp) ?_;intro bI bd X;have bv:=bu.trans (Z08 X (zl bA) (zn _));have bx:w.heap.size<bI.heap.size:=by have:=X.size;omega
 replace B:=B.ins X G;replace C:=C.ins X H;replace D:=D.ins X I;simp only [zn2,zc2] at bd;clear bc bu bA X;go_wp2_with fail;refine Z0d underlying212 underlying3 bd (by simp) ?_;intro bK bb U;have bp:=bv.trans (Z08 U (zl bx) (zn _));have bq:w.heap.size<bK.heap.size:=by have:=U.size;omega
 replace B:=B.ins U G;replace C:=C.ins U H;replace D:=D.ins U I;simp only [zn2,zc2] at bb;clear bd bv bx U;go_wp2_with fail;refine Z0d underlying212 underlying3 bb (by simp) ?_;intro bL F N;have bG:=bp.trans (Z08 N (zl bq) (zn _));have bN:w.heap.size<bL.heap.size:=by have:=N.size;omega
 replace B:=B.ins N G;replace C:=C.ins N H;replace D:=D.ins N I;simp only [zn2,zc2] at F;clear bb bp bq N;go_wp2_with fail;go_ret;refine ⟨_,rfl,?_,zn _,bG⟩;intro op bO bP;rcases (show op=1\/op=3\/op=2\/op=4\/op=5\/op=8\/op=9\/op=11\/op=12\/op=13\/op=14\/op=15\/op=6\/op=7\/op=10 by omega) with rfl | rfl | rfl | rfl | rfl | rfl | rfl | rfl | rfl | rfl | rfl | rfl | rfl | rfl | rfl
 . exact ⟨[],_,[(3,_),(2,_),(4,_),(5,_),(8,_),(9,_),(11,_),(12,_),(13,_),(14,_),(15,_),(6,_),(7,_),(10,_)],F,by simp,Z7z B (by decide) rfl rfl⟩
 . exact ⟨[(1,_)],_,[(2,_),(4,_),(5,_),(8,_),(9,_),(11,_),(12,_),(13,_),(14,_),(15,_),(6,_),(7,_),(10,_)],F,by simp,Z7z C (by decide) rfl rfl⟩
 . exact ⟨[(1,_),(3,_)],_,[(4,_),(5,_),(8,_),(9,_),(11,_),(12,_),(13,_),(14,_),(15,_),(6,_),(7,_),(10,_)],F,by simp,Z7z D (by decide) rfl rfl⟩
 . exact ⟨[(1,_),(3,_),(2,_)],_,[(5,_),(8,_),(9,_),(11,_),(12,_),(13,_),(14,_),(15,_),(6,_),(7,_),(10,_)],F,by simp,Z6G _ (by decide)⟩
 . exact ⟨[(1,_),(3,_),(2,_),(4,_)],_,[(8,_),(9,_),(11,_),(12,_),(13,_),(14,_),(15,_),(6,_),(7,_),(10,_)],F,by simp,Z6G _ (by decide)⟩
 . exact ⟨[(1,_),(3,_),(2,_),(4,_),(5,_)],_,[(9,_),(11,_),(12,_),(13,_),(14,_),(15,_),(6,_),(7,_),(10,_)],F,by simp,Z6G _ (by decide)⟩
 . exact ⟨[(1,_),(3,_),(2,_),(4,_),(5,_),(8,_)],_,[(11,_),(12,_),(13,_),(14,_),(15,_),(6,_),(7,_),(10,_)],F,by simp,Z6G _ (by decide)⟩
 . exact ⟨[(1,_),(3,_),(2,_),(4,_),(5,_),(8,_),(9,_)],_,[(12,_),(13,_),(14,_),(15,_),(6,_),(7,_),(10,_)],F,by simp,Z9q _ (by decide)⟩
 . exact ⟨[(1,_),(3,_),(2,_),(4,_),(5,_),(8,_),(9,_),(11,_)],_,[(13,_),(14,_),(15,_),(6,_),(7,_),(10,_)],F,by simp,Z9q _ (by decide)⟩
 . exact ⟨[(1,_),(3,_),(2,_),(4,_),(5,_),(8,_),(9,_),(11,_),(12,_)],_,[(14,_),(15,_),(6,_),(7,_),(10,_)],F,by simp,Z7y _ (by decide)⟩
 . exact ⟨[(1,_),(3,_),(2,_),(4,_),(5,_),(8,_),(9,_),(11,_),(12,_),(13,_)],_,[(15,_),(6,_),(7,_),(10,_)],F,by simp,Z7y _ (by decide)⟩
 . exact ⟨[(1,_),(3,_),(2,_),(4,_),(5,_),(8,_),(9,_),(11,_),(12,_),(13,_),(14,_)],_,[(6,_),(7,_),(10,_)],F,by simp,Z7y _ (by decide)⟩
 . exact ⟨[(1,_),(3,_),(2,_),(4,_),(5,_),(8,_),(9,_),(11,_),(12,_),(13,_),(14,_),(15,_)],_,[(7,_),(10,_)],F,by simp,ZsE _⟩
 . exact ⟨[(1,_),(3,_),(2,_),(4,_),(5,_),(8,_),(9,_),(11,_),(12,_),(13,_),(14,_),(15,_),(6,_)],_,[(10,_)],F,by simp,ZsC _⟩
 . exact ⟨[(1,_),(3,_),(2,_),(4,_),(5,_),(8,_),(9,_),(11,_),(12,_),(13,_),(14,_),(15,_),(6,_),(7,_)],_,[],F,by simp,tfn_if _⟩
end
section
open Go.RowKit Lx Px Qx
theorem Tryz.infoInt:(Tryz.prog.info? 3).map (λi=>(i.zero,i.size,i.bytes))=some (some (vI 0),1,8):=by kernel_rfl
theorem Z2t {D:Array Oper}{rest:List Oper}{o:Oper}{a:Act}{Q:Exit->Act->World->Prop}(w:World)(I:o.guard=none)(s x:Operand) (L:o.op=.call { callee:=.builtin .append,args:=#[s,x],argTypes:=#[26,26] }) (base:Nat) (v:Value) (ts:List Int) (G:a.eval s=v) (R:w.ownsRow base 3 1 v ts.length (ts.map (.int .i64))) (b:Nat) (t:Int) (O:a.eval x=slice (some ⟨b,0,none⟩) 1 1) (U:w.cell? ⟨b,0,none⟩=some (vI t)) (X:ts.length<=1000000) (H:base<=w.heap.size) (h:∀ B w',w'.ownsRow base 3 1 B (ts++[t]).length ((ts++[t]).map (.int .i64))->w.grownBy w' v.ownBlock->wpList prog D Q rest (a.put o.dst B) w'):wpList prog D Q (o::rest) a w:=by
 obtain ⟨T,N,M,S,F⟩:=info_parts Tryz.infoInt;refine wpList_append_own w I s x 26 L base 3 T _ 1 8 underlying26 N M S F rfl (by decide) v ts.length _ G R ⟨b,0,none⟩ 1 1 [vI t] O rfl ?_ ?_ (by unfold maxLen;omega) (by omega) H ?_
 . intro j u C;have:j=0:=by
    rcases Nat.eq_zero_or_pos j with h | h
    . exact h
    . rw [List.getElem?_eq_none (by simp;omega)] at C;cases C
   subst this;simp at C;subst C;exact U
 . simp [Value.oneCell']
 . intro B w' V J _;refine h B w' ?_ J;rw [zj,List.map_append];exact V
end
section
open Go.RowKit Lx Px Qx
def OfC (a:Int × Int)(l:Fo):Prop := ∀ (w:World) (v:Value) (B r:Nat),FoV w B v l->B<=w.heap.size->ZmH TFn 1 w r->Z07 a.1 a.2 (flen l)=true->wfF l -> Calls prog 165 #[.agg #[vI a.1,vI a.2,v],.map (some r)] w (TP (typE a l) w)
theorem ZmH.on {F:World->Value->Int->Prop}{lo:Int}{w w':World}{r:Nat}(B:∀ v op,F w v op->F w' v op)(h:ZmH F lo w r)(hb:Below w.heap.size w w'):ZmH F lo w' r:=by
 intro op J C;obtain ⟨H,V,L2,G,I,D⟩:=h op J C;exact ⟨H,V,L2,G.on hb,I,B _ _ D⟩
def OfL (l:Fo)(w:World)(op n:Int)(av v i:Value)(wr:World):Prop := ∃ (k:Nat) (ts:List Int),k<=flen l/\i=vI k/\ts.length=k/\(∀ j,j<k->ts.getD j 0=typE (getF l j).1 (getF l j).2/\ts.getD j 0≠0) /\ wr.ownsRow (w.heap.size+1) 3 1 v ts.length (ts.map (.int .i64))/\Below w.heap.size w wr/\w.heap.size<wr.heap.size/\wr.heap[w.heap.size]?=some (.cells #[vI op,vI n,av] 79 (0,0))
theorem Z2u {w w':World}{base e s n:Nat}{v:Value}{C:List Value}(h:w.ownsRow base e s v n C)(hb:Below w.heap.size w w'):w'.ownsRow base e s v n C:=by
 obtain ⟨H,J⟩:=h;refine ⟨H,?_⟩;rcases J with D | ⟨g,cap,G,I,F,B,rest⟩
 . exact .inl D
 . exact .inr ⟨g,cap,G,I,F,(hb.block g (zF2.1 B).1).trans B,rest⟩
theorem Zr5 (a:Int × Int)(l:Fo)(ih:∀ k,k<flen l->OfC (getF l k).1 (getF l k).2):OfC a l:=by
 intro w v B r hv hB hO O hw;obtain ⟨A,c,rfl,hA⟩:=hv;obtain ⟨op,n⟩:=a;obtain ⟨bf,bp,bA⟩:=Z6E O;dsimp only at O bp bA bf;have b0:=Z5f O;obtain ⟨IH,HO,HW,HA,HF⟩:=zh5 ih hO hw hA O;have HX:=zh (za w (.cells #[vI op,vI n,slice A (flen l) c] 79));have bN:=zh ((zr w.heap.size w).alloc (zn _) (.cells #[vI op,vI n,slice A (flen l) c] 79));have bV:=zh bf;clear ih hO hw hA O bf;go_enter func165,ntmps165;go_wp2_with fail;go_loopw [5,11] (λv i wr=>OfL l w op n (slice A (flen l) c) v i wr) (λ_ i _=>flen l - (intOf i).toNat)
 case atStart=>exact ⟨0,[],Nat.zero_le _,rfl,rfl,λj U=>absurd U (by omega),World.ownsRow_nil _ _ _ _,bN.o,by simp,HX.o⟩
 case round =>
  obtain ⟨k,ts,hk,rfl,bv,bs,bj,L,bS,bG⟩:=hrel;obtain ⟨M,be,H,ba⟩:=zh4 bs bj bv bG;clear bs bj bv bG;by_cases hkl:k<flen l
  . have bt:∀ p:Addr,p.block<B->wr.cell? p=w.cell? p:=λp hp=>L.cell (by omega);obtain ⟨ad,J,c',rfl,bZ,t0,t1,t2,Z⟩:=FoAt.get l A 0 k (FoAt.keep bt l A 0 HA.o) hkl;rw [Nat.zero_add] at t0 t1 t2;have Y:=IH.o k hkl;obtain ⟨m,q⟩:=Zgv HW.o hkl;have N:=λh=>ZmG (a:=(op,n)) hkl h;have bb:=Zaq (getF l k).1 (getF l k).2;have R:∀ t,t=typE (getF l k).1 (getF l k).2->t≠0->∀ j,j<k+1->(ts++[t]).getD j 0=typE (getF l j).1 (getF l j).2/\(ts++[t]).getD j 0≠0:=by
     intro t F C j U;have bC:=H.o;by_cases hjk:j=k
     . subst hjk;rw [<- bC,List.getD_eq_getElem?_getD];simp only [List.getElem?_concat_length,Option.getD_some];rw [bC];exact ⟨F,C⟩
     . have:=M.o j (by omega);rw [List.getD_eq_getElem?_getD,List.getElem?_append_left (by omega),<- List.getD_eq_getElem?_getD];exact this
    obtain ⟨⟨f,X⟩,G,bc⟩:∃ a' G,getF l k=(a',G):=⟨_,_,rfl⟩
    rw [bc] at t0 t1 t2 Z Y m q N R bb;dsimp only at t0 t1 t2 Z Y m q N R bb;obtain ⟨t,bd⟩:∃ t,t=typE (f,X) G:=⟨_,rfl⟩
    rw [<- bd] at N R bb;have b1:(ad.add (k*3)).block<wr.heap.size:=by rw [Z10];omega
    obtain ⟨bM,bJ,W1,W2,bI,br,bY,T3⟩:=zh8 bd Y m q N R bc Z;clear bd Y m q N R bc Z bt M;have I:=(zr wr.heap.size wr).alloc (zn _) (.cells #[vI f,vI X,slice J (flen G) c'] 79);have d:=Z00 L I;have S:=HO.o.on (λv op h=>TFn.on h d) d;have bz:=Z2u be.o I;have bH:=(I.block _ bS).trans ba.o;have bD:=FoAt.keep (λp hp=>I.cell (by omega)) G J 0 T3.o;have bW:wr.heap.size<(wr.alloc (.cells #[vI f,vI X,slice J (flen G) c'] 79)).heap.size:=by simp
    obtain ⟨b4,y,bu,bx,bB,bq⟩:=zh6 I d S bz bH bD;clear I d S bz bH bD;go_wp2_with fail;generalize wr.alloc (.cells #[vI f,vI X,slice J (flen G) c'] 79)=W3 at *
    refine (bJ.o W3 (slice J (flen G) c') B r ⟨J,c',rfl,bq.o⟩ (by omega) bu.o W1.o W2.o).mono ?_;intro e w9 bm;have F:TP t W3 e w9:=by rw [bM.o];exact bm
    clear bm;by_cases C:t=0
    . subst C;obtain ⟨D,rfl⟩:=F.no;have HR:=zh (bI.o rfl);go_wp2_with fail;rw [HR.o];exact ⟨rfl,Z00 y.o D,.inr ⟨rfl,rfl⟩⟩
    . obtain ⟨D,rfl⟩:=F.yes C;have b3:=D.size;clear F;have bF:=zh (Z2u bx.o D);have bT:=zh ((D.block _ (by omega)).trans bB.o);have bR:=zh (Z00 y.o D);have bQ:=zh (br.o t rfl C);have T:=zh C;clear C bx bB y bu bq br D;go_wp2_with (at_builtin;refine Z2t _ rfl _ _ rfl (w.heap.size+1) _ ts rfl (bF.o.alloc _) w9.heap.size t rfl (by simp [go_sem]) (by have:=H.o;omega) (by simp;omega) ?_;intro v' w5 bO bg);have bk:∀ g,u5.ownBlock=some g->w.heap.size+1<=g:=λg e=>(bF.o.lt g e).1;have bU:Below w.heap.size w w5:=(bR.o.alloc (by omega) (.cells #[vI t] 3)).grown bg (by simp;omega) (λg e=>by have:=bk g e;omega);have bK:=(bg.block w.heap.size (by simp;omega) (λe=>by have:=bk _ e.symm;omega)).trans (Z0w bT.o _);have bL:w.heap.size<w5.heap.size:=by have:=bg.size;simp at this;omega
      go_roundw
      case rel=>exact ⟨k+1,ts++[t],by omega,by go_num,by rw [zj,H.o];rfl,bQ.o,bO,bU,bL,bK⟩
      case measure=>simp [intOf];omega
  . have bP:k=flen l:=by omega
    subst bP;have hE:typE (op,n) l=opL op ts:=ZmF H.o M.o;have bn:∀ t∈ts,1<=t/\t<=3:=by intro t F;obtain ⟨j,U,rfl⟩:=List.getElem_of_mem F;have h1:=M.o j (by have:=H.o;omega);have h2:=Zaq (getF l j).1 (getF l j).2;rw [<- h1.1] at h2;rw [List.getD_eq_getElem?_getD,zv U,Option.getD_some] at h1 h2;omega
    have S:=HO.o.on (λv op h=>TFn.on h L) L;obtain ⟨L1,V,L2,hm,hn,g,cap,rfl,b2,bh⟩:=S op bp bA;have bX:=Zbj underlying212 underlying3 hm hn;have hv:=Z03.own be.o rfl;obtain ⟨A5,c5,rfl,bE⟩:=hv;have hc:=bh wr A5 c5 wr.heap.size ts (zr _ _) (H.o.trans bV.o) bn ⟨A5,c5,rfl,bE⟩;have x0:wr.cell? ⟨w.heap.size,0,none⟩=some (vI op):=by rw [zH ba.o];rfl
    rw [<- hE] at hc;have dl:decide ((flen l:Int)<(flen l:Int))=false:=by simp
    have HC:=zh hc;have HE:=zh hE;clear hc hE bE hm hn S bn bh be M H ba IH HF;go_wp2_with fail;refine HC.o.mono ?_;intro e w9 F;rcases F with ⟨D,⟨C,rfl⟩ | ⟨C,rfl⟩⟩
    . have T:=zh C;clear C;go_wp2_with fail;go_ret;exact ⟨Z00 L D,.inl ⟨T.o,rfl⟩⟩
    . have T:=zh C;clear C;go_wp2_with fail;exact ⟨rfl,Z00 L D,.inr ⟨T.o,rfl⟩⟩
theorem of_all (f:Fo):∀ k,k<flen f->OfC (getF f k).1 (getF f k).2:=by
 induction f with
 | nil=>intro k h;simp [flen] at h
 | node b o a l r ihl ihr =>
  intro k h;cases k with
  | zero=>exact Zr5 a l ihl
  | succ k=>exact ihr k (by simp [flen] at h;omega)
theorem of_any (a:Int × Int)(l:Fo):OfC a l:=Zr5 a l (of_all l)
end
section
open Go.RowKit Lx Px Qx
theorem Z5q {P:Program}{c:Code}{Q:Exit->Act->List Frame->World->Prop}{a:Act}{cs:List Frame}{w:World}(R:Act->World->Prop)(h:c.wp P (λe a' w'=>e=.normal/\R a' w') a w)(B:∀ a' w',R a' w'->Q .normal a' cs w'):c.wpS P Q a cs w :=
 wpS_of_wp (Code.wp_mono (λe a' w' h=>by obtain ⟨he,C⟩:=h;subst he;exact B a' w' C) h)
def InfB (w:World)(t e:Int)(wx:World):Prop := wx.heap[w.heap.size+1]?=some (.cells #[vI t] 3 (0,0))/\wx.heap[w.heap.size+2]?=some (.cells #[vI e] 37 (0,0))/\Below w.heap.size w wx
theorem InfB.on {w B C:World}{t e:Int}(h:InfB w t e B)(hb:Below B.heap.size B C):InfB w t e C := ⟨(hb.block _ (zF2.1 h.1).1).trans h.1,(hb.block _ (zF2.1 h.2.1).1).trans h.2.1,Z00 h.2.2 hb⟩
theorem Z6H {w:World}{b:Nat}{x:Value}{B:TypeId}(h:w.heap[b]?=some (.cells #[x] B (0,0)))(y:Value):(w.setCell ⟨b,0,none⟩ y).heap[b]?=some (.cells #[y] B (0,0)):=by
 simp [World.setCell,zM,h]
theorem Z0u {w:World}{b:Nat}{x:Value}{B:TypeId}(h:w.heap[b]?=some (.cells #[x] B (0,0))):w.cell? ⟨b,0,none⟩=some x:=by rw [zH h];rfl
theorem InfB.set {w B:World}{t e:Int}(h:InfB w t e B)(C e':Int):InfB w C e' ((B.setCell ⟨w.heap.size+1,0,none⟩ (vI C)).setCell ⟨w.heap.size+2,0,none⟩ (vI e')):=by
 refine ⟨?_,?_,?_⟩
 . rw [zg _ _ _ _ (by show w.heap.size+1≠w.heap.size+2;omega)];exact Z6H h.1 _
 . refine Z6H (x:=vI e) ?_ _;rw [zg _ _ _ _ (by show w.heap.size+2≠w.heap.size+1;omega)];exact h.2.1
 . exact (h.2.2.setCell (p:=⟨w.heap.size+1,0,none⟩) (by show w.heap.size<=w.heap.size+1;omega) _).setCell (p:=⟨w.heap.size+2,0,none⟩) (by show w.heap.size<=w.heap.size+2;omega) _
theorem Z4t (w B:World)(t e:Int)(h:InfB w t e B) : CallsD prog 164 #[.pointer (some ⟨w.heap.size+1,0,none⟩),.pointer (some ⟨w.heap.size+1+1,0,none⟩)] (.panicking [Z7w]) B λen u' w' =>
  en=.returned (.tuple #[])/\u'=.panicking [{ Z7w with recovered:=true }]/\InfB w 0 20 w':=by
 refine callsD_of_wpS func164 rfl λc₀ cs hu=>?_;unfold Z7w at hu |-
 apply wpS_seq;apply wpS_region;simp [wpOpsS,go_sem,recoverD,hu,ntmps164,Exit.thenS];refine Z5q (λI w'=>I.defers=[]/\InfB w 0 20 w') ?_ ?_
 . have H:∀ V:Value,(#[Value.pointer (some ⟨w.heap.size+1,0,none⟩),Value.pointer (some ⟨w.heap.size+1+1,0,none⟩)]++(Array.replicate 9 undef).setIfInBounds 3 V)=#[Value.pointer (some ⟨w.heap.size+1,0,none⟩),Value.pointer (some ⟨w.heap.size+1+1,0,none⟩),undef,undef,undef,V,undef,undef,undef,undef,undef]:=λ_=>by kernel_rfl
   rw [H];have L:∀ w:World,(Instr.typeAssert (.iface 210 (.agg #[])) 20 210 true).run prog w=.ok (.tuple #[.agg #[],.bool true]) w:=λ_=>by kernel_rfl
   have G:=(zr B.heap.size B).alloc (zn _) (.cells #[] 210);have C:=zh (h.on G);clear hu H h G;go_upto_region 7 with fail;clear L;generalize B.alloc (.cells #[] 210)=W at *
   obtain ⟨F,D,M⟩:=C.o;have N:W.cell? ⟨w.heap.size+1,0,none⟩=some (vI t):=by rw [zH F];rfl
   have R:W.cell? ⟨w.heap.size+2,0,none⟩=some (vI e):=by rw [zH D];rfl
   have O:W.frozen? ⟨w.heap.size+1,0,none⟩=false:=by simp [World.frozen?,F]
   have U:W.frozen? ⟨w.heap.size+2,0,none⟩=false:=by simp [World.frozen?,D]
   have J:=zh (C.o.set 0 20);clear F D M C;go_wp2_with fail;exact J.o
 . rintro I w' ⟨T,S⟩;cases c₀;simp_all [bodyPostS,results,results164]
theorem Z9r (p q:Addr)(w:World) : CallsD prog 164 #[.pointer (some p),.pointer (some q)] .returning w λe u' w'=>e=.returned (.tuple #[])/\u'=.returning/\w'=w:=by
 refine callsD_of_wpS func164 rfl λc₀ cs hu=>?_;apply wpS_seq;apply wpS_region;simp [wpOpsS,go_sem,recoverD,hu,ntmps164,Exit.thenS];refine Z5q (λB w'=>B.defers=[]/\w'=w) ?_ ?_
 . have C:∀ V:Value,(#[Value.pointer (some p),Value.pointer (some q)]++(Array.replicate 9 undef).setIfInBounds 3 V)=#[Value.pointer (some p),Value.pointer (some q),undef,undef,undef,V,undef,undef,undef,undef,undef]:=λ_=>by kernel_rfl
   rw [C];clear C hu;go_wp2_with fail
 . rintro B w' ⟨D,rfl⟩;cases c₀;simp_all [bodyPostS,results,results164]
theorem Zqi (w:World)(cs:Array Value)(t:TypeId):InfB w 0 0 (((w.alloc (.cells cs t)).alloc (.cells #[vI 0] 3)).alloc (.cells #[vI 0] 37)):=by
 refine ⟨?_,?_,(((zr _ _).alloc (zn _) _).alloc (by simp) _).alloc (by simp;omega) _⟩
 . rw [Below.heap_alloc _ _ _ (by simp)];have:=za (w.alloc (.cells cs t)) (.cells #[vI 0] 3);simpa using this
 . have:=za ((w.alloc (.cells cs t)).alloc (.cells #[vI 0] 3)) (.cells #[vI 0] 37);simpa using this
def Z3C (a:Int × Int)(l:Fo):Int × Int:=if Z0f a.1 a.2 l then (typE a l,if typE a l=0 then 20 else 0) else (0,1)
def InferP (a:Int × Int)(l:Fo)(w:World)(e:Ending)(w':World):Prop:=e=.returned (.tuple #[vI (Z3C a l).1,vI (Z3C a l).2])/\Below w.heap.size w w'
theorem Zdj (op n:Int)(l:Fo)(v:Value)(w:World)(hv:FoV w w.heap.size v l):Calls prog 119 #[.agg #[vI op,vI n,v]] w (InferP (op,n) l w):=by
 obtain ⟨A,c,rfl,hA⟩:=hv;have bf:∀ (fn:Fn) (first cap:Array Value) (w:World),(Instr.makeFunc fn first cap).run prog w=.ok (.func fn first cap) w:=λ_ _ _ _=>rfl;have y:=Zqi w #[vI op,vI n,slice A (flen l) c] 79;have hx:((((w.alloc (.cells #[vI op,vI n,slice A (flen l) c] 79)).alloc (.cells #[vI 0] 3)).alloc (.cells #[vI 0] 37))).heap[w.heap.size]?=some (.cells #[vI op,vI n,slice A (flen l) c] 79 (0,0)):=by rw [Below.heap_alloc _ _ _ (by simp;omega),Below.heap_alloc _ _ _ (by simp)];exact za w _
 have hF:FoAt (((w.alloc (.cells #[vI op,vI n,slice A (flen l) c] 79)).alloc (.cells #[vI 0] 3)).alloc (.cells #[vI 0] 37)) w.heap.size l A 0:=FoAt.keep (λp hp=>y.2.2.cell hp) l A 0 hA;obtain ⟨HI,HX,HF⟩:=zh3 y hx hF;clear y hx hF hA;go_enter_defers func119,ntmps119;go_wp2_with fail;generalize ((w.alloc (.cells #[vI op,vI n,slice A (flen l) c] 79)).alloc (.cells #[vI 0] 3)).alloc (.cells #[vI 0] 37)=W at *
 have bg:=HI.o.2.2.size;refine (Z3q op n l (slice A (flen l) c) W ⟨A,c,rfl,FoAt.up bg l A 0 HF.o⟩).mono ?_;rintro e B ⟨rfl,Y⟩;have bc:=HI.o.on Y;have bb:=(Y.block _ (zF2.1 HX.o).1).trans HX.o;have bd:=FoAt.keep (λp hp=>Y.cell (by omega)) l A 0 HF.o;have bj:=Y.size;clear Y;obtain ⟨U,V,F2⟩:=zh3 bc bb bd;clear bc bb bd HI HX HF;cases hvb:Z0f op n l with
 | false =>
  have M:Z3C (op,n) l=(0,1):=by simp [Z3C,hvb]
  obtain ⟨D,F,G⟩:=U.o;have a0:B.cell? ⟨w.heap.size+1,0,none⟩=some (vI 0):=by rw [zH D];rfl
  have a1:B.cell? ⟨w.heap.size+2,0,none⟩=some (vI 0):=by rw [zH F];rfl
  have a2:B.frozen? ⟨w.heap.size+1,0,none⟩=false:=by simp [World.frozen?,D]
  have a3:B.frozen? ⟨w.heap.size+2,0,none⟩=false:=by simp [World.frozen?,F]
  have L:=zh M;have HS:=zh (U.o.set 0 1);clear M D F G U hvb bf;go_wp2_with fail;obtain ⟨D,F,G⟩:=HS.o;have I:=Z0u D;have J:=Z0u F;refine ⟨.tuple #[vI 0,vI 1],by simp [results,results119,go_sem,I,J],?_,G⟩;rw [L.o]
 | true =>
  obtain ⟨hf,hw⟩:=Z4q hvb;have M:Z3C (op,n) l=(typE (op,n) l,if typE (op,n) l=0 then 20 else 0):=by simp [Z3C,hvb]
  have x0:B.cell? ⟨w.heap.size,0,none⟩=some (vI op):=by rw [zH V.o];rfl
  have x1:B.cell? ⟨w.heap.size,1,none⟩=some (vI n):=by rw [zH V.o];rfl
  have x2:B.cell? ⟨w.heap.size,2,none⟩=some (slice A (flen l) c):=by rw [zH V.o];rfl
  obtain ⟨L,be,HW,bh⟩:=zh4 M hf hw hvb;clear M hf hw hvb;go_wp2_with fail;clear bf;have Z:=λW r=>of_any (op,n) l W (slice A (flen l) c) w.heap.size r;refine wp_region_any (by kernel_rfl) ?_
  try (change wpAny _ _ _ _ _ _ _ (World.drew _))
  have d:B.drew.cell? ⟨w.heap.size,0,none⟩=some (vI op):=x0;have j:B.drew.cell? ⟨w.heap.size,1,none⟩=some (vI n):=x1;have m:B.drew.cell? ⟨w.heap.size,2,none⟩=some (slice A (flen l) c):=x2;have B3:Below B.heap.size B B.drew:=(zr _ _).drew;have T:w.heap.size<B.drew.heap.size:=(zF2.1 V.o).1;have g:=zh (U.o.on B3);have q:=zh (FoAt.keep (λp hp=>B3.cell (by omega)) l A 0 F2.o);clear x0 x1 x2 U V F2 B3;generalize B.drew=w3 at *
  refine wpAny_ready (rs:=[0,1]) (by kernel_rfl) (by simp) ?_;refine zF rfl (λK hK=>?_) ?_
  . go_simp;refine hK _ _ ?_;clear hK K;refine wpAny_ready (rs:=[1]) (by kernel_rfl) (by simp) ?_;refine zF rfl (λK hK=>?_) AllReady.nil;go_simp;refine (Zgz w3).mono ?_;rintro e w4 ⟨r,rfl,X,M,C⟩;have x4:=(C.cell (p:=⟨w.heap.size,0,none⟩) T).trans d;have y4:=(C.cell (p:=⟨w.heap.size,1,none⟩) T).trans j;have z4:=(C.cell (p:=⟨w.heap.size,2,none⟩) T).trans m;have s4:=C.size;have HO:=zh X;have I4:=zh (g.o.on C);have F4:=zh (FoAt.keep (λp hp=>C.cell (by omega)) l A 0 q.o);clear X d j m g q C;refine hK _ _ ?_;clear hK K;refine wpAny_ready (rs:=[2]) (by kernel_rfl) (by simp) ?_;refine zF rfl (λK hK=>?_) AllReady.nil;go_simp;refine (Z w4 r ⟨A,c,rfl,F4.o⟩ (by omega) HO.o be.o HW.o).mono ?_;intro e w5 H;have O:=I4.o.on H.1;by_cases h0:typE (op,n) l=0
    . rw [h0] at H;obtain ⟨ba,rfl⟩:=H.no;have S:Z3C (op,n) l=(0,20):=by rw [L.o,h0];rfl
      refine leaves_cons (f:=164) (args:=#[.pointer (some ⟨w.heap.size+1,0,none⟩),.pointer (some ⟨w.heap.size+1+1,0,none⟩)]) (by simp) (by simp [go_sem]) ?_;refine (Z4t w w5 0 0 O).mono ?_;rintro en u' w6 ⟨rfl,rfl,D,F,G⟩;have I:=Z0u D;have J:=Z0u F;refine ⟨.tuple #[vI 0,vI 20],by simp [results,results119,go_sem,I,J],?_,G⟩;rw [S]
    . obtain ⟨ba,rfl⟩:=H.yes h0;have S:Z3C (op,n) l=(typE (op,n) l,0):=by rw [L.o,zf h0]
      generalize typE (op,n) l=t at *
      have i6:=O.set t 0;obtain ⟨R,N,jb⟩:=O;have a0:=Z0u R;have a1:=Z0u N;have a2:w5.frozen? ⟨w.heap.size+1,0,none⟩=false:=by simp [World.frozen?,R]
      have a3:w5.frozen? ⟨w.heap.size+2,0,none⟩=false:=by simp [World.frozen?,N]
      clear R N jb H h0 L Z;refine hK _ _ ?_;clear hK K;refine wpAny_ready (rs:=[3]) (by kernel_rfl) (by simp) ?_;refine zF rfl (λK hK=>?_) AllReady.nil;go_simp;refine hK _ _ ?_;clear hK K;refine wpAny_ready (rs:=[4]) (by kernel_rfl) (by simp) ?_;refine zF rfl (λK hK=>?_) AllReady.nil;go_simp;refine hK _ _ ?_;clear hK K;refine wpAny_done (by kernel_rfl) ?_ _;go_wp2_with fail;refine leaves_cons (f:=164) (args:=#[.pointer (some ⟨w.heap.size+1,0,none⟩),.pointer (some ⟨w.heap.size+1+1,0,none⟩)]) (by simp) (by simp [go_sem]) ?_;refine (Z9r _ _ _).mono ?_;rintro en u' w6 ⟨rfl,rfl,rfl⟩;obtain ⟨D,F,G⟩:=i6;have I:=Z0u D;have J:=Z0u F;refine ⟨.tuple #[vI t,vI 0],by simp [results,results119,go_sem,I,J],?_,G⟩;rw [S]
  . refine zF rfl (λK hK=>?_) AllReady.nil;go_simp;refine (Zgz w3).mono ?_;rintro e w4 ⟨r,rfl,X,M,C⟩;have x4:=(C.cell (p:=⟨w.heap.size,0,none⟩) T).trans d;have y4:=(C.cell (p:=⟨w.heap.size,1,none⟩) T).trans j;have z4:=(C.cell (p:=⟨w.heap.size,2,none⟩) T).trans m;have s4:=C.size;have HO:=zh X;have I4:=zh (g.o.on C);have F4:=zh (FoAt.keep (λp hp=>C.cell (by omega)) l A 0 q.o);clear X d j m g q C;refine hK _ _ ?_;clear hK K;refine wpAny_ready (rs:=[0]) (by kernel_rfl) (by simp) ?_;refine zF rfl (λK hK=>?_) AllReady.nil;go_simp;refine hK _ _ ?_;clear hK K;refine wpAny_ready (rs:=[2]) (by kernel_rfl) (by simp) ?_;refine zF rfl (λK hK=>?_) AllReady.nil;go_simp;refine (Z w4 r ⟨A,c,rfl,F4.o⟩ (by omega) HO.o be.o HW.o).mono ?_;intro e w5 H;have O:=I4.o.on H.1;by_cases h0:typE (op,n) l=0
    . rw [h0] at H;obtain ⟨ba,rfl⟩:=H.no;have S:Z3C (op,n) l=(0,20):=by rw [L.o,h0];rfl
      refine leaves_cons (f:=164) (args:=#[.pointer (some ⟨w.heap.size+1,0,none⟩),.pointer (some ⟨w.heap.size+1+1,0,none⟩)]) (by simp) (by simp [go_sem]) ?_;refine (Z4t w w5 0 0 O).mono ?_;rintro en u' w6 ⟨rfl,rfl,D,F,G⟩;have I:=Z0u D;have J:=Z0u F;refine ⟨.tuple #[vI 0,vI 20],by simp [results,results119,go_sem,I,J],?_,G⟩;rw [S]
    . obtain ⟨ba,rfl⟩:=H.yes h0;have S:Z3C (op,n) l=(typE (op,n) l,0):=by rw [L.o,zf h0]
      generalize typE (op,n) l=t at *
      have i6:=O.set t 0;obtain ⟨R,N,jb⟩:=O;have a0:=Z0u R;have a1:=Z0u N;have a2:w5.frozen? ⟨w.heap.size+1,0,none⟩=false:=by simp [World.frozen?,R]
      have a3:w5.frozen? ⟨w.heap.size+2,0,none⟩=false:=by simp [World.frozen?,N]
      clear R N jb H h0 L Z;refine hK _ _ ?_;clear hK K;refine wpAny_ready (rs:=[3]) (by kernel_rfl) (by simp) ?_;refine zF rfl (λK hK=>?_) AllReady.nil;go_simp;refine hK _ _ ?_;clear hK K;refine wpAny_ready (rs:=[4]) (by kernel_rfl) (by simp) ?_;refine zF rfl (λK hK=>?_) AllReady.nil;go_simp;refine hK _ _ ?_;clear hK K;refine wpAny_done (by kernel_rfl) ?_ _;go_wp2_with fail;refine leaves_cons (f:=164) (args:=#[.pointer (some ⟨w.heap.size+1,0,none⟩),.pointer (some ⟨w.heap.size+1+1,0,none⟩)]) (by simp) (by simp [go_sem]) ?_;refine (Z9r _ _ _).mono ?_;rintro en u' w6 ⟨rfl,rfl,rfl⟩;obtain ⟨D,F,G⟩:=i6;have I:=Z0u D;have J:=Z0u F;refine ⟨.tuple #[vI t,vI 0],by simp [results,results119,go_sem,I,J],?_,G⟩;rw [S]
end
