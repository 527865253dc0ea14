import Derived.Recover
import Derived.Test.YtnepkoepbapgeaaGreatDoorLexT2
import Derived.Test.YtnepkoepbapgeaaGreatDoorParW11
import Derived.Deep.AppendLies
namespace Go.Proofs.YtnepkoepbapgeaaGreatDoor
open _root_.Go.Proofs.Tryz
open Value (int slice)
open IntKind (i64)
set_option maxHeartbeats 4000000
set_option maxRecDepth 100000
section
open Go.RowKit Lx Px
def Set2 (be bl:Nat)(er ln:Int)(w w':World):Prop := w'.heap[be]?=some (.cells #[int i64 er] 35 (0,0))/\w'.heap[bl]?=some (.cells #[int i64 ln] 3 (0,0))/\(∀ k,k<w.heap.size->k≠be->k≠bl->w'.heap[k]?=w.heap[k]?)/\w.heap.size<=w'.heap.size/\w'.os=w.os/\w'.tape=w.tape/\w'.output=w.output
theorem Zcs {P:Program}{c:Code}{Q:Exit->Act->List Frame->World->Prop}{a:Act}{cs:List Frame}{w:World}(R:Act->World->Prop)(h:c.wp P (λe a' w'=>e=.normal/\R a' w') a w)(C:∀ a' w',R a' w'->Q .normal a' cs w'):c.wpS P Q a cs w :=
 wpS_of_wp (Code.wp_mono (λe a' w' h=>by obtain ⟨he,B⟩:=h;subst he;exact C a' w' B) h)
theorem Zk9 {w:World}{b:Nat}{x:Value}{B:TypeId}(h:w.heap[b]?=some (.cells #[x] B (0,0)))(y:Value):(w.setCell ⟨b,0,none⟩ y).heap[b]?=some (.cells #[y] B (0,0)):=by
 simp [World.setCell,zM,h]
theorem Z7B (B bl:Nat)(x y er C:Int)(R:List PanicEntry)(w:World)(O:B≠bl)(he:w.heap[B]?=some (.cells #[int i64 x] 35 (0,0)))(F:w.heap[bl]?=some (.cells #[int i64 y] 3 (0,0))) : CallsD prog 119 #[.pointer (some ⟨B,0,none⟩),.pointer (some ⟨bl,0,none⟩)] (.panicking ({ v:=.iface 177 (.agg #[int i64 er,int i64 C]),recovered:=false }::R)) w λe u' w' =>
  e=.returned (.tuple #[])/\u'=.panicking ({ v:=.iface 177 (.agg #[int i64 er,int i64 C]),recovered:=true }::R)/\Set2 B bl er C w w':=by
 refine callsD_of_wpS func119 rfl λc₀ cs hu=>?_;apply wpS_seq;apply wpS_region;simp [wpOpsS,go_sem,recoverD,hu,ntmps119,Exit.thenS];refine Zcs (λL w'=>L.defers=[]/\Set2 B bl er C w w') ?_ ?_
 · have T:∀ V:Value,(#[Value.pointer (some ⟨B,0,none⟩),Value.pointer (some ⟨bl,0,none⟩)]++(Array.replicate 19 undef).setIfInBounds 5 V)=#[Value.pointer (some ⟨B,0,none⟩),Value.pointer (some ⟨bl,0,none⟩),undef,undef,undef,undef,undef,V,undef,undef,undef,undef,undef,undef,undef,undef,undef,undef,undef,undef,undef]:=λ_=>by kernel_rfl
   rw [T];have U:∀ w:World,(Instr.typeAssert (.iface 177 (.agg #[int i64 er,int i64 C])) 20 177 true).run prog w=.ok (.tuple #[.agg #[int i64 er,int i64 C],.bool true]) w:=λ_=>by kernel_rfl
   have S:(w.alloc (.cells #[int i64 er,int i64 C] 177)).heap[B]?=some (.cells #[int i64 x] 35 (0,0)):=(Below.heap_alloc _ _ _ (zs he)).trans he;have J:(w.alloc (.cells #[int i64 er,int i64 C] 177)).heap[bl]?=some (.cells #[int i64 y] 3 (0,0)):=(Below.heap_alloc _ _ _ (zs F)).trans F;have M:=za w (.cells #[int i64 er,int i64 C] 177);have N:Below w.heap.size w (w.alloc (.cells #[int i64 er,int i64 C] 177)):=(zr _ _).alloc (zn _) _;have f:B<w.heap.size:=(zs he)
   have hbl:bl<w.heap.size:=(zs F)
   have H:=zh S;have G:=zh J;have I:=zh M;have D:=zh N;clear he F S J M N hu T;go_upto_region 7 with fail;clear U;generalize w.alloc (.cells #[int i64 er,int i64 C] 177)=W at *
   have A:W.cell? ⟨B,0,none⟩=some (int i64 x):=by rw [zc H.out];rfl
   have j:W.cell? ⟨bl,0,none⟩=some (int i64 y):=by rw [zc G.out];rfl
   have r:W.cell? ⟨w.heap.size,0,none⟩=some (int i64 er):=by rw [zc I.out];rfl
   have a3:W.cell? ⟨w.heap.size,1,none⟩=some (int i64 C):=by rw [zc I.out];rfl
   have m:W.frozen? ⟨B,0,none⟩=false:=by simp [World.frozen?,H.out]
   have Z:W.frozen? ⟨bl,0,none⟩=false:=by simp [World.frozen?,G.out]
   have d:B≠w.heap.size:=by omega
   have q:bl≠w.heap.size:=by omega
   go_region;refine ⟨rfl,rfl,?_,?_,?_,?_,D.out.os,D.out.tape,D.out.output⟩
   · show ((W.setCell ⟨B,0,none⟩ (int i64 er)).setCell ⟨bl,0,none⟩ (int i64 C)).heap[B]?=_;rw [zg _ _ _ _ O];exact Zk9 H.out _
   · show ((W.setCell ⟨B,0,none⟩ (int i64 er)).setCell ⟨bl,0,none⟩ (int i64 C)).heap[bl]?=_;refine Zk9 (x:=int i64 y) ?_ _;rw [zg _ _ _ _ (Ne.symm O)];exact G.out
   · intro k hk X Y;show ((W.setCell ⟨B,0,none⟩ (int i64 er)).setCell ⟨bl,0,none⟩ (int i64 C)).heap[k]?=_;rw [zg _ _ _ _ Y,zg _ _ _ _ X];exact D.out.block k hk
   · show w.heap.size<=((W.setCell ⟨B,0,none⟩ (int i64 er)).setCell ⟨bl,0,none⟩ (int i64 C)).heap.size;have:=D.out.size;simp only [World.setCell,Array.size_modify];exact this
 · rintro L w' ⟨l,g⟩;cases c₀;simp_all [bodyPostS,results,results119]
theorem Ze4 (B bl:Nat)(w:World) : CallsD prog 119 #[.pointer (some ⟨B,0,none⟩),.pointer (some ⟨bl,0,none⟩)] .returning w λe u' w'=>e=.returned (.tuple #[])/\u'=.returning/\w'=w:=by
 refine callsD_of_wpS func119 rfl λc₀ cs hu=>?_;apply wpS_seq;apply wpS_region;simp [wpOpsS,go_sem,recoverD,hu,ntmps119,Exit.thenS];refine Zcs (λD w'=>D.defers=[]/\w'=w) ?_ ?_
 · have C:∀ V:Value,(#[Value.pointer (some ⟨B,0,none⟩),Value.pointer (some ⟨bl,0,none⟩)]++(Array.replicate 19 undef).setIfInBounds 5 V)=#[Value.pointer (some ⟨B,0,none⟩),Value.pointer (some ⟨bl,0,none⟩),undef,undef,undef,undef,undef,V,undef,undef,undef,undef,undef,undef,undef,undef,undef,undef,undef,undef,undef]:=λ_=>by kernel_rfl
   rw [C];clear C hu;go_wp2_with fail
 · rintro D w' ⟨F,rfl⟩;cases c₀;simp_all [bodyPostS,results,results119]
end
section
open Go.RowKit Lx Px
def Wh (w:World)(wx:World):Prop := wx.heap[w.heap.size]?=some (.cells #[int i64 0,int i64 0,slice none 0 0] 63 (0,0))/\wx.heap[w.heap.size+1]?=some (.cells #[int i64 0] 35 (0,0))/\wx.heap[w.heap.size+2]?=some (.cells #[int i64 0] 3 (0,0))/\Below w.heap.size w wx
theorem Wh.but {w B D:World}(h:Wh w B)(hb:But (w.heap.size+3) B D):Wh w D:=by
 obtain ⟨F,G,C,H⟩:=h;have l3:w.heap.size+2<B.heap.size:=(zs C)
 exact ⟨(hb.block _ (by omega) (by omega)).trans F,(hb.block _ (by omega) (by omega)).trans G,(hb.block _ (by omega) (by omega)).trans C, H.trans ⟨hb.os,hb.tape,hb.output,hb.size,λk hk=>hb.block k (by omega) (by omega)⟩⟩
theorem Ze5 (s:ByteArray)(w:World):Calls prog 82 #[.string s] w (Zae w (toks (bl s))):=by
 by_cases hs:s.size<=1000000000
 · exact Zgc s w hs
 · have B:20000<s.size:=by omega
   rw [Zet s B];go_enter func82,ntmps82;go_wp2_with fail;refine bodyPost_ret (v:=.tuple #[slice none 0 0,int i64 2,int i64 0]) (by simp [results,results82,go_sem]) rfl ?_;exact ⟨_,rfl,Sl.nil _ _,(((Zb9 w).alloc (zn _) _).alloc (by simp) _).alloc (by simp;omega) _⟩
theorem Znr:∀ (B:List (Int × Bytes)) (acc:List Tok),Knd acc->acc.length<=5000->Knd (coll acc B).1/\(coll acc B).1.length<=5000:=by
 intro B;induction B with
 | nil=>intro acc h D;exact ⟨h,D⟩
 | cons p B ih =>
  intro acc h D;obtain ⟨H,t⟩:=p;simp only [coll];split
  · exact ⟨λt ht=>by simp at ht,by simp⟩
  · split
    · exact ⟨λt ht=>by simp at ht,by simp⟩
    · rename_i F G;refine ih _ ?_ (by simp;omega);intro u C;rw [zC,List.mem_singleton] at C;rcases C with C | rfl
      · exact h u C
      · exact ⟨rfl,F⟩
theorem Zns (s:Bytes):Knd (toks s).1/\(toks s).1.length<=5000:=by
 unfold toks;split
 · exact ⟨λt ht=>by simp at ht,by simp⟩
 · exact Znr _ [] (λt ht=>by simp at ht) (by simp)
end
section
open Go.RowKit Lx Px
end
section
open Go.RowKit Lx Px
inductive AllR where
 | ok (l:List Rr)
 | err (e ln:Int)
def Z27 (ex:Nat->Out)(ts:List Tok):Nat->Nat->List Rr->AllR
 | 0,_,acc=>.ok acc
 | f+1,k,acc =>
  if k<ts.length then
   (if acc.length=100/\nxt ts k=Z6H then .err 2 (lnAt ts k)
   else match Z4v ex ts k with
    | .ok r k'=>Z27 ex ts f k' (acc++[r])
    | .no j=>.err 8 (Z3E ts j)
    | .bad=>.err 1 (lnAt ts k))
  else .ok acc
def ZaG (ts:List Tok)(ex:Nat->Out):Prop:=∀ k,k<=ts.length->Rd 0 none (txt ts k) ((ex k).res ts)/\okK ts k (ex k)
theorem Z1s {s:Bytes}{ts:List Tok}{k B:Nat}{n:Int}(h:Z0j s ts k=.ok (n,B)):k<B/\B<=ts.length/\nxt ts k=s:=by
 unfold Z0j at h;split at h
 · split at h
   · rename_i D C;injection h with h
     injection h with h3 h4
     have:k+1<ts.length:=by
      by_cases hk:k+1<ts.length
      · exact hk
      · exfalso;rw [Z5A ts _ hk] at C;revert C;decide
     exact ⟨by omega,by omega,D⟩
   · cases h
 · cases h
theorem Z38 {x:Except Nat (Int × Nat)}{f:Int->Nat->ROut}{r:Rr}{B:Nat}(h:Z6G x f=.ok r B):∃ n k,x=.ok (n,k)/\f n k=.ok r B:=by
 unfold Z6G at h;split at h
 · cases h
 · exact ⟨_,_,rfl,h⟩
theorem Z87 {s:Bytes}{ts:List Tok}{k:Nat}{f:Nat->ROut}{r:Rr}{B:Nat}(h:Z4s s ts k f=.ok r B):nxt ts k=s/\f (k+1)=.ok r B:=by
 unfold Z4s at h;split at h
 · exact ⟨‹_›,h⟩
 · cases h
theorem Zfn {o:Out}{f:Ex->Nat->ROut}{r:Rr}{B:Nat}(h:Zgi o f=.ok r B):∃ e k,o=.ok e k/\f e k=.ok r B:=by
 unfold Zgi at h;split at h
 · cases h
 · exact ⟨_,_,rfl,h⟩
theorem Ze6 {ts:List Tok}{k:Nat}{s:Bytes}(h:nxt ts k=s)(B:s≠[]):k<ts.length:=by
 by_cases hk:k<ts.length
 · exact hk
 · rw [Z5A ts k hk] at h;exact absurd h.symm B
structure ZpA (ex:Nat->Out) (ts:List Tok) (k:Nat) (r:Rr) (k':Nat):Prop where
 steps:∃ k1 k2 k3 k4 k5 k6 k7 k8 k9 k10 k11,Z0j Z6H ts k=.ok (r.id,k1)/\Z0j Zbr ts k1=.ok (r.lv,k2)/\Z0j Zip ts k2=.ok (r.kd,k3)/\Z0j Z70 ts k3=.ok (r.fr,k4)/\Z0j kTo ts k4=.ok (r.un,k5) /\ Z0j Ziq ts k5=.ok (r.ls,k6)/\Z0j kTo ts k6=.ok (r.mo,k7)/\Z0j Z8m ts k7=.ok (r.ar,k8)/\Z0j Zir ts k8=.ok (r.kp,k9)/\nxt ts k9=[37]/\nxt ts (k9+1)=Zgj/\ex (k9+1+1)=.ok r.wh k10/\nxt ts k10=Z9k /\ ex (k10+1)=.ok r.pr k11/\nxt ts k11=[59]/\k'=k11+1
 val:Z0i r.wh.1.1 r.wh.1.2 r.wh.2=true/\Z0i r.pr.1.1 r.pr.1.2 r.pr.2=true
theorem Znt {ex:Nat->Out}{ts:List Tok}{k:Nat}{r:Rr}{B:Nat}(h:Z4v ex ts k=.ok r B):ZpA ex ts k r B:=by
 unfold Z4v at h;obtain ⟨id,R,Z,h⟩:=Z38 h;obtain ⟨lv,G,g,h⟩:=Z38 h;obtain ⟨kd,q,S,h⟩:=Z38 h;obtain ⟨fr,L,I,h⟩:=Z38 h;obtain ⟨un,T,M,h⟩:=Z38 h;obtain ⟨A,D,j,h⟩:=Z38 h;obtain ⟨mo,d,m,h⟩:=Z38 h;obtain ⟨ar,N,J,h⟩:=Z38 h;obtain ⟨kp,U,f,h⟩:=Z38 h;obtain ⟨y,h⟩:=Z87 h;obtain ⟨l,h⟩:=Z87 h;obtain ⟨wh,H,X,h⟩:=Zfn h;obtain ⟨V,h⟩:=Z87 h;obtain ⟨pr,F,O,h⟩:=Zfn h;obtain ⟨Y,h⟩:=Z87 h;split at h
 · rename_i C;injection h with h16 h17
   subst h16;simp only [zd] at C;exact ⟨⟨R,G,q,L,T,D,d,N,U,H,F,Z,g,S,I,M,j,m,J,f,y,l,X,V,O,Y,h17.symm⟩,C⟩
 · cases h
theorem Z6p {ex:Nat->Out}{ts:List Tok}(I:ZaG ts ex){k:Nat}{r:Rr}{C:Nat}(h:Z4v ex ts k=.ok r C):k<C/\C<=ts.length/\nxt ts k=Z6H:=by
 obtain ⟨k1,q,k3,A,k5,l,k7,k8,G,B,D,V,Y,R,J,M,Z,f,L,X,bc,d,T,S,N,U,j⟩:=(Znt h).steps;have O:=Z1s V;have g2:=Z1s Y;have g3:=Z1s R;have g4:=Z1s J;have g:=Z1s M;have y:=Z1s Z;have g7:=Z1s f;have m:=Z1s L;have g9:=Z1s X;have g11:=Ze6 d (by decide);have F:=(I (G+1+1) (by omega)).2;rw [T] at F;have bd:G+1+1<B/\B<=ts.length:=F;have bb:=Ze6 S (by decide);have H:=(I (B+1) (by omega)).2;rw [N] at H;have be:B+1<D/\D<=ts.length:=H;have ba:=Ze6 U (by decide);exact ⟨by omega,by omega,O.2.2⟩
theorem Ze7 {ex:Nat->Out}{ts:List Tok}(D:ZaG ts ex):∀ (f k:Nat) (acc:List Rr),ts.length - k<=f->Z27 ex ts f k acc=Z27 ex ts (ts.length - k) k acc:=by
 intro f;induction f using Nat.strongRecOn with
 | ind f ih =>
  intro k acc H;cases f with
  | zero=>rw [show ts.length - k=0 by omega]
  | succ f =>
   by_cases hk:k<ts.length
   · obtain ⟨d,C⟩:∃ d,ts.length - k=d+1:=⟨ts.length - k - 1,by omega⟩
     rw [C];simp only [Z27,zp hk];split
     · rfl
     · split
       · rename_i r B F;have G:=Z6p D F;rw [ih f (by omega) B _ (by omega),ih d (by omega) B _ (by omega)]
       · rfl
       · rfl
   · rw [show ts.length - k=0 by omega];simp only [Z27,zf hk]
def allO (ex:Nat->Out)(ts:List Tok):AllR:=Z27 ex ts ts.length 0 []
theorem Z5H {ex:Nat->Out}{ts:List Tok}(C:ZaG ts ex){k:Nat}{acc:List Rr}(hk:k<ts.length)(G:¬ (acc.length=100/\nxt ts k=Z6H)){r:Rr}{B:Nat}(D:Z4v ex ts k=.ok r B) : Z27 ex ts (ts.length - k) k acc=Z27 ex ts (ts.length - B) B (acc++[r]):=by
 obtain ⟨d,F⟩:∃ d,ts.length - k=d+1:=⟨ts.length - k - 1,by omega⟩
 have H:=Z6p C D;rw [F];simp only [Z27,zp hk,zf G,D];exact Ze7 C d B _ (by omega)
theorem Zhd {ex:Nat->Out}{ts:List Tok}{k:Nat}{acc:List Rr}(hk:¬ k<ts.length):Z27 ex ts (ts.length - k) k acc=.ok acc:=by
 rw [show ts.length - k=0 by omega];rfl
theorem Zct {ex:Nat->Out}{ts:List Tok}{k:Nat}{acc:List Rr}(hk:k<ts.length)(C:acc.length=100/\nxt ts k=Z6H):Z27 ex ts (ts.length - k) k acc=.err 2 (lnAt ts k):=by
 obtain ⟨d,B⟩:∃ d,ts.length - k=d+1:=⟨ts.length - k - 1,by omega⟩
 rw [B];simp only [Z27,zp hk,zp C]
theorem Zcu {ex:Nat->Out}{ts:List Tok}{k j:Nat}{acc:List Rr}(hk:k<ts.length)(D:¬ (acc.length=100/\nxt ts k=Z6H))(B:Z4v ex ts k=.no j):Z27 ex ts (ts.length - k) k acc=.err 8 (Z3E ts j):=by
 obtain ⟨d,C⟩:∃ d,ts.length - k=d+1:=⟨ts.length - k - 1,by omega⟩
 rw [C];simp only [Z27,zp hk,zf D,B]
theorem Za3 {ex:Nat->Out}{ts:List Tok}{k:Nat}{acc:List Rr}(hk:k<ts.length)(D:¬ (acc.length=100/\nxt ts k=Z6H))(B:Z4v ex ts k=.bad):Z27 ex ts (ts.length - k) k acc=.err 1 (lnAt ts k):=by
 obtain ⟨d,C⟩:∃ d,ts.length - k=d+1:=⟨ts.length - k - 1,by omega⟩
 rw [C];simp only [Z27,zp hk,zf D,B]
end
section
open Go.RowKit Lx Px
theorem Zfp (pb:Nat)(v:Value)(ts:List Tok):∃ ex:Nat->Out,ZaG ts ex/\(∀ k,¬ k<=ts.length->ex k=.no 0)/\∀ k,k<=ts.length->okK ts k (ex k)/\∀ w,PI w pb v ts k->Calls prog 163 #[.pointer (some ⟨pb,0,none⟩)] w (RP pb v ts (ex k) w):=by
 have h:∀ k,∃ o:Out,(k<=ts.length->Rd 0 none (txt ts k) (o.res ts)/\okK ts k o/\∀ w,PI w pb v ts k->Calls prog 163 #[.pointer (some ⟨pb,0,none⟩)] w (RP pb v ts o w))/\(¬ k<=ts.length->o=.no 0):=by
  intro k;by_cases hk:k<=ts.length
  · obtain ⟨o,F,D,C⟩:=Zmq pb v ts k hk;exact ⟨o,λ_=>⟨F,D,C⟩,λh=>absurd hk h⟩
  · exact ⟨.no 0,λh=>absurd h hk,λ_=>rfl⟩
 obtain ⟨ex,B⟩:=Classical.axiomOfChoice h;exact ⟨ex,λk hk=>⟨((B k).1 hk).1,((B k).1 hk).2.1⟩,λk hk=>(B k).2 hk,λk hk=>⟨((B k).1 hk).2.1,((B k).1 hk).2.2⟩⟩
theorem Zka {ts:List Tok}{ex C:Nat->Out}(h:ZaG ts ex)(D:ZaG ts C)(G:∀ k,¬ k<=ts.length->ex k=.no 0)(F:∀ k,¬ k<=ts.length->C k=.no 0):ex=C:=by
 funext k;by_cases hk:k<=ts.length
 · have B:=ZbF (h k hk).1 (D k hk).1;cases hx:C k with
   | ok e j =>rw [hx] at B;have:=D k hk;rw [hx] at this;exact Ziu B this.2.2 (h k hk).2
   | no j =>rw [hx] at B;have:=D k hk;rw [hx] at this;exact Ziv B this.2.2 (h k hk).2
 · rw [G k hk,F k hk]
theorem Zkb (ts:List Tok):∃ ex:Nat->Out,ZaG ts ex/\∀ k,¬ k<=ts.length->ex k=.no 0:=by
 obtain ⟨ex,C,B,_⟩:=Zfp 0 (slice none 0 0) ts;exact ⟨ex,C,B⟩
noncomputable def exOf (ts:List Tok):Nat->Out:=Classical.choose (Zkb ts)
theorem Z5g (ts:List Tok):ZaG ts (exOf ts):=(Classical.choose_spec (Zkb ts)).1
theorem Znu (ts:List Tok):∀ k,¬ k<=ts.length->exOf ts k=.no 0:=(Classical.choose_spec (Zkb ts)).2
theorem Zrc {ts:List Tok}{ex:Nat->Out}(h:ZaG ts ex)(B:∀ k,¬ k<=ts.length->ex k=.no 0):exOf ts=ex:=Zka (Z5g ts) h (Znu ts) B
theorem Znv (pb:Nat)(v:Value)(ts:List Tok):∀ k,k<=ts.length->okK ts k (exOf ts k)/\∀ w,PI w pb v ts k->Calls prog 163 #[.pointer (some ⟨pb,0,none⟩)] w (RP pb v ts (exOf ts k) w):=by
 obtain ⟨ex,D,C,B⟩:=Zfp pb v ts;rw [Zrc D C];exact B
end
section
open Go.RowKit Lx Px
noncomputable def srcO (s:Bytes):AllR:=if (toks s).2.1=0 then allO (exOf (toks s).1) (toks s).1 else .err (toks s).2.1 (toks s).2.2
theorem Znw {s:Bytes}{ts:List Tok}{er B:Int}(h:toks s=(ts,er,B))(he:er≠0):srcO s=.err er B:=by unfold srcO;rw [h];exact zf he
theorem Zkc {s:Bytes}{ts:List Tok}{B:Int}(h:toks s=(ts,0,B)):srcO s=allO (exOf ts) ts:=by unfold srcO;rw [h];exact zp rfl
end
section
open Go.RowKit Lx Px
theorem Zrd {ts:List Tok}{k:Nat}(hk:k<=ts.length){o:Out}(h:Rd 0 none (txt ts k) (o.res ts))(D:okK ts k o):exOf ts k=o:=by
 obtain ⟨F,C⟩:=Z5g ts k hk;have B:=ZbF F h;cases o with
 | ok e j=>exact Ziu B D.2 C
 | no j=>exact Ziv B D.2 C
theorem Znx {ex:Nat->Out}{ts:List Tok}{k:Nat}{r:Rr}{B:Nat}(h:ZpA ex ts k r B):Z4v ex ts k=.ok r B:=by
 obtain ⟨⟨l,d,A,g,m,Y,y,j,q,f,Z,O,S,J,F,H,T,V,G,R,X,U,M,L,I,N,D⟩,C⟩:=h;unfold Z4v;rw [O];dsimp only [Z6G];rw [S];dsimp only;rw [J];dsimp only;rw [F];dsimp only;rw [H];dsimp only;rw [T];dsimp only;rw [V];dsimp only;rw [G];dsimp only;rw [R];dsimp only;rw [Z4s,zp X,Z4s,zp U,M];dsimp only [Zgi];rw [Z4s,zp L,I];dsimp only;rw [Z4s,zp N,zp (by rw [C.1,C.2];rfl),D]
theorem Zfq {ts:List Tok}(f k:Nat)(hk:k<=ts.length){e:Ex}(j:Nat)(h:rd f 0 none (txt ts k)=some (.ok e (txt ts j)))(B:k<j/\j<=ts.length):exOf ts k=.ok e j:=Zrd (o:=.ok e j) hk ⟨f,h⟩ B
end
section
open Go.RowKit Lx Px
def tk (t:Bytes):Tok:=(Z0b t,1,t)
end
section
open Go.RowKit Lx Px
def Rr.rt (r:Rr):Rt:=⟨r.id,r.lv,r.kd,r.fr,r.un,r.ls,r.mo,r.ar,pctN r.kp,pctD r.kp,r.wh.1.1,r.wh.1.2,r.wh.2,r.pr.1.1,r.pr.1.2,r.pr.2⟩
def Z50 (r:Rt)(wv pv:Value):List Value:=[int i64 r.id,int i64 r.lv,int i64 r.kd,int i64 r.fr,int i64 r.un,int i64 r.ls,int i64 r.mo,int i64 r.ar,int i64 r.kn,int i64 r.kq,int i64 r.wo,int i64 r.wn,wv,int i64 r.po,int i64 r.pn,pv]
structure Rm where
 r:Rt
 wv:Value
 pv:Value
def Rm.cells (m:Rm):List Value:=Z50 m.r m.wv m.pv
theorem Rm.cells_len (m:Rm):m.cells.length=16:=rfl
def Z4f (ms:List Rm):List Value:=ms.flatMap Rm.cells
theorem Zcv (B:List Rm)(m:Rm):Z4f (B++[m])=Z4f B++m.cells:=by simp [Z4f]
theorem Ze8 (B:List Rm)(k j:Nat)(h:k<B.length)(D:j<16):(Z4f B)[k*16+j]?=B[k].cells[j]?:=by
 induction B generalizing k with
 | nil=>simp at h
 | cons m B ih =>
  have C:Z4f (m::B)=m.cells++Z4f B:=by simp [Z4f]
  rw [C];cases k with
  | zero=>simp only [Nat.zero_mul,Nat.zero_add,List.getElem_cons_zero];rw [List.getElem?_append_left (by rw [Rm.cells_len];omega)]
  | succ k =>rw [List.getElem?_append_right (by rw [Rm.cells_len];omega)];have:=ih k (by simpa using h);simp only [Rm.cells_len,List.getElem_cons_succ];rw [<- this];congr 1;omega
def RtAt (w:World)(B:Nat)(p:Addr)(r:Rt):Prop := p.spot=none/\∃ wv pv,(∀ j u,(Z50 r wv pv)[j]?=some u->w.cell? ⟨p.block,p.off+j,none⟩=some u)/\FoV w B wv r.wl/\FoV w B pv r.pl
def RtsV (w:World)(B:Nat)(v:Value)(rs:List Rt):Prop := ∃ A c,v=slice A rs.length c/\∀ i (h:i<rs.length),∃ ad,A=some ad/\ad.block<B/\RtAt w B (ad.add (i*16)) rs[i]
theorem RtAt.keep {w w':World}{B:Nat}{p:Addr}{r:Rt}(h:RtAt w B p r)(hb:Below B w w')(D:p.block<B):RtAt w' B p r:=by
 obtain ⟨H,I,pv,C,F,G⟩:=h;exact ⟨H,I,pv,λj u hj=>(hb.cell (p:=⟨p.block,p.off+j,none⟩) D).trans (C j u hj),F.on hb,G.on hb⟩
theorem RtAt.up {w:World}{B C:Nat}{p:Addr}{r:Rt}(h:RtAt w B p r)(hb:B<=C):RtAt w C p r:=by
 obtain ⟨H,I,pv,D,F,G⟩:=h;exact ⟨H,I,pv,D,F.up hb,G.up hb⟩
theorem RtsV.on {w w':World}{B:Nat}{v:Value}{rs:List Rt}(h:RtsV w B v rs)(hb:Below B w w'):RtsV w' B v rs:=by
 obtain ⟨A,c,e,G⟩:=h;refine ⟨A,c,e,λi hi=>?_⟩;obtain ⟨ad,D,C,F⟩:=G i hi;exact ⟨ad,D,C,F.keep hb (by rw [Zbh];exact C)⟩
theorem RtsV.up {w:World}{B C:Nat}{v:Value}{rs:List Rt}(h:RtsV w B v rs)(hb:B<=C):RtsV w C v rs:=by
 obtain ⟨A,c,e,F⟩:=h;refine ⟨A,c,e,λi hi=>?_⟩;obtain ⟨ad,D,H,G⟩:=F i hi;exact ⟨ad,D,by omega,G.up hb⟩
theorem RtsV.nil (w:World)(B:Nat):RtsV w B (slice none 0 0) []:=⟨none,0,rfl,λi h=>absurd h (by simp)⟩
def OwnD (w:World)(lo:Nat)(v:Value)(b:Nat):Prop:=lo<=b/\b<w.heap.size/\some b≠v.ownBlock
def OwnR (w:World)(lo:Nat)(v:Value)(rs:List Rt):Prop := ∃ ms:List Rm,ms.map (·.r)=rs/\w.ownsRow lo 65 16 v ms.length (Z4f ms)/\∀ m∈ms,FoD w (OwnD w lo v) m.wv m.r.wl/\FoD w (OwnD w lo v) m.pv m.r.pl
theorem OwnR.nil (w:World)(lo:Nat):OwnR w lo (slice none 0 0) []:=⟨[],rfl,World.ownsRow_nil _ _ _ _,λm h=>absurd h (by simp)⟩
theorem Z7w {w w':World}{lo size n:Nat}{e:TypeId}{v:Value}{D:List Value}(h:w.ownsRow lo e size v n D)(hb:∀ k,lo<=k->k<w.heap.size->w'.heap[k]?=w.heap[k]?):w'.ownsRow lo e size v n D:=by
 refine ⟨h.1,?_⟩;rcases h.2 with F | ⟨g,cap,G,rfl,B,C,rest⟩
 · exact .inl F
 · exact .inr ⟨g,cap,G,rfl,B,(hb g B (zs C)).trans C,rest⟩
theorem OwnR.keep {w w':World}{lo:Nat}{v:Value}{rs:List Rt}(h:OwnR w lo v rs)(J:w.heap.size<=w'.heap.size)(hb:∀ k,lo<=k->k<w.heap.size->w'.heap[k]?=w.heap[k]?):OwnR w' lo v rs:=by
 obtain ⟨I,e,C,F⟩:=h;refine ⟨I,e,⟨C.1,?_⟩,λm hm=>⟨(F m hm).1.keep (λb x=>⟨x.1,by have:=x.2.1;omega,x.2.2⟩) (λb x=>hb b x.1 x.2.1),(F m hm).2.keep (λb x=>⟨x.1,by have:=x.2.1;omega,x.2.2⟩) (λb x=>hb b x.1 x.2.1)⟩⟩;rcases C.2 with G | ⟨g,cap,H,rfl,B,D,rest⟩
 · exact .inl G
 · exact .inr ⟨g,cap,H,rfl,B,(hb g B (zs D)).trans D,rest⟩
theorem OwnR.but {w w':World}{lo pb:Nat}{v:Value}{rs:List Rt}(h:OwnR w lo v rs)(hb:But pb w w')(B:pb<lo):OwnR w' lo v rs:=h.keep hb.size (λk h1 h2=>hb.block k h2 (by omega))
theorem OwnR.form {w:World}{lo:Nat}{v:Value}{rs:List Rt}(h:OwnR w lo v rs):∃ A c,v=slice A rs.length c:=by
 obtain ⟨D,e,C,_⟩:=h;have G:rs.length=D.length:=by rw [<- e,List.length_map]
 rw [G];rcases C.2 with ⟨B,F⟩ | ⟨g,cap,H,B,_⟩
 · exact ⟨none,0,by rw [B,F]⟩
 · exact ⟨_,_,B⟩
theorem OwnR.snoc {w B I:World}{lo:Nat}{v F:Value}{C:List Rm}{m:Rm}{c g:Nat} (R:∀ x∈C,FoD w (OwnD w lo v) x.wv x.r.wl/\FoD w (OwnD w lo v) x.pv x.r.pl) (O:∀ k,v.ownBlock=some k->lo<=k/\k<w.heap.size) (V:FoD B (λb=>w.heap.size<=b/\b<B.heap.size) m.wv m.r.wl) (Y:FoD B (λb=>w.heap.size<=b/\b<B.heap.size) m.pv m.r.pl) (hw:∀ k,lo<=k->k<w.heap.size->B.heap[k]?=w.heap[k]?) (f:w.heap.size<=B.heap.size) (j:lo<=w.heap.size) (X:I.ownsRow lo 65 16 F c (Z4f C++m.cells)) (U:c=C.length+1) (H:B.grownBy I v.ownBlock) (N:F.ownBlock=some g) (D:v.ownBlock=some g\/g=B.heap.size) : OwnR I lo F ((C++[m]).map (·.r)):=by
 refine ⟨C++[m],rfl,?_,?_⟩
 · rw [zj,List.length_singleton,<- U,Zcv];exact X
 · have L:∀ b,lo<=b->b<B.heap.size->some b≠v.ownBlock->some b≠F.ownBlock:=by
    intro b Z d T e;rw [N] at e;injection e with e
    rcases D with D | D
    · exact T (by rw [D,e])
    · omega
   intro x G;rw [zC,List.mem_singleton] at G;rcases G with G | rfl
   · obtain ⟨M,S⟩:=R x G;refine ⟨M.keep (λb y=>⟨y.1,?_,?_⟩) (λb y=>?_),S.keep (λb y=>⟨y.1,?_,?_⟩) (λb y=>?_)⟩
     all_goals first
      | (have:=y.2.1;have:=H.size;omega)
      | exact L b y.1 (by have:=y.2.1;omega) y.2.2
      | (rw [H.block b (by have:=y.2.1;omega) y.2.2,hw b y.1 y.2.1])
   · have J:∀ b,w.heap.size<=b->some b≠v.ownBlock:=by intro b hb e;have:=(O b e.symm).2;omega
     refine ⟨V.keep (λb y=>⟨?_,?_,?_⟩) (λb y=>?_),Y.keep (λb y=>⟨?_,?_,?_⟩) (λb y=>?_)⟩
     all_goals first
      | (have:=y.1;omega)
      | (have:=y.2;have:=H.size;omega)
      | exact L b (by have:=y.1;omega) y.2 (J b y.1)
      | exact H.block b y.2 (J b y.1)
theorem OwnR.v {w:World}{lo:Nat}{v:Value}{rs:List Rt}(h:OwnR w lo v rs):RtsV w w.heap.size v rs:=by
 obtain ⟨B,rfl,F,L⟩:=h;rcases F.2 with ⟨C,M⟩ | ⟨g,cap,O,C,_,H,_⟩
 · have:B=[]:=List.length_eq_zero_iff.1 M;subst this;subst C;exact RtsV.nil _ _
 · refine ⟨some ⟨g,0,none⟩,cap,by rw [C,List.length_map],λi hi=>⟨⟨g,0,none⟩,rfl,(zs H),?_⟩⟩;have G:i<B.length:=by simpa using hi
   obtain ⟨J,N⟩:=L B[i] (List.getElem_mem G);rw [Z67];refine ⟨rfl,B[i].wv,B[i].pv,?_,?_,?_⟩
   · intro j u D;subst C;have I:j<16:=by
      rcases Nat.lt_or_ge j 16 with h | h
      · exact h
      · rw [List.getElem?_eq_none (by show 16<=j;exact h)] at D;cases D
     show w.cell? ⟨g,i*16+j,none⟩=some u;rw [F.cellAt (i*16+j) (by omega),Ze8 B i j G I,<- D];simp only [List.getElem_map];rfl
   · simp only [List.getElem_map];exact J.v (λb x=>x.2.1)
   · simp only [List.getElem_map];exact N.v (λb x=>x.2.1)
theorem Zfr {w:World}{b:Nat}{cs:Array Value}{t:TypeId}{fr:Nat × Nat}(h:w.heap[b]?=some (.cells cs t fr))(l:List Value)(B:l=cs.toList):∀ j u,l[j]?=some u->w.cell? ((⟨b,0,none⟩:Addr).add j)=some u:=by
 subst B;exact World.news_of_block h
theorem Tryz.infoRate:(Tryz.prog.info? 65).map (λi=>(i.zero,i.size,i.bytes))=some (some (.agg #[int i64 0,int i64 0,int i64 0,int i64 0,int i64 0,int i64 0,int i64 0,int i64 0,int i64 0,int i64 0,int i64 0,int i64 0,slice none 0 0,int i64 0,int i64 0,slice none 0 0]),16,160):=by kernel_rfl
end
section
open Go.ChangeShapes Go.WideShapes Go.ChangeAt Go.RowKit Go.Deep Lx Px
theorem Zre {B C:Nat}{w:World}(h:Tabs B w)(F:B<=C)(D:C<=w.heap.size):Tabs C w:=⟨Zpt h F,by have:=h.2.1;omega,D,h.2.2.2⟩
theorem Z28 {w w':World}(h:Tabs w.heap.size w)(hb:Below w.heap.size w w'):Tabs w'.heap.size w':=Zre (h.on hb) hb.size (zn _)
theorem Zcw {p:Addr}{k j:Nat}(h:(p.add k).spot=none):p.add (k+j)=⟨(p.add k).block,(p.add k).off+j,none⟩:=by
 unfold Addr.add at h |-
 by_cases hk:k=0
 · subst hk;rw [zp rfl] at h |-
   by_cases hj:j=0
   · subst hj;rw [zp rfl];cases p;cases h;rfl
   · rw [zf (by omega)];simp
 · rw [zf (by omega),zf hk];simp only [Nat.add_assoc]
theorem Zcx {w:World}{p:Addr}{v:Value}(h:w.cell? p=some v):p.spot=none:=by
 unfold World.cell? at h;split at h
 · split at h
   · cases h
   · rename_i B;cases hp:p.spot with
     | none=>rfl
     | some x=>rw [hp] at B;simp at B
 · cases h
theorem Ze9 {H:Type}{enc:TypeId × Value->H}{W:World}{n:Nat}{cs:List Value}{y:DataW H × List MemPlace}(h:DataW.trod enc prog W 0 (λ_=>true) true n 65 cs=some y) : ∃ (r:Rt) (l j:Option Addr) (q m:Nat),cs=Z50 r (slice l (flen r.wl) q) (slice j (flen r.pl) m)/\FoV W W.heap.size (slice l (flen r.wl) q) r.wl/\FoV W W.heap.size (slice j (flen r.pl) m) r.pl:=by
 obtain ⟨A,B,bg,_,hl,bd,C⟩:=DataW.trod_struct underlying65 h;rw [Tryz.cellsRate] at hl;obtain ⟨c0,c1,c2,c3,c4,c5,V,Y,T,N,O,G,J,I,F,M,rfl⟩:∃ c0 c1 c2 c3 c4 c5 V Y T N O G J I F M,cs=[c0,c1,c2,c3,c4,c5,V,Y,T,N,O,G,J,I,F,M]:=by
  match cs,hl with
  | [c0,c1,c2,c3,c4,c5,V,Y,T,N,O,G,J,I,F,M],_=>exact ⟨c0,c1,c2,c3,c4,c5,V,Y,T,N,O,G,J,I,F,M,rfl⟩
 obtain ⟨Z,g,U,L,X,f,d,R,D,S,rfl⟩:∃ Z g U L X f d R D S,A=[Z,g,U,L,X,f,d,R,D,S]:=by
  have be:A.length=10:=bd
  match A,be with
  | [Z,g,U,L,X,f,d,R,D,S],_=>exact ⟨Z,g,U,L,X,f,d,R,D,S,rfl⟩
 have g0:DataW.trod enc prog W 0 (λ_=>true) true B 3 [c0]=some Z:=C 0 _ rfl;have g1:DataW.trod enc prog W 0 (λ_=>true) true B 3 [c1]=some g:=C 1 _ rfl;have g2:DataW.trod enc prog W 0 (λ_=>true) true B 3 [c2]=some U:=C 2 _ rfl;have g3:DataW.trod enc prog W 0 (λ_=>true) true B 58 [c3,c4]=some L:=C 3 _ rfl;have g4:DataW.trod enc prog W 0 (λ_=>true) true B 3 [c5]=some X:=C 4 _ rfl;have g5:DataW.trod enc prog W 0 (λ_=>true) true B 3 [V]=some f:=C 5 _ rfl;have g6:DataW.trod enc prog W 0 (λ_=>true) true B 3 [Y]=some d:=C 6 _ rfl;have g7:DataW.trod enc prog W 0 (λ_=>true) true B 60 [T,N]=some R:=C 7 _ rfl;have g8:DataW.trod enc prog W 0 (λ_=>true) true B 63 [O,G,J]=some D:=C 8 _ rfl;have g9:DataW.trod enc prog W 0 (λ_=>true) true B 63 [I,F,M]=some S:=C 9 _ rfl;obtain ⟨k0,e0,_,_⟩:=DataW.trod_int underlying3 g0;obtain ⟨k1,e1,_,_⟩:=DataW.trod_int underlying3 g1;obtain ⟨k2,e2,_,_⟩:=DataW.trod_int underlying3 g2;obtain ⟨k5,e5,_,_⟩:=DataW.trod_int underlying3 g4;obtain ⟨k6,e6,_,_⟩:=DataW.trod_int underlying3 g5;obtain ⟨k7,e7,_,_⟩:=DataW.trod_int underlying3 g6;obtain ⟨k3,k4,e3,e4⟩:=Zex underlying58 ⟨rfl,rfl⟩ ⟨rfl,rfl⟩ (show DataW.trod enc prog W 0 (λ_=>true) true B 58 [c3,c4]=some L from g3);obtain ⟨k8,k9,e8,e9⟩:=Zex underlying60 ⟨rfl,rfl⟩ ⟨rfl,rfl⟩ (show DataW.trod enc prog W 0 (λ_=>true) true B 60 [T,N]=some R from g7);obtain ⟨wo,wn,wv,n8,y8,e10,_,t8⟩:=Z8i (show DataW.trod enc prog W 0 (λ_=>true) true B 63 [O,G,J]=some D from g8);obtain ⟨po,pn,pv,n9,y9,ba,_,t9⟩:=Z8i (show DataW.trod enc prog W 0 (λ_=>true) true B 63 [I,F,M]=some S from g9);obtain ⟨wl,bb,_⟩:=Z7s n8 wv y8 t8;obtain ⟨pl,hpl,_⟩:=Z7s n9 pv y9 t9;have bc:=bb;have bf:=hpl;obtain ⟨l,q,rfl,_⟩:=bc;obtain ⟨j,m,rfl,_⟩:=bf;simp only [List.cons.injEq,and_true] at e0 e1 e2 e5 e6 e7 e10 ba;obtain ⟨rfl,rfl,rfl⟩:=e10;obtain ⟨rfl,rfl,rfl⟩:=ba;subst e0 e1 e2 e3 e4 e5 e6 e7 e8 e9;refine ⟨⟨k0,k1,k2,k3,k4,k5,k6,k7,k8,k9,wo,wn,wl,po,pn,pl⟩,l,j,q,m,rfl,bb,hpl⟩
theorem Zrf {r:Rt}(h:r.can=true):r.text.length<=10100:=by
 simp only [Rt.can,zd,Rt.nums,List.all_cons,List.all_nil,Bool.and_true,numB,decide_eq_true_eq,beq_iff_eq] at h;obtain ⟨⟨⟨⟨F,H,B,C,D,G,I,J⟩,_,_⟩,L⟩,hw,M⟩:=h;obtain ⟨N,O,g⟩:=Z2k hw;obtain ⟨S,R,f⟩:=Z2k M;have q:=Z2C r.wo r.wn r.wl N O;have X:=Z2C r.po r.pn r.pl S R;have T:=Z0t r.id F.1 (Int.le_trans F.2 (by omega));have U:=Z0t r.lv H.1 (Int.le_trans H.2 (by omega));have l:=Z0t r.kd B.1 (Int.le_trans B.2 (by omega));have Z:=Z0t r.fr C.1 (Int.le_trans C.2 (by omega));have Y:=Z0t r.un D.1 (Int.le_trans D.2 (by omega));have j:=Z0t r.ls G.1 (Int.le_trans G.2 (by omega));have d:=Z0t r.mo I.1 (Int.le_trans I.2 (by omega));have m:=Z0t r.ar J.1 (Int.le_trans J.2 (by omega));have V:=Z0t r.pct L.1 (Int.le_trans L.2 (by omega));simp only [Rt.text,Rt.items,Z23,Z74,zj,zw,zx];omega
end
section
open Lx Px
namespace Qx
inductive V where
 | ok (n d:Int)
 | no (e:Int)
 deriving DecidableEq
def redN (n d:Int):Int:=n.tdiv (Nat.gcd n.natAbs d.natAbs:Nat)
def redD (n d:Int):Int:=d.tdiv (Nat.gcd n.natAbs d.natAbs:Nat)
def ratV (n d:Int):V:=if 1000000000<(redN n d).natAbs\/1000000<redD n d then .no 3 else .ok (redN n d) (redD n d)
def Z10 (n d:Int):V:=if d<0 then ratV (-n) (-d) else ratV n d
def addV (a b c d:Int):V:=ratV (a*d+c*b) (b*d)
def subV (a b c d:Int):V:=ratV (a*d - c*b) (b*d)
def mulV (a b c d:Int):V:=ratV (a*c) (b*d)
def divV (a b c d:Int):V:=if c=0 then .no 22 else Z10 (a*d) (b*c)
def cmpI (a b c d:Int):Int:=if a*d<c*b then -1 else if c*b<a*d then 1 else 0
def truV (b:Bool):V:=if b then .ok 1 1 else .ok 0 1
def appV (op a b c d:Int):V :=
 if op=4 then addV a b c d
 else if op=5 then subV a b c d
 else if op=6 then mulV a b c d
 else if op=7 then divV a b c d
 else if op=8 then (if cmpI a b c d<0 then .ok a b else .ok c d)
 else if op=9 then (if 0<cmpI a b c d then .ok a b else .ok c d)
 else if op=11 then truV (decide (cmpI a b c d<0))
 else if op=12 then truV (decide (cmpI a b c d=0))
 else if op=13 then truV (decide (a=1)&&decide (c=1))
 else truV (decide (a=1) || decide (c=1))
structure Vs where
 a:Int
 b:Int
 c:Int
 d:Int
def Vs.at (v:Vs)(n:Int):Int:=if n=1 then v.a else if n=2 then v.b else if n=3 then v.c else v.d
def opV (v:Vs)(op n:Int)(x y z:V):V :=
 if op=1\/op=2 then Z10 n 1
 else if op=3 then Z10 (v.at n) 1
 else match x with
  | .no e=>.no e
  | .ok a b =>
   if op=15 then truV (decide (a=0))
   else if op=10 then (if a=1 then y else z)
   else match y with
    | .no e=>.no e
    | .ok c d=>appV op a b c d
def valF (v:Vs):Fo->Nat->V
 | .nil,_=>.no 22
 | .node _ _ a l _,0=>opV v a.1 a.2 (valF v l 0) (valF v l 1) (valF v l 2)
 | .node _ _ _ _ r,k+1=>valF v r k
def valE (v:Vs)(a:Int × Int)(l:Fo):V:=opV v a.1 a.2 (valF v l 0) (valF v l 1) (valF v l 2)
theorem Zfs (v:Vs):∀ (f:Fo) (k:Nat),k<flen f->valF v f k=valE v (getF f k).1 (getF f k).2:=by
 intro f;induction f with
 | nil=>intro k h;simp [flen] at h
 | node b o a l r _ ihr =>
  intro k h;cases k with
  | zero=>rfl
  | succ k=>exact ihr k (by simp [flen] at h;omega)
def opT (op:Int)(x y z:Int):Int :=
 if op=1\/op=3 then 1
 else if op=2 then 2
 else if op=4\/op=5\/op=8\/op=9 then (if x=y/\x≠3 then x else 0)
 else if op=6 then (if x=1/\y=1 then 1 else if x=2/\y=1\/x=1/\y=2 then 2 else 0)
 else if op=7 then (if y=1/\x≠3 then x else 0)
 else if op=11\/op=12 then (if x=y/\x≠3 then 3 else 0)
 else if op=13\/op=14 then (if x=3/\y=3 then 3 else 0)
 else if op=15 then (if x=3 then 3 else 0)
 else if op=10 then (if x=3/\y=z then y else 0)
 else 0
def allT:Fo->Bool
 | .nil=>true
 | .node _ _ a l r=>allT l&&allT r&&decide (opT a.1 (typK l 0) (typK l 1) (typK l 2)≠0)
where
 typK:Fo->Nat->Int
 | .nil,_=>0
 | .node _ _ a l _,0=>opT a.1 (typK l 0) (typK l 1) (typK l 2)
 | .node _ _ _ _ r,k+1=>typK r k
def typE (a:Int × Int)(l:Fo):Int:=if allT l then opT a.1 (allT.typK l 0) (allT.typK l 1) (allT.typK l 2) else 0
end Qx
end
section
open Lx Px
namespace Qx
def rndE (n d:Int):Int:=if d<2*(n % d)\/2*(n % d)=d/\(n / d) % 2=1 then n / d+1 else n / d
def Z4t (r:Rt):Bool :=
 decide (1<=r.id)&&decide (r.id<=1000000)&&decide (0<=r.lv)&&decide (r.lv<=100)&&decide (1<=r.kd)&&decide (r.kd<=20)&&decide (1<=r.ar)&&decide (r.ar<=127)
 && decide (0<=r.fr)&&decide (r.fr<r.un)&&decide (r.un<=366)&&ratB r.kn r.kq&&decide (0<=r.kn)&&decide (r.kn<=r.kq)
 && decide (1<=r.ls)&&decide (r.ls<=r.mo)&&decide (r.mo<=60)&&Z0i r.wo r.wn r.wl&&Z0i r.po r.pn r.pl
def Z15 (r:Rt):Int:=if Z4t r then (if typE (r.wo,r.wn) r.wl=3/\typE (r.po,r.pn) r.pl=2 then 0 else 20) else 1
def useL (seen:List Int):List Rt->Bool
 | []=>true
 | r::l=>Z15 r==0&&!seen.contains r.id&&useL (r.id::seen) l
def useB (l:List Rt):Bool:=decide (l.length<=100)&&useL [] l
structure Ask where
 kind:Int
 fr:Int
 un:Int
 pers:Int
 deriving DecidableEq
def Ask.okB (a:Ask):Bool:=decide (0<=a.fr)&&decide (a.fr<a.un)&&decide (a.un<=366)&&decide (a.un - a.fr<=60)&&decide (1<=a.kind)&&decide (a.kind<=20)&&decide (1<=a.pers)&&decide (a.pers<=8)
def wday (n:Int):Int:=(n+3) % 7
def Z0w (a:Ask)(night:Int):Vs:=⟨a.un - a.fr,a.pers,night - a.fr,wday night⟩
def bitB (arr:Int)(day:Nat):Bool:=decide (arr / 2 ^ day % 2=1)
def Z8H (r:Rt)(a:Ask)(night:Int):Bool :=
 decide (r.kd=a.kind)&&decide (r.fr<=night)&&decide (night<r.un)&&decide (r.ls<=a.un - a.fr)&&decide (a.un - a.fr<=r.mo)&&bitB r.ar (wday a.fr).toNat
def apR (r:Rt)(a:Ask)(night:Int):Int :=
 if Z8H r a night then (match valE (Z0w a night) (r.wo,r.wn) r.wl with
  | .ok n _=>if n=1 then 1 else 0
  | .no e=>-e) else 0
def Z46 (r:Rt):Option Rt->Bool
 | none=>true
 | some b=>decide (b.lv<r.lv) || decide (r.lv=b.lv)&&decide (r.id<b.id)
def Z2g (a:Ask)(night:Int):Option Rt->List Rt->Except Int (Option Rt)
 | o,[]=>.ok o
 | o,r::l=>if apR r a night<0 then .error (-(apR r a night)) else Z2g a night (if apR r a night=1/\Z46 r o=true then some r else o) l
inductive N where
 | ok (c:Int) (r:Rt)
 | no (e:Int)
def Z0m (l:List Rt)(a:Ask)(night:Int):N :=
 match Z2g a night none l with
 | .error e=>.no e
 | .ok none=>.no 4
 | .ok (some r)=>match valE (Z0w a night) (r.po,r.pn) r.pl with
  | .no e=>.no e
  | .ok n d=>if rndE n d<0 then .no 22 else .ok (rndE n d) r
def Z7C (n:Int)(r:Rt):Int:=rndE (n*r.kn) r.kq
def Z0c (l:List Rt)(a:Ask):Nat->Int->Except Int (List Int × Int)
 | 0,_=>.ok ([],0)
 | k+1,night=>match Z0m l a night with
  | .no e=>.error e
  | .ok c r=>match Z0c l a k (night+1) with
   | .error e=>.error e
   | .ok (cs,kp)=>.ok (c::cs,Z7C c r+kp)
def Z0d (l:List Rt)(a:Ask):Except Int (List Int × Int) :=
 if useB l&&a.okB then (match Z0c l a (a.un - a.fr).toNat a.fr with
  | .error e=>.error e
  | .ok (cs,kp)=>if 1000000000<cs.sum then .error 3 else .ok (cs,kp)) else .error 1
end Qx
end
end Go.Proofs.YtnepkoepbapgeaaGreatDoor
