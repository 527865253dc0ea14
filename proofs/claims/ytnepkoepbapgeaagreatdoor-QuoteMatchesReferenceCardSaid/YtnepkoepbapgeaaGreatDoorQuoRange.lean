import Derived.Test.YtnepkoepbapgeaaGreatDoorQuoR10b
namespace Go.Proofs.YtnepkoepbapgeaaGreatDoor
open _root_.Go.Proofs.Tryz
open Value (int slice)
open IntKind (i64)
set_option maxHeartbeats 8000000
set_option maxRecDepth 100000
section
open Go.RowKit Lx Px Qx
theorem Zrh (n lo B:Int)(w:World):Calls prog 220 #[int i64 n,int i64 lo,int i64 B] w λe w'=>e=.returned (.bool (Z18 n lo B))/\w=w':=by
 unfold Z18;obtain ⟨G,C⟩:∃ b,decide (lo<=n)=b:=⟨_,rfl⟩
 obtain ⟨D,F⟩:∃ b,decide (n<=B)=b:=⟨_,rfl⟩
 rw [C,F];cases G <;> cases D
 all_goals go_enter func220,ntmps220;go_wp2_with fail;go_ret;exact ⟨rfl,rfl⟩
theorem ZnH (r:Rt):Z4t r=(Z18 r.id 1 1000000&&Z18 r.lv 0 100&&Z18 r.kd 1 20&&!decide (r.fr<0)&&!decide (r.fr>=r.un)&&!decide (r.un > 366)&&!decide (r.ls<1)&&!decide (r.ls > r.mo)&&!decide (r.mo > 60)&&Z18 r.ar 1 127 && ratB r.kn r.kq&&decide (r.kn>=0)&&decide (r.kn<=r.kq)&&Z0i r.wo r.wn r.wl&&Z0i r.po r.pn r.pl):=by
 rw [zA];simp only [Z4t,Z18,zd,decide_eq_true_eq,Bool.not_eq_true',decide_eq_false_iff_not];cases ratB r.kn r.kq <;> cases Z0i r.wo r.wn r.wl <;> cases Z0i r.po r.pn r.pl <;> simp <;> omega
theorem Zkt (r:Rt)(X pv:Value)(w:World)(H:FoV w w.heap.size X r.wl)(R:FoV w w.heap.size pv r.pl):Calls prog 164 #[rtV r X pv] w λe w'=>e=.returned (.bool (Z4t r))/\Below w.heap.size w w':=by
 obtain ⟨J,L,rfl,_⟩:=id H;obtain ⟨O,I,rfl,_⟩:=id R;have j:=RB.new w #[int i64 r.id,int i64 r.lv,int i64 r.kd,int i64 r.fr,int i64 r.un,int i64 r.ls,int i64 r.mo,int i64 r.ar,int i64 r.kn,int i64 r.kq,int i64 r.wo,int i64 r.wn,slice J (flen r.wl) L,int i64 r.po,int i64 r.pn,slice O (flen r.pl) I];have l:=Zrh;have q:=λW=>Z1p r.kn r.kq W;have g:=λW h=>Z5d r.wo r.wn r.wl (slice J (flen r.wl) L) W h;have f:=λW h=>Z5d r.po r.pn r.pl (slice O (flen r.pl) I) W h;rw [ZnH,rtV];obtain ⟨b0,Y⟩:∃ b,Z18 r.id 1 1000000=b:=⟨_,rfl⟩
 obtain ⟨b1,Z⟩:∃ b,Z18 r.lv 0 100=b:=⟨_,rfl⟩
 obtain ⟨b2,d⟩:∃ b,Z18 r.kd 1 20=b:=⟨_,rfl⟩
 obtain ⟨b3,q3⟩:∃ b,decide (r.fr<0)=b:=⟨_,rfl⟩
 obtain ⟨b4,q4⟩:∃ b,decide (r.fr>=r.un)=b:=⟨_,rfl⟩
 obtain ⟨b5,q5⟩:∃ b,decide (r.un > 366)=b:=⟨_,rfl⟩
 obtain ⟨b6,q6⟩:∃ b,decide (r.ls<1)=b:=⟨_,rfl⟩
 obtain ⟨b7,q7⟩:∃ b,decide (r.ls > r.mo)=b:=⟨_,rfl⟩
 obtain ⟨b8,A⟩:∃ b,decide (r.mo > 60)=b:=⟨_,rfl⟩
 obtain ⟨b9,m⟩:∃ b,Z18 r.ar 1 127=b:=⟨_,rfl⟩
 obtain ⟨bc,ba⟩:∃ b,decide (r.kn>=0)=b:=⟨_,rfl⟩
 obtain ⟨bb,be⟩:∃ b,decide (r.kn<=r.kq)=b:=⟨_,rfl⟩
 rw [Y,Z,d,q3,q4,q5,q6,q7,A,m,ba,be];generalize Z0i r.wo r.wn r.wl=bf at *
 generalize Z0i r.po r.pn r.pl=y at *
 generalize ratB r.kn r.kq=bd at *
 have S:=zh j;have HW:=zh H;have HP:=zh R;have F:=zh l;have RA:=zh q;have Z1:=zh g;have Z2:=zh f;clear j H R l q g f;go_enter func164,ntmps164;go_upto_region 1 with fail;generalize w.alloc (.cells #[int i64 r.id,int i64 r.lv,int i64 r.kd,int i64 r.fr,int i64 r.un,int i64 r.ls,int i64 r.mo,int i64 r.ar,int i64 r.kn,int i64 r.kq,int i64 r.wo,int i64 r.wn,slice J (flen r.wl) L,int i64 r.po,int i64 r.pn,slice O (flen r.pl) I] 65)=w0 at *
 have e0:=S.out.cell 0 _ rfl;have e1:=S.out.cell 1 _ rfl;have e2:=S.out.cell 2 _ rfl;have e3:=S.out.cell 3 _ rfl;have e4:=S.out.cell 4 _ rfl;have e5:=S.out.cell 5 _ rfl;have e6:=S.out.cell 6 _ rfl;have e7:=S.out.cell 7 _ rfl;have D:=S.out.cell 8 _ rfl;have C:=S.out.cell 9 _ rfl;have N:=S.out.cell 10 _ rfl;have U:=S.out.cell 11 _ rfl;have T:=S.out.cell 12 _ rfl;have M:=S.out.cell 13 _ rfl;have G:=S.out.cell 14 _ rfl;have V:=S.out.cell 15 _ rfl;go_wp2_with fail;refine ((F.out r.id 1 1000000 _)).mono ?_;rintro e w' ⟨rfl,rfl⟩;rw [Y];cases b0 with
 | false =>go_wp2_with fail;go_ret;exact ⟨rfl,S.out.2⟩
 | true =>
  go_wp2_with fail;refine ((F.out r.lv 0 100 _)).mono ?_;rintro e w' ⟨rfl,rfl⟩;rw [Z];cases b1 with
  | false =>go_wp2_with fail;go_ret;exact ⟨rfl,S.out.2⟩
  | true =>
   go_wp2_with fail;refine ((F.out r.kd 1 20 _)).mono ?_;rintro e w' ⟨rfl,rfl⟩;rw [d];cases b2 with
   | false =>go_wp2_with fail;go_ret;exact ⟨rfl,S.out.2⟩
   | true =>
    cases b3 with
    | true =>go_wp2_with fail;go_ret;exact ⟨rfl,S.out.2⟩
    | false =>
     cases b4 with
     | true =>go_wp2_with fail;go_ret;exact ⟨rfl,S.out.2⟩
     | false =>
      cases b5 with
      | true =>go_wp2_with fail;go_ret;exact ⟨rfl,S.out.2⟩
      | false =>
       cases b6 with
       | true =>go_wp2_with fail;go_ret;exact ⟨rfl,S.out.2⟩
       | false =>
        cases b7 with
        | true =>go_wp2_with fail;go_ret;exact ⟨rfl,S.out.2⟩
        | false =>
         cases b8 with
         | true =>go_wp2_with fail;go_ret;exact ⟨rfl,S.out.2⟩
         | false =>
          go_wp2_with fail;refine ((F.out r.ar 1 127 _)).mono ?_;rintro e w' ⟨rfl,rfl⟩;rw [m];cases b9 with
          | false =>go_wp2_with fail;go_ret;exact ⟨rfl,S.out.2⟩
          | true =>
           go_wp2_with fail;refine ((RA.out _)).mono ?_;rintro e w1 ⟨rfl,hb⟩;have B:=S.out.on hb;clear e0 e1 e2 e3 e4 e5 e6 e7 D C N U T M G V S hb;have S:=zh B;clear B;have D:=S.out.cell 8 _ rfl;have C:=S.out.cell 9 _ rfl;have N:=S.out.cell 10 _ rfl;have U:=S.out.cell 11 _ rfl;have T:=S.out.cell 12 _ rfl;go_wp2_with fail;refine ((Z1.out _ ((HW.out.on S.out.2).up S.out.2.size))).mono ?_;rintro e w2 ⟨rfl,hb⟩;have B:=S.out.on hb;clear D C N U T S hb;have S:=zh B;clear B;have D:=S.out.cell 8 _ rfl;have C:=S.out.cell 9 _ rfl;have M:=S.out.cell 13 _ rfl;have G:=S.out.cell 14 _ rfl;have V:=S.out.cell 15 _ rfl;go_wp2_with fail;refine ((Z2.out _ ((HP.out.on S.out.2).up S.out.2.size))).mono ?_;rintro e w3 ⟨rfl,hb⟩;have B:=S.out.on hb;clear D C M G V S hb;have S:=zh B;clear B;have D:=S.out.cell 8 _ rfl;have C:=S.out.cell 9 _ rfl;cases bd <;> cases bc <;> cases bb <;> cases bf <;> cases y
           all_goals go_wp2_with fail;go_ret;exact ⟨rfl,S.out.2⟩
theorem Z93 (r:Rt)(J pv:Value)(w:World)(H:FoV w w.heap.size J r.wl)(T:FoV w w.heap.size pv r.pl):Calls prog 124 #[rtV r J pv] w λe w'=>e=.returned (.tuple #[.bool (Z15 r==0),int i64 (Z15 r)])/\Below w.heap.size w w':=by
 have Y:=λW F h2=>Zkt r J pv W F h2;obtain ⟨L,M,rfl,_⟩:=id H;obtain ⟨R,I,rfl,_⟩:=id T;have S0:=RB.new w #[int i64 r.id,int i64 r.lv,int i64 r.kd,int i64 r.fr,int i64 r.un,int i64 r.ls,int i64 r.mo,int i64 r.ar,int i64 r.kn,int i64 r.kq,int i64 r.wo,int i64 r.wn,slice L (flen r.wl) M,int i64 r.po,int i64 r.pn,slice R (flen r.pl) I];have m:Z15 r=if Z4t r then (if typE (r.wo,r.wn) r.wl=3/\typE (r.po,r.pn) r.pl=2 then 0 else 20) else 1:=rfl;have hv:=@Z2r r;rw [rtV] at Y |-
 have S:=zh S0;have HW:=zh H;have g:=zh T;have HF:=zh Y;have X:=zh m;have HV:=zh hv;clear S0 H T Y m hv;go_enter func124,ntmps124;go_upto_region 1 with fail;generalize w.alloc (.cells #[int i64 r.id,int i64 r.lv,int i64 r.kd,int i64 r.fr,int i64 r.un,int i64 r.ls,int i64 r.mo,int i64 r.ar,int i64 r.kn,int i64 r.kq,int i64 r.wo,int i64 r.wn,slice L (flen r.wl) M,int i64 r.po,int i64 r.pn,slice R (flen r.pl) I] 65)=w0 at *
 have e0:=S.out.cell 0 _ rfl;have e1:=S.out.cell 1 _ rfl;have e2:=S.out.cell 2 _ rfl;have e3:=S.out.cell 3 _ rfl;have e4:=S.out.cell 4 _ rfl;have e5:=S.out.cell 5 _ rfl;have e6:=S.out.cell 6 _ rfl;have e7:=S.out.cell 7 _ rfl;have e8:=S.out.cell 8 _ rfl;have e9:=S.out.cell 9 _ rfl;have O:=S.out.cell 10 _ rfl;have Z:=S.out.cell 11 _ rfl;have U:=S.out.cell 12 _ rfl;have N:=S.out.cell 13 _ rfl;have G:=S.out.cell 14 _ rfl;have V:=S.out.cell 15 _ rfl;go_wp2_with fail;refine (HF.out _ ((HW.out.on S.out.2).up S.out.2.size) ((g.out.on S.out.2).up S.out.2.size)).mono ?_;rintro e w1 ⟨rfl,hb⟩;have S1:=S.out.on hb;clear e0 e1 e2 e3 e4 e5 e6 e7 e8 e9 O Z U N G V S hb HF;have S:=zh S1;clear S1;cases hf:Z4t r with
 | false =>
  have F:Z15 r=1:=by rw [X.out,hf];rfl
  have H1:=zh F;have ba:=zh hf;clear F hf;go_wp2_with fail;go_ret2;rw [H1.out];exact ⟨rfl,S.out.2⟩
 | true =>
  obtain ⟨v1,v2⟩:=HV.out hf;obtain ⟨f,g1⟩:=Z4k v1;obtain ⟨f2,g2⟩:=Z4k v2;have j:Z15 r=if typE (r.wo,r.wn) r.wl=3/\typE (r.po,r.pn) r.pl=2 then 0 else 20:=by rw [X.out,hf];rfl
  have A:=λW B h h2=>ZcA (r.wo,r.wn) r.wl W (slice L (flen r.wl) M) B h h2 f g1;have q:=λW B h h2=>ZcA (r.po,r.pn) r.pl W (slice R (flen r.pl) I) B h h2 f2 g2;have O:=S.out.cell 10 _ rfl;have Z:=S.out.cell 11 _ rfl;have U:=S.out.cell 12 _ rfl;generalize typE (r.wo,r.wn) r.wl=x at *
  generalize typE (r.po,r.pn) r.pl=y at *
  have d:=zh j;have Z1:=zh A;have Z2:=zh q;have ba:=zh hf;clear j A q hf X HV v1 v2 f f2 g1 g2;go_wp2_with fail;refine (Z1.out _ w.heap.size (HW.out.on S.out.2) S.out.2.size).mono ?_;rintro e w2 ⟨rfl,hb⟩;have S2:=S.out.on hb;clear O Z U S hb;have S:=zh S2;clear S2;by_cases hx:x=3
  · have d1:(x != 3)=false:=by simpa using hx
    have N:=S.out.cell 13 _ rfl;have G:=S.out.cell 14 _ rfl;have V:=S.out.cell 15 _ rfl;go_wp2_with fail;refine (Z2.out _ w.heap.size (g.out.on S.out.2) S.out.2.size).mono ?_;rintro e w3 ⟨rfl,hb⟩;have l:=S.out.on hb;clear N G V S hb;have S:=zh l;clear l;by_cases hy:y=2
    · have d2:(y != 2)=false:=by simpa using hy
      have C:Z15 r=0:=by rw [d.out,zp ⟨hx,hy⟩]
      have D:=zh C;clear C;go_wp2_with fail;go_ret2;rw [D.out];exact ⟨rfl,S.out.2⟩
    · have d2:(y != 2)=true:=by simpa using hy
      have C:Z15 r=20:=by rw [d.out,zf (λh=>hy h.2)]
      have D:=zh C;clear C;go_wp2_with fail;go_ret2;rw [D.out];exact ⟨rfl,S.out.2⟩
  · have d1:(x != 3)=true:=by simpa using hx
    have C:Z15 r=20:=by rw [d.out,zf (λh=>hx h.1)]
    have D:=zh C;clear C;go_wp2_with fail;go_ret2;rw [D.out];exact ⟨rfl,S.out.2⟩
end
section
open Go.RowKit
def Z1z (Bs:Nat->Prop)(W W':World):Prop:=∀ b,Bs b->W'.heap[b]?=W.heap[b]?
theorem Z1z.refl (B:Nat->Prop)(W:World):Z1z B W W:=λ_ _=>rfl
theorem Z1z.trans {D:Nat->Prop}{A B C:World}(h:Z1z D A B)(k:Z1z D B C):Z1z D A C:=λb hb=>(k b hb).trans (h b hb)
theorem Z1z.putObj {B:Nat->Prop}{l:Nat}(W:World)(o:Obj)(h:¬ B l):Z1z B W (W.putObj l o):=λb hb=>zQ (by intro e;subst e;exact h hb)
theorem Z1z.below {C:Nat->Prop}{W B:World}(h:Below W.heap.size W B)(hb:∀ b,C b->b<W.heap.size):Z1z C W B:=λb x=>h.block b (hb b x)
theorem Z1z.setCell {B:Nat->Prop}(W:World)(p:Addr)(u:Value)(h:¬ B p.block):Z1z B W (W.setCell p u):=λb hb=>zg W p u b (by intro e;subst e;exact h hb)
structure Z94 {α:Type} (J:List α->World->Prop):Prop where
 below:∀ s W W',J s W->Below W.heap.size W W'->J s W'
def SeqS {α:Type}(F:Fence)(n:Nat)(P:Program)(g:Nat)(lb:Array Value)(encs:α->Array Value)(ok:World->Prop)(Bs:Nat->Prop)(S Sp:List α->Prop):Prop := ∀ (l:Nat) (J Jx:List α->World->Prop) (W:World),ok W->Z94 J -> (∀ pre x W1,J pre W1->Sp (pre++[x])->YieldAt F (n - 1) P l (encs x) W1 λe W' =>
   (e=.returned (.bool true)/\J (pre++[x]) W'/\Z1z Bs W1 W')\/(e=.returned (.bool false)/\Jx (pre++[x]) W')) ->
  J [] W ->
  CallsIn F n P g (#[.func (.yield l) #[] #[]]++lb) W λe W'=>(∃ v,e=.returned v)/\((∃ xs,S xs/\J xs W')\/(∃ pre,Sp pre/\Jx pre W'))
def Zfx {α:Type}(Bs:Nat->Prop)(B:Nat)(I:List α->World->Prop)(Ix:Code->List α->World->Prop)(xs:List α)(W:World):Exit->Act->World->Prop
 | .normal,_,W'=>KeepsFrom B W W'/\Z1z Bs W W'/\I xs W'
 | .ret,_,W'=>KeepsFrom B W W'/\Ix .ret xs W'
 | .exit id,_,W'=>KeepsFrom B W W'/\Ix (.exit id) xs W'
 | .goto t,_,W'=>KeepsFrom B W W'/\Ix (.goto t) xs W'
 | .panic _,_,_=>False
 | .outgrown,_,_=>False
variable {F:Fence} {n:Nat} {P:Program}
theorem Z7D {α:Type}{g:Operand}{Z:Array Tmp}{assign body:Code}{Q:Exit->Act->World->Prop}{a:Act}{w:World} (bz:F.round=none) (h1:1<=n) {gf:Nat} {lb:Array Value} (hg:a.eval g=.func (.func gf) #[] lb) (bm:F.fn gf) (eg:∀ args w,(callFunc gf args).run P w=.ok (.enter gf args) w) {j:α->Array Value} {ok:World->Prop} {f:Nat->Prop} {S r:List α->Prop} (bx:SeqS F (n - 1) P gf lb j ok f S r) (A:∀ b,f b->b<w.heap.size) (bh:∀ W',Below w.heap.size w W'->ok W') (bu:∀ x,(j x).size=Z.size) (I:List α->World->Prop) (X:Code->List α->World->Prop) (hI:Z94 I) (y:∀ s W l o o',I s W->w.heap.size<=l->W.heap[l]?=some o->o.isCells=false->I s (W.putObj l o')) (q:∀ c s W l o o',X c s W->w.heap.size<=l->W.heap[l]?=some o->o.isCells=false->X c s (W.putObj l o')) (h0:I [] w) (a₁:α->Act) (br:∀ (l:Nat) (x:α) (W:World) (K:Act->World->Prop),K (a₁ x) W -> assign.wpIn (F.inRound l) (n - 1 - 1) P (Exit.then K (λ_ _ _=>False)) { tmps:=(Z.zip (j x)).foldl (λt (p,v)=>t.setIfInBounds p v) a.tmps,defers:=[] } W) (bq:∀ (l:Nat) (C:List α) (x:α) (W:World),I C W->r (C++[x])->body.wpIn (F.inRound l) (n - 1 - 1) P (Zfx f w.heap.size I X (C++[x]) W) (a₁ x) W) (bf:∀ (D:Nat) (m:List α) (W:World),w.heap.size<=D->S m->I m W->W.heap[D]?=some (.deferred (some []))->Q .normal { a with defers:={ target:=.collected D,args:=#[] }::a.defers } W) (bt:∀ (D:Nat) (c:Code) (C:List α) (W:World),w.heap.size<=D->r C->X c C W->W.heap[D]?=some (.deferred (some []))->c.wpIn F n P Q { a with defers:={ target:=.collected D,args:=#[] }::a.defers } W) : (Code.rangeFunc g Z assign body).wpIn F n P Q a w:=by
 refine wpIn_rangeFunc ?_;intro fn bv;rw [bz];obtain ⟨B,L⟩:∃ B:LoopState->Option Code->Loop,B=λst pe=>{ state:=st,pending:=pe,fn,tmps:=a.tmps,params:=Z,assign,body,defers:=w.heap.size }:=⟨_,rfl⟩
 obtain ⟨J,d⟩:∃ J,(w.alloc (.deferred (some []))).alloc (.loop (B .ready none))=J:=⟨_,rfl⟩
 have bj:J.heap[w.heap.size+1]?=some (.loop (B .ready none)):=by rw [<- d];have:=za (w.alloc (.deferred (some []))) (.loop (B .ready none));rwa [zk] at this
 have bk:J.heap[w.heap.size]?=some (.deferred (some [])):=by rw [<- d];exact (Below.heap_alloc _ _ _ (by simp)).trans (za w _)
 have hb1:Below w.heap.size w J:=by rw [<- d];exact ((zr _ w).alloc (zn _) _).alloc (by simp) _
 have be:I [] J:=hI.below _ _ _ h0 hb1;refine ⟨w.heap.size+1,[{ target:=.collected w.heap.size,args:=#[] }],J,{ target:=.fn (.func gf) lb,args:=#[.func (.yield (w.heap.size+1)) #[] #[]] },J,gf, #[.func (.yield (w.heap.size+1)) #[] #[]]++lb,J,?_,?_,?_,?_,λ_=>h1,?_⟩
 · rw [<- d,L];exact run_enterLoop_outer _ _ _ _ _
 · simp only [resolve,hg];simp [go_sem]
 · intro f' ba;simp [Target.leads] at ba;subst ba;exact bm
 · simp [invoke,go_sem,eg]
 · refine (bx (w.heap.size+1) (λC W=>I C W/\W.heap[w.heap.size+1]?=some (.loop (B .ready none))/\W.heap[w.heap.size]?=some (.deferred (some []))) (λC W=>∃ c,X c C W/\W.heap[w.heap.size+1]?=some (.loop (B .done (some c)))/\W.heap[w.heap.size]?=some (.deferred (some []))) J (bh J hb1) ⟨λs W W' hs hb=>⟨hI.below _ _ _ hs.1 hb,(hb.block _ (zs hs.2.1)).trans hs.2.1,(hb.block _ (zs hs.2.2)).trans hs.2.2⟩⟩
    ?_ ⟨be,bj,bk⟩).mono ?_
   · rintro C x W ⟨Y,M,hk⟩ bs;have bn:w.heap.size+1<W.heap.size:=(zs M)
     have hy:=run_yield (P:=P) (args:=j x) M (by rw [L];exact bu x);rw [L] at hy;refine ⟨fn,_,assign,body,hy,roundIn_of_wpIn bv (br _ x W _ ⟨_,run_beginRound M (by rw [L]),?_⟩)⟩;have bd:(W.putObj (w.heap.size+1) (.loop { B .ready none with state:=.busy })).heap[w.heap.size+1]?=some (.loop { B .ready none with state:=.busy }):=World.putObj_heap_same bn;have bb:(W.putObj (w.heap.size+1) (.loop { B .ready none with state:=.busy })).heap[w.heap.size]?=some (.deferred (some [])):=(zQ (by omega)).trans hk;have bp:Z1z f W (W.putObj (w.heap.size+1) (.loop { B .ready none with state:=.busy })):=Z1z.putObj _ _ (λh=>by have:=A _ h;omega);refine wpIn_mono (bq _ C x _ (y _ _ _ _ _ Y (by omega) M rfl) bs) ?_;have fin:∀ (jump:Option Code) (G:World),KeepsFrom w.heap.size (W.putObj (w.heap.size+1) (.loop { B .ready none with state:=.busy })) G -> (Instr.endRound (w.heap.size+1) jump).run P G=.ok (.bool jump.isNone) (G.putObj (w.heap.size+1) (.loop (B (if jump.isNone then .ready else .done) jump))) /\ G.heap[w.heap.size+1]?=some (.loop { B .ready none with state:=.busy }) /\ (G.putObj (w.heap.size+1) (.loop (B (if jump.isNone then .ready else .done) jump))).heap[w.heap.size+1]?=some (.loop (B (if jump.isNone then .ready else .done) jump)) /\ (G.putObj (w.heap.size+1) (.loop (B (if jump.isNone then .ready else .done) jump))).heap[w.heap.size]?=some (.deferred (some [])):=λjump G N=>by
      have H:=N.same _ _ (by omega) bd rfl;have:=run_endRound (P:=P) jump H;rw [L] at this |-
      exact ⟨this,by rw [L] at H;exact H,World.putObj_heap_same (zs H),(zQ (by omega)).trans (N.same _ _ (zn _) bb rfl)⟩
     rintro e a3 G V;cases e with
     | normal =>obtain ⟨N,bg,U⟩:=V;obtain ⟨O,H,T,R⟩:=fin none G N;exact ⟨_,_,O,.inl ⟨rfl,⟨y _ _ _ _ _ U (by omega) H rfl,T,R⟩,(bp.trans bg).trans (Z1z.putObj _ _ (λh=>by have:=A _ h;omega))⟩⟩
     | ret =>obtain ⟨N,U⟩:=V;obtain ⟨O,H,T,R⟩:=fin (some .ret) G N;exact ⟨_,_,O,.inr ⟨rfl,.ret,q _ _ _ _ _ _ U (by omega) H rfl,T,R⟩⟩
     | exit id =>obtain ⟨N,U⟩:=V;obtain ⟨O,H,T,R⟩:=fin (some (.exit id)) G N;exact ⟨_,_,O,.inr ⟨rfl,.exit id,q _ _ _ _ _ _ U (by omega) H rfl,T,R⟩⟩
     | goto t =>obtain ⟨N,U⟩:=V;obtain ⟨O,H,T,R⟩:=fin (some (.goto t)) G N;exact ⟨_,_,O,.inr ⟨rfl,.goto t,q _ _ _ _ _ _ U (by omega) H rfl,T,R⟩⟩
     | panic ch=>exact V.elim
     | outgrown=>exact V.elim
   · rintro e W2 ⟨⟨v,rfl⟩,(⟨m,hS,Y,M,hk⟩ | ⟨C,bc,c,Y,M,hk⟩)⟩
     · exact ⟨none,_,by have:=run_endLoop (P:=P) M (by rw [L];simp);rw [L] at this;exact this,bf _ m _ (zn _) hS (y _ _ _ _ _ Y (by omega) M rfl) ((zQ (by omega)).trans hk)⟩
     · exact ⟨some c,_,by have:=run_endLoop (P:=P) M (by rw [L];simp);rw [L] at this;exact this,bt _ c C _ (zn _) bc (q _ _ _ _ _ _ Y (by omega) M rfl) ((zQ (by omega)).trans hk)⟩
theorem Z7E {α:Type}{g:Operand}{d:Array Tmp}{assign body:Code}{Q:Exit->Act->World->Prop}{a:Act}{w:World} (bC:F.round=none) (h1:1<=n) {gf:Nat} {lb:Array Value} (hg:a.eval g=.func (.func gf) #[] lb) (bq:F.fn gf) (eg:∀ args w,(callFunc gf args).run P w=.ok (.enter gf args) w) {q:α->Array Value} {ok:World->Prop} {j:Nat->Prop} {S m:List α->Prop} (bB:SeqS F (n - 1) P gf lb q ok j S m) (hBs:∀ b,j b->b<w.heap.size) (bm:∀ W',Below w.heap.size w W'->ok W') (bv:∀ x,(q x).size=d.size) (I:List α->World->Prop) (Y:Code->List α->World->Prop) (hI:Z94 I) (hIp:∀ s W l o o',I s W->w.heap.size<=l->W.heap[l]?=some o->o.isCells=false->I s (W.putObj l o')) (y:∀ c s W l o o',Y c s W->w.heap.size<=l->W.heap[l]?=some o->o.isCells=false->Y c s (W.putObj l o')) (h0:I [] w) (A:α->Act->World->Prop) (hAp:∀ x M W l o o',A x M W->W.heap[l]?=some o->o.isCells=false->A x M (W.putObj l o')) (bz:∀ (l:Nat) (C:List α) (x:α) (W:World) (K:Act->World->Prop),w.heap.size<=W.heap.size->m (C++[x])->(∀ M W',Below W.heap.size W W'->A x M W'->K M W') -> assign.wpIn (F.inRound l) (n - 1 - 1) P (Exit.then K (λ_ _ _=>False)) { tmps:=(d.zip (q x)).foldl (λt (p,v)=>t.setIfInBounds p v) a.tmps,defers:=[] } W) (bt:∀ (l:Nat) (C:List α) (x:α) (M:Act) (W:World),I C W->A x M W->m (C++[x])->body.wpIn (F.inRound l) (n - 1 - 1) P (Zfx j w.heap.size I Y (C++[x]) W) M W) (bj:∀ (D:Nat) (r:List α) (W:World),w.heap.size<=D->S r->I r W->W.heap[D]?=some (.deferred (some []))->Q .normal { a with defers:={ target:=.collected D,args:=#[] }::a.defers } W) (bu:∀ (D:Nat) (c:Code) (C:List α) (W:World),w.heap.size<=D->m C->Y c C W->W.heap[D]?=some (.deferred (some []))->c.wpIn F n P Q { a with defers:={ target:=.collected D,args:=#[] }::a.defers } W) : (Code.rangeFunc g d assign body).wpIn F n P Q a w:=by
 refine wpIn_rangeFunc ?_;intro fn bx;rw [bC];obtain ⟨B,L⟩:∃ B:LoopState->Option Code->Loop,B=λst pe=>{ state:=st,pending:=pe,fn,tmps:=a.tmps,params:=d,assign,body,defers:=w.heap.size }:=⟨_,rfl⟩
 obtain ⟨J,f⟩:∃ J,(w.alloc (.deferred (some []))).alloc (.loop (B .ready none))=J:=⟨_,rfl⟩
 have bn:J.heap[w.heap.size+1]?=some (.loop (B .ready none)):=by rw [<- f];have:=za (w.alloc (.deferred (some []))) (.loop (B .ready none));rwa [zk] at this
 have bp:J.heap[w.heap.size]?=some (.deferred (some [])):=by rw [<- f];exact (Below.heap_alloc _ _ _ (by simp)).trans (za w _)
 have bb:Below w.heap.size w J:=by rw [<- f];exact ((zr _ w).alloc (zn _) _).alloc (by simp) _
 have bh:I [] J:=hI.below _ _ _ h0 bb;refine ⟨w.heap.size+1,[{ target:=.collected w.heap.size,args:=#[] }],J,{ target:=.fn (.func gf) lb,args:=#[.func (.yield (w.heap.size+1)) #[] #[]] },J,gf, #[.func (.yield (w.heap.size+1)) #[] #[]]++lb,J,?_,?_,?_,?_,λ_=>h1,?_⟩
 · rw [<- f,L];exact run_enterLoop_outer _ _ _ _ _
 · simp only [resolve,hg];simp [go_sem]
 · intro f' bd;simp [Target.leads] at bd;subst bd;exact bq
 · simp [invoke,go_sem,eg]
 · refine (bB (w.heap.size+1) (λC W=>I C W/\W.heap[w.heap.size+1]?=some (.loop (B .ready none))/\W.heap[w.heap.size]?=some (.deferred (some []))) (λC W=>∃ c,Y c C W/\W.heap[w.heap.size+1]?=some (.loop (B .done (some c)))/\W.heap[w.heap.size]?=some (.deferred (some []))) J (bm J bb) ⟨λs W W' hs hb=>⟨hI.below _ _ _ hs.1 hb,(hb.block _ (zs hs.2.1)).trans hs.2.1,(hb.block _ (zs hs.2.2)).trans hs.2.2⟩⟩
    ?_ ⟨bh,bn,bp⟩).mono ?_
   · rintro C x W ⟨Z,O,hk⟩ bc;have br:w.heap.size+1<W.heap.size:=(zs O)
     have hy:=run_yield (P:=P) (args:=q x) O (by rw [L];exact bv x);rw [L] at hy;refine ⟨fn,_,assign,body,hy,roundIn_of_wpIn bx (bz _ C x W _ (by omega) bc λM W' hb' hA'=>?_)⟩;have bD:=hb'.size;have ba:W'.heap[w.heap.size+1]?=some (.loop (B .ready none)):=(hb'.block _ br).trans O;have bA:W'.heap[w.heap.size]?=some (.deferred (some [])):=(hb'.block _ (by omega)).trans hk;refine ⟨_,run_beginRound ba (by rw [L]),?_⟩;have bg:(W'.putObj (w.heap.size+1) (.loop { B .ready none with state:=.busy })).heap[w.heap.size+1]?=some (.loop { B .ready none with state:=.busy }):=World.putObj_heap_same (by omega);have be:(W'.putObj (w.heap.size+1) (.loop { B .ready none with state:=.busy })).heap[w.heap.size]?=some (.deferred (some [])):=(zQ (by omega)).trans bA;have bs:Z1z j W (W'.putObj (w.heap.size+1) (.loop { B .ready none with state:=.busy })):=(Z1z.below hb' (λb hb=>by have:=hBs b hb;omega)).trans (Z1z.putObj _ _ (λh=>by have:=hBs _ h;omega));refine wpIn_mono (bt _ C x M _ (hIp _ _ _ _ _ (hI.below _ _ _ Z hb') (by omega) ba rfl) (hAp _ _ _ _ _ _ hA' ba rfl) bc) ?_;have fin:∀ (jump:Option Code) (G:World),KeepsFrom w.heap.size (W'.putObj (w.heap.size+1) (.loop { B .ready none with state:=.busy })) G -> (Instr.endRound (w.heap.size+1) jump).run P G=.ok (.bool jump.isNone) (G.putObj (w.heap.size+1) (.loop (B (if jump.isNone then .ready else .done) jump))) /\ G.heap[w.heap.size+1]?=some (.loop { B .ready none with state:=.busy }) /\ (G.putObj (w.heap.size+1) (.loop (B (if jump.isNone then .ready else .done) jump))).heap[w.heap.size+1]?=some (.loop (B (if jump.isNone then .ready else .done) jump)) /\ (G.putObj (w.heap.size+1) (.loop (B (if jump.isNone then .ready else .done) jump))).heap[w.heap.size]?=some (.deferred (some [])):=λjump G N=>by
      have H:=N.same _ _ (by omega) bg rfl;have:=run_endRound (P:=P) jump H;rw [L] at this |-
      exact ⟨this,by rw [L] at H;exact H,World.putObj_heap_same (zs H),(zQ (by omega)).trans (N.same _ _ (zn _) be rfl)⟩
     rintro e a3 G X;cases e with
     | normal =>obtain ⟨N,bk,V⟩:=X;obtain ⟨R,H,U,T⟩:=fin none G N;exact ⟨_,_,R,.inl ⟨rfl,⟨hIp _ _ _ _ _ V (by omega) H rfl,U,T⟩,(bs.trans bk).trans (Z1z.putObj _ _ (λh=>by have:=hBs _ h;omega))⟩⟩
     | ret =>obtain ⟨N,V⟩:=X;obtain ⟨R,H,U,T⟩:=fin (some .ret) G N;exact ⟨_,_,R,.inr ⟨rfl,.ret,y _ _ _ _ _ _ V (by omega) H rfl,U,T⟩⟩
     | exit id =>obtain ⟨N,V⟩:=X;obtain ⟨R,H,U,T⟩:=fin (some (.exit id)) G N;exact ⟨_,_,R,.inr ⟨rfl,.exit id,y _ _ _ _ _ _ V (by omega) H rfl,U,T⟩⟩
     | goto t =>obtain ⟨N,V⟩:=X;obtain ⟨R,H,U,T⟩:=fin (some (.goto t)) G N;exact ⟨_,_,R,.inr ⟨rfl,.goto t,y _ _ _ _ _ _ V (by omega) H rfl,U,T⟩⟩
     | panic ch=>exact X.elim
     | outgrown=>exact X.elim
   · rintro e W2 ⟨⟨v,rfl⟩,(⟨r,hS,Z,O,hk⟩ | ⟨C,bf,c,Z,O,hk⟩)⟩
     · exact ⟨none,_,by have:=run_endLoop (P:=P) O (by rw [L];simp);rw [L] at this;exact this,bj _ r _ (zn _) hS (hIp _ _ _ _ _ Z (by omega) O rfl) ((zQ (by omega)).trans hk)⟩
     · exact ⟨some c,_,by have:=run_endLoop (P:=P) O (by rw [L];simp);rw [L] at this;exact this,bu _ c C _ (zn _) bf (y _ _ _ _ _ _ Z (by omega) O rfl) ((zQ (by omega)).trans hk)⟩
end
end Go.Proofs.YtnepkoepbapgeaaGreatDoor
