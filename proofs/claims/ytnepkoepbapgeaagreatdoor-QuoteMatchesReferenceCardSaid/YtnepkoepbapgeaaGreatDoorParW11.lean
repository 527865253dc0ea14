import Derived.Test.YtnepkoepbapgeaaGreatDoorParW7
namespace Go.Proofs.YtnepkoepbapgeaaGreatDoor
open _root_.Go.Proofs.Tryz
open Value (int slice)
open IntKind (i64)
set_option maxHeartbeats 8000000
set_option maxRecDepth 100000
section
open Go.RowKit Lx Px
def Z0j (s:Bytes)(ts:List Tok)(k:Nat):Except Nat (Int × Nat) :=
 if nxt ts k=s then (if Z0b (nxt ts (k+1))=2 then .ok (dval (nxt ts (k+1)),k+1+1) else .error (k+1)) else .error k
def NP (pb:Nat)(v:Value)(ts:List Tok)(o:Except Nat (Int × Nat))(w:World)(e:Ending)(w':World):Prop :=
 match o with
 | .ok (n,k')=>But pb w w'/\PI w' pb v ts k'/\e=.returned (int i64 n)
 | .error k'=>But pb w w'/\e=.panicked [Zbq ts k']
theorem Zmj:Z0b []=0:=by decide
theorem Zq6 {ts:List Tok}{k:Nat}(h:Z0b (nxt ts k)=2):k<ts.length:=by
 by_cases hk:k<ts.length
 · exact hk
 · rw [Z5A ts k hk,Zmj] at h;omega
theorem Z20 (w:World)(pb:Nat)(v:Value)(ts:List Tok)(k:Nat)(h:PI w pb v ts k)(s:Bytes)(S:s≠[]) : Calls prog 160 #[.pointer (some ⟨pb,0,none⟩),.string (mk s)] w (NP pb v ts (Z0j s ts k) w):=by
 unfold Z0j;have H:=zh h;clear h;by_cases h1:nxt ts k=s
 · have L:=Z33 h1 S;rw [zp h1];have F:=zh h1;clear h1;by_cases h2:Z0b (nxt ts (k+1))=2
   · rw [zp h2];have T:=Zq6 h2;have J:=zh h2;clear h2;go_enter func160,ntmps160;go_wp2_with fail;refine (Z1m _ pb v ts k H.out L s F.out).mono ?_;rintro e M ⟨rfl,C,B⟩;have I:=zh C;have G:=zh B;clear C B;go_wp2_with fail;refine (Z8k _ pb v ts (k+1) I.out T 2 J.out (by omega)).mono ?_;rintro e Y ⟨rfl,N,D⟩;have X:=zh N;have U:=zh (G.out.trans D);clear N D;go_wp2_with fail;go_ret;exact ⟨U.out,X.out,rfl⟩
   · rw [zf h2];have J:=zh h2;clear h2;have R:=H.out.2.2.2.2.1;have O:kdAt ts (k+1)≠2:=by have:=Zan R 2 (by omega) J.out;exact λe=>by rw [e] at this;simp at this
     have V:=zh O;clear R O;go_enter func160,ntmps160;go_wp2_with fail;refine (Z1m _ pb v ts k H.out L s F.out).mono ?_;rintro e M ⟨rfl,C,B⟩;have I:=zh C;have G:=zh B;clear C B;go_wp2_with fail;refine (Zmi _ pb v ts (k+1) I.out 2 V.out).mono ?_;rintro e Y ⟨rfl,D⟩;exact ⟨rfl,G.out.on D,rfl⟩
 · rw [zf h1];have F:=zh h1;clear h1;go_enter func160,ntmps160;go_wp2_with fail;refine (Z2G _ pb v ts k H.out s F.out).mono ?_;rintro e M ⟨rfl,B⟩;exact ⟨rfl,But.of_below B,rfl⟩
end
section
open Go.RowKit Lx Px
def pctN (n:Int):Int:=n.tdiv (Nat.gcd n.natAbs 100:Nat)
def pctD (n:Int):Int:=(100:Int).tdiv (Nat.gcd n.natAbs 100:Nat)
theorem Zgh (n:Int)(C:0<=n)(G:n<=999999999):0<=pctN n/\pctN n<=999999999/\0<=pctD n/\pctD n<=100:=by
 have F:0<Nat.gcd n.natAbs 100:=Nat.gcd_pos_of_pos_right _ (by omega);unfold pctN pctD;generalize Nat.gcd n.natAbs 100=g at *
 obtain ⟨m,rfl⟩:=zE2 C;have B:((m:Int)).tdiv (g:Int)=((m / g:Nat):Int):=by rw [Int.tdiv_eq_ediv_of_nonneg (by omega)];rfl
 have D:((100:Int)).tdiv (g:Int)=((100 / g:Nat):Int):=by rw [Int.tdiv_eq_ediv_of_nonneg (by omega)];rfl
 rw [B,D];have I:=Nat.div_le_self m g;have H:=Nat.div_le_self 100 g;generalize m / g=q at *
 generalize 100 / g=r at *
 omega
theorem Zq7 (n:Int)(w:World)(S:0<=n)(T:n<=999999999) : Calls prog 215 #[.agg #[int i64 n,int i64 100]] w λe w'=>e=.returned (.tuple #[.agg #[int i64 (pctN n),int i64 (pctD n)],int i64 0])/\Below w.heap.size w w':=by
 obtain ⟨Z,d,Y,f⟩:=Zgh n S T;have G:∀ W:World,Calls prog 154 #[.agg #[int i64 n,int i64 100]] W λe w'=>e=.returned (.agg #[int i64 (pctN n),int i64 (pctD n)])/\Below W.heap.size W w':=λW=>Z8t n 100 W (by omega) (by omega) (by omega) (by omega);generalize pctN n=a at *
 generalize pctD n=b at *
 have D:∀ W:World,Calls prog 113 #[int i64 a] W λe w'=>e=.returned (int i64 a)/\W=w':=λW=>by have:=ZbA a W (by omega) (by omega);rwa [show ((a.natAbs:Nat):Int)=a by omega] at this
 have N:=zh G;have M:=zh D;clear G D;have H:Below w.heap.size w ((w.alloc (.cells #[int i64 n,int i64 100] 158)).alloc (.cells #[int i64 0,int i64 0] 60)):=((zr _ _).alloc (zn _) _).alloc (by simp) _;have I:=Z11 w (.cells #[int i64 n,int i64 100] 158) (.cells #[int i64 0,int i64 0] 60);have V:=zh H;have F:=zh I;clear H I;go_enter func215,ntmps215;go_wp2_with fail;generalize (w.alloc (.cells #[int i64 n,int i64 100] 158)).alloc (.cells #[int i64 0,int i64 0] 60)=U at *
 refine (N.out U).mono ?_;rintro e C ⟨rfl,hb⟩;have B:=(hb.block _ (zs F.out.2)).trans F.out.2;have O:=zh (Z00 V.out hb);have L:w.heap.size+1<C.heap.size:=(zs B)
 have R:C.cell? ⟨w.heap.size+1,0,none⟩=some (int i64 0):=by rw [zc B];rfl
 have J:C.cell? ⟨w.heap.size+1,1,none⟩=some (int i64 0):=by rw [zc B];rfl
 have g:C.frozen? ⟨w.heap.size+1,0,none⟩=false:=by simp [World.frozen?,B]
 have X:C.frozen? ⟨w.heap.size+1,1,none⟩=false:=by simp [World.frozen?,B]
 clear B hb;go_wp2_with (go_at_call 113;refine (M.out _).mono ?_;rintro e w' ⟨rfl,rfl⟩);refine bodyPost_ret (v:=.tuple #[.agg #[int i64 a,int i64 b],int i64 0]) (by simp [results,results215,go_sem,R,J,L]) rfl ⟨rfl,?_⟩;exact ((O.out.setCell (p:=⟨w.heap.size+1,0,none⟩) (by show w.heap.size<=w.heap.size+1;omega) _).setCell (p:=⟨w.heap.size+1,1,none⟩) (by show w.heap.size<=w.heap.size+1;omega) _).alloc (by simp only [World.setCell,Array.size_modify];omega) _
theorem Zin (k:Int)(w:World)(D:0<=k)(C:k<=999999999):Calls prog 214 #[int i64 k] w λe w'=>e=.returned (.bool false)/\w=w':=by
 have B:decide (k < -1000000000000000)=false:=by simpa using (by omega:¬ k < -1000000000000000)
 have F:decide ((1000000000000000:Int)<k)=false:=by simpa using (by omega:¬ (1000000000000000:Int)<k)
 go_enter func214,ntmps214;go_wp2_with fail;go_ret;exact ⟨rfl,rfl⟩
theorem Zmk (n:Int)(w:World)(I:0<=n)(L:n<=999999999) : Calls prog 161 #[int i64 n,int i64 100] w λe w'=>e=.returned (.tuple #[.agg #[int i64 (pctN n),int i64 (pctD n)],int i64 0])/\Below w.heap.size w w':=by
 have J:∀ W:World,Calls prog 215 #[.agg #[int i64 n,int i64 100]] W λe w'=>e=.returned (.tuple #[.agg #[int i64 (pctN n),int i64 (pctD n)],int i64 0])/\Below W.heap.size W w':=λW=>Zq7 n W I L;have D:∀ W:World,Calls prog 214 #[int i64 n] W λe w'=>e=.returned (.bool false)/\W=w':=λW=>Zin n W I L;have H:∀ W:World,Calls prog 214 #[int i64 100] W λe w'=>e=.returned (.bool false)/\W=w':=λW=>Zin 100 W (by omega) (by omega);have R:=zh J;have O:=zh D;have U:=zh H;clear J D H;have G:Below w.heap.size w (w.alloc (.cells #[int i64 0,int i64 0] 60)):=(zr _ _).alloc (zn _) _;have M:=za w (.cells #[int i64 0,int i64 0] 60);have X:=zh G;have F:=zh M;clear G M;go_enter func161,ntmps161;go_wp2_with (first | (go_at_call 214;refine (O.out _).mono ?_;rintro e w' ⟨rfl,rfl⟩) | (go_at_call 214;refine (U.out _).mono ?_;rintro e w' ⟨rfl,rfl⟩));generalize w.alloc (.cells #[int i64 0,int i64 0] 60)=V at *
 refine (R.out V).mono ?_;rintro e C ⟨rfl,hb⟩;have B:=(hb.block _ (zs F.out)).trans F.out;have S:=zh (Z00 X.out hb);have T:C.cell? ⟨w.heap.size,0,none⟩=some (int i64 0):=by rw [zc B];rfl
 have N:C.cell? ⟨w.heap.size,1,none⟩=some (int i64 0):=by rw [zc B];rfl
 have Z:C.frozen? ⟨w.heap.size,0,none⟩=false:=by simp [World.frozen?,B]
 have Y:C.frozen? ⟨w.heap.size,1,none⟩=false:=by simp [World.frozen?,B]
 clear B hb;go_wp2_with fail;refine bodyPost_ret (v:=.tuple #[.agg #[int i64 (pctN n),int i64 (pctD n)],int i64 0]) (by simp [results,results161,go_sem,T,N]) rfl ⟨rfl,?_⟩;exact (S.out.setCell (p:=⟨w.heap.size,0,none⟩) (zn _) _).setCell (p:=⟨w.heap.size,1,none⟩) (zn _) _
end
section
open Go.RowKit Lx Px
structure Rr where
 id:Int
 lv:Int
 kd:Int
 fr:Int
 un:Int
 ls:Int
 mo:Int
 ar:Int
 kp:Int
 wh:Ex
 pr:Ex
inductive ROut where
 | ok (r:Rr) (k:Nat)
 | no (k:Nat)
 | bad
def Z6G (x:Except Nat (Int × Nat))(f:Int->Nat->ROut):ROut :=
 match x with
 | .error j=>.no j
 | .ok (n,k)=>f n k
def Z4s (s:Bytes)(ts:List Tok)(k:Nat)(f:Nat->ROut):ROut:=if nxt ts k=s then f (k+1) else .no k
def Zgi (o:Out)(f:Ex->Nat->ROut):ROut :=
 match o with
 | .no j=>.no j
 | .ok e k=>f e k
def Z6H:Bytes:=[114,97,116,101]
def Zbr:Bytes:=[108,101,118,101,108]
def Zip:Bytes:=[107,105,110,100]
def Z70:Bytes:=[110,105,103,104,116,115]
def kTo:Bytes:=[116,111]
def Ziq:Bytes:=[115,116,97,121]
def Z8m:Bytes:=[97,114,114,105,118,101]
def Zir:Bytes:=[107,101,101,112]
def Zgj:Bytes:=[119,104,101,110]
def Z9k:Bytes:=[112,114,105,99,101]
def Z4v (ex:Nat->Out)(ts:List Tok)(k:Nat):ROut := Z6G (Z0j Z6H ts k) λid k=>Z6G (Z0j Zbr ts k) λlv k=>Z6G (Z0j Zip ts k) λkd k =>
 Z6G (Z0j Z70 ts k) λfr k=>Z6G (Z0j kTo ts k) λun k=>Z6G (Z0j Ziq ts k) λls k=>Z6G (Z0j kTo ts k) λmo k =>
 Z6G (Z0j Z8m ts k) λar k=>Z6G (Z0j Zir ts k) λkp k=>Z4s [37] ts k λk=>Z4s Zgj ts k λk =>
 Zgi (ex k) λwh k=>Z4s Z9k ts k λk=>Zgi (ex k) λpr k=>Z4s [59] ts k λk =>if Z0i wh.1.1 wh.1.2 wh.2&&Z0i pr.1.1 pr.1.2 pr.2 then .ok ⟨id,lv,kd,fr,un,ls,mo,ar,kp,wh,pr⟩ k else .bad
theorem Zmm {t:Bytes}(h:Z0b t=2):0<=dval t/\dval t<=999999999:=by
 have key:Z2z t=true:=by
  unfold Z0b at h;split at h
  · omega
  · split at h
    · assumption
    · split at h
      · omega
      · split at h <;> omega
 simp only [Z2z,allR,zd,Bool.not_eq_true',List.isEmpty_eq_false_iff,decide_eq_true_eq] at key;have J:t.filter (· != 46)=t:=by rw [List.filter_eq_self];intro c F;have:=Z4u key.1.1.2 F;simp only [bne_iff_ne];rintro rfl;exact absurd this (by decide)
 unfold dval;rw [J];have hb:∀ (l:Bytes) (a:Int),l.all (inR 48 57)=true->0<=a->a*10 ^ l.length<=l.foldl (λn c=>10*n+((c.toNat:Int) - 48)) a/\l.foldl (λn c=>10*n+((c.toNat:Int) - 48)) a<(a+1)*10 ^ l.length:=by
  intro l;induction l with
  | nil=>intro a _ _;simp;omega
  | cons c l ih =>
   intro a B N;simp only [List.all_cons,zd] at B;have F:48<=c.toNat/\c.toNat<=57:=by have:=B.1;simp only [inR,zd,decide_eq_true_eq] at this;omega
   obtain ⟨C,D⟩:=ih (10*a+((c.toNat:Int) - 48)) B.2 (by omega);simp only [List.foldl_cons,zw];have M:(0:Int)<10 ^ l.length:=Int.pow_pos (by omega);have H:(10:Int) ^ (l.length+1)=10*10 ^ l.length:=by rw [Int.pow_succ];omega
   have I:a*(10*10 ^ l.length)<=(10*a+((c.toNat:Int) - 48))*10 ^ l.length:=by rw [<- Int.mul_assoc];exact Int.mul_le_mul_of_nonneg_right (by omega) (by omega)
   have L:(10*a+((c.toNat:Int) - 48)+1)*10 ^ l.length<=(a+1)*(10*10 ^ l.length):=by rw [<- Int.mul_assoc];exact Int.mul_le_mul_of_nonneg_right (by omega) (by omega)
   rw [H];exact ⟨Int.le_trans I C,Int.lt_of_lt_of_le D L⟩
 obtain ⟨C,D⟩:=hb t 0 key.1.1.2 (by omega);have G:(10:Int) ^ t.length<=10 ^ 9:=by have B:t.length<=9:=key.1.2;have:=Nat.pow_le_pow_right (show 0<10 by omega) B;exact_mod_cast this
 unfold val;constructor
 · simpa using C
 · have:(1:Int)*10 ^ t.length<=1000000000:=by simpa using G
   simp only [Int.zero_add] at D;omega
theorem Z21 {s:Bytes}{ts:List Tok}{k B:Nat}{n:Int}(h:Z0j s ts k=.ok (n,B)):0<=n/\n<=999999999:=by
 unfold Z0j at h;split at h
 · split at h
   · rename_i C;injection h with h
     injection h with h3 h4
     rw [<- h3];exact Zmm C
   · cases h
 · cases h
end
section
open Go.RowKit Lx Px
def RF (w:World)(pb:Nat)(wx:World):Prop:=But pb w wx/\RBox w #[int i64 0,int i64 0,int i64 0,int i64 0,int i64 0,int i64 0,int i64 0,int i64 0,int i64 0,int i64 0,int i64 0,int i64 0,slice none 0 0,int i64 0,int i64 0,slice none 0 0] 65 wx/\pb<w.heap.size
theorem RF.but {w:World}{pb:Nat}{C B:World}(h:RF w pb C)(hb:But pb C B):RF w pb B := ⟨h.1.trans hb,(hb.block _ h.2.1.lt (by have:=h.2.2;omega)).trans h.2.1,h.2.2⟩
def RtI (w:World)(pb b4:Nat)(cs:Array Value)(wx:World):Prop:=RF w pb wx/\wx.heap[b4]?=some (.cells cs 65 (0,0))/\w.heap.size<b4
theorem RtI.but {w:World}{pb b4:Nat}{cs:Array Value}{C B:World}(h:RtI w pb b4 cs C)(hb:But pb C B):RtI w pb b4 cs B := ⟨h.1.but hb,(hb.block _ (zs h.2.1) (by have:=h.1.2.2;have:=h.2.2;omega)).trans h.2.1,h.2.2⟩
theorem set_at {w:World}{b:Nat}{cs:Array Value}{B:TypeId}(h:w.heap[b]?=some (.cells cs B (0,0)))(i:Nat)(x:Value):(w.setCell ⟨b,i,none⟩ x).heap[b]?=some (.cells (cs.setIfInBounds i x) B (0,0)):=by
 simp [World.setCell,zM,h]
theorem RtI.set {w:World}{pb b4:Nat}{cs:Array Value}{B:World}(h:RtI w pb b4 cs B)(i:Nat)(x:Value):RtI w pb b4 (cs.setIfInBounds i x) (B.setCell ⟨b4,i,none⟩ x):=by
 obtain ⟨⟨C,F,D⟩,H,G⟩:=h;refine ⟨⟨C.new (p:=⟨b4,i,none⟩) (by show w.heap.size<=b4;omega) _,?_,D⟩,set_at H i x,G⟩;exact (zg _ _ _ _ (show w.heap.size≠b4 by omega)).trans F
theorem RtI.cell {w:World}{pb b4:Nat}{cs:Array Value}{B:World}(h:RtI w pb b4 cs B)(i:Nat)(x:Value)(C:cs[i]?=some x):B.cell? ⟨b4,i,none⟩=some x:=by rw [zc h.2.1,C]
theorem RtI.free {w:World}{pb b4:Nat}{cs:Array Value}{B:World}(h:RtI w pb b4 cs B)(i:Nat):B.frozen? ⟨b4,i,none⟩=false:=by simp [World.frozen?,h.2.1]
theorem RtI.far {w:World}{pb b4:Nat}{cs:Array Value}{B:World}(h:RtI w pb b4 cs B):pb<b4:=by have:=h.1.2.2;have:=h.2.2;omega
def Tq (w:World)(b4:Nat)(wx:World)(A:Option Addr)(c:Nat)(f:Fo):Prop:=FoD wx (λb=>w.heap.size<b/\b≠b4/\b<wx.heap.size) (slice A (flen f) c) f
theorem Tq.but {w:World}{pb b4:Nat}{C B:World}{A:Option Addr}{c:Nat}{f:Fo}(h:Tq w b4 C A c f)(hb:But pb C B)(D:pb<w.heap.size):Tq w b4 B A c f := FoD.keep h (λb x=>⟨x.1,x.2.1,by have:=hb.size;have:=x.2.2;omega⟩) (λb x=>hb.block b x.2.2 (by have:=x.1;omega))
theorem Tq.set {w:World}{b4:Nat}{B:World}{A:Option Addr}{c:Nat}{f:Fo}(h:Tq w b4 B A c f)(i:Nat)(x:Value):Tq w b4 (B.setCell ⟨b4,i,none⟩ x) A c f := FoD.keep h (λb y=>⟨y.1,y.2.1,by simp only [World.setCell,Array.size_modify];exact y.2.2⟩) (λb y=>zg _ _ _ _ y.2.1)
theorem Tq.of {w C B:World}{b4:Nat}{A:Option Addr}{c:Nat}{f:Fo}(h:FoD B (λb=>C.heap.size<=b/\b<B.heap.size) (slice A (flen f) c) f)(F:w.heap.size<C.heap.size)(D:b4<C.heap.size):Tq w b4 B A c f := FoD.keep h (λb x=>⟨by have:=x.1;omega,by have:=x.1;omega,x.2⟩) (λ_ _=>rfl)
def rrV (r:Rr)(A1:Option Addr)(c1:Nat)(A2:Option Addr)(c2:Nat):Value := .agg #[int i64 r.id,int i64 r.lv,int i64 r.kd,int i64 r.fr,int i64 r.un,int i64 r.ls,int i64 r.mo,int i64 r.ar,int i64 (pctN r.kp),int i64 (pctD r.kp),int i64 r.wh.1.1,int i64 r.wh.1.2,slice A1 (flen r.wh.2) c1,int i64 r.pr.1.1,int i64 r.pr.1.2,slice A2 (flen r.pr.2) c2]
def badV (ts:List Tok)(k:Nat):PanicEntry:={ v:=.iface 177 (.agg #[int i64 1,int i64 (lnAt ts k)]),recovered:=false }
def RtP (pb:Nat)(v:Value)(ts:List Tok)(k:Nat)(o:ROut)(w:World)(e:Ending)(w':World):Prop :=
 match o with
 | .ok r k'=>But pb w w'/\PI w' pb v ts k'/\∃ A1 c1 A2 c2,e=.returned (rrV r A1 c1 A2 c2)/\FoD w' (λb=>w.heap.size<=b/\b<w'.heap.size) (slice A1 (flen r.wh.2) c1) r.wh.2/\FoD w' (λb=>w.heap.size<=b/\b<w'.heap.size) (slice A2 (flen r.pr.2) c2) r.pr.2
 | .no k'=>But pb w w'/\e=.panicked [Zbq ts k']
 | .bad=>But pb w w'/\e=.panicked [badV ts k]
theorem ZeB (pb:Nat)(v:Value)(ts:List Tok)(ex:Nat->Out)(bp:∀ k,k<=ts.length->okK ts k (ex k)/\∀ w,PI w pb v ts k->Calls prog 163 #[.pointer (some ⟨pb,0,none⟩)] w (RP pb v ts (ex k) w))(k:Nat)(w:World)(h:PI w pb v ts k)(o:ROut)(ho:o=Z4v ex ts k) : Calls prog 121 #[.pointer (some ⟨pb,0,none⟩)] w (RtP pb v ts k o w):=by
 have bC:=zh bp;clear bp;have H0:=zh (h.on ((zr _ _).alloc (zn _) (.cells #[int i64 0,int i64 0,int i64 0,int i64 0,int i64 0,int i64 0,int i64 0,int i64 0,int i64 0,int i64 0,int i64 0,int i64 0,slice none 0 0,int i64 0,int i64 0,slice none 0 0] 65)));have N:=h.lt;have bB:RF w pb (w.alloc (.cells #[int i64 0,int i64 0,int i64 0,int i64 0,int i64 0,int i64 0,int i64 0,int i64 0,int i64 0,int i64 0,int i64 0,int i64 0,slice none 0 0,int i64 0,int i64 0,slice none 0 0] 65)):=⟨(But.refl _ _).alloc _,za w _,h.lt⟩
 have F0:=zh bB;have cs:=Zey;clear h bB;go_enter func121,ntmps121;go_wp2_with fail;refine (Z2t _ pb v ts k H0.out).mono ?_;rintro e w1 ⟨rfl,b1⟩;rw [tokV];have P:=zh (H0.out.on b1);have I:=zh (F0.out.but (But.of_below b1));clear b1 H0 F0;have bn:o=Z4v ex ts k:=ho;unfold Z4v at bn;have F:=zh bn;clear bn ho;obtain ⟨kk,bm⟩:∃ kk,kk=k:=⟨_,rfl⟩
 rw [<- bm] at F P;have cA:=zh bm;clear bm;go_wp2_with fail;refine (Z20 _ pb v ts kk P.out Z6H (by decide)).mono ?_;have B:=F.out;rcases hN:Z0j Z6H ts kk with j | ⟨U,k2⟩
 · rw [hN] at B;have M:o=.no j:=B;subst M;rintro e w2 ⟨hb,rfl⟩;exact ⟨rfl,I.out.1.trans hb,rfl⟩
 have cF:=Z21 hN;rw [hN] at B;simp only [Z6G] at B;clear F;have F:=zh B;rintro e w2 ⟨hb,G,rfl⟩;have D:=zh G;have C:=zh (I.out.but hb);clear B hb G hN P I;have P:=D;have I:=C;clear D C;go_wp2_with fail;refine (Z20 _ pb v ts k2 P.out Zbr (by decide)).mono ?_;have B:=F.out;rcases hN:Z0j Zbr ts k2 with j | ⟨X,k3⟩
 · rw [hN] at B;have M:o=.no j:=B;subst M;rintro e w3 ⟨hb,rfl⟩;exact ⟨rfl,I.out.1.trans hb,rfl⟩
 have cD:=Z21 hN;rw [hN] at B;simp only at B;clear F;have F:=zh B;rintro e w3 ⟨hb,G,rfl⟩;have D:=zh G;have C:=zh (I.out.but hb);clear B hb G hN P I;have P:=D;have I:=C;clear D C;go_wp2_with fail;refine (Z20 _ pb v ts k3 P.out Zip (by decide)).mono ?_;have B:=F.out;rcases hN:Z0j Zip ts k3 with j | ⟨T,k4⟩
 · rw [hN] at B;have M:o=.no j:=B;subst M;rintro e A ⟨hb,rfl⟩;exact ⟨rfl,I.out.1.trans hb,rfl⟩
 have b3:=Z21 hN;rw [hN] at B;simp only at B;clear F;have F:=zh B;rintro e A ⟨hb,G,rfl⟩;have D:=zh G;have C:=zh (I.out.but hb);clear B hb G hN P I;have P:=D;have I:=C;clear D C;have hl4:=I.out.2.1.lt;have bz:=za A (.cells #[int i64 U,int i64 X,int i64 T,int i64 0,int i64 0,int i64 0,int i64 0,int i64 0,int i64 0,int i64 0,int i64 0,int i64 0,slice none 0 0,int i64 0,int i64 0,slice none 0 0] 65);have bA:But pb A (A.alloc (.cells #[int i64 U,int i64 X,int i64 T,int i64 0,int i64 0,int i64 0,int i64 0,int i64 0,int i64 0,int i64 0,int i64 0,int i64 0,slice none 0 0,int i64 0,int i64 0,slice none 0 0] 65)):=(But.refl _ _).alloc _;have C:Hid (RtI w pb A.heap.size #[int i64 U,int i64 X,int i64 T,int i64 0,int i64 0,int i64 0,int i64 0,int i64 0,int i64 0,int i64 0,int i64 0,int i64 0,slice none 0 0,int i64 0,int i64 0,slice none 0 0] (A.alloc (.cells #[int i64 U,int i64 X,int i64 T,int i64 0,int i64 0,int i64 0,int i64 0,int i64 0,int i64 0,int i64 0,int i64 0,int i64 0,slice none 0 0,int i64 0,int i64 0,slice none 0 0] 65))):=⟨I.out.but bA,bz,hl4⟩
 have D:=zh (P.out.on ((zr _ _).alloc (zn _) (.cells #[int i64 U,int i64 X,int i64 T,int i64 0,int i64 0,int i64 0,int i64 0,int i64 0,int i64 0,int i64 0,int i64 0,int i64 0,slice none 0 0,int i64 0,int i64 0,slice none 0 0] 65)));clear bz bA hl4 P I;have P:=D;have I:=C;clear D C;go_wp2_with fail;generalize A.alloc (.cells #[int i64 U,int i64 X,int i64 T,int i64 0,int i64 0,int i64 0,int i64 0,int i64 0,int i64 0,int i64 0,int i64 0,int i64 0,slice none 0 0,int i64 0,int i64 0,slice none 0 0] 65)=w5 at *
 generalize A.heap.size=b4 at *
 refine (Z20 _ pb v ts k4 P.out Z70 (by decide)).mono ?_;have B:=F.out;rcases hN:Z0j Z70 ts k4 with j | ⟨fr,k6⟩
 · rw [hN] at B;have M:o=.no j:=B;subst M;rintro e w6 ⟨hb,rfl⟩;exact ⟨rfl,I.out.1.1.trans hb,rfl⟩
 have cv:=Z21 hN;rw [hN] at B;simp only at B;clear F;have F:=zh B;rintro e w6 ⟨hb,G,rfl⟩;have D:=zh G;have C:=zh (I.out.but hb);clear B hb G hN P I;have P:=D;have I:=C;clear D C;go_wp2_with fail;refine (Z20 _ pb v ts k6 P.out kTo (by decide)).mono ?_;have B:=F.out;rcases hN:Z0j kTo ts k6 with j | ⟨Z,k7⟩
 · rw [hN] at B;have M:o=.no j:=B;subst M;rintro e w7 ⟨hb,rfl⟩;exact ⟨rfl,I.out.1.1.trans hb,rfl⟩
 have cx:=Z21 hN;rw [hN] at B;simp only at B;clear F;have F:=zh B;rintro e w7 ⟨hb,G,rfl⟩;have D:=zh G;have C:=zh (I.out.but hb);clear B hb G hN P I;have P:=D;have I:=C;clear D C;have c3:=I.out.cell 3 _ rfl;have f3:=I.out.free 3;have c4:=I.out.cell 4 _ rfl;have f4:=I.out.free 4;go_wp2_with fail;have Y:(((#[int i64 U,int i64 X,int i64 T,int i64 0,int i64 0,int i64 0,int i64 0,int i64 0,int i64 0,int i64 0,int i64 0,int i64 0,slice none 0 0,int i64 0,int i64 0,slice none 0 0]:Array Value).setIfInBounds 3 (int i64 fr)).setIfInBounds 4 (int i64 Z))=#[int i64 U,int i64 X,int i64 T,int i64 fr,int i64 Z,int i64 0,int i64 0,int i64 0,int i64 0,int i64 0,int i64 0,int i64 0,slice none 0 0,int i64 0,int i64 0,slice none 0 0]:=by kernel_rfl
 have O:=((I.out.set 3 (int i64 fr)).set 4 (int i64 Z))
 rw [Y] at O;have C:=zh O;have D:=zh ((P.out.far (p:=⟨b4,3,none⟩) I.out.far (int i64 fr)).far (p:=⟨b4,4,none⟩) I.out.far (int i64 Z));clear Y O c3 f3 c4 f4 P I;have P:=D;have I:=C;clear D C;generalize ((w7.setCell ⟨b4,3,none⟩ (int i64 fr)).setCell ⟨b4,4,none⟩ (int i64 Z))=w8 at *
 refine (Z20 _ pb v ts k7 P.out Ziq (by decide)).mono ?_;have B:=F.out;rcases hN:Z0j Ziq ts k7 with j | ⟨f,k9⟩
 · rw [hN] at B;have M:o=.no j:=B;subst M;rintro e w9 ⟨hb,rfl⟩;exact ⟨rfl,I.out.1.1.trans hb,rfl⟩
 have cn:=Z21 hN;rw [hN] at B;simp only at B;clear F;have F:=zh B;rintro e w9 ⟨hb,G,rfl⟩;have D:=zh G;have C:=zh (I.out.but hb);clear B hb G hN P I;have P:=D;have I:=C;clear D C;go_wp2_with fail;refine (Z20 _ pb v ts k9 P.out kTo (by decide)).mono ?_;have B:=F.out;rcases hN:Z0j kTo ts k9 with j | ⟨d,bx⟩
 · rw [hN] at B;have M:o=.no j:=B;subst M;rintro e bu ⟨hb,rfl⟩;exact ⟨rfl,I.out.1.1.trans hb,rfl⟩
 have ce:=Z21 hN;rw [hN] at B;simp only at B;clear F;have F:=zh B;rintro e bu ⟨hb,G,rfl⟩;have D:=zh G;have C:=zh (I.out.but hb);clear B hb G hN P I;have P:=D;have I:=C;clear D C;have c5:=I.out.cell 5 _ rfl;have f5:=I.out.free 5;have c6:=I.out.cell 6 _ rfl;have f6:=I.out.free 6;go_wp2_with fail;have Y:(((#[int i64 U,int i64 X,int i64 T,int i64 fr,int i64 Z,int i64 0,int i64 0,int i64 0,int i64 0,int i64 0,int i64 0,int i64 0,slice none 0 0,int i64 0,int i64 0,slice none 0 0]:Array Value).setIfInBounds 5 (int i64 f)).setIfInBounds 6 (int i64 d))=#[int i64 U,int i64 X,int i64 T,int i64 fr,int i64 Z,int i64 f,int i64 d,int i64 0,int i64 0,int i64 0,int i64 0,int i64 0,slice none 0 0,int i64 0,int i64 0,slice none 0 0]:=by kernel_rfl
 have O:=((I.out.set 5 (int i64 f)).set 6 (int i64 d))
 rw [Y] at O;have C:=zh O;have D:=zh ((P.out.far (p:=⟨b4,5,none⟩) I.out.far (int i64 f)).far (p:=⟨b4,6,none⟩) I.out.far (int i64 d));clear Y O c5 f5 c6 f6 P I;have P:=D;have I:=C;clear D C;generalize ((bu.setCell ⟨b4,5,none⟩ (int i64 f)).setCell ⟨b4,6,none⟩ (int i64 d))=ck at *
 refine (Z20 _ pb v ts bx P.out Z8m (by decide)).mono ?_;have B:=F.out;rcases hN:Z0j Z8m ts bx with j | ⟨l,bv⟩
 · rw [hN] at B;have M:o=.no j:=B;subst M;rintro e bq ⟨hb,rfl⟩;exact ⟨rfl,I.out.1.1.trans hb,rfl⟩
 have ct:=Z21 hN;rw [hN] at B;simp only at B;clear F;have F:=zh B;rintro e bq ⟨hb,G,rfl⟩;have D:=zh G;have C:=zh (I.out.but hb);clear B hb G hN P I;have P:=D;have I:=C;clear D C;have c7:=I.out.cell 7 _ rfl;have f7:=I.out.free 7;go_wp2_with fail;have Y:((#[int i64 U,int i64 X,int i64 T,int i64 fr,int i64 Z,int i64 f,int i64 d,int i64 0,int i64 0,int i64 0,int i64 0,int i64 0,slice none 0 0,int i64 0,int i64 0,slice none 0 0]:Array Value).setIfInBounds 7 (int i64 l))=#[int i64 U,int i64 X,int i64 T,int i64 fr,int i64 Z,int i64 f,int i64 d,int i64 l,int i64 0,int i64 0,int i64 0,int i64 0,slice none 0 0,int i64 0,int i64 0,slice none 0 0]:=by kernel_rfl
 have O:=(I.out.set 7 (int i64 l))
 rw [Y] at O;have C:=zh O;have D:=zh (P.out.far (p:=⟨b4,7,none⟩) I.out.far (int i64 l));clear Y O c7 f7 P I;have P:=D;have I:=C;clear D C;generalize (bq.setCell ⟨b4,7,none⟩ (int i64 l))=cf at *
 refine (Z20 _ pb v ts bv P.out Zir (by decide)).mono ?_;have B:=F.out;rcases hN:Z0j Zir ts bv with j | ⟨S,k14⟩
 · rw [hN] at B;have M:o=.no j:=B;subst M;rintro e bT ⟨hb,rfl⟩;exact ⟨rfl,I.out.1.1.trans hb,rfl⟩
 have br:=Z21 hN;rw [hN] at B;simp only at B;clear F;have F:=zh B;rintro e bT ⟨hb,G,rfl⟩;have D:=zh G;have C:=zh (I.out.but hb);clear B hb G hN P I;have P:=D;have I:=C;clear D C;go_wp2_with fail;refine (Zmk S _ br.1 br.2).mono ?_;rintro e bP ⟨rfl,hb⟩;have D:=zh (P.out.on hb);have C:=zh (I.out.but (But.of_below hb));clear hb P I;have P:=D;have I:=C;clear D C;have c8:=I.out.cell 8 _ rfl;have f8:=I.out.free 8;have c9:=I.out.cell 9 _ rfl;have f9:=I.out.free 9;go_wp2_with fail;have Y:(((#[int i64 U,int i64 X,int i64 T,int i64 fr,int i64 Z,int i64 f,int i64 d,int i64 l,int i64 0,int i64 0,int i64 0,int i64 0,slice none 0 0,int i64 0,int i64 0,slice none 0 0]:Array Value).setIfInBounds 8 (int i64 (pctN S))).setIfInBounds 9 (int i64 (pctD S)))=#[int i64 U,int i64 X,int i64 T,int i64 fr,int i64 Z,int i64 f,int i64 d,int i64 l,int i64 (pctN S),int i64 (pctD S),int i64 0,int i64 0,slice none 0 0,int i64 0,int i64 0,slice none 0 0]:=by kernel_rfl
 have O:=((I.out.set 8 (int i64 (pctN S))).set 9 (int i64 (pctD S)))
 rw [Y] at O;have C:=zh O;have D:=zh ((P.out.far (p:=⟨b4,8,none⟩) I.out.far (int i64 (pctN S))).far (p:=⟨b4,9,none⟩) I.out.far (int i64 (pctD S)));clear Y O c8 f8 c9 f9 P I;have P:=D;have I:=C;clear D C;generalize ((bP.setCell ⟨b4,8,none⟩ (int i64 (pctN S))).setCell ⟨b4,9,none⟩ (int i64 (pctD S)))=cb at *
 have B:=F.out;by_cases hm:nxt ts k14=[37]
 rotate_left
 · rw [Z4s,zf hm] at B;subst B;refine (Z2G _ pb v ts k14 P.out [37] hm).mono ?_;rintro e bD ⟨rfl,hb⟩;exact ⟨rfl,I.out.1.1.trans (But.of_below hb),rfl⟩
 rw [Z4s,zp hm] at B;clear F;have F:=zh B;refine (Z1m _ pb v ts k14 P.out (Z33 hm (by decide)) [37] hm).mono ?_;rintro e bD ⟨rfl,G,hb⟩;have D:=zh G;have C:=zh (I.out.but hb);clear B hb G hm P I;have P:=D;have I:=C;clear D C;go_wp2_with fail;have B:=F.out;by_cases hm:nxt ts (k14+1)=Zgj;rotate_left
 · rw [Z4s,zf hm] at B;subst B;refine (Z2G _ pb v ts (k14+1) P.out Zgj hm).mono ?_;rintro e bG ⟨rfl,hb⟩;exact ⟨rfl,I.out.1.1.trans (But.of_below hb),rfl⟩
 rw [Z4s,zp hm] at B;clear F;have F:=zh B;refine (Z1m _ pb v ts (k14+1) P.out (Z33 hm (by decide)) Zgj hm).mono ?_;rintro e bG ⟨rfl,G,hb⟩;have D:=zh G;have C:=zh (I.out.but hb);clear B hb G hm P I;have P:=D;have I:=C;clear D C;go_wp2_with fail;have B:=F.out;have m:=(bC.out ((k14+1)+1) P.out.2.2.1).2 _ P.out;rcases hE:ex ((k14+1)+1) with ⟨H,bc⟩ | j
 rotate_left
 · rw [hE] at B m;have M:o=.no j:=B;subst M;refine m.mono ?_;rintro e bt ⟨hb,rfl⟩;exact ⟨rfl,I.out.1.1.trans hb,rfl⟩
 rw [hE] at B m;simp only [Zgi] at B;clear F;have F:=zh B;refine m.mono ?_;rintro e bt ⟨hb,G,q,c1,rfl,hF⟩;have hl4:=(zs I.out.2.1)
 have bb:=I.out.1.2.1.lt;have R:=zh (Tq.of (w:=w) (b4:=b4) hF bb hl4);have D:=zh G;have C:=zh (I.out.but hb);clear B hb G hF hE m hl4 bb P I;have P:=D;have I:=C;clear D C;have bY:=I.out.cell 10 _ rfl;have bZ:=I.out.free 10;have bN:=I.out.cell 11 _ rfl;have bK:=I.out.free 11;have bW:=I.out.cell 12 _ rfl;have bH:=I.out.free 12;go_wp2_with fail;have Y:((((#[int i64 U,int i64 X,int i64 T,int i64 fr,int i64 Z,int i64 f,int i64 d,int i64 l,int i64 (pctN S),int i64 (pctD S),int i64 0,int i64 0,slice none 0 0,int i64 0,int i64 0,slice none 0 0]:Array Value).setIfInBounds 10 (int i64 H.1.1)).setIfInBounds 11 (int i64 H.1.2)).setIfInBounds 12 (slice q (flen H.2) c1))=#[int i64 U,int i64 X,int i64 T,int i64 fr,int i64 Z,int i64 f,int i64 d,int i64 l,int i64 (pctN S),int i64 (pctD S),int i64 H.1.1,int i64 H.1.2,slice q (flen H.2) c1,int i64 0,int i64 0,slice none 0 0]:=by kernel_rfl
 have O:=(((I.out.set 10 (int i64 H.1.1)).set 11 (int i64 H.1.2)).set 12 (slice q (flen H.2) c1))
 rw [Y] at O;have C:=zh O;have D:=zh (((P.out.far (p:=⟨b4,10,none⟩) I.out.far (int i64 H.1.1)).far (p:=⟨b4,11,none⟩) I.out.far (int i64 H.1.2)).far (p:=⟨b4,12,none⟩) I.out.far (slice q (flen H.2) c1));have V:=zh (((R.out.set 10 (int i64 H.1.1)).set 11 (int i64 H.1.2)).set 12 (slice q (flen H.2) c1));clear R;have R:=V;clear V Y O bY bZ bN bK bW bH P I;have P:=D;have I:=C;clear D C;generalize (((bt.setCell ⟨b4,10,none⟩ (int i64 H.1.1)).setCell ⟨b4,11,none⟩ (int i64 H.1.2)).setCell ⟨b4,12,none⟩ (slice q (flen H.2) c1))=cz at *
 have B:=F.out;by_cases hm:nxt ts bc=Z9k;rotate_left
 · rw [Z4s,zf hm] at B;subst B;refine (Z2G _ pb v ts bc P.out Z9k hm).mono ?_;rintro e bV ⟨rfl,hb⟩;exact ⟨rfl,I.out.1.1.trans (But.of_below hb),rfl⟩
 rw [Z4s,zp hm] at B;clear F;have F:=zh B;refine (Z1m _ pb v ts bc P.out (Z33 hm (by decide)) Z9k hm).mono ?_;rintro e bV ⟨rfl,G,hb⟩;have D:=zh G;have C:=zh (I.out.but hb);have V:=zh (R.out.but hb N);clear R;have R:=V;clear V B hb G hm P I;have P:=D;have I:=C;clear D C;go_wp2_with fail;have B:=F.out;have m:=(bC.out (bc+1) P.out.2.2.1).2 _ P.out;rcases hE:ex (bc+1) with ⟨L,bh⟩ | j
 rotate_left
 · rw [hE] at B m;have M:o=.no j:=B;subst M;refine m.mono ?_;rintro e bs ⟨hb,rfl⟩;exact ⟨rfl,I.out.1.1.trans hb,rfl⟩
 rw [hE] at B m;simp only at B;clear F;have F:=zh B;refine m.mono ?_;rintro e bs ⟨hb,G,y,c2,rfl,hF⟩;have hl4:=(zs I.out.2.1)
 have bb:=I.out.1.2.1.lt;have g:=zh (Tq.of (w:=w) (b4:=b4) hF bb hl4);have D:=zh G;have C:=zh (I.out.but hb);have V:=zh (R.out.but hb N);clear R;have R:=V;clear V B hb G hF hE m hl4 bb P I;have P:=D;have I:=C;clear D C;have bQ:=I.out.cell 13 _ rfl;have bF:=I.out.free 13;have bM:=I.out.cell 14 _ rfl;have bE:=I.out.free 14;have bX:=I.out.cell 15 _ rfl;have bO:=I.out.free 15;go_wp2_with fail;have Y:((((#[int i64 U,int i64 X,int i64 T,int i64 fr,int i64 Z,int i64 f,int i64 d,int i64 l,int i64 (pctN S),int i64 (pctD S),int i64 H.1.1,int i64 H.1.2,slice q (flen H.2) c1,int i64 0,int i64 0,slice none 0 0]:Array Value).setIfInBounds 13 (int i64 L.1.1)).setIfInBounds 14 (int i64 L.1.2)).setIfInBounds 15 (slice y (flen L.2) c2))=#[int i64 U,int i64 X,int i64 T,int i64 fr,int i64 Z,int i64 f,int i64 d,int i64 l,int i64 (pctN S),int i64 (pctD S),int i64 H.1.1,int i64 H.1.2,slice q (flen H.2) c1,int i64 L.1.1,int i64 L.1.2,slice y (flen L.2) c2]:=by kernel_rfl
 have O:=(((I.out.set 13 (int i64 L.1.1)).set 14 (int i64 L.1.2)).set 15 (slice y (flen L.2) c2))
 rw [Y] at O;have C:=zh O;have D:=zh (((P.out.far (p:=⟨b4,13,none⟩) I.out.far (int i64 L.1.1)).far (p:=⟨b4,14,none⟩) I.out.far (int i64 L.1.2)).far (p:=⟨b4,15,none⟩) I.out.far (slice y (flen L.2) c2));have V:=zh (((R.out.set 13 (int i64 L.1.1)).set 14 (int i64 L.1.2)).set 15 (slice y (flen L.2) c2));clear R;have R:=V;clear V;have r:=zh (((g.out.set 13 (int i64 L.1.1)).set 14 (int i64 L.1.2)).set 15 (slice y (flen L.2) c2));clear g;have g:=r;clear r Y O bQ bF bM bE bX bO P I;have P:=D;have I:=C;clear D C;generalize (((bs.setCell ⟨b4,13,none⟩ (int i64 L.1.1)).setCell ⟨b4,14,none⟩ (int i64 L.1.2)).setCell ⟨b4,15,none⟩ (slice y (flen L.2) c2))=cj at *
 have B:=F.out;by_cases hm:nxt ts bh=[59]
 rotate_left
 · rw [Z4s,zf hm] at B;subst B;refine (Z2G _ pb v ts bh P.out [59] hm).mono ?_;rintro e b0 ⟨rfl,hb⟩;exact ⟨rfl,I.out.1.1.trans (But.of_below hb),rfl⟩
 rw [Z4s,zp hm] at B;clear F;have F:=zh B;refine (Z1m _ pb v ts bh P.out (Z33 hm (by decide)) [59] hm).mono ?_;rintro e b0 ⟨rfl,G,hb⟩;have D:=zh G;have C:=zh (I.out.but hb);have V:=zh (R.out.but hb N);clear R;have R:=V;clear V;have r:=zh (g.out.but hb N);clear g;have g:=r;clear r B hb G hm P I;have P:=D;have I:=C;clear D C;have bk:=I.out.cell 10 _ rfl;have bf:=I.out.cell 11 _ rfl;have bd:=I.out.cell 12 _ rfl;have be:=I.out.cell 13 _ rfl;have bj:=I.out.cell 14 _ rfl;have bg:=I.out.cell 15 _ rfl;go_wp2_with fail;refine (Z3r H.1.1 H.1.2 H.2 (slice q (flen H.2) c1) _ (R.out.v (λb h=>h.2.2))).mono ?_;rintro e cc ⟨rfl,hb⟩;clear bk bf bd be bj bg;have D:=zh (P.out.on hb);have C:=zh (I.out.but (But.of_below hb));have ba:But pb _ _:=But.of_below hb;have V:=zh (R.out.but ba N);clear R;have R:=V;clear V;have r:=zh (g.out.but ba N);clear g;have g:=r;clear r hb ba P I;have P:=D;have I:=C;clear D C;cases hv1:Z0i H.1.1 H.1.2 H.2 with
 | false =>have B:=F.out;rw [hv1] at B;have M:o=.bad:=B;clear B F hv1;subst M;go_wp2_with fail;exact ⟨rfl,I.out.1.1,rfl⟩
 | true =>
  have B:=F.out;rw [hv1] at B;clear F hv1;have F:=zh B;clear B;have bk:=I.out.cell 10 _ rfl;have bf:=I.out.cell 11 _ rfl;have bd:=I.out.cell 12 _ rfl;have be:=I.out.cell 13 _ rfl;have bj:=I.out.cell 14 _ rfl;have bg:=I.out.cell 15 _ rfl;go_wp2_with fail;refine (Z3r L.1.1 L.1.2 L.2 (slice y (flen L.2) c2) _ (g.out.v (λb h=>h.2.2))).mono ?_;rintro e ca ⟨rfl,hb⟩;clear bk bf bd be bj bg;have D:=zh (P.out.on hb);have C:=zh (I.out.but (But.of_below hb));have ba:But pb _ _:=But.of_below hb;have V:=zh (R.out.but ba N);clear R;have R:=V;clear V;have r:=zh (g.out.but ba N);clear g;have g:=r;clear r hb ba P I;have P:=D;have I:=C;clear D C;cases hv2:Z0i L.1.1 L.1.2 L.2 with
  | false =>have B:=F.out;rw [hv2] at B;have M:o=.bad:=B;clear B F hv2;subst M;go_wp2_with fail;exact ⟨rfl,I.out.1.1,rfl⟩
  | true =>
   have B:=F.out;rw [hv2] at B;have M:o=.ok ⟨U,X,T,fr,Z,f,d,l,S,H,L⟩ (bh+1):=B;clear F hv2 B;subst M;have cC:=I.out.cell 0 _ rfl;have z0:=I.out.1.2.1.cell 0 _ rfl;have y0:=I.out.1.2.1.free 0;have b7:=I.out.cell 1 _ rfl;have z1:=I.out.1.2.1.cell 1 _ rfl;have y1:=I.out.1.2.1.free 1;have cu:=I.out.cell 2 _ rfl;have z2:=I.out.1.2.1.cell 2 _ rfl;have y2:=I.out.1.2.1.free 2;have cg:=I.out.cell 3 _ rfl;have z3:=I.out.1.2.1.cell 3 _ rfl;have y3:=I.out.1.2.1.free 3;have cE:=I.out.cell 4 _ rfl;have z4:=I.out.1.2.1.cell 4 _ rfl;have y4:=I.out.1.2.1.free 4;have ch:=I.out.cell 5 _ rfl;have z5:=I.out.1.2.1.cell 5 _ rfl;have y5:=I.out.1.2.1.free 5;have cm:=I.out.cell 6 _ rfl;have z6:=I.out.1.2.1.cell 6 _ rfl;have y6:=I.out.1.2.1.free 6;have b6:=I.out.cell 7 _ rfl;have z7:=I.out.1.2.1.cell 7 _ rfl;have y7:=I.out.1.2.1.free 7;have b2:=I.out.cell 8 _ rfl;have z8:=I.out.1.2.1.cell 8 _ rfl;have y8:=I.out.1.2.1.free 8;have cy:=I.out.cell 9 _ rfl;have z9:=I.out.1.2.1.cell 9 _ rfl;have y9:=I.out.1.2.1.free 9;have bk:=I.out.cell 10 _ rfl;have bU:=I.out.1.2.1.cell 10 _ rfl;have cd:=I.out.1.2.1.free 10;have bf:=I.out.cell 11 _ rfl;have bI:=I.out.1.2.1.cell 11 _ rfl;have b8:=I.out.1.2.1.free 11;have bd:=I.out.cell 12 _ rfl;have bR:=I.out.1.2.1.cell 12 _ rfl;have b5:=I.out.1.2.1.free 12;have be:=I.out.cell 13 _ rfl;have bS:=I.out.1.2.1.cell 13 _ rfl;have cr:=I.out.1.2.1.free 13;have bj:=I.out.cell 14 _ rfl;have bJ:=I.out.1.2.1.cell 14 _ rfl;have cB:=I.out.1.2.1.free 14;have bg:=I.out.cell 15 _ rfl;have bL:=I.out.1.2.1.cell 15 _ rfl;have b9:=I.out.1.2.1.free 15;go_wp2_with fail;refine bodyPost_ret (v:=rrV ⟨U,X,T,fr,Z,f,d,l,S,H,L⟩ q c1 y c2) (by simp [results,results121,go_sem,rrV,z0,z1,z2,z3,z4,z5,z6,z7,z8,z9,bU,bI,bR,bS,bJ,bL]) rfl ?_
   refine ⟨((((((((((((((((I.out.1.1.new (p:=⟨w.heap.size,0,none⟩) (zn _) _).new (p:=⟨w.heap.size,1,none⟩) (zn _) _).new (p:=⟨w.heap.size,2,none⟩) (zn _) _).new (p:=⟨w.heap.size,3,none⟩) (zn _) _).new (p:=⟨w.heap.size,4,none⟩) (zn _) _).new (p:=⟨w.heap.size,5,none⟩) (zn _) _).new (p:=⟨w.heap.size,6,none⟩) (zn _) _).new (p:=⟨w.heap.size,7,none⟩) (zn _) _).new (p:=⟨w.heap.size,8,none⟩) (zn _) _).new (p:=⟨w.heap.size,9,none⟩) (zn _) _).new (p:=⟨w.heap.size,10,none⟩) (zn _) _).new (p:=⟨w.heap.size,11,none⟩) (zn _) _).new (p:=⟨w.heap.size,12,none⟩) (zn _) _).new (p:=⟨w.heap.size,13,none⟩) (zn _) _).new (p:=⟨w.heap.size,14,none⟩) (zn _) _).new (p:=⟨w.heap.size,15,none⟩) (zn _) _),((((((((((((((((P.out.far (p:=⟨w.heap.size,0,none⟩) N _).far (p:=⟨w.heap.size,1,none⟩) N _).far (p:=⟨w.heap.size,2,none⟩) N _).far (p:=⟨w.heap.size,3,none⟩) N _).far (p:=⟨w.heap.size,4,none⟩) N _).far (p:=⟨w.heap.size,5,none⟩) N _).far (p:=⟨w.heap.size,6,none⟩) N _).far (p:=⟨w.heap.size,7,none⟩) N _).far (p:=⟨w.heap.size,8,none⟩) N _).far (p:=⟨w.heap.size,9,none⟩) N _).far (p:=⟨w.heap.size,10,none⟩) N _).far (p:=⟨w.heap.size,11,none⟩) N _).far (p:=⟨w.heap.size,12,none⟩) N _).far (p:=⟨w.heap.size,13,none⟩) N _).far (p:=⟨w.heap.size,14,none⟩) N _).far (p:=⟨w.heap.size,15,none⟩) N _),q,c1,y,c2,rfl,?_,?_⟩
   · refine R.out.keep (λb h=>⟨by have:=h.1;omega,by simp only [World.setCell,Array.size_modify];exact h.2.2⟩) (λb h=>?_);have J:b≠w.heap.size:=by have:=h.1;omega
     rw [zg _ _ _ _ J,zg _ _ _ _ J,zg _ _ _ _ J,zg _ _ _ _ J,zg _ _ _ _ J,zg _ _ _ _ J,zg _ _ _ _ J,zg _ _ _ _ J,zg _ _ _ _ J,zg _ _ _ _ J,zg _ _ _ _ J,zg _ _ _ _ J,zg _ _ _ _ J,zg _ _ _ _ J,zg _ _ _ _ J,zg _ _ _ _ J]
   · refine g.out.keep (λb h=>⟨by have:=h.1;omega,by simp only [World.setCell,Array.size_modify];exact h.2.2⟩) (λb h=>?_);have J:b≠w.heap.size:=by have:=h.1;omega
     rw [zg _ _ _ _ J,zg _ _ _ _ J,zg _ _ _ _ J,zg _ _ _ _ J,zg _ _ _ _ J,zg _ _ _ _ J,zg _ _ _ _ J,zg _ _ _ _ J,zg _ _ _ _ J,zg _ _ _ _ J,zg _ _ _ _ J,zg _ _ _ _ J,zg _ _ _ _ J,zg _ _ _ _ J,zg _ _ _ _ J,zg _ _ _ _ J]
end
end Go.Proofs.YtnepkoepbapgeaaGreatDoor
