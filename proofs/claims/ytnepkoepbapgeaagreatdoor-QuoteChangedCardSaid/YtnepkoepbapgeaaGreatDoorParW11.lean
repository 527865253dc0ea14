/-
  Several texts in one: ParW10, ParMake, ParRt, ParW11.
-/
import Derived.Test.YtnepkoepbapgeaaGreatDoorParW7
import Derived.Test.YtnepkoepbapgeaaGreatDoorPrtNum
namespace Go.Proofs.YtnepkoepbapgeaaGreatDoor
set_option maxHeartbeats 8000000
set_option maxRecDepth 100000
section
open Go.RowKit Lx Px
def Z0c (s:Bytes)(ts:List Tok)(k:Nat):Except Nat (Int × Nat) :=
 if nxt ts k=s then (if Z07 (nxt ts (k+1))=2 then .ok (dval (nxt ts (k+1)),k+1+1) else .error (k+1)) else .error k
def NP (pb:Nat)(v:Value)(ts:List Tok)(o:Except Nat (Int × Nat))(w:World)(e:Ending)(w':World):Prop :=
 match o with
 | .ok (n,k')=>But pb w w'∧PI w' pb v ts k'∧e=.returned (.int .i64 n)
 | .error k'=>But pb w w'∧e=.panicked [Zam ts k']
theorem Zj8:Z07 []=0:=by decide
theorem Zmu {ts:List Tok}{k:Nat}(h:Z07 (nxt ts k)=2):k<ts.length:=by
 by_cases hk:k<ts.length
 · exact hk
 · rw [Z50 ts k hk,Zj8] at h;omega
theorem Z1s (w:World)(pb:Nat)(v:Value)(ts:List Tok)(k:Nat)(h:PI w pb v ts k)(s:Bytes)(hs:s≠[]) :
 Calls Tryz.prog 160 #[.pointer (some ⟨pb,0,none⟩),.string (mk s)] w (NP pb v ts (Z0c s ts k) w):=by
 unfold Z0c
 have H:=zh h;clear h;by_cases h1:nxt ts k=s
 · have hlt:=Z2n h1 hs
   rw [if_pos h1]
   have H1:=zh h1;clear h1;by_cases h2:Z07 (nxt ts (k+1))=2
   · rw [if_pos h2]
     have hlt2:=Zmu h2;have H2:=zh h2;clear h2;go_enter Tryz.func160,Tryz.ntmps160
     go_wp2_with fail;refine (Z18 _ pb v ts k H.out hlt s H1.out).mono ?_
     rintro e w1 ⟨rfl,p1,b1⟩;have P1:=zh p1;have B1:=zh b1;clear p1 b1;go_wp2_with fail;refine (Z7h _ pb v ts (k+1) P1.out hlt2 2 H2.out (by omega)).mono ?_
     rintro e w2 ⟨rfl,p2,b2⟩;have P2:=zh p2;have B2:=zh (B1.out.trans b2)
     clear p2 b2;go_wp2_with fail;go_ret
     exact ⟨B2.out,P2.out,rfl⟩
   · rw [if_neg h2]
     have H2:=zh h2;clear h2;have hK:=H.out.2.2.2.2.1
     have hkd:kdAt ts (k+1)≠2:=by
      have:=Z9m hK 2 (by omega) H2.out
      exact fun e=>by rw [e] at this;simp at this
     have HKD:=zh hkd;clear hK hkd;go_enter Tryz.func160,Tryz.ntmps160
     go_wp2_with fail;refine (Z18 _ pb v ts k H.out hlt s H1.out).mono ?_
     rintro e w1 ⟨rfl,p1,b1⟩;have P1:=zh p1;have B1:=zh b1;clear p1 b1;go_wp2_with fail;refine (Zj7 _ pb v ts (k+1) P1.out 2 HKD.out).mono ?_
     rintro e w2 ⟨rfl,b2⟩;exact ⟨rfl,B1.out.on b2,rfl⟩
 · rw [if_neg h1]
   have H1:=zh h1;clear h1;go_enter Tryz.func160,Tryz.ntmps160
   go_wp2_with fail;refine (Z2h _ pb v ts k H.out s H1.out).mono ?_
   rintro e w1 ⟨rfl,b1⟩;exact ⟨rfl,But.of_below b1,rfl⟩
end
section
open Go.RowKit Lx Px
def pctN (n:Int):Int:=n.tdiv (Nat.gcd n.natAbs 100:Nat)
def pctD (n:Int):Int:=(100:Int).tdiv (Nat.gcd n.natAbs 100:Nat)
theorem Zek (n:Int)(h0:0≤n)(h1:n≤999999999):0≤pctN n∧pctN n≤999999999∧0≤pctD n∧pctD n≤100:=by
 have hg:0<Nat.gcd n.natAbs 100:=Nat.gcd_pos_of_pos_right _ (by omega)
 unfold pctN pctD
 generalize Nat.gcd n.natAbs 100=g at *
 obtain ⟨m,rfl⟩:=Int.eq_ofNat_of_zero_le h0
 have e1:((m:Int)).tdiv (g:Int)=((m / g:Nat):Int):=by rw [Int.tdiv_eq_ediv_of_nonneg (by omega)];rfl
 have e2:((100:Int)).tdiv (g:Int)=((100 / g:Nat):Int):=by rw [Int.tdiv_eq_ediv_of_nonneg (by omega)];rfl
 rw [e1,e2]
 have h2:=Nat.div_le_self m g
 have h3:=Nat.div_le_self 100 g
 generalize m / g=q at *
 generalize 100 / g=r at *
 omega
theorem Zmv (n:Int)(w:World)(h0:0≤n)(h1:n≤999999999) :
 Calls Tryz.prog 215 #[.agg #[.int .i64 n,.int .i64 100]] w fun e w'=>e=.returned (.tuple #[.agg #[.int .i64 (pctN n),.int .i64 (pctD n)],.int .i64 0])∧Below w.heap.size w w':=by
 obtain ⟨hb1,hb2,hb3,hb4⟩:=Zek n h0 h1
 have hred:∀ W:World,Calls Tryz.prog 154 #[.agg #[.int .i64 n,.int .i64 100]] W fun e w'=>e=.returned (.agg #[.int .i64 (pctN n),.int .i64 (pctD n)])∧Below W.heap.size W w':=fun W=>Z7q n 100 W (by omega) (by omega) (by omega) (by omega)
 generalize pctN n=a at *
 generalize pctD n=b at *
 have hsz:∀ W:World,Calls Tryz.prog 113 #[.int .i64 a] W fun e w'=>e=.returned (.int .i64 a)∧W=w':=fun W=>by
  have:=Zax a W (by omega) (by omega)
  rwa [show ((a.natAbs:Nat):Int)=a by omega] at this
 have HR:=zh hred;have HZ:=zh hsz;clear hred hsz;have b1:Below w.heap.size w ((w.alloc (.cells #[.int .i64 n,.int .i64 100] 158)).alloc (.cells #[.int .i64 0,.int .i64 0] 60)):=((Below.refl _ _).alloc (zn _) _).alloc (by simp) _
 have x1:=Z1x w (.cells #[.int .i64 n,.int .i64 100] 158) (.cells #[.int .i64 0,.int .i64 0] 60)
 have HB:=zh b1;have HX:=zh x1;clear b1 x1;go_enter Tryz.func215,Tryz.ntmps215
 go_wp2_with fail;generalize (w.alloc (.cells #[.int .i64 n,.int .i64 100] 158)).alloc (.cells #[.int .i64 0,.int .i64 0] 60)=W1 at *
 refine (HR.out W1).mono ?_
 rintro e w2 ⟨rfl,hb⟩;have z2:=(hb.block _ (zs HX.out.2)).trans HX.out.2
 have B2:=zh (Z00 HB.out hb)
 have hl2:w.heap.size+1<w2.heap.size:=(zs z2)
 have z0:w2.cell? ⟨w.heap.size+1,0,none⟩=some (.int .i64 0):=by rw [zc z2];rfl
 have z1:w2.cell? ⟨w.heap.size+1,1,none⟩=some (.int .i64 0):=by rw [zc z2];rfl
 have y0:w2.frozen? ⟨w.heap.size+1,0,none⟩=false:=by simp [World.frozen?,z2]
 have y1:w2.frozen? ⟨w.heap.size+1,1,none⟩=false:=by simp [World.frozen?,z2]
 clear z2 hb;go_wp2_with (go_at_call 113;refine (HZ.out _).mono ?_;rintro e w' ⟨rfl,rfl⟩)
 refine bodyPost_ret (v:=.tuple #[.agg #[.int .i64 a,.int .i64 b],.int .i64 0]) (by simp [results,Tryz.results215,go_sem,z0,z1,hl2]) rfl ⟨rfl,?_⟩
 exact ((B2.out.setCell (p:=⟨w.heap.size+1,0,none⟩) (by show w.heap.size≤w.heap.size+1;omega) _).setCell (p:=⟨w.heap.size+1,1,none⟩) (by show w.heap.size≤w.heap.size+1;omega) _).alloc (by simp only [World.setCell,Array.size_modify];omega) _
theorem Zgm (k:Int)(w:World)(h0:0≤k)(h1:k≤999999999):Calls Tryz.prog 214 #[.int .i64 k] w fun e w'=>e=.returned (.bool false)∧w=w':=by
 have d1:decide (k < -1000000000000000)=false:=by simpa using (by omega:¬ k < -1000000000000000)
 have d2:decide ((1000000000000000:Int)<k)=false:=by simpa using (by omega:¬ (1000000000000000:Int)<k)
 go_enter Tryz.func214,Tryz.ntmps214
 go_wp2_with fail;go_ret
 exact ⟨rfl,rfl⟩
theorem Zj9 (n:Int)(w:World)(h0:0≤n)(h1:n≤999999999) :
 Calls Tryz.prog 161 #[.int .i64 n,.int .i64 100] w fun e w'=>e=.returned (.tuple #[.agg #[.int .i64 (pctN n),.int .i64 (pctD n)],.int .i64 0])∧Below w.heap.size w w':=by
 have hrat:∀ W:World,Calls Tryz.prog 215 #[.agg #[.int .i64 n,.int .i64 100]] W fun e w'=>e=.returned (.tuple #[.agg #[.int .i64 (pctN n),.int .i64 (pctD n)],.int .i64 0])∧Below W.heap.size W w':=fun W=>Zmv n W h0 h1
 have hf1:∀ W:World,Calls Tryz.prog 214 #[.int .i64 n] W fun e w'=>e=.returned (.bool false)∧W=w':=fun W=>Zgm n W h0 h1
 have hf2:∀ W:World,Calls Tryz.prog 214 #[.int .i64 100] W fun e w'=>e=.returned (.bool false)∧W=w':=fun W=>Zgm 100 W (by omega) (by omega)
 have HR:=zh hrat;have H1:=zh hf1;have H2:=zh hf2;clear hrat hf1 hf2;have b1:Below w.heap.size w (w.alloc (.cells #[.int .i64 0,.int .i64 0] 60)):=(Below.refl _ _).alloc (zn _) _
 have x1:=za w (.cells #[.int .i64 0,.int .i64 0] 60)
 have HB:=zh b1;have HX:=zh x1;clear b1 x1;go_enter Tryz.func161,Tryz.ntmps161
 go_wp2_with (first | (go_at_call 214;refine (H1.out _).mono ?_;rintro e w' ⟨rfl,rfl⟩) | (go_at_call 214;refine (H2.out _).mono ?_;rintro e w' ⟨rfl,rfl⟩))
 generalize w.alloc (.cells #[.int .i64 0,.int .i64 0] 60)=W1 at *
 refine (HR.out W1).mono ?_
 rintro e w2 ⟨rfl,hb⟩;have z2:=(hb.block _ (zs HX.out)).trans HX.out
 have B2:=zh (Z00 HB.out hb)
 have z0:w2.cell? ⟨w.heap.size,0,none⟩=some (.int .i64 0):=by rw [zc z2];rfl
 have z1:w2.cell? ⟨w.heap.size,1,none⟩=some (.int .i64 0):=by rw [zc z2];rfl
 have y0:w2.frozen? ⟨w.heap.size,0,none⟩=false:=by simp [World.frozen?,z2]
 have y1:w2.frozen? ⟨w.heap.size,1,none⟩=false:=by simp [World.frozen?,z2]
 clear z2 hb;go_wp2_with fail;refine bodyPost_ret (v:=.tuple #[.agg #[.int .i64 (pctN n),.int .i64 (pctD n)],.int .i64 0]) (by simp [results,Tryz.results161,go_sem,z0,z1]) rfl ⟨rfl,?_⟩
 exact (B2.out.setCell (p:=⟨w.heap.size,0,none⟩) (zn _) _).setCell (p:=⟨w.heap.size,1,none⟩) (zn _) _
end
section
open Go.RowKit Lx Px
structure Rr where
 id:Int
 lv:Int
 kd:Int
 fr:Int
 un:Int
 ls:Int
 mo:Int
 ar:Int
 kp:Int
 wh:Ex
 pr:Ex
inductive ROut where
 | ok (r:Rr) (k:Nat)
 | no (k:Nat)
 | bad
def Z62 (x:Except Nat (Int × Nat))(f:Int→Nat→ROut):ROut :=
 match x with
 | .error j=>.no j
 | .ok (n,k)=>f n k
def Z3C (s:Bytes)(ts:List Tok)(k:Nat)(f:Nat→ROut):ROut:=if nxt ts k=s then f (k+1) else .no k
def Zem (o:Out)(f:Ex→Nat→ROut):ROut :=
 match o with
 | .no j=>.no j
 | .ok e k=>f e k
def Z63:Bytes:=[114,97,116,101]
def Zan:Bytes:=[108,101,118,101,108]
def Zgn:Bytes:=[107,105,110,100]
def Z64:Bytes:=[110,105,103,104,116,115]
def kTo:Bytes:=[116,111]
def Zgp:Bytes:=[115,116,97,121]
def Z7i:Bytes:=[97,114,114,105,118,101]
def Zgq:Bytes:=[107,101,101,112]
def Zen:Bytes:=[119,104,101,110]
def Z8m:Bytes:=[112,114,105,99,101]
def Z3F (ex:Nat→Out)(ts:List Tok)(k:Nat):ROut :=
 Z62 (Z0c Z63 ts k) fun id k=>Z62 (Z0c Zan ts k) fun lv k=>Z62 (Z0c Zgn ts k) fun kd k =>
 Z62 (Z0c Z64 ts k) fun fr k=>Z62 (Z0c kTo ts k) fun un k=>Z62 (Z0c Zgp ts k) fun ls k=>Z62 (Z0c kTo ts k) fun mo k =>
 Z62 (Z0c Z7i ts k) fun ar k=>Z62 (Z0c Zgq ts k) fun kp k=>Z3C [37] ts k fun k=>Z3C Zen ts k fun k =>
 Zem (ex k) fun wh k=>Z3C Z8m ts k fun k=>Zem (ex k) fun pr k=>Z3C [59] ts k fun k =>
  if Z0d wh.1.1 wh.1.2 wh.2&&Z0d pr.1.1 pr.1.2 pr.2 then .ok ⟨id,lv,kd,fr,un,ls,mo,ar,kp,wh,pr⟩ k else .bad
theorem Zja {t:Bytes}(h:Z07 t=2):0≤dval t∧dval t≤999999999:=by
 have key:Z27 t=true:=by
  unfold Z07 at h
  split at h
  · omega
  · split at h
    · assumption
    · split at h
      · omega
      · split at h <;> omega
 simp only [Z27,allR,Bool.and_eq_true,Bool.not_eq_true',List.isEmpty_eq_false_iff,decide_eq_true_eq] at key
 have hf:t.filter (· != 46)=t:=by
  rw [List.filter_eq_self]
  intro c hc
  have:=Z3E key.1.1.2 hc
  simp only [bne_iff_ne]
  rintro rfl
  exact absurd this (by decide)
 unfold dval
 rw [hf]
 have hb:∀ (l:Bytes) (a:Int),l.all (inR 48 57)=true→0≤a→a*10 ^ l.length≤l.foldl (fun n c=>10*n+((c.toNat:Int) - 48)) a∧l.foldl (fun n c=>10*n+((c.toNat:Int) - 48)) a<(a+1)*10 ^ l.length:=by
  intro l
  induction l with
  | nil=>intro a _ _;simp;omega
  | cons c l ih =>
   intro a hl ha
   simp only [List.all_cons,Bool.and_eq_true] at hl
   have hc:48≤c.toNat∧c.toNat≤57:=by
    have:=hl.1
    simp only [inR,Bool.and_eq_true,decide_eq_true_eq] at this
    omega
   obtain ⟨h1,h2⟩:=ih (10*a+((c.toNat:Int) - 48)) hl.2 (by omega)
   simp only [List.foldl_cons,List.length_cons]
   have hp:(0:Int)<10 ^ l.length:=Int.pow_pos (by omega)
   have e1:(10:Int) ^ (l.length+1)=10*10 ^ l.length:=by rw [Int.pow_succ];omega
   have m1:a*(10*10 ^ l.length)≤(10*a+((c.toNat:Int) - 48))*10 ^ l.length:=by
    rw [← Int.mul_assoc]
    exact Int.mul_le_mul_of_nonneg_right (by omega) (by omega)
   have m2:(10*a+((c.toNat:Int) - 48)+1)*10 ^ l.length≤(a+1)*(10*10 ^ l.length):=by
    rw [← Int.mul_assoc]
    exact Int.mul_le_mul_of_nonneg_right (by omega) (by omega)
   rw [e1]
   exact ⟨Int.le_trans m1 h1,Int.lt_of_lt_of_le h2 m2⟩
 obtain ⟨h1,h2⟩:=hb t 0 key.1.1.2 (by omega)
 have h9:(10:Int) ^ t.length≤10 ^ 9:=by
  have hl:t.length≤9:=key.1.2
  have:=Nat.pow_le_pow_right (show 0<10 by omega) hl
  exact_mod_cast this
 unfold val
 constructor
 · simpa using h1
 · have:(1:Int)*10 ^ t.length≤1000000000:=by simpa using h9
   simp only [Int.zero_add] at h2
   omega
theorem Z1t {s:Bytes}{ts:List Tok}{k k':Nat}{n:Int}(h:Z0c s ts k=.ok (n,k')):0≤n∧n≤999999999:=by
 unfold Z0c at h
 split at h
 · split at h
   · rename_i h2
     injection h with h
     injection h with h3 h4
     rw [← h3]
     exact Zja h2
   · cases h
 · cases h
end
section
open Go.RowKit Lx Px
def RF (w:World)(pb:Nat)(wx:World):Prop:=But pb w wx∧RBox w #[.int .i64 0,.int .i64 0,.int .i64 0,.int .i64 0,.int .i64 0,.int .i64 0,.int .i64 0,.int .i64 0,.int .i64 0,.int .i64 0,.int .i64 0,.int .i64 0,.slice none 0 0,.int .i64 0,.int .i64 0,.slice none 0 0] 65 wx∧pb<w.heap.size
theorem RF.but {w:World}{pb:Nat}{wx wy:World}(h:RF w pb wx)(hb:But pb wx wy):RF w pb wy :=
 ⟨h.1.trans hb,(hb.block _ h.2.1.lt (by have:=h.2.2;omega)).trans h.2.1,h.2.2⟩
def RtI (w:World)(pb b4:Nat)(cs:Array Value)(wx:World):Prop:=RF w pb wx∧wx.heap[b4]?=some (.cells cs 65 (0,0))∧w.heap.size<b4
theorem RtI.but {w:World}{pb b4:Nat}{cs:Array Value}{wx wy:World}(h:RtI w pb b4 cs wx)(hb:But pb wx wy):RtI w pb b4 cs wy :=
 ⟨h.1.but hb,(hb.block _ (zs h.2.1) (by have:=h.1.2.2;have:=h.2.2;omega)).trans h.2.1,h.2.2⟩
theorem set_at {w:World}{b:Nat}{cs:Array Value}{ty:TypeId}(h:w.heap[b]?=some (.cells cs ty (0,0)))(i:Nat)(x:Value):(w.setCell ⟨b,i,none⟩ x).heap[b]?=some (.cells (cs.setIfInBounds i x) ty (0,0)):=by
 simp [World.setCell,Array.getElem?_modify,h]
theorem RtI.set {w:World}{pb b4:Nat}{cs:Array Value}{wx:World}(h:RtI w pb b4 cs wx)(i:Nat)(x:Value):RtI w pb b4 (cs.setIfInBounds i x) (wx.setCell ⟨b4,i,none⟩ x):=by
 obtain ⟨⟨h1,h2,h3⟩,h4,h5⟩:=h
 refine ⟨⟨h1.new (p:=⟨b4,i,none⟩) (by show w.heap.size≤b4;omega) _,?_,h3⟩,set_at h4 i x,h5⟩
 exact (Below.heap_setCell _ _ _ _ (show w.heap.size≠b4 by omega)).trans h2
theorem RtI.cell {w:World}{pb b4:Nat}{cs:Array Value}{wx:World}(h:RtI w pb b4 cs wx)(i:Nat)(x:Value)(hx:cs[i]?=some x):wx.cell? ⟨b4,i,none⟩=some x:=by rw [zc h.2.1,hx]
theorem RtI.free {w:World}{pb b4:Nat}{cs:Array Value}{wx:World}(h:RtI w pb b4 cs wx)(i:Nat):wx.frozen? ⟨b4,i,none⟩=false:=by simp [World.frozen?,h.2.1]
theorem RtI.far {w:World}{pb b4:Nat}{cs:Array Value}{wx:World}(h:RtI w pb b4 cs wx):pb<b4:=by have:=h.1.2.2;have:=h.2.2;omega
def Tq (w:World)(b4:Nat)(wx:World)(A:Option Addr)(c:Nat)(f:Fo):Prop:=FoD wx (fun b=>w.heap.size<b∧b≠b4∧b<wx.heap.size) (.slice A (flen f) c) f
theorem Tq.but {w:World}{pb b4:Nat}{wx wy:World}{A:Option Addr}{c:Nat}{f:Fo}(h:Tq w b4 wx A c f)(hb:But pb wx wy)(hp:pb<w.heap.size):Tq w b4 wy A c f :=
 FoD.keep h (fun b x=>⟨x.1,x.2.1,by have:=hb.size;have:=x.2.2;omega⟩) (fun b x=>hb.block b x.2.2 (by have:=x.1;omega))
theorem Tq.set {w:World}{b4:Nat}{wx:World}{A:Option Addr}{c:Nat}{f:Fo}(h:Tq w b4 wx A c f)(i:Nat)(x:Value):Tq w b4 (wx.setCell ⟨b4,i,none⟩ x) A c f :=
 FoD.keep h (fun b y=>⟨y.1,y.2.1,by simp only [World.setCell,Array.size_modify];exact y.2.2⟩) (fun b y=>Below.heap_setCell _ _ _ _ y.2.1)
theorem Tq.of {w wl wx:World}{b4:Nat}{A:Option Addr}{c:Nat}{f:Fo}(h:FoD wx (fun b=>wl.heap.size≤b∧b<wx.heap.size) (.slice A (flen f) c) f)(hl:w.heap.size<wl.heap.size)(h4:b4<wl.heap.size):Tq w b4 wx A c f :=
 FoD.keep h (fun b x=>⟨by have:=x.1;omega,by have:=x.1;omega,x.2⟩) (fun _ _=>rfl)
def rrV (r:Rr)(A1:Option Addr)(c1:Nat)(A2:Option Addr)(c2:Nat):Value :=
 .agg #[.int .i64 r.id,.int .i64 r.lv,.int .i64 r.kd,.int .i64 r.fr,.int .i64 r.un,.int .i64 r.ls,.int .i64 r.mo,.int .i64 r.ar,.int .i64 (pctN r.kp),.int .i64 (pctD r.kp),.int .i64 r.wh.1.1,.int .i64 r.wh.1.2,.slice A1 (flen r.wh.2) c1,.int .i64 r.pr.1.1,.int .i64 r.pr.1.2,.slice A2 (flen r.pr.2) c2]
def badV (ts:List Tok)(k:Nat):PanicEntry:={ v:=.iface 177 (.agg #[.int .i64 1,.int .i64 (lnAt ts k)]),recovered:=false }
def RtP (pb:Nat)(v:Value)(ts:List Tok)(k:Nat)(o:ROut)(w:World)(e:Ending)(w':World):Prop :=
 match o with
 | .ok r k'=>But pb w w'∧PI w' pb v ts k'∧∃ A1 c1 A2 c2,e=.returned (rrV r A1 c1 A2 c2)∧FoD w' (fun b=>w.heap.size≤b∧b<w'.heap.size) (.slice A1 (flen r.wh.2) c1) r.wh.2∧FoD w' (fun b=>w.heap.size≤b∧b<w'.heap.size) (.slice A2 (flen r.pr.2) c2) r.pr.2
 | .no k'=>But pb w w'∧e=.panicked [Zam ts k']
 | .bad=>But pb w w'∧e=.panicked [badV ts k]
theorem Zdc (pb:Nat)(v:Value)(ts:List Tok)(ex:Nat→Out)(hex:∀ k,k≤ts.length→okK ts k (ex k)∧∀ w,PI w pb v ts k→Calls Tryz.prog 163 #[.pointer (some ⟨pb,0,none⟩)] w (RP pb v ts (ex k) w))(k:Nat)(w:World)(h:PI w pb v ts k)(o:ROut)(ho:o=Z3F ex ts k) :
 Calls Tryz.prog 121 #[.pointer (some ⟨pb,0,none⟩)] w (RtP pb v ts k o w):=by
 have HEX:=zh hex;clear hex;have H0:=zh (h.on ((Below.refl _ _).alloc (zn _) (.cells #[.int .i64 0,.int .i64 0,.int .i64 0,.int .i64 0,.int .i64 0,.int .i64 0,.int .i64 0,.int .i64 0,.int .i64 0,.int .i64 0,.int .i64 0,.int .i64 0,.slice none 0 0,.int .i64 0,.int .i64 0,.slice none 0 0] 65)))
 have hlw:=h.lt
 have hF0:RF w pb (w.alloc (.cells #[.int .i64 0,.int .i64 0,.int .i64 0,.int .i64 0,.int .i64 0,.int .i64 0,.int .i64 0,.int .i64 0,.int .i64 0,.int .i64 0,.int .i64 0,.int .i64 0,.slice none 0 0,.int .i64 0,.int .i64 0,.slice none 0 0] 65)):=⟨(But.refl _ _).alloc _,za w _,h.lt⟩
 have F0:=zh hF0;have hfl:=Zd9
 clear h hF0;go_enter Tryz.func121,Tryz.ntmps121
 go_wp2_with fail;refine (Z24 _ pb v ts k H0.out).mono ?_
 rintro e w1 ⟨rfl,b1⟩;rw [tokV]
 have P:=zh (H0.out.on b1)
 have I:=zh (F0.out.but (But.of_below b1))
 clear b1 H0 F0;have hRR:o=Z3F ex ts k:=ho
 unfold Z3F at hRR
 have HO:=zh hRR;clear hRR ho;obtain ⟨kk,hkk⟩:∃ kk,kk=k:=⟨_,rfl⟩
 rw [← hkk] at HO P
 have HKK:=zh hkk;clear hkk;go_wp2_with fail;refine (Z1s _ pb v ts kk P.out Z63 (by decide)).mono ?_
 have hR:=HO.out
 rcases hN:Z0c Z63 ts kk with j | ⟨id,k2⟩
 · rw [hN] at hR
   have hR':o=.no j:=hR
   subst hR';rintro e w2 ⟨hb,rfl⟩;exact ⟨rfl,I.out.1.trans hb,rfl⟩
 have hnid:=Z1t hN;rw [hN] at hR
 simp only [Z62] at hR
 clear HO;have HO:=zh hR;rintro e w2 ⟨hb,hP,rfl⟩;have P':=zh hP;have I':=zh (I.out.but hb)
 clear hR hb hP hN P I;have P:=P'
 have I:=I'
 clear P' I';go_wp2_with fail;refine (Z1s _ pb v ts k2 P.out Zan (by decide)).mono ?_
 have hR:=HO.out
 rcases hN:Z0c Zan ts k2 with j | ⟨lv,k3⟩
 · rw [hN] at hR
   have hR':o=.no j:=hR
   subst hR';rintro e w3 ⟨hb,rfl⟩;exact ⟨rfl,I.out.1.trans hb,rfl⟩
 have hnlv:=Z1t hN;rw [hN] at hR
 simp only at hR
 clear HO;have HO:=zh hR;rintro e w3 ⟨hb,hP,rfl⟩;have P':=zh hP;have I':=zh (I.out.but hb)
 clear hR hb hP hN P I;have P:=P'
 have I:=I'
 clear P' I';go_wp2_with fail;refine (Z1s _ pb v ts k3 P.out Zgn (by decide)).mono ?_
 have hR:=HO.out
 rcases hN:Z0c Zgn ts k3 with j | ⟨kd,k4⟩
 · rw [hN] at hR
   have hR':o=.no j:=hR
   subst hR';rintro e w4 ⟨hb,rfl⟩;exact ⟨rfl,I.out.1.trans hb,rfl⟩
 have hnkd:=Z1t hN;rw [hN] at hR
 simp only at hR
 clear HO;have HO:=zh hR;rintro e w4 ⟨hb,hP,rfl⟩;have P':=zh hP;have I':=zh (I.out.but hb)
 clear hR hb hP hN P I;have P:=P'
 have I:=I'
 clear P' I';have hl4:=I.out.2.1.lt
 have hnew:=za w4 (.cells #[.int .i64 id,.int .i64 lv,.int .i64 kd,.int .i64 0,.int .i64 0,.int .i64 0,.int .i64 0,.int .i64 0,.int .i64 0,.int .i64 0,.int .i64 0,.int .i64 0,.slice none 0 0,.int .i64 0,.int .i64 0,.slice none 0 0] 65)
 have hbn:But pb w4 (w4.alloc (.cells #[.int .i64 id,.int .i64 lv,.int .i64 kd,.int .i64 0,.int .i64 0,.int .i64 0,.int .i64 0,.int .i64 0,.int .i64 0,.int .i64 0,.int .i64 0,.int .i64 0,.slice none 0 0,.int .i64 0,.int .i64 0,.slice none 0 0] 65)):=(But.refl _ _).alloc _
 have I':Hid (RtI w pb w4.heap.size #[.int .i64 id,.int .i64 lv,.int .i64 kd,.int .i64 0,.int .i64 0,.int .i64 0,.int .i64 0,.int .i64 0,.int .i64 0,.int .i64 0,.int .i64 0,.int .i64 0,.slice none 0 0,.int .i64 0,.int .i64 0,.slice none 0 0] (w4.alloc (.cells #[.int .i64 id,.int .i64 lv,.int .i64 kd,.int .i64 0,.int .i64 0,.int .i64 0,.int .i64 0,.int .i64 0,.int .i64 0,.int .i64 0,.int .i64 0,.int .i64 0,.slice none 0 0,.int .i64 0,.int .i64 0,.slice none 0 0] 65))):=⟨I.out.but hbn,hnew,hl4⟩
 have P':=zh (P.out.on ((Below.refl _ _).alloc (zn _) (.cells #[.int .i64 id,.int .i64 lv,.int .i64 kd,.int .i64 0,.int .i64 0,.int .i64 0,.int .i64 0,.int .i64 0,.int .i64 0,.int .i64 0,.int .i64 0,.int .i64 0,.slice none 0 0,.int .i64 0,.int .i64 0,.slice none 0 0] 65)))
 clear hnew hbn hl4 P I;have P:=P'
 have I:=I'
 clear P' I';go_wp2_with fail;generalize w4.alloc (.cells #[.int .i64 id,.int .i64 lv,.int .i64 kd,.int .i64 0,.int .i64 0,.int .i64 0,.int .i64 0,.int .i64 0,.int .i64 0,.int .i64 0,.int .i64 0,.int .i64 0,.slice none 0 0,.int .i64 0,.int .i64 0,.slice none 0 0] 65)=w5 at *
 generalize w4.heap.size=b4 at *
 refine (Z1s _ pb v ts k4 P.out Z64 (by decide)).mono ?_
 have hR:=HO.out
 rcases hN:Z0c Z64 ts k4 with j | ⟨fr,k6⟩
 · rw [hN] at hR
   have hR':o=.no j:=hR
   subst hR';rintro e w6 ⟨hb,rfl⟩;exact ⟨rfl,I.out.1.1.trans hb,rfl⟩
 have hnfr:=Z1t hN;rw [hN] at hR
 simp only at hR
 clear HO;have HO:=zh hR;rintro e w6 ⟨hb,hP,rfl⟩;have P':=zh hP;have I':=zh (I.out.but hb)
 clear hR hb hP hN P I;have P:=P'
 have I:=I'
 clear P' I';go_wp2_with fail;refine (Z1s _ pb v ts k6 P.out kTo (by decide)).mono ?_
 have hR:=HO.out
 rcases hN:Z0c kTo ts k6 with j | ⟨un,k7⟩
 · rw [hN] at hR
   have hR':o=.no j:=hR
   subst hR';rintro e w7 ⟨hb,rfl⟩;exact ⟨rfl,I.out.1.1.trans hb,rfl⟩
 have hnun:=Z1t hN;rw [hN] at hR
 simp only at hR
 clear HO;have HO:=zh hR;rintro e w7 ⟨hb,hP,rfl⟩;have P':=zh hP;have I':=zh (I.out.but hb)
 clear hR hb hP hN P I;have P:=P'
 have I:=I'
 clear P' I';have c3:=I.out.cell 3 _ rfl
 have f3:=I.out.free 3
 have c4:=I.out.cell 4 _ rfl
 have f4:=I.out.free 4
 go_wp2_with fail;have hcs:(((#[.int .i64 id,.int .i64 lv,.int .i64 kd,.int .i64 0,.int .i64 0,.int .i64 0,.int .i64 0,.int .i64 0,.int .i64 0,.int .i64 0,.int .i64 0,.int .i64 0,.slice none 0 0,.int .i64 0,.int .i64 0,.slice none 0 0]:Array Value).setIfInBounds 3 (.int .i64 fr)).setIfInBounds 4 (.int .i64 un))=#[.int .i64 id,.int .i64 lv,.int .i64 kd,.int .i64 fr,.int .i64 un,.int .i64 0,.int .i64 0,.int .i64 0,.int .i64 0,.int .i64 0,.int .i64 0,.int .i64 0,.slice none 0 0,.int .i64 0,.int .i64 0,.slice none 0 0]:=by kernel_rfl
 have hI:=((I.out.set 3 (.int .i64 fr)).set 4 (.int .i64 un))
 rw [hcs] at hI
 have I':=zh hI;have P':=zh ((P.out.far (p:=⟨b4,3,none⟩) I.out.far (.int .i64 fr)).far (p:=⟨b4,4,none⟩) I.out.far (.int .i64 un))
 clear hcs hI c3 f3 c4 f4 P I;have P:=P'
 have I:=I'
 clear P' I';generalize ((w7.setCell ⟨b4,3,none⟩ (.int .i64 fr)).setCell ⟨b4,4,none⟩ (.int .i64 un))=w8 at *
 refine (Z1s _ pb v ts k7 P.out Zgp (by decide)).mono ?_
 have hR:=HO.out
 rcases hN:Z0c Zgp ts k7 with j | ⟨ls,k9⟩
 · rw [hN] at hR
   have hR':o=.no j:=hR
   subst hR';rintro e w9 ⟨hb,rfl⟩;exact ⟨rfl,I.out.1.1.trans hb,rfl⟩
 have hnls:=Z1t hN;rw [hN] at hR
 simp only at hR
 clear HO;have HO:=zh hR;rintro e w9 ⟨hb,hP,rfl⟩;have P':=zh hP;have I':=zh (I.out.but hb)
 clear hR hb hP hN P I;have P:=P'
 have I:=I'
 clear P' I';go_wp2_with fail;refine (Z1s _ pb v ts k9 P.out kTo (by decide)).mono ?_
 have hR:=HO.out
 rcases hN:Z0c kTo ts k9 with j | ⟨mo,k10⟩
 · rw [hN] at hR
   have hR':o=.no j:=hR
   subst hR';rintro e w10 ⟨hb,rfl⟩;exact ⟨rfl,I.out.1.1.trans hb,rfl⟩
 have hnmo:=Z1t hN;rw [hN] at hR
 simp only at hR
 clear HO;have HO:=zh hR;rintro e w10 ⟨hb,hP,rfl⟩;have P':=zh hP;have I':=zh (I.out.but hb)
 clear hR hb hP hN P I;have P:=P'
 have I:=I'
 clear P' I';have c5:=I.out.cell 5 _ rfl
 have f5:=I.out.free 5
 have c6:=I.out.cell 6 _ rfl
 have f6:=I.out.free 6
 go_wp2_with fail;have hcs:(((#[.int .i64 id,.int .i64 lv,.int .i64 kd,.int .i64 fr,.int .i64 un,.int .i64 0,.int .i64 0,.int .i64 0,.int .i64 0,.int .i64 0,.int .i64 0,.int .i64 0,.slice none 0 0,.int .i64 0,.int .i64 0,.slice none 0 0]:Array Value).setIfInBounds 5 (.int .i64 ls)).setIfInBounds 6 (.int .i64 mo))=#[.int .i64 id,.int .i64 lv,.int .i64 kd,.int .i64 fr,.int .i64 un,.int .i64 ls,.int .i64 mo,.int .i64 0,.int .i64 0,.int .i64 0,.int .i64 0,.int .i64 0,.slice none 0 0,.int .i64 0,.int .i64 0,.slice none 0 0]:=by kernel_rfl
 have hI:=((I.out.set 5 (.int .i64 ls)).set 6 (.int .i64 mo))
 rw [hcs] at hI
 have I':=zh hI;have P':=zh ((P.out.far (p:=⟨b4,5,none⟩) I.out.far (.int .i64 ls)).far (p:=⟨b4,6,none⟩) I.out.far (.int .i64 mo))
 clear hcs hI c5 f5 c6 f6 P I;have P:=P'
 have I:=I'
 clear P' I';generalize ((w10.setCell ⟨b4,5,none⟩ (.int .i64 ls)).setCell ⟨b4,6,none⟩ (.int .i64 mo))=w11 at *
 refine (Z1s _ pb v ts k10 P.out Z7i (by decide)).mono ?_
 have hR:=HO.out
 rcases hN:Z0c Z7i ts k10 with j | ⟨ar,k12⟩
 · rw [hN] at hR
   have hR':o=.no j:=hR
   subst hR';rintro e w12 ⟨hb,rfl⟩;exact ⟨rfl,I.out.1.1.trans hb,rfl⟩
 have hnar:=Z1t hN;rw [hN] at hR
 simp only at hR
 clear HO;have HO:=zh hR;rintro e w12 ⟨hb,hP,rfl⟩;have P':=zh hP;have I':=zh (I.out.but hb)
 clear hR hb hP hN P I;have P:=P'
 have I:=I'
 clear P' I';have c7:=I.out.cell 7 _ rfl
 have f7:=I.out.free 7
 go_wp2_with fail;have hcs:((#[.int .i64 id,.int .i64 lv,.int .i64 kd,.int .i64 fr,.int .i64 un,.int .i64 ls,.int .i64 mo,.int .i64 0,.int .i64 0,.int .i64 0,.int .i64 0,.int .i64 0,.slice none 0 0,.int .i64 0,.int .i64 0,.slice none 0 0]:Array Value).setIfInBounds 7 (.int .i64 ar))=#[.int .i64 id,.int .i64 lv,.int .i64 kd,.int .i64 fr,.int .i64 un,.int .i64 ls,.int .i64 mo,.int .i64 ar,.int .i64 0,.int .i64 0,.int .i64 0,.int .i64 0,.slice none 0 0,.int .i64 0,.int .i64 0,.slice none 0 0]:=by kernel_rfl
 have hI:=(I.out.set 7 (.int .i64 ar))
 rw [hcs] at hI
 have I':=zh hI;have P':=zh (P.out.far (p:=⟨b4,7,none⟩) I.out.far (.int .i64 ar))
 clear hcs hI c7 f7 P I;have P:=P'
 have I:=I'
 clear P' I';generalize (w12.setCell ⟨b4,7,none⟩ (.int .i64 ar))=w13 at *
 refine (Z1s _ pb v ts k12 P.out Zgq (by decide)).mono ?_
 have hR:=HO.out
 rcases hN:Z0c Zgq ts k12 with j | ⟨kp,k14⟩
 · rw [hN] at hR
   have hR':o=.no j:=hR
   subst hR';rintro e w14 ⟨hb,rfl⟩;exact ⟨rfl,I.out.1.1.trans hb,rfl⟩
 have hnkp:=Z1t hN;rw [hN] at hR
 simp only at hR
 clear HO;have HO:=zh hR;rintro e w14 ⟨hb,hP,rfl⟩;have P':=zh hP;have I':=zh (I.out.but hb)
 clear hR hb hP hN P I;have P:=P'
 have I:=I'
 clear P' I';go_wp2_with fail;refine (Zj9 kp _ hnkp.1 hnkp.2).mono ?_
 rintro e w15 ⟨rfl,hb⟩;have P':=zh (P.out.on hb)
 have I':=zh (I.out.but (But.of_below hb))
 clear hb P I;have P:=P'
 have I:=I'
 clear P' I';have c8:=I.out.cell 8 _ rfl
 have f8:=I.out.free 8
 have c9:=I.out.cell 9 _ rfl
 have f9:=I.out.free 9
 go_wp2_with fail;have hcs:(((#[.int .i64 id,.int .i64 lv,.int .i64 kd,.int .i64 fr,.int .i64 un,.int .i64 ls,.int .i64 mo,.int .i64 ar,.int .i64 0,.int .i64 0,.int .i64 0,.int .i64 0,.slice none 0 0,.int .i64 0,.int .i64 0,.slice none 0 0]:Array Value).setIfInBounds 8 (.int .i64 (pctN kp))).setIfInBounds 9 (.int .i64 (pctD kp)))=#[.int .i64 id,.int .i64 lv,.int .i64 kd,.int .i64 fr,.int .i64 un,.int .i64 ls,.int .i64 mo,.int .i64 ar,.int .i64 (pctN kp),.int .i64 (pctD kp),.int .i64 0,.int .i64 0,.slice none 0 0,.int .i64 0,.int .i64 0,.slice none 0 0]:=by kernel_rfl
 have hI:=((I.out.set 8 (.int .i64 (pctN kp))).set 9 (.int .i64 (pctD kp)))
 rw [hcs] at hI
 have I':=zh hI;have P':=zh ((P.out.far (p:=⟨b4,8,none⟩) I.out.far (.int .i64 (pctN kp))).far (p:=⟨b4,9,none⟩) I.out.far (.int .i64 (pctD kp)))
 clear hcs hI c8 f8 c9 f9 P I;have P:=P'
 have I:=I'
 clear P' I';generalize ((w15.setCell ⟨b4,8,none⟩ (.int .i64 (pctN kp))).setCell ⟨b4,9,none⟩ (.int .i64 (pctD kp)))=w16 at *
 have hR:=HO.out
 by_cases hm:nxt ts k14=[37]
 rotate_left
 · rw [Z3C,if_neg hm] at hR
   subst hR;refine (Z2h _ pb v ts k14 P.out [37] hm).mono ?_
   rintro e w17 ⟨rfl,hb⟩;exact ⟨rfl,I.out.1.1.trans (But.of_below hb),rfl⟩
 rw [Z3C,if_pos hm] at hR
 clear HO;have HO:=zh hR;refine (Z18 _ pb v ts k14 P.out (Z2n hm (by decide)) [37] hm).mono ?_
 rintro e w17 ⟨rfl,hP,hb⟩;have P':=zh hP;have I':=zh (I.out.but hb)
 clear hR hb hP hm P I;have P:=P'
 have I:=I'
 clear P' I';go_wp2_with fail;have hR:=HO.out
 by_cases hm:nxt ts (k14+1)=Zen
 rotate_left
 · rw [Z3C,if_neg hm] at hR
   subst hR;refine (Z2h _ pb v ts (k14+1) P.out Zen hm).mono ?_
   rintro e w18 ⟨rfl,hb⟩;exact ⟨rfl,I.out.1.1.trans (But.of_below hb),rfl⟩
 rw [Z3C,if_pos hm] at hR
 clear HO;have HO:=zh hR;refine (Z18 _ pb v ts (k14+1) P.out (Z2n hm (by decide)) Zen hm).mono ?_
 rintro e w18 ⟨rfl,hP,hb⟩;have P':=zh hP;have I':=zh (I.out.but hb)
 clear hR hb hP hm P I;have P:=P'
 have I:=I'
 clear P' I';go_wp2_with fail;have hR:=HO.out
 have hcall:=(HEX.out ((k14+1)+1) P.out.2.2.1).2 _ P.out
 rcases hE:ex ((k14+1)+1) with ⟨wh,k19⟩ | j
 rotate_left
 · rw [hE] at hR hcall
   have hR':o=.no j:=hR
   subst hR';refine hcall.mono ?_
   rintro e w19 ⟨hb,rfl⟩;exact ⟨rfl,I.out.1.1.trans hb,rfl⟩
 rw [hE] at hR hcall
 simp only [Zem] at hR
 clear HO;have HO:=zh hR;refine hcall.mono ?_
 rintro e w19 ⟨hb,hP,A1,c1,rfl,hF⟩;have hl4:=(zs I.out.2.1)
 have hlr:=I.out.1.2.1.lt
 have T1:=zh (Tq.of (w:=w) (b4:=b4) hF hlr hl4)
 have P':=zh hP;have I':=zh (I.out.but hb)
 clear hR hb hP hF hE hcall hl4 hlr P I;have P:=P'
 have I:=I'
 clear P' I';have c10:=I.out.cell 10 _ rfl
 have f10:=I.out.free 10
 have c11:=I.out.cell 11 _ rfl
 have f11:=I.out.free 11
 have c12:=I.out.cell 12 _ rfl
 have f12:=I.out.free 12
 go_wp2_with fail;have hcs:((((#[.int .i64 id,.int .i64 lv,.int .i64 kd,.int .i64 fr,.int .i64 un,.int .i64 ls,.int .i64 mo,.int .i64 ar,.int .i64 (pctN kp),.int .i64 (pctD kp),.int .i64 0,.int .i64 0,.slice none 0 0,.int .i64 0,.int .i64 0,.slice none 0 0]:Array Value).setIfInBounds 10 (.int .i64 wh.1.1)).setIfInBounds 11 (.int .i64 wh.1.2)).setIfInBounds 12 (.slice A1 (flen wh.2) c1))=#[.int .i64 id,.int .i64 lv,.int .i64 kd,.int .i64 fr,.int .i64 un,.int .i64 ls,.int .i64 mo,.int .i64 ar,.int .i64 (pctN kp),.int .i64 (pctD kp),.int .i64 wh.1.1,.int .i64 wh.1.2,.slice A1 (flen wh.2) c1,.int .i64 0,.int .i64 0,.slice none 0 0]:=by kernel_rfl
 have hI:=(((I.out.set 10 (.int .i64 wh.1.1)).set 11 (.int .i64 wh.1.2)).set 12 (.slice A1 (flen wh.2) c1))
 rw [hcs] at hI
 have I':=zh hI;have P':=zh (((P.out.far (p:=⟨b4,10,none⟩) I.out.far (.int .i64 wh.1.1)).far (p:=⟨b4,11,none⟩) I.out.far (.int .i64 wh.1.2)).far (p:=⟨b4,12,none⟩) I.out.far (.slice A1 (flen wh.2) c1))
 have T1':=zh (((T1.out.set 10 (.int .i64 wh.1.1)).set 11 (.int .i64 wh.1.2)).set 12 (.slice A1 (flen wh.2) c1))
 clear T1;have T1:=T1'
 clear T1' hcs hI c10 f10 c11 f11 c12 f12 P I;have P:=P'
 have I:=I'
 clear P' I';generalize (((w19.setCell ⟨b4,10,none⟩ (.int .i64 wh.1.1)).setCell ⟨b4,11,none⟩ (.int .i64 wh.1.2)).setCell ⟨b4,12,none⟩ (.slice A1 (flen wh.2) c1))=w20 at *
 have hR:=HO.out
 by_cases hm:nxt ts k19=Z8m
 rotate_left
 · rw [Z3C,if_neg hm] at hR
   subst hR;refine (Z2h _ pb v ts k19 P.out Z8m hm).mono ?_
   rintro e w21 ⟨rfl,hb⟩;exact ⟨rfl,I.out.1.1.trans (But.of_below hb),rfl⟩
 rw [Z3C,if_pos hm] at hR
 clear HO;have HO:=zh hR;refine (Z18 _ pb v ts k19 P.out (Z2n hm (by decide)) Z8m hm).mono ?_
 rintro e w21 ⟨rfl,hP,hb⟩;have P':=zh hP;have I':=zh (I.out.but hb)
 have T1':=zh (T1.out.but hb hlw)
 clear T1;have T1:=T1'
 clear T1' hR hb hP hm P I;have P:=P'
 have I:=I'
 clear P' I';go_wp2_with fail;have hR:=HO.out
 have hcall:=(HEX.out (k19+1) P.out.2.2.1).2 _ P.out
 rcases hE:ex (k19+1) with ⟨pr,k22⟩ | j
 rotate_left
 · rw [hE] at hR hcall
   have hR':o=.no j:=hR
   subst hR';refine hcall.mono ?_
   rintro e w22 ⟨hb,rfl⟩;exact ⟨rfl,I.out.1.1.trans hb,rfl⟩
 rw [hE] at hR hcall
 simp only at hR
 clear HO;have HO:=zh hR;refine hcall.mono ?_
 rintro e w22 ⟨hb,hP,A2,c2,rfl,hF⟩;have hl4:=(zs I.out.2.1)
 have hlr:=I.out.1.2.1.lt
 have T2:=zh (Tq.of (w:=w) (b4:=b4) hF hlr hl4)
 have P':=zh hP;have I':=zh (I.out.but hb)
 have T1':=zh (T1.out.but hb hlw)
 clear T1;have T1:=T1'
 clear T1' hR hb hP hF hE hcall hl4 hlr P I;have P:=P'
 have I:=I'
 clear P' I';have c13:=I.out.cell 13 _ rfl
 have f13:=I.out.free 13
 have c14:=I.out.cell 14 _ rfl
 have f14:=I.out.free 14
 have c15:=I.out.cell 15 _ rfl
 have f15:=I.out.free 15
 go_wp2_with fail;have hcs:((((#[.int .i64 id,.int .i64 lv,.int .i64 kd,.int .i64 fr,.int .i64 un,.int .i64 ls,.int .i64 mo,.int .i64 ar,.int .i64 (pctN kp),.int .i64 (pctD kp),.int .i64 wh.1.1,.int .i64 wh.1.2,.slice A1 (flen wh.2) c1,.int .i64 0,.int .i64 0,.slice none 0 0]:Array Value).setIfInBounds 13 (.int .i64 pr.1.1)).setIfInBounds 14 (.int .i64 pr.1.2)).setIfInBounds 15 (.slice A2 (flen pr.2) c2))=#[.int .i64 id,.int .i64 lv,.int .i64 kd,.int .i64 fr,.int .i64 un,.int .i64 ls,.int .i64 mo,.int .i64 ar,.int .i64 (pctN kp),.int .i64 (pctD kp),.int .i64 wh.1.1,.int .i64 wh.1.2,.slice A1 (flen wh.2) c1,.int .i64 pr.1.1,.int .i64 pr.1.2,.slice A2 (flen pr.2) c2]:=by kernel_rfl
 have hI:=(((I.out.set 13 (.int .i64 pr.1.1)).set 14 (.int .i64 pr.1.2)).set 15 (.slice A2 (flen pr.2) c2))
 rw [hcs] at hI
 have I':=zh hI;have P':=zh (((P.out.far (p:=⟨b4,13,none⟩) I.out.far (.int .i64 pr.1.1)).far (p:=⟨b4,14,none⟩) I.out.far (.int .i64 pr.1.2)).far (p:=⟨b4,15,none⟩) I.out.far (.slice A2 (flen pr.2) c2))
 have T1':=zh (((T1.out.set 13 (.int .i64 pr.1.1)).set 14 (.int .i64 pr.1.2)).set 15 (.slice A2 (flen pr.2) c2))
 clear T1;have T1:=T1'
 clear T1';have T2':=zh (((T2.out.set 13 (.int .i64 pr.1.1)).set 14 (.int .i64 pr.1.2)).set 15 (.slice A2 (flen pr.2) c2))
 clear T2;have T2:=T2'
 clear T2' hcs hI c13 f13 c14 f14 c15 f15 P I;have P:=P'
 have I:=I'
 clear P' I';generalize (((w22.setCell ⟨b4,13,none⟩ (.int .i64 pr.1.1)).setCell ⟨b4,14,none⟩ (.int .i64 pr.1.2)).setCell ⟨b4,15,none⟩ (.slice A2 (flen pr.2) c2))=w23 at *
 have hR:=HO.out
 by_cases hm:nxt ts k22=[59]
 rotate_left
 · rw [Z3C,if_neg hm] at hR
   subst hR;refine (Z2h _ pb v ts k22 P.out [59] hm).mono ?_
   rintro e w24 ⟨rfl,hb⟩;exact ⟨rfl,I.out.1.1.trans (But.of_below hb),rfl⟩
 rw [Z3C,if_pos hm] at hR
 clear HO;have HO:=zh hR;refine (Z18 _ pb v ts k22 P.out (Z2n hm (by decide)) [59] hm).mono ?_
 rintro e w24 ⟨rfl,hP,hb⟩;have P':=zh hP;have I':=zh (I.out.but hb)
 have T1':=zh (T1.out.but hb hlw)
 clear T1;have T1:=T1'
 clear T1';have T2':=zh (T2.out.but hb hlw)
 clear T2;have T2:=T2'
 clear T2' hR hb hP hm P I;have P:=P'
 have I:=I'
 clear P' I';have cc10:=I.out.cell 10 _ rfl
 have cc11:=I.out.cell 11 _ rfl
 have cc12:=I.out.cell 12 _ rfl
 have cc13:=I.out.cell 13 _ rfl
 have cc14:=I.out.cell 14 _ rfl
 have cc15:=I.out.cell 15 _ rfl
 go_wp2_with fail;refine (Z2D wh.1.1 wh.1.2 wh.2 (.slice A1 (flen wh.2) c1) _ (T1.out.v (fun b h=>h.2.2))).mono ?_
 rintro e w30 ⟨rfl,hb⟩;clear cc10 cc11 cc12 cc13 cc14 cc15;have P':=zh (P.out.on hb)
 have I':=zh (I.out.but (But.of_below hb))
 have hbb:But pb _ _:=But.of_below hb
 have T1':=zh (T1.out.but hbb hlw)
 clear T1;have T1:=T1'
 clear T1';have T2':=zh (T2.out.but hbb hlw)
 clear T2;have T2:=T2'
 clear T2' hb hbb P I;have P:=P'
 have I:=I'
 clear P' I';cases hv1:Z0d wh.1.1 wh.1.2 wh.2 with
 | false =>
  have hR:=HO.out
  rw [hv1] at hR
  have hR':o=.bad:=hR
  clear hR HO hv1;subst hR';go_wp2_with fail;exact ⟨rfl,I.out.1.1,rfl⟩
 | true =>
  have hR:=HO.out
  rw [hv1] at hR
  clear HO hv1;have HO:=zh hR;clear hR;have cc10:=I.out.cell 10 _ rfl
  have cc11:=I.out.cell 11 _ rfl
  have cc12:=I.out.cell 12 _ rfl
  have cc13:=I.out.cell 13 _ rfl
  have cc14:=I.out.cell 14 _ rfl
  have cc15:=I.out.cell 15 _ rfl
  go_wp2_with fail;refine (Z2D pr.1.1 pr.1.2 pr.2 (.slice A2 (flen pr.2) c2) _ (T2.out.v (fun b h=>h.2.2))).mono ?_
  rintro e w31 ⟨rfl,hb⟩;clear cc10 cc11 cc12 cc13 cc14 cc15;have P':=zh (P.out.on hb)
  have I':=zh (I.out.but (But.of_below hb))
  have hbb:But pb _ _:=But.of_below hb
  have T1':=zh (T1.out.but hbb hlw)
  clear T1;have T1:=T1'
  clear T1';have T2':=zh (T2.out.but hbb hlw)
  clear T2;have T2:=T2'
  clear T2' hb hbb P I;have P:=P'
  have I:=I'
  clear P' I';cases hv2:Z0d pr.1.1 pr.1.2 pr.2 with
  | false =>
   have hR:=HO.out
   rw [hv2] at hR
   have hR':o=.bad:=hR
   clear hR HO hv2;subst hR';go_wp2_with fail;exact ⟨rfl,I.out.1.1,rfl⟩
  | true =>
   have hR:=HO.out
   rw [hv2] at hR
   have hR':o=.ok ⟨id,lv,kd,fr,un,ls,mo,ar,kp,wh,pr⟩ (k22+1):=hR
   clear HO hv2 hR;subst hR';have cc0:=I.out.cell 0 _ rfl
   have z0:=I.out.1.2.1.cell 0 _ rfl
   have y0:=I.out.1.2.1.free 0
   have cc1:=I.out.cell 1 _ rfl
   have z1:=I.out.1.2.1.cell 1 _ rfl
   have y1:=I.out.1.2.1.free 1
   have cc2:=I.out.cell 2 _ rfl
   have z2:=I.out.1.2.1.cell 2 _ rfl
   have y2:=I.out.1.2.1.free 2
   have cc3:=I.out.cell 3 _ rfl
   have z3:=I.out.1.2.1.cell 3 _ rfl
   have y3:=I.out.1.2.1.free 3
   have cc4:=I.out.cell 4 _ rfl
   have z4:=I.out.1.2.1.cell 4 _ rfl
   have y4:=I.out.1.2.1.free 4
   have cc5:=I.out.cell 5 _ rfl
   have z5:=I.out.1.2.1.cell 5 _ rfl
   have y5:=I.out.1.2.1.free 5
   have cc6:=I.out.cell 6 _ rfl
   have z6:=I.out.1.2.1.cell 6 _ rfl
   have y6:=I.out.1.2.1.free 6
   have cc7:=I.out.cell 7 _ rfl
   have z7:=I.out.1.2.1.cell 7 _ rfl
   have y7:=I.out.1.2.1.free 7
   have cc8:=I.out.cell 8 _ rfl
   have z8:=I.out.1.2.1.cell 8 _ rfl
   have y8:=I.out.1.2.1.free 8
   have cc9:=I.out.cell 9 _ rfl
   have z9:=I.out.1.2.1.cell 9 _ rfl
   have y9:=I.out.1.2.1.free 9
   have cc10:=I.out.cell 10 _ rfl
   have z10:=I.out.1.2.1.cell 10 _ rfl
   have y10:=I.out.1.2.1.free 10
   have cc11:=I.out.cell 11 _ rfl
   have z11:=I.out.1.2.1.cell 11 _ rfl
   have y11:=I.out.1.2.1.free 11
   have cc12:=I.out.cell 12 _ rfl
   have z12:=I.out.1.2.1.cell 12 _ rfl
   have y12:=I.out.1.2.1.free 12
   have cc13:=I.out.cell 13 _ rfl
   have z13:=I.out.1.2.1.cell 13 _ rfl
   have y13:=I.out.1.2.1.free 13
   have cc14:=I.out.cell 14 _ rfl
   have z14:=I.out.1.2.1.cell 14 _ rfl
   have y14:=I.out.1.2.1.free 14
   have cc15:=I.out.cell 15 _ rfl
   have z15:=I.out.1.2.1.cell 15 _ rfl
   have y15:=I.out.1.2.1.free 15
   go_wp2_with fail;refine bodyPost_ret (v:=rrV ⟨id,lv,kd,fr,un,ls,mo,ar,kp,wh,pr⟩ A1 c1 A2 c2) (by simp [results,Tryz.results121,go_sem,rrV,z0,z1,z2,z3,z4,z5,z6,z7,z8,z9,z10,z11,z12,z13,z14,z15]) rfl ?_
   refine ⟨((((((((((((((((I.out.1.1.new (p:=⟨w.heap.size,0,none⟩) (zn _) _).new (p:=⟨w.heap.size,1,none⟩) (zn _) _).new (p:=⟨w.heap.size,2,none⟩) (zn _) _).new (p:=⟨w.heap.size,3,none⟩) (zn _) _).new (p:=⟨w.heap.size,4,none⟩) (zn _) _).new (p:=⟨w.heap.size,5,none⟩) (zn _) _).new (p:=⟨w.heap.size,6,none⟩) (zn _) _).new (p:=⟨w.heap.size,7,none⟩) (zn _) _).new (p:=⟨w.heap.size,8,none⟩) (zn _) _).new (p:=⟨w.heap.size,9,none⟩) (zn _) _).new (p:=⟨w.heap.size,10,none⟩) (zn _) _).new (p:=⟨w.heap.size,11,none⟩) (zn _) _).new (p:=⟨w.heap.size,12,none⟩) (zn _) _).new (p:=⟨w.heap.size,13,none⟩) (zn _) _).new (p:=⟨w.heap.size,14,none⟩) (zn _) _).new (p:=⟨w.heap.size,15,none⟩) (zn _) _),((((((((((((((((P.out.far (p:=⟨w.heap.size,0,none⟩) hlw _).far (p:=⟨w.heap.size,1,none⟩) hlw _).far (p:=⟨w.heap.size,2,none⟩) hlw _).far (p:=⟨w.heap.size,3,none⟩) hlw _).far (p:=⟨w.heap.size,4,none⟩) hlw _).far (p:=⟨w.heap.size,5,none⟩) hlw _).far (p:=⟨w.heap.size,6,none⟩) hlw _).far (p:=⟨w.heap.size,7,none⟩) hlw _).far (p:=⟨w.heap.size,8,none⟩) hlw _).far (p:=⟨w.heap.size,9,none⟩) hlw _).far (p:=⟨w.heap.size,10,none⟩) hlw _).far (p:=⟨w.heap.size,11,none⟩) hlw _).far (p:=⟨w.heap.size,12,none⟩) hlw _).far (p:=⟨w.heap.size,13,none⟩) hlw _).far (p:=⟨w.heap.size,14,none⟩) hlw _).far (p:=⟨w.heap.size,15,none⟩) hlw _),A1,c1,A2,c2,rfl,?_,?_⟩
   · refine T1.out.keep (fun b h=>⟨by have:=h.1;omega,by simp only [World.setCell,Array.size_modify];exact h.2.2⟩) (fun b h=>?_)
     have hne:b≠w.heap.size:=by have:=h.1;omega
     rw [Below.heap_setCell _ _ _ _ hne,Below.heap_setCell _ _ _ _ hne,Below.heap_setCell _ _ _ _ hne,Below.heap_setCell _ _ _ _ hne,Below.heap_setCell _ _ _ _ hne,Below.heap_setCell _ _ _ _ hne,Below.heap_setCell _ _ _ _ hne,Below.heap_setCell _ _ _ _ hne,Below.heap_setCell _ _ _ _ hne,Below.heap_setCell _ _ _ _ hne,Below.heap_setCell _ _ _ _ hne,Below.heap_setCell _ _ _ _ hne,Below.heap_setCell _ _ _ _ hne,Below.heap_setCell _ _ _ _ hne,Below.heap_setCell _ _ _ _ hne,Below.heap_setCell _ _ _ _ hne]
   · refine T2.out.keep (fun b h=>⟨by have:=h.1;omega,by simp only [World.setCell,Array.size_modify];exact h.2.2⟩) (fun b h=>?_)
     have hne:b≠w.heap.size:=by have:=h.1;omega
     rw [Below.heap_setCell _ _ _ _ hne,Below.heap_setCell _ _ _ _ hne,Below.heap_setCell _ _ _ _ hne,Below.heap_setCell _ _ _ _ hne,Below.heap_setCell _ _ _ _ hne,Below.heap_setCell _ _ _ _ hne,Below.heap_setCell _ _ _ _ hne,Below.heap_setCell _ _ _ _ hne,Below.heap_setCell _ _ _ _ hne,Below.heap_setCell _ _ _ _ hne,Below.heap_setCell _ _ _ _ hne,Below.heap_setCell _ _ _ _ hne,Below.heap_setCell _ _ _ _ hne,Below.heap_setCell _ _ _ _ hne,Below.heap_setCell _ _ _ _ hne,Below.heap_setCell _ _ _ _ hne]
end
end Go.Proofs.YtnepkoepbapgeaaGreatDoor
