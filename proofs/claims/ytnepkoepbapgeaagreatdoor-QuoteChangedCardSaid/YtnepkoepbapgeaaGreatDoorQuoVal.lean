/-
  Walks: the value of an expression: the method value of package rate.
-/
import Derived.Test.YtnepkoepbapgeaaGreatDoorQuoOp1
namespace Go.Proofs.YtnepkoepbapgeaaGreatDoor
set_option maxHeartbeats 8000000
set_option maxRecDepth 100000
open Go.RowKit Lx Px Qx
def CB (w:World)(vs:Vs)(r:Nat)(op n:Int)(kv:Value)(wx:World):Prop :=
 wx.heap[w.heap.size]?=some (.cells #[.int .i64 vs.a,.int .i64 vs.b,.int .i64 vs.c,.int .i64 vs.d,.map (some r)] 206 (0,0)) ∧
 wx.heap[w.heap.size+1]?=some (.cells #[.int .i64 op,.int .i64 n,kv] 63 (0,0))∧RatB wx (w.heap.size+2) 0 0∧Below w.heap.size w wx
theorem CB.on {w wx wy:World}{vs:Vs}{r:Nat}{op n:Int}{kv:Value}(h:CB w vs r op n kv wx)(hb:Below wx.heap.size wx wy):CB w vs r op n kv wy :=
 ⟨(hb.block _ (zs h.1)).trans h.1,(hb.block _ (zs h.2.1)).trans h.2.1,h.2.2.1.on hb,Z00 h.2.2.2 hb⟩
theorem CB.drew {w wx:World}{vs:Vs}{r:Nat}{op n:Int}{kv:Value}(h:CB w vs r op n kv wx):CB w vs r op n kv wx.drew:=h.on (Below.refl _ _).drew
theorem CB.c {w wx:World}{vs:Vs}{r:Nat}{op n:Int}{kv:Value}(h:CB w vs r op n kv wx):wx.cell? ⟨w.heap.size,0,none⟩=some (.int .i64 vs.a)∧wx.cell? ⟨w.heap.size,1,none⟩=some (.int .i64 vs.b)∧wx.cell? ⟨w.heap.size,2,none⟩=some (.int .i64 vs.c)∧wx.cell? ⟨w.heap.size,3,none⟩=some (.int .i64 vs.d)∧wx.cell? ⟨w.heap.size,4,none⟩=some (.map (some r)):=by
 refine ⟨?_,?_,?_,?_,?_⟩ <;> (rw [zc h.1];rfl)
theorem CB.e {w wx:World}{vs:Vs}{r:Nat}{op n:Int}{kv:Value}(h:CB w vs r op n kv wx):wx.cell? ⟨w.heap.size+1,0,none⟩=some (.int .i64 op)∧wx.cell? ⟨w.heap.size+1,1,none⟩=some (.int .i64 n)∧wx.cell? ⟨w.heap.size+1,2,none⟩=some kv:=by
 refine ⟨?_,?_,?_⟩ <;> (rw [zc h.2.1];rfl)
theorem Ziw (w:World)(vs:Vs)(r:Nat)(op n:Int)(kv:Value):CB w vs r op n kv (((w.alloc (.cells #[.int .i64 vs.a,.int .i64 vs.b,.int .i64 vs.c,.int .i64 vs.d,.map (some r)] 206)).alloc (.cells #[.int .i64 op,.int .i64 n,kv] 63)).alloc (.cells #[.int .i64 0,.int .i64 0] 60)):=by
 obtain ⟨g1,g2⟩:=Z1x w (.cells #[.int .i64 vs.a,.int .i64 vs.b,.int .i64 vs.c,.int .i64 vs.d,.map (some r)] 206) (.cells #[.int .i64 op,.int .i64 n,kv] 63)
 refine ⟨Z0z g1 _,Z0z g2 _,?_,(((Below.refl _ _).alloc (zn _) _).alloc (by simp) _).alloc (by simp;omega) _⟩
 have:=za ((w.alloc (.cells #[.int .i64 vs.a,.int .i64 vs.b,.int .i64 vs.c,.int .i64 vs.d,.map (some r)] 206)).alloc (.cells #[.int .i64 op,.int .i64 n,kv] 63)) (.cells #[.int .i64 0,.int .i64 0] 60)
 simpa [RatB] using this
theorem Zfw (a:Addr):a.add 0=a:=by unfold Addr.add;simp
theorem kid_at {w:World}{B:Nat}{l:Fo}{A:Option Addr}(h:FoAt w B l A 0){k:Nat}(hk:k<flen l) :
 ∃ (g o:Nat) (A':Option Addr) (c:Nat),A=some ⟨g,o,none⟩∧g<B∧w.cell? ⟨g,o+k*3,none⟩=some (.int .i64 (getF l k).1.1)∧w.cell? ⟨g,o+k*3+1,none⟩=some (.int .i64 (getF l k).1.2)∧w.cell? ⟨g,o+k*3+2,none⟩=some (.slice A' (flen (getF l k).2) c)∧FoAt w B (getF l k).2 A' 0:=by
 obtain ⟨ad0,_,_,e0,_,s0,_⟩:=FoAt.get l A 0 0 h (by omega)
 obtain ⟨ad,A',c,e1,hlt,t0,t1,t2,t3⟩:=FoAt.get l A 0 k h hk
 rw [e0] at e1
 injection e1 with e1
 subst e1;have hs:ad0.spot=none:=by
  have e:(ad0.add ((0+0)*3))=ad0:=Zfw ad0
  rw [e] at s0
  unfold World.cell? at s0
  split at s0
  · split at s0
    · cases s0
    · rename_i hs
      cases hp:ad0.spot with
      | none=>rfl
      | some x=>rw [hp] at hs;simp at hs
  · cases s0
 obtain ⟨g,o,s⟩:=ad0
 cases hs
 rw [Nat.zero_add] at t0 t1 t2
 have ea:((⟨g,o,none⟩:Addr).add (k*3))=⟨g,o+k*3,none⟩:=by
  unfold Addr.add;split
  · rename_i h;rw [h];rfl
  · rfl
 rw [ea] at t0 t1 t2
 exact ⟨g,o,A',c,e0,hlt,t0,t1,t2,t3⟩
def ValC (a:Int × Int)(l:Fo):Prop :=
 ∀ (w:World) (v:Value) (B r:Nat) (vs:Vs),FoV w B v l→B≤w.heap.size→Z8H w r→Z05 a.1 a.2 (flen l)=true→wfF l→(∀ i,0≤vs.at i∧vs.at i≤1000) →
  Calls Tryz.prog 149 #[.agg #[.int .i64 vs.a,.int .i64 vs.b,.int .i64 vs.c,.int .i64 vs.d,.map (some r)],.agg #[.int .i64 a.1,.int .i64 a.2,v]] w (VP (valE vs a l) w)
theorem Zix (op n:Int)(l:Fo)(h:op=1∨op=2):ValC (op,n) l:=by
 intro w v B r vs hv hB hO hf hw hvs
 dsimp only at hf
 have hn:0≤n∧n≤1000000000:=by rcases h with rfl | rfl <;> (simp [Z05] at hf;omega)
 have hV:valE vs (op,n) l=Z2F n 1:=by unfold valE opV;rw [if_pos h]
 have hm:=fun W=>Z9F n 1 W (by omega) (by omega) (by omega) (by omega) (by omega)
 have hmu:=fun W=>Z4q (Z2F n 1) W (fun k e=>by have:=Z45 e;omega)
 have hcb:=Ziw w vs r op n v
 rw [hV]
 generalize Z2F n 1=V at *
 obtain ⟨A,c,rfl,_⟩:=hv
 have HCB:=zh hcb;have HM:=zh hm;have HU:=zh hmu;have HV:=zh hV;have HF:=zh hf;have HW:=zh hw;have HVS:=zh hvs;have HO:=zh hO;clear hcb hm hmu hV hf hw hvs hO;rcases h with rfl | rfl
 all_goals
  go_enter Tryz.func149,Tryz.ntmps149
  go_wp2_with fail;generalize ((w.alloc (.cells #[.int .i64 vs.a,.int .i64 vs.b,.int .i64 vs.c,.int .i64 vs.d,.map (some r)] 206)).alloc (.cells #[.int .i64 _,.int .i64 n,.slice A (flen l) c] 63)).alloc (.cells #[.int .i64 0,.int .i64 0] 60)=W1 at *
  refine (HM.out W1).mono ?_
  rintro e w2 ⟨rfl,hb⟩;have C2:=zh (HCB.out.on hb)
  clear hb HCB;go_wp2_with fail;refine (HU.out _).mono ?_
  cases V with
  | no k =>
   intro e w3 hh
   obtain ⟨hb,rfl⟩:=hh.isno
   exact ⟨rfl,Z00 C2.out.2.2.2 hb,rfl⟩
  | ok x y =>
   intro e w3 hh
   obtain ⟨hb,rfl⟩:=hh.isok
   clear hh;have C3:=C2.out.on hb
   have B3:=zh C3.2.2.2
   have z0:=C3.2.2.1.c0
   have z1:=C3.2.2.1.c1
   have y0:=C3.2.2.1.fr 0
   have y1:=C3.2.2.1.fr 1
   clear C3 hb;go_wp2_with fail;exact bodyPost_ret (v:=.agg #[.int .i64 x,.int .i64 y]) (by simp [results,Tryz.results149,go_sem,z0,z1]) rfl ⟨Z09 B3.out (by omega) _ _,rfl⟩
theorem Zph (n:Int)(l:Fo):ValC (3,n) l:=by
 intro w v B r vs hv hB hO hf hw hvs
 dsimp only at hf
 have hn:n=1∨n=2∨n=3∨n=4:=by simp [Z05] at hf;omega
 have hV:valE vs (3,n) l=Z2F (vs.at n) 1:=by unfold valE opV;rw [if_neg (by simp),if_pos rfl]
 obtain ⟨q1,q2⟩:=hvs n
 have hm:=fun W=>Z9F (vs.at n) 1 W (by omega) (by omega) (by omega) (by omega) (by omega)
 have hmu:=fun W=>Z4q (Z2F (vs.at n) 1) W (fun k e=>by have:=Z45 e;omega)
 have hcb:=Ziw w vs r 3 n v
 rw [hV]
 generalize Z2F (vs.at n) 1=V at *
 obtain ⟨A,c,rfl,_⟩:=hv
 have HCB:=zh hcb;have HM:=zh hm;have HU:=zh hmu;have HV:=zh hV;have HF:=zh hf;have HW:=zh hw;have HVS:=zh hvs;have HO:=zh hO;clear hcb hm hmu hV hf hw hvs hO;rcases hn with rfl | rfl | rfl | rfl
 all_goals
  go_enter Tryz.func149,Tryz.ntmps149
  go_wp2_with fail;generalize ((w.alloc (.cells #[.int .i64 vs.a,.int .i64 vs.b,.int .i64 vs.c,.int .i64 vs.d,.map (some r)] 206)).alloc (.cells #[.int .i64 3,.int .i64 _,.slice A (flen l) c] 63)).alloc (.cells #[.int .i64 0,.int .i64 0] 60)=W1 at *
  refine (HM.out W1).mono ?_
  rintro e w2 ⟨rfl,hb⟩;have C2:=zh (HCB.out.on hb)
  clear hb HCB;go_wp2_with fail;refine (HU.out _).mono ?_
  cases V with
  | no k =>
   intro e w3 hh
   obtain ⟨hb,rfl⟩:=hh.isno
   exact ⟨rfl,Z00 C2.out.2.2.2 hb,rfl⟩
  | ok x y =>
   intro e w3 hh
   obtain ⟨hb,rfl⟩:=hh.isok
   clear hh;have C3:=C2.out.on hb
   have B3:=zh C3.2.2.2
   have z0:=C3.2.2.1.c0
   have z1:=C3.2.2.1.c1
   have y0:=C3.2.2.1.fr 0
   have y1:=C3.2.2.1.fr 1
   clear C3 hb;go_wp2_with fail;exact bodyPost_ret (v:=.agg #[.int .i64 x,.int .i64 y]) (by simp [results,Tryz.results149,go_sem,z0,z1]) rfl ⟨Z09 B3.out (by omega) _ _,rfl⟩
theorem Ze8 {l:Fo}(ih:∀ k,k<flen l→ValC (getF l k).1 (getF l k).2){w:World}{A:Option Addr}{B r:Nat}{vs:Vs}(hA:FoAt w B l A 0)(hB:B≤w.heap.size)(hO:Z8H w r)(hw:wfF l)(hvs:∀ i,0≤vs.at i∧vs.at i≤1000){k:Nat}(hk:k<flen l) :
 ∃ (g o:Nat) (p q:Int) (kv:Value),A=some ⟨g,o,none⟩∧(∀ W,Below w.heap.size w W→W.cell? ⟨g,o+k*3,none⟩=some (.int .i64 p)∧W.cell? ⟨g,o+k*3+1,none⟩=some (.int .i64 q)∧W.cell? ⟨g,o+k*3+2,none⟩=some kv) ∧
  ∀ W,Below w.heap.size w W→Calls Tryz.prog 149 #[.agg #[.int .i64 vs.a,.int .i64 vs.b,.int .i64 vs.c,.int .i64 vs.d,.map (some r)],.agg #[.int .i64 p,.int .i64 q,kv]] W (VP (valF vs l k) W):=by
 obtain ⟨g,o,A',c,e,hlt,t0,t1,t2,t3⟩:=kid_at hA hk
 obtain ⟨w1,w2⟩:=Ziq hw hk
 refine ⟨g,o,_,_,_,e,fun W hb=>⟨(hb.cell (p:=⟨g,o+k*3,none⟩) (by show g<_;omega)).trans t0,(hb.cell (p:=⟨g,o+k*3+1,none⟩) (by show g<_;omega)).trans t1,(hb.cell (p:=⟨g,o+k*3+2,none⟩) (by show g<_;omega)).trans t2⟩,fun W hb=>?_⟩
 rw [Zkd vs l k hk]
 exact ih k hk W _ B r vs ⟨A',c,rfl,FoAt.keep (fun p hp=>hb.cell (by omega)) _ A' 0 t3⟩ (by have:=hb.size;omega) (hO.on hb) w1 w2 hvs
structure CBH (w:World) (vs:Vs) (r:Nat) (op n:Int) (kv:Value) (wx:World):Prop where
 h:CB w vs r op n kv wx
theorem Ze9 {w wx:World}{vs:Vs}{r:Nat}{op n:Int}{kv:Value}{b b0:Nat}(hb0:w.heap.size+2<b0)(h:CB w vs r op n kv wx)(hb:b0≤b){x y:Value}:CB w vs r op n kv ((wx.setCell ⟨b,0,none⟩ x).setCell ⟨b,1,none⟩ y):=by
 have hB:Below (w.heap.size+3) wx ((wx.setCell ⟨b,0,none⟩ x).setCell ⟨b,1,none⟩ y):=((Below.refl _ _).setCell (p:=⟨b,0,none⟩) (by show _≤b;omega) _).setCell (p:=⟨b,1,none⟩) (by show _≤b;omega) _
 exact ⟨(hB.block _ (by omega)).trans h.1,(hB.block _ (by omega)).trans h.2.1,(hB.block _ (by omega)).trans h.2.2.1,h.2.2.2.trans (hB.mono (by omega))⟩
theorem Z6j {w:World}{b:Nat}{p q:Int}(h:RatB w b p q)(x y:Int):RatB ((w.setCell ⟨b,0,none⟩ (.int .i64 x)).setCell ⟨b,1,none⟩ (.int .i64 y)) b x y:=by
 have h':w.heap[b]?=_:=h
 simp [RatB,World.setCell,Array.getElem?_modify,h']
structure CBL (w:World) (vs:Vs) (r:Nat) (op n:Int) (kv:Value) (wx:World):Prop where
 h0:wx.heap[w.heap.size]?=some (.cells #[.int .i64 vs.a,.int .i64 vs.b,.int .i64 vs.c,.int .i64 vs.d,.map (some r)] 206 (0,0))
 h1:wx.heap[w.heap.size+1]?=some (.cells #[.int .i64 op,.int .i64 n,kv] 63 (0,0))
 b:Below w.heap.size w wx
theorem CB.l {w wx:World}{vs:Vs}{r:Nat}{op n:Int}{kv:Value}(h:CB w vs r op n kv wx):CBL w vs r op n kv wx:=⟨h.1,h.2.1,h.2.2.2⟩
theorem CBL.on {w wx wy:World}{vs:Vs}{r:Nat}{op n:Int}{kv:Value}(h:CBL w vs r op n kv wx)(hb:Below wx.heap.size wx wy):CBL w vs r op n kv wy :=
 ⟨(hb.block _ (zs h.h0)).trans h.h0,(hb.block _ (zs h.h1)).trans h.h1,Z00 h.b hb⟩
theorem CBL.drew {w wx:World}{vs:Vs}{r:Nat}{op n:Int}{kv:Value}(h:CBL w vs r op n kv wx):CBL w vs r op n kv wx.drew:=h.on (Below.refl _ _).drew
theorem CBL.c {w wx:World}{vs:Vs}{r:Nat}{op n:Int}{kv:Value}(h:CBL w vs r op n kv wx):wx.cell? ⟨w.heap.size,0,none⟩=some (.int .i64 vs.a)∧wx.cell? ⟨w.heap.size,1,none⟩=some (.int .i64 vs.b)∧wx.cell? ⟨w.heap.size,2,none⟩=some (.int .i64 vs.c)∧wx.cell? ⟨w.heap.size,3,none⟩=some (.int .i64 vs.d)∧wx.cell? ⟨w.heap.size,4,none⟩=some (.map (some r)):=by
 refine ⟨?_,?_,?_,?_,?_⟩ <;> (rw [zc h.h0];rfl)
theorem CBL.e {w wx:World}{vs:Vs}{r:Nat}{op n:Int}{kv:Value}(h:CBL w vs r op n kv wx):wx.cell? ⟨w.heap.size+1,0,none⟩=some (.int .i64 op)∧wx.cell? ⟨w.heap.size+1,1,none⟩=some (.int .i64 n)∧wx.cell? ⟨w.heap.size+1,2,none⟩=some kv:=by
 refine ⟨?_,?_,?_⟩ <;> (rw [zc h.h1];rfl)
theorem CBL.store {w wx:World}{vs:Vs}{r:Nat}{op n:Int}{kv:Value}(h:CBL w vs r op n kv wx)(x y:Value):CBL w vs r op n kv ((wx.setCell ⟨w.heap.size+2,0,none⟩ x).setCell ⟨w.heap.size+2,1,none⟩ y):=by
 have hB:Below (w.heap.size+2) wx ((wx.setCell ⟨w.heap.size+2,0,none⟩ x).setCell ⟨w.heap.size+2,1,none⟩ y):=((Below.refl _ _).setCell (p:=⟨w.heap.size+2,0,none⟩) (zn _) _).setCell (p:=⟨w.heap.size+2,1,none⟩) (zn _) _
 exact ⟨(hB.block _ (by omega)).trans h.h0,(hB.block _ (by omega)).trans h.h1,h.b.trans (hB.mono (by omega))⟩
theorem VP.parts {v:V}{w w':World}{e:Ending}(h:VP v w e w'):Below w.heap.size w w'∧((∃ n d,v=.ok n d∧e=.returned (.agg #[.int .i64 n,.int .i64 d]))∨(∃ k,v=.no k∧e=.panicked [Zf3 k])):=by
 cases v with
 | ok n d=>exact ⟨h.1,.inl ⟨n,d,rfl,h.2⟩⟩
 | no k=>exact ⟨h.1,.inr ⟨k,rfl,h.2⟩⟩
structure CBR (w:World) (vs:Vs) (r:Nat) (op n:Int) (kv:Value) (b:Nat) (x y:Int) (wx:World):Prop where
 l:CBL w vs r op n kv wx
 r:RatB wx b x y
theorem CBR.on {w wx wy:World}{vs:Vs}{r:Nat}{op n:Int}{kv:Value}{b:Nat}{x y:Int}(h:CBR w vs r op n kv b x y wx)(hb:Below wx.heap.size wx wy):CBR w vs r op n kv b x y wy:=⟨h.l.on hb,h.r.on hb⟩
theorem CBR.drew {w wx:World}{vs:Vs}{r:Nat}{op n:Int}{kv:Value}{b:Nat}{x y:Int}(h:CBR w vs r op n kv b x y wx):CBR w vs r op n kv b x y wx.drew:=h.on (Below.refl _ _).drew
theorem CBR.store {w wx:World}{vs:Vs}{r:Nat}{op n:Int}{kv:Value}{b:Nat}{x y:Int}(h:CBR w vs r op n kv b x y wx)(hb:w.heap.size+2<b)(u v:Value):CBR w vs r op n kv b x y ((wx.setCell ⟨w.heap.size+2,0,none⟩ u).setCell ⟨w.heap.size+2,1,none⟩ v) :=
 ⟨h.l.store u v,(Below.heap_setCell _ _ _ _ (by show b≠w.heap.size+2;omega)).trans ((Below.heap_setCell _ _ _ _ (by show b≠w.heap.size+2;omega)).trans h.r)⟩
theorem val_op (op n:Int)(l:Fo)(ih:∀ k,k<flen l→ValC (getF l k).1 (getF l k).2)(h1:op≠1)(h2:op≠2)(h3:op≠3):ValC (op,n) l:=by
 intro w v B r vs hv hB hO hf hw hvs
 dsimp only at hf
 obtain ⟨har,ho1,ho2⟩:=Z83 hf
 have hpos:0<flen l:=by
  rw [har];unfold arO
  repeat' split
  all_goals omega
 obtain ⟨A,c,rfl,hA⟩:=hv
 have hV:valE vs (op,n) l=opV vs op n (valF vs l 0) (valF vs l 1) (valF vs l 2):=rfl
 obtain ⟨g,o,p0,q0,kv0,rfl,hk0,hc0⟩:=Ze8 ih hA hB hO hw hvs hpos
 have hval:=fun k (hk:k<flen l)=>Z4n vs l k
 have hcb:=Ziw w vs r op n (.slice (some ⟨g,o,none⟩) (flen l) c)
 have hkid:∀ k,k<flen l→∃ (p q:Int) (kv:Value),(∀ W,Below w.heap.size w W→W.cell? ⟨g,o+k*3,none⟩=some (.int .i64 p)∧W.cell? ⟨g,o+k*3+1,none⟩=some (.int .i64 q)∧W.cell? ⟨g,o+k*3+2,none⟩=some kv) ∧
  ∀ W,Below w.heap.size w W→Calls Tryz.prog 149 #[.agg #[.int .i64 vs.a,.int .i64 vs.b,.int .i64 vs.c,.int .i64 vs.d,.map (some r)],.agg #[.int .i64 p,.int .i64 q,kv]] W (VP (valF vs l k) W):=by
  intro k hk
  obtain ⟨g',o',p,q,kv,e,a1,a2⟩:=Ze8 ih hA hB hO hw hvs hk
  injection e with e
  injection e with e1 e2
  subst e1 e2;exact ⟨p,q,kv,a1,a2⟩
 rw [Nat.zero_mul] at hk0
 have d1:(op==1)=false:=by simpa using h1
 have d2:(op==2)=false:=by simpa using h2
 have d3:(op==3)=false:=by simpa using h3
 have hfl:(0:Int)<(flen l:Int):=by omega
 have hno:∀ k y z,opV vs op n (.no k) y z=.no k:=fun k y z=>by unfold opV;rw [if_neg (by omega),if_neg h3]
 have HNO:=zh hno;clear hno;rw [hV]
 have HCB:=zh hcb;have HK0:=zh hk0;have HC0:=zh hc0;have HKID:=zh hkid;have HO:=zh hO;have HF:=zh hf;have HW:=zh hw;have HVS:=zh hvs;have HV:=zh hV;have HA:=zh hA;have IH:=zh ih;have HVAL:=zh hval;have HAR:=zh har;have H1:=zh h1;have H2:=zh h2;have H3:=zh h3;clear hcb hk0 hc0 hkid hO hf hw hvs hV hA ih hval har h1 h2 h3;go_enter Tryz.func149,Tryz.ntmps149
 go_upto_region 7 with fail
 generalize ((w.alloc (.cells #[.int .i64 vs.a,.int .i64 vs.b,.int .i64 vs.c,.int .i64 vs.d,.map (some r)] 206)).alloc (.cells #[.int .i64 op,.int .i64 n,.slice (some ⟨g,o,none⟩) (flen l) c] 63)).alloc (.cells #[.int .i64 0,.int .i64 0] 60)=W1 at *
 have HMS:Hid (∀ wx,CB w vs r op n (.slice (some ⟨g,o,none⟩) (flen l) c) wx→wx.cell? ⟨w.heap.size,0,none⟩=some (.int .i64 vs.a)∧wx.cell? ⟨w.heap.size,1,none⟩=some (.int .i64 vs.b)∧wx.cell? ⟨w.heap.size,2,none⟩=some (.int .i64 vs.c)∧wx.cell? ⟨w.heap.size,3,none⟩=some (.int .i64 vs.d)∧wx.cell? ⟨w.heap.size,4,none⟩=some (.map (some r)) ∧
  wx.cell? ⟨w.heap.size+1,2,none⟩=some (.slice (some ⟨g,o,none⟩) (flen l) c)∧wx.cell? ⟨g,o,none⟩=some (.int .i64 p0)∧wx.cell? ⟨g,o+1,none⟩=some (.int .i64 q0)∧wx.cell? ⟨g,o+2,none⟩=some kv0∧CBH w vs r op n (.slice (some ⟨g,o,none⟩) (flen l) c) wx):=fun wx h=>by
  obtain ⟨c0,c1,c2,c3,c4⟩:=h.c
  obtain ⟨_,_,e2⟩:=h.e
  obtain ⟨a0,a1,a2⟩:=HK0.out wx h.2.2.2
  exact ⟨c0,c1,c2,c3,c4,e2,a0,a1,a2,⟨h⟩⟩
 have hW1:w.heap.size+2<W1.heap.size:=HCB.out.2.2.1.lt
 go_region_held (fun w'=>w'.cell? ⟨w.heap.size,0,none⟩=some (.int .i64 vs.a)∧w'.cell? ⟨w.heap.size,1,none⟩=some (.int .i64 vs.b)∧w'.cell? ⟨w.heap.size,2,none⟩=some (.int .i64 vs.c)∧w'.cell? ⟨w.heap.size,3,none⟩=some (.int .i64 vs.d)∧w'.cell? ⟨w.heap.size,4,none⟩=some (.map (some r)) ∧
  w'.cell? ⟨w.heap.size+1,2,none⟩=some (.slice (some ⟨g,o,none⟩) (flen l) c)∧w'.cell? ⟨g,o,none⟩=some (.int .i64 p0)∧w'.cell? ⟨g,o+1,none⟩=some (.int .i64 q0)∧w'.cell? ⟨g,o+2,none⟩=some kv0∧CBH w vs r op n (.slice (some ⟨g,o,none⟩) (flen l) c) w')
  (first | (with_reducible exact HMS.out _ HCB.out.drew) | (with_reducible exact HMS.out _ HU.h) | (exact HMS.out _ ((‹_∧_∧_∧_∧_∧_∧_∧_∧_∧CBH w vs r op n _ _›).2.2.2.2.2.2.2.2.2.h.on ((Below.refl _ _).alloc (zn _) _))) | (exact HMS.out _ (HU.h.on ((Below.refl _ _).alloc (zn _) _))) | (exact HMS.out _ (Ze9 hW1 HU.h (zn _))))
  ((go_at_call 149;have hcbx:=(‹_∧_∧_∧_∧_∧_∧_∧_∧_∧CBH w vs r op n _ _›).2.2.2.2.2.2.2.2.2.h;refine (HC0.out _ hcbx.2.2.2).mono ?_;intro e w' hh;obtain ⟨hb,⟨x,y,hx,rfl⟩ | ⟨k,hx,rfl⟩⟩:=hh.parts;rotate_left;(have HX:=zh hx;exact ⟨rfl,Z00 hcbx.2.2.2 hb,by rw [HX.out,HNO.out];rfl⟩);have HX:=zh hx;have HU:=CBH.mk (hcbx.on hb);try (have hz:=(hb.block W1.heap.size (by simp [go_sem])).trans (za W1.drew (.cells #[.int .i64 0,.int .i64 0] 60));have HZ:Hid (RatB w' W1.heap.size 0 0):=hz;have z0:=HZ.out.c0;have z1:=HZ.out.c1;have y0:=HZ.out.fr 0;have y1:=HZ.out.fr 1;clear hz);clear hx hh hb hcbx))
 all_goals
  first
   | (have R5:=Z6j HZ.out x y
      have C5:=Ze9 hW1 HU.h (zn W1.heap.size) (x:=.int .i64 x) (y:=.int .i64 y)
      clear z0 z1 y0 y1 HZ;generalize (w'.setCell ⟨W1.heap.size,0,none⟩ (.int .i64 x)).setCell ⟨W1.heap.size,1,none⟩ (.int .i64 y)=w5 at *
      generalize W1.heap.size=b5 at *
      have hb5:=hW1)
   | (have hb5:w.heap.size+2<w'.heap.size:=HU.h.2.2.1.lt
      have R5:=RatB.new w' x y
      have C5:=HU.h.on ((Below.refl w'.heap.size w').alloc (zn _) (.cells #[.int .i64 x,.int .i64 y] 60))
      generalize w'.alloc (.cells #[.int .i64 x,.int .i64 y] 60)=w5 at *
      generalize w'.heap.size=b5 at *)
  clear HU HCB HMS HC0 HK0
  (try clear hh);(try clear hx);(try clear hb);(try clear hcbx)
  by_cases h15:op=15
  · subst h15
    have hR:opV vs 15 n (valF vs l 0) (valF vs l 1) (valF vs l 2)=truV (x==0):=by rw [HX.out];rfl
    obtain ⟨x1,y1,hV1⟩:∃ x1 y1,truV (x==0)=.ok x1 y1:=by cases (x==0) <;> exact ⟨_,_,rfl⟩
    obtain ⟨e0,e1,e2⟩:=C5.e
    have r0:=R5.c0
    have HC5:=zh C5;have ht:=fun W=>Z46 (x==0) W
    rw [hR]
    have HV1:=zh hV1;have HT:=zh ht;have HR:=zh hR;clear hV1 ht hR C5 R5;go_wp2_with fail;refine (HT.out _).mono ?_
    rw [HV1.out]
    intro e w6 hh
    obtain ⟨hb,rfl⟩:=hh.isok
    clear hh;have C6:=HC5.out.on hb
    have B6:=zh C6.2.2.2
    have z0:=C6.2.2.1.c0
    have z1:=C6.2.2.1.c1
    have y0:=C6.2.2.1.fr 0
    have y2:=C6.2.2.1.fr 1
    clear C6 hb e0 e1 e2 r0 HC5;go_wp2_with fail;exact bodyPost_ret (v:=.agg #[.int .i64 x1,.int .i64 y1]) (by simp [results,Tryz.results149,go_sem,z0,z1]) rfl ⟨Z09 B6.out (by omega) _ _,by rw [HR.out,HV1.out];rfl⟩
  · have d15:(op==15)=false:=by simpa using h15
    by_cases h10:op=10
    · subst h10
      by_cases hx1:x=1
      · subst hx1
        obtain ⟨p1,q1,kv1,hk1,hc1⟩:=HKID.out 1 (by have:=HAR.out;simp [arO] at this;omega)
        have hR:opV vs 10 n (valF vs l 0) (valF vs l 1) (valF vs l 2)=valF vs l 1:=by rw [HX.out];unfold opV;simp only;rfl
        have HMS:Hid (∀ wx,CBL w vs r 10 n (.slice (some ⟨g,o,none⟩) (flen l) c) wx→wx.cell? ⟨w.heap.size,0,none⟩=some (.int .i64 vs.a)∧wx.cell? ⟨w.heap.size,1,none⟩=some (.int .i64 vs.b)∧wx.cell? ⟨w.heap.size,2,none⟩=some (.int .i64 vs.c)∧wx.cell? ⟨w.heap.size,3,none⟩=some (.int .i64 vs.d)∧wx.cell? ⟨w.heap.size,4,none⟩=some (.map (some r)) ∧
         wx.cell? ⟨w.heap.size+1,2,none⟩=some (.slice (some ⟨g,o,none⟩) (flen l) c)∧wx.cell? ⟨g,o+3,none⟩=some (.int .i64 p1)∧wx.cell? ⟨g,o+4,none⟩=some (.int .i64 q1)∧wx.cell? ⟨g,o+5,none⟩=some kv1∧CBL w vs r 10 n (.slice (some ⟨g,o,none⟩) (flen l) c) wx):=fun wx h=>by
         obtain ⟨c0,c1,c2,c3,c4⟩:=h.c
         obtain ⟨_,_,e2⟩:=h.e
         obtain ⟨a0,a1,a2⟩:=hk1 wx h.b
         exact ⟨c0,c1,c2,c3,c4,e2,a0,a1,a2,h⟩
        have fl3:(1:Int)<(flen l:Int):=by have:=HAR.out;simp [arO] at this;omega
        obtain ⟨e0,e1,e2⟩:=C5.e
        have r0:=R5.c0
        have HC1:=zh hc1;have HK1:=zh hk1;have HR:=zh hR;have C6:=zh C5;have R6:=zh R5;clear hc1 hk1 hR C5 R5;go_upto_region 11 with fail
        clear e0 e1 e2 r0;go_region_held (fun w'=>w'.cell? ⟨w.heap.size,0,none⟩=some (.int .i64 vs.a)∧w'.cell? ⟨w.heap.size,1,none⟩=some (.int .i64 vs.b)∧w'.cell? ⟨w.heap.size,2,none⟩=some (.int .i64 vs.c)∧w'.cell? ⟨w.heap.size,3,none⟩=some (.int .i64 vs.d)∧w'.cell? ⟨w.heap.size,4,none⟩=some (.map (some r)) ∧
         w'.cell? ⟨w.heap.size+1,2,none⟩=some (.slice (some ⟨g,o,none⟩) (flen l) c)∧w'.cell? ⟨g,o+3,none⟩=some (.int .i64 p1)∧w'.cell? ⟨g,o+4,none⟩=some (.int .i64 q1)∧w'.cell? ⟨g,o+5,none⟩=some kv1∧CBL w vs r 10 n (.slice (some ⟨g,o,none⟩) (flen l) c) w')
         (first | (with_reducible exact HMS.out _ C6.out.l.drew) | (with_reducible exact HMS.out _ HL) | (exact HMS.out _ (HL.store _ _)))
         ((go_at_call 149;refine (HC1.out _ C6.out.drew.2.2.2).mono ?_;intro e w' hh;obtain ⟨hb,⟨x1,y1,hx1,rfl⟩ | ⟨k,hx1,rfl⟩⟩:=hh.parts;rotate_left;(have HX1:=zh hx1;exact ⟨rfl,Z00 C6.out.drew.2.2.2 hb,by rw [HR.out,HX1.out];rfl⟩);have HX1:=zh hx1;have hu:=C6.out.drew.on hb;have HL:=hu.l;have z0:=hu.2.2.1.c0;have z1:=hu.2.2.1.c1;have y0:=hu.2.2.1.fr 0;have y2:=hu.2.2.1.fr 1;clear hu hx1 hh hb))
        go_wp2_with fail;exact bodyPost_ret (v:=.agg #[.int .i64 x1,.int .i64 y1]) (by simp [results,Tryz.results149,go_sem,z0,z1]) rfl ⟨Z09 HL.b (by omega) _ _,by rw [HR.out,HX1.out];rfl⟩
      · have dx1:(x==1)=false:=by simpa using hx1
        obtain ⟨p1,q1,kv1,hk1,hc1⟩:=HKID.out 2 (by have:=HAR.out;simp [arO] at this;omega)
        have hR:opV vs 10 n (valF vs l 0) (valF vs l 1) (valF vs l 2)=valF vs l 2:=by rw [HX.out];unfold opV;simp only;simp [hx1]
        have HMS:Hid (∀ wx,CBL w vs r 10 n (.slice (some ⟨g,o,none⟩) (flen l) c) wx→wx.cell? ⟨w.heap.size,0,none⟩=some (.int .i64 vs.a)∧wx.cell? ⟨w.heap.size,1,none⟩=some (.int .i64 vs.b)∧wx.cell? ⟨w.heap.size,2,none⟩=some (.int .i64 vs.c)∧wx.cell? ⟨w.heap.size,3,none⟩=some (.int .i64 vs.d)∧wx.cell? ⟨w.heap.size,4,none⟩=some (.map (some r)) ∧
         wx.cell? ⟨w.heap.size+1,2,none⟩=some (.slice (some ⟨g,o,none⟩) (flen l) c)∧wx.cell? ⟨g,o+6,none⟩=some (.int .i64 p1)∧wx.cell? ⟨g,o+7,none⟩=some (.int .i64 q1)∧wx.cell? ⟨g,o+8,none⟩=some kv1∧CBL w vs r 10 n (.slice (some ⟨g,o,none⟩) (flen l) c) wx):=fun wx h=>by
         obtain ⟨c0,c1,c2,c3,c4⟩:=h.c
         obtain ⟨_,_,e2⟩:=h.e
         obtain ⟨a0,a1,a2⟩:=hk1 wx h.b
         exact ⟨c0,c1,c2,c3,c4,e2,a0,a1,a2,h⟩
        have fl3:(2:Int)<(flen l:Int):=by have:=HAR.out;simp [arO] at this;omega
        obtain ⟨e0,e1,e2⟩:=C5.e
        have r0:=R5.c0
        have HC1:=zh hc1;have HK1:=zh hk1;have HR:=zh hR;have C6:=zh C5;have R6:=zh R5;clear hc1 hk1 hR C5 R5;go_upto_region 13 with fail
        clear e0 e1 e2 r0;go_region_held (fun w'=>w'.cell? ⟨w.heap.size,0,none⟩=some (.int .i64 vs.a)∧w'.cell? ⟨w.heap.size,1,none⟩=some (.int .i64 vs.b)∧w'.cell? ⟨w.heap.size,2,none⟩=some (.int .i64 vs.c)∧w'.cell? ⟨w.heap.size,3,none⟩=some (.int .i64 vs.d)∧w'.cell? ⟨w.heap.size,4,none⟩=some (.map (some r)) ∧
         w'.cell? ⟨w.heap.size+1,2,none⟩=some (.slice (some ⟨g,o,none⟩) (flen l) c)∧w'.cell? ⟨g,o+6,none⟩=some (.int .i64 p1)∧w'.cell? ⟨g,o+7,none⟩=some (.int .i64 q1)∧w'.cell? ⟨g,o+8,none⟩=some kv1∧CBL w vs r 10 n (.slice (some ⟨g,o,none⟩) (flen l) c) w')
         (first | (with_reducible exact HMS.out _ C6.out.l.drew) | (with_reducible exact HMS.out _ HL) | (exact HMS.out _ (HL.store _ _)))
         ((go_at_call 149;refine (HC1.out _ C6.out.drew.2.2.2).mono ?_;intro e w' hh;obtain ⟨hb,⟨x1,y1,hx1,rfl⟩ | ⟨k,hx1,rfl⟩⟩:=hh.parts;rotate_left;(have HX1:=zh hx1;exact ⟨rfl,Z00 C6.out.drew.2.2.2 hb,by rw [HR.out,HX1.out];rfl⟩);have HX1:=zh hx1;have hu:=C6.out.drew.on hb;have HL:=hu.l;have z0:=hu.2.2.1.c0;have z1:=hu.2.2.1.c1;have y0:=hu.2.2.1.fr 0;have y2:=hu.2.2.1.fr 1;clear hu hx1 hh hb))
        go_wp2_with fail;exact bodyPost_ret (v:=.agg #[.int .i64 x1,.int .i64 y1]) (by simp [results,Tryz.results149,go_sem,z0,z1]) rfl ⟨Z09 HL.b (by omega) _ _,by rw [HR.out,HX1.out];rfl⟩
    · have d10:(op==10)=false:=by simpa using h10
      have hr:4≤op∧op≤14∧1<flen l:=by
       have h1:=H1.out
       have h2:=H2.out
       have h3:=H3.out
       have ha:=HAR.out
       have hb:1≤op∧op≤15:=⟨by omega,by omega⟩
       refine ⟨by omega,by omega,?_⟩
       rw [ha];unfold arO
       repeat' split
       all_goals omega
      obtain ⟨p1,q1,kv1,hk1,hc1⟩:=HKID.out 1 hr.2.2
      obtain ⟨L1,V,L2,hm,hn,gf,cap,rfl,hcf,hcall⟩:=HO.out op hr.1 hr.2.1 h10
      have hrat:=HVAL.out 0 (by omega) x y HX.out
      have hR1:∀ k,valF vs l 1=.no k→opV vs op n (valF vs l 0) (valF vs l 1) (valF vs l 2)=.no k:=fun k e=>by
       rw [HX.out,e];unfold opV;rw [if_neg (by have:=H1.out;have:=H2.out;omega),if_neg H3.out];simp only;rw [if_neg h15,if_neg h10]
      have hR2:∀ c d,valF vs l 1=.ok c d→opV vs op n (valF vs l 0) (valF vs l 1) (valF vs l 2)=appV op x y c d:=fun c d e=>by
       rw [HX.out,e];unfold opV;rw [if_neg (by have:=H1.out;have:=H2.out;omega),if_neg H3.out];simp only;rw [if_neg h15,if_neg h10]
      have hap:∀ (W:World) (c d:Int),Below w.heap.size w W→valF vs l 1=.ok c d→Calls Tryz.prog gf (#[.agg #[.int .i64 x,.int .i64 y],.agg #[.int .i64 c,.int .i64 d]]++cap) W (VP (appV op x y c d) W) :=
       fun W c d hb e=>hcall W x y c d hb hrat (HVAL.out 1 hr.2.2 c d e)
      have HMS:Hid (∀ wx,CBR w vs r op n (.slice (some ⟨g,o,none⟩) (flen l) c) b5 x y wx→wx.cell? ⟨w.heap.size,0,none⟩=some (.int .i64 vs.a)∧wx.cell? ⟨w.heap.size,1,none⟩=some (.int .i64 vs.b)∧wx.cell? ⟨w.heap.size,2,none⟩=some (.int .i64 vs.c)∧wx.cell? ⟨w.heap.size,3,none⟩=some (.int .i64 vs.d)∧wx.cell? ⟨w.heap.size,4,none⟩=some (.map (some r)) ∧
       wx.cell? ⟨w.heap.size+1,0,none⟩=some (.int .i64 op)∧wx.cell? ⟨w.heap.size+1,2,none⟩=some (.slice (some ⟨g,o,none⟩) (flen l) c)∧wx.cell? ⟨g,o+3,none⟩=some (.int .i64 p1)∧wx.cell? ⟨g,o+4,none⟩=some (.int .i64 q1)∧wx.cell? ⟨g,o+5,none⟩=some kv1 ∧
       wx.cell? ⟨b5,0,none⟩=some (.int .i64 x)∧wx.cell? ⟨b5,1,none⟩=some (.int .i64 y)∧(Instr.lookup 203 (.map (some r)) (.int .i64 op) false).run Tryz.prog wx=.ok (.func (.func gf) #[] cap) wx∧CBR w vs r op n (.slice (some ⟨g,o,none⟩) (flen l) c) b5 x y wx):=fun wx h=>by
       obtain ⟨c0,c1,c2,c3,c4⟩:=h.l.c
       obtain ⟨e0,_,e2⟩:=h.l.e
       obtain ⟨a0,a1,a2⟩:=hk1 wx h.l.b
       exact ⟨c0,c1,c2,c3,c4,e0,e2,a0,a1,a2,h.r.c0,h.r.c1,Z9H Tryz.underlying203 Tryz.underlying3 (hm.on h.l.b) hn,h⟩
      have fl3:(1:Int)<(flen l:Int):=by omega
      obtain ⟨e0,e1,e2⟩:=C5.e
      have r0:=R5.c0
      have r1:=R5.c1
      have HC1:=zh hc1;have HK1:=zh hk1;have HR1:=zh hR1;have HR2:=zh hR2;have HAP:=zh hap;have C6:=zh C5;have R6:=zh R5;have HRNG:=zh hr;have HRAT:=zh hrat;have HB5:=zh hb5;clear hc1 hk1 hR1 hR2 hap C5 R5 hr hrat hb5 hm hn hcall HX HVAL HKID HO HNO;go_upto_region 14 with fail
      clear e0 e1 e2 r0 r1;go_region_held (fun w'=>w'.cell? ⟨w.heap.size,0,none⟩=some (.int .i64 vs.a)∧w'.cell? ⟨w.heap.size,1,none⟩=some (.int .i64 vs.b)∧w'.cell? ⟨w.heap.size,2,none⟩=some (.int .i64 vs.c)∧w'.cell? ⟨w.heap.size,3,none⟩=some (.int .i64 vs.d)∧w'.cell? ⟨w.heap.size,4,none⟩=some (.map (some r)) ∧
       w'.cell? ⟨w.heap.size+1,0,none⟩=some (.int .i64 op)∧w'.cell? ⟨w.heap.size+1,2,none⟩=some (.slice (some ⟨g,o,none⟩) (flen l) c)∧w'.cell? ⟨g,o+3,none⟩=some (.int .i64 p1)∧w'.cell? ⟨g,o+4,none⟩=some (.int .i64 q1)∧w'.cell? ⟨g,o+5,none⟩=some kv1 ∧
       w'.cell? ⟨b5,0,none⟩=some (.int .i64 x)∧w'.cell? ⟨b5,1,none⟩=some (.int .i64 y)∧(Instr.lookup 203 (.map (some r)) (.int .i64 op) false).run Tryz.prog w'=.ok (.func (.func gf) #[] cap) w'∧CBR w vs r op n (.slice (some ⟨g,o,none⟩) (flen l) c) b5 x y w')
       (first | (with_reducible exact HMS.out _ (CBR.drew ⟨C6.out.l,R6.out⟩)) | (with_reducible exact HMS.out _ HL2) | (with_reducible exact HMS.out _ HL) | (exact HMS.out _ (HL2.store HB5.out _ _)))
       (first
        | (go_at_call 149;refine (HC1.out _ C6.out.drew.2.2.2).mono ?_;intro e w' hh;obtain ⟨hb,⟨x1,y1,hx1,rfl⟩ | ⟨k,hx1,rfl⟩⟩:=hh.parts;rotate_left;(have HX1:=zh hx1;exact ⟨rfl,Z00 C6.out.drew.2.2.2 hb,by rw [HR1.out k HX1.out];rfl⟩);have HX1:=zh hx1;have hu:=C6.out.drew.on hb;have HU:=zh hu;have HL:CBR w vs r op n (.slice (some ⟨g,o,none⟩) (flen l) c) b5 x y w':=⟨hu.l,R6.out.on (Z00 (Below.refl _ _).drew hb)⟩;clear hu hx1 hh hb)
        | (refine (HAP.out _ x1 y1 HU.out.2.2.2 HX1.out).mono ?_;intro e w'' hh;obtain ⟨hb,⟨x2,y2,hx2,rfl⟩ | ⟨k,hx2,rfl⟩⟩:=hh.parts;rotate_left;(have HX2:=zh hx2;exact ⟨rfl,Z00 HU.out.2.2.2 hb,by rw [HR2.out x1 y1 HX1.out,HX2.out];rfl⟩);have HX2:=zh hx2;have hu2:=HU.out.on hb;have HL2:=HL.on hb;have z0:=hu2.2.2.1.c0;have z1:=hu2.2.2.1.c1;have y0:=hu2.2.2.1.fr 0;have y2':=hu2.2.2.1.fr 1;clear hu2 hx2 hh hb))
      all_goals
       go_wp2_with fail;exact bodyPost_ret (v:=.agg #[.int .i64 x2,.int .i64 y2]) (by simp [results,Tryz.results149,go_sem,z0,z1]) rfl ⟨Z09 HL2.l.b (by omega) _ _,by rw [HR2.out x1 y1 HX1.out,HX2.out];rfl⟩
end Go.Proofs.YtnepkoepbapgeaaGreatDoor
