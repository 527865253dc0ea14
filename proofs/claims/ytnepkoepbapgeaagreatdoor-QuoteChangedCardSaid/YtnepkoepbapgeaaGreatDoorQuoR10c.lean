/-
  Several texts in one: QuoR10b, QuoR10c.
-/
import Derived.Test.YtnepkoepbapgeaaGreatDoorQuoR10a
import Derived.Test.YtnepkoepbapgeaaGreatDoorPrtNum
namespace Go.Proofs.YtnepkoepbapgeaaGreatDoor
set_option maxHeartbeats 8000000
set_option maxRecDepth 100000
section
open Go.RowKit Lx Px Qx
def T3 (w:World)(b:Nat)(ts:List Int):Prop:=w.heap[b]?=some (.cells #[.int .i64 (ts.getD 0 0),.int .i64 (ts.getD 1 0),.int .i64 (ts.getD 2 0)] 254 (0,0))
theorem T3.lt {w:World}{b:Nat}{ts:List Int}(h:T3 w b ts):b<w.heap.size:=(zs h)
theorem T3.on {w w':World}{b:Nat}{ts:List Int}(h:T3 w b ts)(hb:Below w.heap.size w w'):T3 w' b ts:=(hb.block b h.lt).trans h
theorem T3.cell {w:World}{b:Nat}{ts:List Int}(h:T3 w b ts){k:Nat}(hk:k<3):w.cell? ⟨b,k,none⟩=some (.int .i64 (ts.getD k 0)):=by
 rw [zc h]
 rcases (show k=0∨k=1∨k=2 by omega) with rfl | rfl | rfl <;> rfl
theorem T3.fr {w:World}{b:Nat}{ts:List Int}(h:T3 w b ts)(k:Nat):w.frozen? ⟨b,k,none⟩=false:=by have h':w.heap[b]?=_:=h;simp [World.frozen?,h']
theorem T3.set {w:World}{b:Nat}{ts:List Int}(h:T3 w b ts){k:Nat}(hl:ts.length=k)(hk:k<3)(t:Int):T3 (w.setCell ⟨b,k,none⟩ (.int .i64 t)) b (ts++[t]):=by
 have h':w.heap[b]?=_:=h
 subst hl;match ts,hk,h' with
 | [],_,h'=>simp [T3,World.setCell,Array.getElem?_modify,h']
 | [x],_,h'=>simp [T3,World.setCell,Array.getElem?_modify,h']
 | [x,y],_,h'=>simp [T3,World.setCell,Array.getElem?_modify,h']
 | _::_::_::_,hk,_=>simp at hk;omega
theorem T3.new (w:World):T3 (w.alloc (.cells #[.int .i64 0,.int .i64 0,.int .i64 0] 254)) w.heap.size []:=za w _
def RtyC (a:Int × Int)(l:Fo):Prop :=
 ∀ (w:World) (v:Value) (B:Nat),FoV w B v l→B≤w.heap.size→Z05 a.1 a.2 (flen l)=true→wfF l →
  Calls Tryz.prog 165 #[.agg #[.int .i64 a.1,.int .i64 a.2,v]] w fun e w'=>e=.returned (.int .i64 (typE a l))∧Below w.heap.size w w'
def RtyL (l:Fo)(w:World)(op n:Int)(av i:Value)(wr:World):Prop :=
 ∃ (k:Nat) (ts:List Int),k≤flen l∧i=.int .i64 k∧ts.length=k∧(∀ j,j<k→ts.getD j 0=typE (getF l j).1 (getF l j).2∧ts.getD j 0≠0) ∧
  Below w.heap.size w wr∧T3 wr (w.heap.size+1) ts∧wr.heap[w.heap.size]?=some (.cells #[.int .i64 op,.int .i64 n,av] 63 (0,0))
theorem Zbe (a:Int × Int)(l:Fo)(ih:∀ k,k<flen l→RtyC (getF l k).1 (getF l k).2):RtyC a l:=by
 intro w v B hv hB hf hw
 obtain ⟨A,c,rfl,hA⟩:=hv
 obtain ⟨op,n⟩:=a
 obtain ⟨har,ho1,ho2⟩:=Z83 hf
 dsimp only at hf ho1 ho2 har
 have hfl:=Z4j hf;have hx:=Z0z (za w (.cells #[.int .i64 op,.int .i64 n,.slice A (flen l) c] 63)) (.cells #[.int .i64 0,.int .i64 0,.int .i64 0] 254)
 have hb0:=((Below.refl w.heap.size w).alloc (zn _) (.cells #[.int .i64 op,.int .i64 n,.slice A (flen l) c] 63)).alloc (by simp) (.cells #[.int .i64 0,.int .i64 0,.int .i64 0] 254)
 have ht0:T3 ((w.alloc (.cells #[.int .i64 op,.int .i64 n,.slice A (flen l) c] 63)).alloc (.cells #[.int .i64 0,.int .i64 0,.int .i64 0] 254)) (w.heap.size+1) []:=by
  have:=T3.new (w.alloc (.cells #[.int .i64 op,.int .i64 n,.slice A (flen l) c] 63))
  rwa [World.size_alloc] at this
 have IH:=zh ih;have HW:=zh hw;have HA:=zh hA;have HF:=zh hf;have HX:=zh hx;have HB0:=zh hb0;have HAR:=zh har;have HT0:=zh ht0;clear ih hw hA hf hx hb0 har ht0;go_enter Tryz.func165,Tryz.ntmps165
 go_wp2_with fail;generalize (w.alloc (.cells #[.int .i64 op,.int .i64 n,.slice A (flen l) c] 63)).alloc (.cells #[.int .i64 0,.int .i64 0,.int .i64 0] 254)=w1 at *
 go_loopw [4] (fun i wr=>RtyL l w op n (.slice A (flen l) c) i wr) (fun i _=>flen l - (intOf i).toNat)
 case atStart=>exact ⟨0,[],Nat.zero_le _,rfl,rfl,fun j hj=>absurd hj (by omega),HB0.out,HT0.out,HX.out⟩
 case round =>
  obtain ⟨k,ts,hk,rfl,htl,hts,hbl,ht3,hbx⟩:=hrel
  have hsz:=ht3.lt
  have c2:wr.cell? ⟨w.heap.size,2,none⟩=some (.slice A (flen l) c):=by rw [zc hbx];rfl
  have HTS:=zh hts;have HTL:=zh htl;have HBX:=zh hbx;have HT3:=zh ht3;clear hts htl hbx ht3;by_cases hkl:k<flen l
  · have hkeep:∀ p:Addr,p.block<B→wr.cell? p=w.cell? p:=fun p hp=>hbl.cell (by omega)
    obtain ⟨ad,A',c',rfl,hlo,t0,t1,t2,t3⟩:=FoAt.get l A 0 k (FoAt.keep hkeep l A 0 HA.out) hkl
    rw [Nat.zero_add] at t0 t1 t2
    have hrec:=IH.out k hkl
    obtain ⟨hwf1,hwf2⟩:=Ziq HW.out hkl
    have hno:=fun h=>Zis (a:=(op,n)) hkl h
    have hnew:∀ t,t=typE (getF l k).1 (getF l k).2→t≠0→∀ j,j<k+1→(ts++[t]).getD j 0=typE (getF l j).1 (getF l j).2∧(ts++[t]).getD j 0≠0:=by
     intro t ht h0 j hj
     have htl':=HTL.out
     by_cases hjk:j=k
     · subst hjk
       rw [← htl',List.getD_eq_getElem?_getD]
       simp only [List.getElem?_concat_length,Option.getD_some]
       rw [htl']
       exact ⟨ht,h0⟩
     · have:=HTS.out j (by omega)
       rw [List.getD_eq_getElem?_getD,List.getElem?_append_left (by omega),← List.getD_eq_getElem?_getD]
       exact this
    have hset:=fun (W:World) (h:T3 W (w.heap.size+1) ts) (t:Int)=>h.set HTL.out (by omega:k<3) t
    have hcl:=fun (W:World) (h:T3 W (w.heap.size+1) ts)=>h.cell (by omega:k<3)
    obtain ⟨⟨op',n'⟩,l',hel⟩:∃ a' l',getF l k=(a',l'):=⟨_,_,rfl⟩
    rw [hel] at t0 t1 t2 t3 hrec hwf1 hwf2 hno hnew
    dsimp only at t0 t1 t2 t3 hrec hwf1 hwf2 hno hnew
    obtain ⟨t,hte⟩:∃ t,typE (op',n') l'=t:=⟨_,rfl⟩
    have hcall:=hrec wr (.slice A' (flen l') c') B ⟨A',c',rfl,t3⟩ (by omega) hwf1 hwf2
    rw [hte] at hcall hno hnew
    have hk3:(k:Int)<3:=by omega
    have HC:=zh hcall;have HNO:=zh hno;have HNEW:=zh hnew;have HSET:=zh hset;have HCL:=zh hcl;clear hcall hno hnew hset hcl hkeep hrec hte hel t3;go_wp2_with fail;refine (HC.out).mono ?_
    rintro e w9 ⟨rfl,hb9⟩;have ht9:=HT3.out.on hb9
    have hx9:=(hb9.block _ (by omega)).trans HBX.out
    have hB9:=Z00 hbl hb9
    have f9:=ht9.fr k
    have q9:=HCL.out w9 ht9
    have hs9:=HSET.out w9 ht9 t
    have hbS:=hB9.setCell (p:=⟨w.heap.size+1,k,none⟩) (by show w.heap.size≤w.heap.size+1;omega) (.int .i64 t)
    have hxS:=(Below.heap_setCell w9 ⟨w.heap.size+1,k,none⟩ (.int .i64 t) w.heap.size (by show w.heap.size≠w.heap.size+1;omega)).trans hx9
    have qS:(w9.setCell ⟨w.heap.size+1,k,none⟩ (.int .i64 t)).cell? ⟨w.heap.size+1,k,none⟩=some (.int .i64 t):=by
     have:=hs9.cell (by omega:k<3)
     rw [this,List.getD_eq_getElem?_getD,← HTL.out]
     simp
    by_cases h0:t=0
    · subst h0
      have hr:=HNO.out rfl
      have HR:=zh hr;have HBS:=zh hbS;clear hr hbS HC ht9 hx9 hB9 hs9 hxS;go_wp2_with fail;go_ret
      rw [HR.out]
      exact ⟨rfl,HBS.out⟩
    · have d0:(t==0)=false:=by simpa using h0
      have hnx:=HNEW.out t rfl h0
      have HNX:=zh hnx;have HBS:=zh hbS;have HXS:=zh hxS;have HS9:=zh hs9;clear hnx hbS hxS hs9 HC ht9 hx9 hB9;go_wp2_with fail;go_roundw
      case rel=>exact ⟨k+1,ts++[t],by omega,by go_num,by rw [List.length_append,HTL.out];rfl,HNX.out,HBS.out,HS9.out,HXS.out⟩
      case measure=>simp [intOf];omega
  · have hke:k=flen l:=by omega
    subst hke;have hE:typE (op,n) l=opT op (ts.getD 0 0) (ts.getD 1 0) (ts.getD 2 0):=Zir HTL.out HTS.out
    have q0:=HT3.out.cell (by omega:0<3)
    have q1:=HT3.out.cell (by omega:1<3)
    have q2:=HT3.out.cell (by omega:2<3)
    have dl:decide ((flen l:Int)<(flen l:Int))=false:=by simp
    have x0:wr.cell? ⟨w.heap.size,0,none⟩=some (.int .i64 op):=by rw [zc HBX.out];rfl
    generalize ts.getD 0 0=x at *
    generalize ts.getD 1 0=y at *
    generalize ts.getD 2 0=z at *
    have HBL:=zh hbl;have HE:=zh hE;clear hbl hE HT3 HTS HTL HBX HAR HF HX HB0 HT0 HA HW IH;rcases (show op=1∨op=2∨op=3∨op=4∨op=5∨op=6∨op=7∨op=8∨op=9∨op=10∨op=11∨op=12∨op=13∨op=14∨op=15 by omega) with rfl | rfl | rfl | rfl | rfl | rfl | rfl | rfl | rfl | rfl | rfl | rfl | rfl | rfl | rfl
    all_goals go_wp2
    all_goals go_ret
    all_goals rw [HE.out]
    all_goals refine ⟨?_,HBL.out⟩
    all_goals clear HE HBL
    all_goals simp_all [opT]
theorem Zi3 (f:Fo):∀ k,k<flen f→RtyC (getF f k).1 (getF f k).2:=by
 induction f with
 | nil=>intro k h;simp [flen] at h
 | node b o a l r ihl ihr =>
  intro k h
  cases k with
  | zero=>exact Zbe a l ihl
  | succ k=>exact ihr k (by simp [flen] at h;omega)
theorem Zbf (a:Int × Int)(l:Fo):RtyC a l:=Zbe a l (Zi3 l)
end
section
open Go.RowKit Lx Px Qx
theorem ZnE (n lo hi:Int)(w:World):Calls Tryz.prog 220 #[.int .i64 n,.int .i64 lo,.int .i64 hi] w fun e w'=>e=.returned (.bool (Z1e n lo hi))∧w=w':=by
 unfold Z1e
 obtain ⟨b1,h1⟩:∃ b,decide (lo≤n)=b:=⟨_,rfl⟩
 obtain ⟨b2,h2⟩:∃ b,decide (n≤hi)=b:=⟨_,rfl⟩
 rw [h1,h2]
 cases b1 <;> cases b2
 all_goals
  go_enter Tryz.func220,Tryz.ntmps220
  go_wp2_with fail;go_ret
  exact ⟨rfl,rfl⟩
theorem Zkp (r:Rt):Z3D r=(Z1e r.id 1 1000000&&Z1e r.lv 0 100&&Z1e r.kd 1 20&&!decide (r.fr<0)&&!decide (r.fr≥r.un)&&!decide (r.un > 366)&&!decide (r.ls<1)&&!decide (r.ls > r.mo)&&!decide (r.mo > 60)&&Z1e r.ar 1 127
 && ratB r.kn r.kq&&decide (r.kn≥0)&&decide (r.kn≤r.kq)&&Z0d r.wo r.wn r.wl&&Z0d r.po r.pn r.pl):=by
 rw [Bool.eq_iff_iff]
 simp only [Z3D,Z1e,Bool.and_eq_true,decide_eq_true_eq,Bool.not_eq_true',decide_eq_false_iff_not]
 cases ratB r.kn r.kq <;> cases Z0d r.wo r.wn r.wl <;> cases Z0d r.po r.pn r.pl <;> simp <;> omega
theorem Zi4 (r:Rt)(wv pv:Value)(w:World)(hwv:FoV w w.heap.size wv r.wl)(hpv:FoV w w.heap.size pv r.pl):Calls Tryz.prog 164 #[rtV r wv pv] w fun e w'=>e=.returned (.bool (Z3D r))∧Below w.heap.size w w':=by
 obtain ⟨WA,wk,rfl,_⟩:=id hwv
 obtain ⟨PA,pc,rfl,_⟩:=id hpv
 have S0:=RB.new w #[.int .i64 r.id,.int .i64 r.lv,.int .i64 r.kd,.int .i64 r.fr,.int .i64 r.un,.int .i64 r.ls,.int .i64 r.mo,.int .i64 r.ar,.int .i64 r.kn,.int .i64 r.kq,.int .i64 r.wo,.int .i64 r.wn,.slice WA (flen r.wl) wk,.int .i64 r.po,.int .i64 r.pn,.slice PA (flen r.pl) pc]
 have hin:=ZnE
 have hra:=fun W=>Z5j r.kn r.kq W
 have hz1:=fun W h=>Z4k r.wo r.wn r.wl (.slice WA (flen r.wl) wk) W h
 have hz2:=fun W h=>Z4k r.po r.pn r.pl (.slice PA (flen r.pl) pc) W h
 rw [Zkp,rtV]
 obtain ⟨b0,q0⟩:∃ b,Z1e r.id 1 1000000=b:=⟨_,rfl⟩
 obtain ⟨b1,q1⟩:∃ b,Z1e r.lv 0 100=b:=⟨_,rfl⟩
 obtain ⟨b2,q2⟩:∃ b,Z1e r.kd 1 20=b:=⟨_,rfl⟩
 obtain ⟨b3,q3⟩:∃ b,decide (r.fr<0)=b:=⟨_,rfl⟩
 obtain ⟨b4,q4⟩:∃ b,decide (r.fr≥r.un)=b:=⟨_,rfl⟩
 obtain ⟨b5,q5⟩:∃ b,decide (r.un > 366)=b:=⟨_,rfl⟩
 obtain ⟨b6,q6⟩:∃ b,decide (r.ls<1)=b:=⟨_,rfl⟩
 obtain ⟨b7,q7⟩:∃ b,decide (r.ls > r.mo)=b:=⟨_,rfl⟩
 obtain ⟨b8,q8⟩:∃ b,decide (r.mo > 60)=b:=⟨_,rfl⟩
 obtain ⟨b9,q9⟩:∃ b,Z1e r.ar 1 127=b:=⟨_,rfl⟩
 obtain ⟨b11,q11⟩:∃ b,decide (r.kn≥0)=b:=⟨_,rfl⟩
 obtain ⟨b12,q12⟩:∃ b,decide (r.kn≤r.kq)=b:=⟨_,rfl⟩
 rw [q0,q1,q2,q3,q4,q5,q6,q7,q8,q9,q11,q12]
 generalize Z0d r.wo r.wn r.wl=b13 at *
 generalize Z0d r.po r.pn r.pl=b14 at *
 generalize ratB r.kn r.kq=b10 at *
 have S:=zh S0;have HW:=zh hwv;have HP:=zh hpv;have IN:=zh hin;have RA:=zh hra;have Z1:=zh hz1;have Z2:=zh hz2;clear S0 hwv hpv hin hra hz1 hz2;go_enter Tryz.func164,Tryz.ntmps164
 go_upto_region 1 with fail
 generalize w.alloc (.cells #[.int .i64 r.id,.int .i64 r.lv,.int .i64 r.kd,.int .i64 r.fr,.int .i64 r.un,.int .i64 r.ls,.int .i64 r.mo,.int .i64 r.ar,.int .i64 r.kn,.int .i64 r.kq,.int .i64 r.wo,.int .i64 r.wn,.slice WA (flen r.wl) wk,.int .i64 r.po,.int .i64 r.pn,.slice PA (flen r.pl) pc] 65)=w0 at *
 have e0:=S.out.cell 0 _ rfl
 have e1:=S.out.cell 1 _ rfl
 have e2:=S.out.cell 2 _ rfl
 have e3:=S.out.cell 3 _ rfl
 have e4:=S.out.cell 4 _ rfl
 have e5:=S.out.cell 5 _ rfl
 have e6:=S.out.cell 6 _ rfl
 have e7:=S.out.cell 7 _ rfl
 have e8:=S.out.cell 8 _ rfl
 have e9:=S.out.cell 9 _ rfl
 have e10:=S.out.cell 10 _ rfl
 have e11:=S.out.cell 11 _ rfl
 have e12:=S.out.cell 12 _ rfl
 have e13:=S.out.cell 13 _ rfl
 have e14:=S.out.cell 14 _ rfl
 have e15:=S.out.cell 15 _ rfl
 go_wp2_with fail;refine ((IN.out r.id 1 1000000 _)).mono ?_
 rintro e w' ⟨rfl,rfl⟩;rw [q0]
 cases b0 with
 | false =>
  go_wp2_with fail;go_ret
  exact ⟨rfl,S.out.2⟩
 | true =>
  go_wp2_with fail;refine ((IN.out r.lv 0 100 _)).mono ?_
  rintro e w' ⟨rfl,rfl⟩;rw [q1]
  cases b1 with
  | false =>
   go_wp2_with fail;go_ret
   exact ⟨rfl,S.out.2⟩
  | true =>
   go_wp2_with fail;refine ((IN.out r.kd 1 20 _)).mono ?_
   rintro e w' ⟨rfl,rfl⟩;rw [q2]
   cases b2 with
   | false =>
    go_wp2_with fail;go_ret
    exact ⟨rfl,S.out.2⟩
   | true =>
    cases b3 with
    | true =>
     go_wp2_with fail;go_ret
     exact ⟨rfl,S.out.2⟩
    | false =>
     cases b4 with
     | true =>
      go_wp2_with fail;go_ret
      exact ⟨rfl,S.out.2⟩
     | false =>
      cases b5 with
      | true =>
       go_wp2_with fail;go_ret
       exact ⟨rfl,S.out.2⟩
      | false =>
       cases b6 with
       | true =>
        go_wp2_with fail;go_ret
        exact ⟨rfl,S.out.2⟩
       | false =>
        cases b7 with
        | true =>
         go_wp2_with fail;go_ret
         exact ⟨rfl,S.out.2⟩
        | false =>
         cases b8 with
         | true =>
          go_wp2_with fail;go_ret
          exact ⟨rfl,S.out.2⟩
         | false =>
          go_wp2_with fail;refine ((IN.out r.ar 1 127 _)).mono ?_
          rintro e w' ⟨rfl,rfl⟩;rw [q9]
          cases b9 with
          | false =>
           go_wp2_with fail;go_ret
           exact ⟨rfl,S.out.2⟩
          | true =>
           go_wp2_with fail;refine ((RA.out _)).mono ?_
           rintro e w1 ⟨rfl,hb⟩;have S1:=S.out.on hb
           clear e0 e1 e2 e3 e4 e5 e6 e7 e8 e9 e10 e11 e12 e13 e14 e15 S hb;have S:=zh S1;clear S1;have e8:=S.out.cell 8 _ rfl
           have e9:=S.out.cell 9 _ rfl
           have e10:=S.out.cell 10 _ rfl
           have e11:=S.out.cell 11 _ rfl
           have e12:=S.out.cell 12 _ rfl
           go_wp2_with fail;refine ((Z1.out _ ((HW.out.on S.out.2).up S.out.2.size))).mono ?_
           rintro e w2 ⟨rfl,hb⟩;have S1:=S.out.on hb
           clear e8 e9 e10 e11 e12 S hb;have S:=zh S1;clear S1;have e8:=S.out.cell 8 _ rfl
           have e9:=S.out.cell 9 _ rfl
           have e13:=S.out.cell 13 _ rfl
           have e14:=S.out.cell 14 _ rfl
           have e15:=S.out.cell 15 _ rfl
           go_wp2_with fail;refine ((Z2.out _ ((HP.out.on S.out.2).up S.out.2.size))).mono ?_
           rintro e w3 ⟨rfl,hb⟩;have S1:=S.out.on hb
           clear e8 e9 e13 e14 e15 S hb;have S:=zh S1;clear S1;have e8:=S.out.cell 8 _ rfl
           have e9:=S.out.cell 9 _ rfl
           cases b10 <;> cases b11 <;> cases b12 <;> cases b13 <;> cases b14
           all_goals
            go_wp2_with fail;go_ret
            exact ⟨rfl,S.out.2⟩
theorem Zcs (r:Rt)(wv pv:Value)(w:World)(hwv:FoV w w.heap.size wv r.wl)(hpv:FoV w w.heap.size pv r.pl):Calls Tryz.prog 124 #[rtV r wv pv] w fun e w'=>e=.returned (.tuple #[.bool (Z11 r==0),.int .i64 (Z11 r)])∧Below w.heap.size w w':=by
 have hfo:=fun W h1 h2=>Zi4 r wv pv W h1 h2
 obtain ⟨WA,wk,rfl,_⟩:=id hwv
 obtain ⟨PA,pc,rfl,_⟩:=id hpv
 have S0:=RB.new w #[.int .i64 r.id,.int .i64 r.lv,.int .i64 r.kd,.int .i64 r.fr,.int .i64 r.un,.int .i64 r.ls,.int .i64 r.mo,.int .i64 r.ar,.int .i64 r.kn,.int .i64 r.kq,.int .i64 r.wo,.int .i64 r.wn,.slice WA (flen r.wl) wk,.int .i64 r.po,.int .i64 r.pn,.slice PA (flen r.pl) pc]
 have hE:Z11 r=if Z3D r then (if typE (r.wo,r.wn) r.wl=3∧typE (r.po,r.pn) r.pl=2 then 0 else 20) else 1:=rfl
 have hv:=@Z3r r
 rw [rtV] at hfo ⊢
 have S:=zh S0;have HW:=zh hwv;have HP:=zh hpv;have HF:=zh hfo;have HE:=zh hE;have HV:=zh hv;clear S0 hwv hpv hfo hE hv;go_enter Tryz.func124,Tryz.ntmps124
 go_upto_region 1 with fail
 generalize w.alloc (.cells #[.int .i64 r.id,.int .i64 r.lv,.int .i64 r.kd,.int .i64 r.fr,.int .i64 r.un,.int .i64 r.ls,.int .i64 r.mo,.int .i64 r.ar,.int .i64 r.kn,.int .i64 r.kq,.int .i64 r.wo,.int .i64 r.wn,.slice WA (flen r.wl) wk,.int .i64 r.po,.int .i64 r.pn,.slice PA (flen r.pl) pc] 65)=w0 at *
 have e0:=S.out.cell 0 _ rfl
 have e1:=S.out.cell 1 _ rfl
 have e2:=S.out.cell 2 _ rfl
 have e3:=S.out.cell 3 _ rfl
 have e4:=S.out.cell 4 _ rfl
 have e5:=S.out.cell 5 _ rfl
 have e6:=S.out.cell 6 _ rfl
 have e7:=S.out.cell 7 _ rfl
 have e8:=S.out.cell 8 _ rfl
 have e9:=S.out.cell 9 _ rfl
 have e10:=S.out.cell 10 _ rfl
 have e11:=S.out.cell 11 _ rfl
 have e12:=S.out.cell 12 _ rfl
 have e13:=S.out.cell 13 _ rfl
 have e14:=S.out.cell 14 _ rfl
 have e15:=S.out.cell 15 _ rfl
 go_wp2_with fail;refine (HF.out _ ((HW.out.on S.out.2).up S.out.2.size) ((HP.out.on S.out.2).up S.out.2.size)).mono ?_
 rintro e w1 ⟨rfl,hb⟩;have S1:=S.out.on hb
 clear e0 e1 e2 e3 e4 e5 e6 e7 e8 e9 e10 e11 e12 e13 e14 e15 S hb HF;have S:=zh S1;clear S1;cases hf:Z3D r with
 | false =>
  have h1:Z11 r=1:=by rw [HE.out,hf];rfl
  have H1:=zh h1;have HFF:=zh hf;clear h1 hf;go_wp2_with fail;go_ret2
  rw [H1.out]
  exact ⟨rfl,S.out.2⟩
 | true =>
  obtain ⟨v1,v2⟩:=HV.out hf
  obtain ⟨f1,g1⟩:=Z5A v1
  obtain ⟨f2,g2⟩:=Z5A v2
  have hE2:Z11 r=if typE (r.wo,r.wn) r.wl=3∧typE (r.po,r.pn) r.pl=2 then 0 else 20:=by rw [HE.out,hf];rfl
  have hz1:=fun W B h h2=>Zbf (r.wo,r.wn) r.wl W (.slice WA (flen r.wl) wk) B h h2 f1 g1
  have hz2:=fun W B h h2=>Zbf (r.po,r.pn) r.pl W (.slice PA (flen r.pl) pc) B h h2 f2 g2
  have e10:=S.out.cell 10 _ rfl
  have e11:=S.out.cell 11 _ rfl
  have e12:=S.out.cell 12 _ rfl
  generalize typE (r.wo,r.wn) r.wl=x at *
  generalize typE (r.po,r.pn) r.pl=y at *
  have HE2:=zh hE2;have Z1:=zh hz1;have Z2:=zh hz2;have HFF:=zh hf;clear hE2 hz1 hz2 hf HE HV v1 v2 f1 f2 g1 g2;go_wp2_with fail;refine (Z1.out _ w.heap.size (HW.out.on S.out.2) S.out.2.size).mono ?_
  rintro e w2 ⟨rfl,hb⟩;have S2:=S.out.on hb
  clear e10 e11 e12 S hb;have S:=zh S2;clear S2;by_cases hx:x=3
  · have d1:(x != 3)=false:=by simpa using hx
    have e13:=S.out.cell 13 _ rfl
    have e14:=S.out.cell 14 _ rfl
    have e15:=S.out.cell 15 _ rfl
    go_wp2_with fail;refine (Z2.out _ w.heap.size (HP.out.on S.out.2) S.out.2.size).mono ?_
    rintro e w3 ⟨rfl,hb⟩;have S3:=S.out.on hb
    clear e13 e14 e15 S hb;have S:=zh S3;clear S3;by_cases hy:y=2
    · have d2:(y != 2)=false:=by simpa using hy
      have h0:Z11 r=0:=by rw [HE2.out,if_pos ⟨hx,hy⟩]
      have H0:=zh h0;clear h0;go_wp2_with fail;go_ret2
      rw [H0.out]
      exact ⟨rfl,S.out.2⟩
    · have d2:(y != 2)=true:=by simpa using hy
      have h0:Z11 r=20:=by rw [HE2.out,if_neg (fun h=>hy h.2)]
      have H0:=zh h0;clear h0;go_wp2_with fail;go_ret2
      rw [H0.out]
      exact ⟨rfl,S.out.2⟩
  · have d1:(x != 3)=true:=by simpa using hx
    have h0:Z11 r=20:=by rw [HE2.out,if_neg (fun h=>hx h.1)]
    have H0:=zh h0;clear h0;go_wp2_with fail;go_ret2
    rw [H0.out]
    exact ⟨rfl,S.out.2⟩
end
end Go.Proofs.YtnepkoepbapgeaaGreatDoor
