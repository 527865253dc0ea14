/-
  Several texts in one: PrtW3, PrtMap, PrtW4.
-/
import Derived.Test.YtnepkoepbapgeaaGreatDoorPrtMem
import Derived.Test.YtnepkoepbapgeaaGreatDoorProg
import Derived.WalkSpells
import Derived.WalkLawsBesides
import Derived.RangeFuncBox
import Derived.Deep.QuietTactic
import Derived.BigQuiet
import Derived.Deep.RegionHeld3
import Derived.IntWalk
import Derived.Tactics
import Derived.MapKept
import Derived.RangeFuncRecord
import Derived.Maps.Own
namespace Go.Proofs.YtnepkoepbapgeaaGreatDoor
set_option maxRecDepth 100000
section
open Go.RowKit Lx Px
theorem Z4i {a b:Bool}(h:a=b):Ending.returned (.bool a)=.returned (.bool b):=by rw [h]
theorem Z69 (w:World):Below w.heap.size w w:=Below.refl w.heap.size w
theorem Z8u (op n:Int)(A:Option Addr)(k c:Nat)(w:World):Calls Tryz.prog 238 #[.agg #[.int .i64 op,.int .i64 n,.slice A k c]] w fun e w'=>e=.returned (.bool (Z05 op n k))∧w'=w.alloc (.cells #[.int .i64 op,.int .i64 n,.slice A k c] 63):=by
 go_enter Tryz.func238,Tryz.ntmps238
 go_wp2
 all_goals go_ret
 all_goals refine ⟨Z4i ?_,by first | rfl | (subst_vars;rfl)⟩
 all_goals unfold Z05
 all_goals simp_all
 all_goals first | omega | (by_cases hn0:n=0 <;> simp [hn0] <;> omega)
end
section
open Go.RowKit Lx Px
def Zju (a:Int × Int)(l:Fo):Prop :=
 ∀ (lv left:Int) (w:World) (v:Value) (B b:Nat),FoV w B v l→B≤b→Boxed w b 3 (.int .i64 left)→0≤lv→lv≤1000→0≤left→left≤1000 →
  Calls Tryz.prog 178 #[.agg #[.int .i64 a.1,.int .i64 a.2,v],.int .i64 lv,.pointer (some ⟨b,0,none⟩)] w fun e w' =>
   e=.returned (.bool (fitE a l lv left).1)∧Boxed w' b 3 (.int .i64 (fitE a l lv left).2)∧w.grownBy w' (some b)
theorem Zdk {w w':World}{row:Option Nat}(hg:w.grownBy w' row)(a:Addr)(hlt:a.block<w.heap.size)(hne:some a.block≠row):w'.cell? a=w.cell? a:=by
 unfold World.cell?;rw [hg.block _ hlt hne]
theorem Z0C (w:World)(o:Obj)(p:Addr)(h:p.block<w.heap.size):(w.alloc o).cell? p=w.cell? p:=Zdk (World.grownBy_alloc w o none) p h (by simp)
theorem Z72:∀ (f:Fo) (lv left x:Int),Z1m f lv left=(true,x)→0≤left→0≤x∧x≤left:=by
 intro f
 induction f with
 | nil=>intro lv left x h h0;simp [Z1m] at h;omega
 | node b o a l r ihl ihr =>
  intro lv left x h h0
  rw [Z1m] at h
  split at h
  · simp at h
  · split at h
    · simp at h
    · rename_i y e
      have h1:=ihl (lv - 1) (left - 1) y e (by omega)
      have h2:=ihr lv x
      have h3:=ihr lv y x h h1.1
      omega
theorem Z4j {op n:Int}{k:Nat}(h:Z05 op n k=true):k≤3:=by
 unfold Z05 at h
 repeat' split at h
 all_goals simp at h
 all_goals omega
def FitL (l:Fo)(lv left:Int)(w:World)(b:Nat)(i:Value)(wr:World):Prop :=
 ∃ (k:Nat) (x:Int),k≤flen l∧i=.int .i64 k∧0≤x∧x≤1000∧Boxed wr b 3 (.int .i64 x)∧w.grownBy wr (some b)∧Z1m (Z29 l k) lv x=Z1m l lv left
theorem Zdm (a:Int × Int)(l:Fo)(ih:∀ k,k<flen l→Zju (getF l k).1 (getF l k).2):Zju a l:=by
 intro lv left w v B b hv hB hb h0 h1 h2 h3
 obtain ⟨A,c,rfl,hA⟩:=hv
 obtain ⟨op,n⟩:=a
 have hc0:=hb.cell
 have hlt:=hb.lt
 have hfz:=hb.frozen
 have hset:=hb.set (.int .i64 (left - 1))
 have hg:=grownBy_setCell' w b (.int .i64 (left - 1))
 by_cases hz:lv=0
 · subst hz
   have hE:fitE (op,n) l 0 left=(false,left - 1):=by simp [fitE]
   have HE:=zh hE;clear hE;go_enter Tryz.func178,Tryz.ntmps178
   go_wp2_with fail;go_ret
   rw [HE.out]
   exact ⟨rfl,hset.alloc _,hg.trans (World.grownBy_alloc _ _ _)⟩
 · have ez:(lv==0)=false:=by simpa using hz
   by_cases hneg:left - 1<0
   · have hE:fitE (op,n) l lv left=(false,left - 1):=by simp [fitE,hneg]
     have HE:=zh hE;have en:decide (left - 1<0)=true:=by simpa using hneg
     clear hE;go_enter Tryz.func178,Tryz.ntmps178
     go_wp2_with fail;go_ret
     rw [HE.out]
     exact ⟨rfl,hset.alloc _,hg.trans (World.grownBy_alloc _ _ _)⟩
   · have en:decide (left - 1<0)=false:=by simpa using hneg
     cases hfo:Z05 op n (flen l) with
     | false =>
      have hE:fitE (op,n) l lv left=(false,left - 1):=by simp [fitE,hfo]
      have HE:=zh hE;have HF:=zh hfo;clear hE hfo;go_enter Tryz.func178,Tryz.ntmps178
      go_wp2_with fail;refine (Z8u _ _ _ _ _ _).mono ?_
      rintro e w1 ⟨rfl,rfl⟩;rw [HF.out]
      go_wp2_with fail;go_ret
      rw [HE.out]
      exact ⟨rfl,(hset.alloc _).alloc _,(hg.trans (World.grownBy_alloc _ _ _)).trans (World.grownBy_alloc _ _ _)⟩
     | true =>
      have hE:fitE (op,n) l lv left=Z1m l (lv - 1) (left - 1):=by simp [fitE,hfo,hz,hneg]
      have hfl:=Z4j hfo;have HE:=zh hE;have HF:=zh hfo;have HA:=zh hA;have HI:=zh ih;clear hE hfo hA ih;go_enter Tryz.func178,Tryz.ntmps178
      go_wp2_with fail;refine (Z8u _ _ _ _ _ _).mono ?_
      rintro e w1 ⟨rfl,rfl⟩;rw [HF.out]
      go_wp2_with fail;go_loopw [8,30] (fun _ i wr=>FitL l (lv - 1) (left - 1) w b i wr) (fun _ i _=>flen l - (intOf i).toNat)
      case atStart=>exact ⟨0,left - 1,by omega,rfl,by omega,by omega,(hset.alloc _).alloc _,(hg.trans (World.grownBy_alloc _ _ _)).trans (World.grownBy_alloc _ _ _),by rw [Z29]⟩
      case round =>
       clear hc0 hfz hset hg;obtain ⟨k,x,hk,rfl,hx0,hx1,hbx,hgr,hF⟩:=hrel
       have HFF:=zh hF;clear hF;have hsz:=hgr.size
       by_cases hkl:k<flen l
       · have hkeep:∀ p:Addr,p.block<B→wr.cell? p=w.cell? p:=fun p hp=>Zdk hgr p (by omega) (by simp;omega)
         obtain ⟨ad,A',c',rfl,hlo,t0,t1,t2,t3⟩:=FoAt.get l A 0 k (FoAt.keep hkeep l A 0 HA.out) hkl
         rw [Nat.zero_add] at t0 t1 t2
         obtain ⟨bb,oo,hd⟩:=Z5i l k hkl
         have hrec:=HI.out k hkl
         obtain ⟨⟨op',n'⟩,l',hel⟩:∃ a' l',getF l k=(a',l'):=⟨_,_,rfl⟩
         rw [hel] at t0 t1 t2 t3 hd hrec
         dsimp only at t0 t1 t2 t3 hd hrec
         have hF2:=HFF.out
         rw [hd,Z66] at hF2
         obtain ⟨rb,rx,hr⟩:∃ rb rx,fitE (op',n') l' (lv - 1) x=(rb,rx):=⟨_,_,rfl⟩
         rw [hr] at hF2
         have hcall:=fun (W:World) (h1:FoV W B (.slice A' (flen l') c') l') (h2:Boxed W b 3 (.int .i64 x))=>hrec (lv - 1) x W (.slice A' (flen l') c') B b h1 hB h2 (by omega) (by omega) hx0 hx1
         rw [hr] at hcall
         have HC:=zh hcall;have HT3:=zh t3;have hb2:(ad.add (k*3)).block<wr.heap.size:=by rw [Z19];omega
         have HD:=zh hd;clear hcall t3 hd hrec hel HFF hkeep;cases rb with
         | false =>
          have H2:=zh hF2;have HR:=zh hr;clear hF2 hr;go_wp2_with fail;refine (HC.out _ ⟨A',c',rfl,FoAt.keep (fun p hp=>by rw [Z0C _ _ _ (by omega)]) l' A' 0 HT3.out⟩ (hbx.alloc _)).mono ?_
          rintro e w9 ⟨rfl,hb9,hg9⟩;go_wp2_with fail;go_ret
          rw [HE.out,← H2.out]
          exact ⟨rfl,hb9,(hgr.trans (World.grownBy_alloc _ _ _)).trans hg9⟩
         | true =>
          have H2:=zh hF2;have hx2:0≤rx∧rx≤x:=by
           rw [fitE] at hr
           split at hr
           · simp at hr
           · have:=Z72 _ _ _ _ hr (by omega);omega
          clear hF2 hr;go_wp2_with fail;refine (HC.out _ ⟨A',c',rfl,FoAt.keep (fun p hp=>by rw [Z0C _ _ _ (by omega)]) l' A' 0 HT3.out⟩ (hbx.alloc _)).mono ?_
          rintro e w9 ⟨rfl,hb9,hg9⟩;go_wp2_with fail;go_roundw
          case rel=>exact ⟨k+1,rx,by omega,by go_num,by omega,by omega,hb9,(hgr.trans (World.grownBy_alloc _ _ _)).trans hg9,H2.out⟩
          case measure=>simp [intOf];omega
       · have hke:Z29 l k=.nil:=Z3H l k (by omega)
         have hF2:=HFF.out
         rw [hke,Z1m] at hF2
         have H2:=zh hF2;clear hF2 HFF;go_wp2_with fail;go_ret
         rw [HE.out,← H2.out]
         exact ⟨rfl,hbx,hgr⟩
theorem Zjv (f:Fo):∀ k,k<flen f→Zju (getF f k).1 (getF f k).2:=by
 induction f with
 | nil=>intro k h;simp [flen] at h
 | node b o a l r ihl ihr =>
  intro k h
  cases k with
  | zero=>exact Zdm a l ihl
  | succ k=>exact ihr k (by simp [flen] at h;omega)
theorem Zjw (a:Int × Int)(l:Fo):Zju a l:=Zdm a l (Zjv l)
theorem ZaF (op n:Int)(l:Fo):Z0d op n l=(fitE (op,n) l 30 200).1:=by
 rw [Z0d,Z66]
 cases fitE (op,n) l 30 200 with
 | mk b x=>cases b <;> rfl
theorem Zcc {w w1 w':World}{b:Nat}(h:Below w.heap.size w w1)(hg:w1.grownBy w' (some b))(hb:w.heap.size≤b):Below w.heap.size w w' :=
 h.grown hg h.size (fun g e=>by injection e with e;omega)
theorem Z2D (op n:Int)(l:Fo)(v:Value)(w:World)(hv:FoV w w.heap.size v l) :
 Calls Tryz.prog 134 #[.agg #[.int .i64 op,.int .i64 n,v]] w fun e w'=>e=.returned (.bool (Z0d op n l))∧Below w.heap.size w w':=by
 rw [ZaF]
 obtain ⟨A,c,rfl,hA⟩:=hv
 have HA:=zh hA;clear hA;go_enter Tryz.func134,Tryz.ntmps134
 go_wp2_with fail;have hbx:Boxed ((w.alloc (.cells #[.int .i64 op,.int .i64 n,.slice A (flen l) c] 63)).alloc (.cells #[.int .i64 200] 3)) (w.heap.size+1) 3 (.int .i64 200):=by
  have:=Boxed.new (w.alloc (.cells #[.int .i64 op,.int .i64 n,.slice A (flen l) c] 63)) 3 (.int .i64 200)
  simpa using this
 have hfo:FoAt ((w.alloc (.cells #[.int .i64 op,.int .i64 n,.slice A (flen l) c] 63)).alloc (.cells #[.int .i64 200] 3)) w.heap.size l A 0 :=
  FoAt.keep (fun p hp=>by rw [Z0C _ _ _ (by simp;omega),Z0C _ _ _ hp]) l A 0 HA.out
 refine (Zjw (op,n) l 30 200 _ (.slice A (flen l) c) w.heap.size (w.heap.size+1) ⟨A,c,rfl,hfo⟩ (by omega) hbx (by omega) (by omega) (by omega) (by omega)).mono ?_
 rintro e w1 ⟨rfl,_,hg⟩;have hb1:Below w.heap.size w w1:=Zcc (((Z69 w).alloc (zn _) _).alloc (by simp) _) hg (by omega)
 go_wp2_with fail;go_ret
 exact ⟨rfl,hb1⟩
end
section
open Go.RowKit Lx Px
theorem Z73 (op n:Int)(A:Option Addr)(k c:Nat)(w:World):Calls Tryz.prog 221 #[.agg #[.int .i64 op,.int .i64 n,.slice A k c]] w fun e w'=>e=.returned (.bool (Z05 op n k))∧w'=w.alloc (.cells #[.int .i64 op,.int .i64 n,.slice A k c] 63):=by
 go_enter Tryz.func221,Tryz.ntmps221
 go_wp2
 all_goals go_ret
 all_goals refine ⟨Z4i ?_,by first | rfl | (subst_vars;rfl)⟩
 all_goals unfold Z05
 all_goals simp_all
 all_goals first | omega | (by_cases hn0:n=0 <;> simp [hn0] <;> omega)
def Z6a (a:Int × Int)(l:Fo)(lv most:Int):Int:=match fitE a l lv most with | (true,x)=>x | (false,_)=>-1
def Zjx (a:Int × Int)(l:Fo):Prop :=
 ∀ (lv most:Int) (w:World) (v:Value) (B:Nat),FoV w B v l→B≤w.heap.size→0≤lv→lv≤1000→0≤most→most≤1000 →
  Calls Tryz.prog 168 #[.agg #[.int .i64 a.1,.int .i64 a.2,v],.int .i64 lv,.int .i64 most] w fun e w' =>
   e=.returned (.int .i64 (Z6a a l lv most))∧Below w.heap.size w w'
theorem Z00 {w w1 w2:World}(h:Below w.heap.size w w1)(h2:Below w1.heap.size w1 w2):Below w.heap.size w w2:=h.trans (h2.mono h.size)
def SizL (l:Fo)(lv left:Int)(w:World)(kv y i:Value)(wr:World):Prop :=
 ∃ (k:Nat) (x:Int),k≤flen l∧i=.int .i64 k∧y=.int .i64 x∧0≤x∧x≤1000∧Below w.heap.size w wr∧w.heap.size<wr.heap.size∧wr.cell? ⟨w.heap.size,2,none⟩=some kv∧Z1m (Z29 l k) lv x=Z1m l lv left
theorem Z8v (a:Int × Int)(l:Fo)(ih:∀ k,k<flen l→Zjx (getF l k).1 (getF l k).2):Zjx a l:=by
 intro lv most w v B hv hB h0 h1 h2 h3
 obtain ⟨A,c,rfl,hA⟩:=hv
 obtain ⟨op,n⟩:=a
 cases hfo:Z05 op n (flen l) with
 | false =>
  have hE:Z6a (op,n) l lv most = -1:=by simp [Z6a,fitE,hfo]
  have HE:=zh hE;have HF:=zh hfo;clear hE hfo;go_enter Tryz.func168,Tryz.ntmps168
  go_wp2_with fail;refine (Z73 _ _ _ _ _ _).mono ?_
  rintro e w1 ⟨rfl,rfl⟩;rw [HF.out]
  go_wp2_with fail;go_ret
  rw [HE.out]
  exact ⟨rfl,((Z69 w).alloc (zn _) _).alloc (by simp) _⟩
 | true =>
  have hfl:=Z4j hfo;by_cases hz:lv<1
  · have hE:Z6a (op,n) l lv most = -1:=by simp [Z6a,fitE,show lv=0 from by omega]
    have HE:=zh hE;have HF:=zh hfo;have d1:decide (lv<1)=true:=by simpa using hz
    clear hE hfo;go_enter Tryz.func168,Tryz.ntmps168
    go_wp2_with fail;refine (Z73 _ _ _ _ _ _).mono ?_
    rintro e w1 ⟨rfl,rfl⟩;rw [HF.out]
    go_wp2_with fail;go_ret
    rw [HE.out]
    exact ⟨rfl,((Z69 w).alloc (zn _) _).alloc (by simp) _⟩
  · have d1:decide (lv<1)=false:=by simpa using hz
    by_cases hm:most<1
    · have hE:Z6a (op,n) l lv most = -1:=by simp [Z6a,fitE,show most - 1<0 from by omega]
      have HE:=zh hE;have HF:=zh hfo;have d2:decide (most<1)=true:=by simpa using hm
      clear hE hfo;go_enter Tryz.func168,Tryz.ntmps168
      go_wp2_with fail;refine (Z73 _ _ _ _ _ _).mono ?_
      rintro e w1 ⟨rfl,rfl⟩;rw [HF.out]
      go_wp2_with fail;go_ret
      rw [HE.out]
      exact ⟨rfl,((Z69 w).alloc (zn _) _).alloc (by simp) _⟩
    · have d2:decide (most<1)=false:=by simpa using hm
      have hE:fitE (op,n) l lv most=Z1m l (lv - 1) (most - 1):=by simp [fitE,hfo,show ¬ lv=0 from by omega,show ¬ most - 1<0 from by omega]
      have HE:=zh hE;have HF:=zh hfo;have HA:=zh hA;have HI:=zh ih;clear hE hfo hA ih;go_enter Tryz.func168,Tryz.ntmps168
      go_wp2_with fail;refine (Z73 _ _ _ _ _ _).mono ?_
      rintro e w1 ⟨rfl,rfl⟩;rw [HF.out]
      go_wp2_with fail;go_loopw [8,9] (fun y i wr=>SizL l (lv - 1) (most - 1) w (.slice A (flen l) c) y i wr) (fun _ i _=>flen l - (intOf i).toNat)
      case atStart=>exact ⟨0,most - 1,by omega,rfl,rfl,by omega,by omega,((Z69 w).alloc (zn _) _).alloc (by simp) _,by simp;omega,by rw [Z0C _ _ _ (by simp)];simp,by rw [Z29]⟩
      case round =>
       obtain ⟨k,x,hk,rfl,rfl,hx0,hx1,hbl,hsz,hkv,hF⟩:=hrel
       have HFF:=zh hF;clear hF;by_cases hkl:k<flen l
       · have hkeep:∀ p:Addr,p.block<B→wr.cell? p=w.cell? p:=fun p hp=>hbl.cell (by omega)
         obtain ⟨ad,A',c',rfl,hlo,t0,t1,t2,t3⟩:=FoAt.get l A 0 k (FoAt.keep hkeep l A 0 HA.out) hkl
         rw [Nat.zero_add] at t0 t1 t2
         obtain ⟨bb,oo,hd⟩:=Z5i l k hkl
         have hrec:=HI.out k hkl
         obtain ⟨⟨op',n'⟩,l',hel⟩:∃ a' l',getF l k=(a',l'):=⟨_,_,rfl⟩
         rw [hel] at t0 t1 t2 t3 hd hrec
         dsimp only at t0 t1 t2 t3 hd hrec
         have hF2:=HFF.out
         rw [hd,Z66] at hF2
         obtain ⟨rb,rx,hr⟩:∃ rb rx,fitE (op',n') l' (lv - 1) x=(rb,rx):=⟨_,_,rfl⟩
         rw [hr] at hF2
         have hcall:=hrec (lv - 1) x wr (.slice A' (flen l') c') B ⟨A',c',rfl,t3⟩ (by omega) (by omega) (by omega) hx0 hx1
         rw [Z6a,hr] at hcall
         clear hd hrec hel HFF hkeep t3;cases rb with
         | false =>
          have HC:=zh hcall;have H2:=zh hF2;clear hF2 hr hcall;go_wp2_with fail;refine HC.out.mono ?_
          rintro e w9 ⟨rfl,hb9⟩;go_wp2_with fail;go_ret
          rw [Z6a,HE.out,← H2.out]
          exact ⟨rfl,Z00 hbl hb9⟩
         | true =>
          have HC:=zh hcall;have H2:=zh hF2;have hx2:0≤rx∧rx≤x:=by
           rw [fitE] at hr
           split at hr
           · simp at hr
           · have:=Z72 _ _ _ _ hr (by omega);omega
          clear hF2 hr hcall;go_wp2_with fail;refine HC.out.mono ?_
          rintro e w9 ⟨rfl,hb9⟩;have d9:decide (rx<0)=false:=by simp;omega
          go_wp2_with fail;go_roundw
          case rel=>exact ⟨k+1,rx,by omega,by go_num,rfl,by omega,by omega,Z00 hbl hb9,by have:=hb9.size;omega,(hb9.cell hsz).trans hkv,H2.out⟩
          case measure=>simp [intOf];omega
       · have hke:Z29 l k=.nil:=Z3H l k (by omega)
         have hF2:=HFF.out
         rw [hke,Z1m] at hF2
         have H2:=zh hF2;clear hF2 HFF;go_wp2_with fail;go_ret
         rw [Z6a,HE.out,← H2.out]
         exact ⟨rfl,hbl⟩
theorem Zjy (f:Fo):∀ k,k<flen f→Zjx (getF f k).1 (getF f k).2:=by
 induction f with
 | nil=>intro k h;simp [flen] at h
 | node b o a l r ihl ihr =>
  intro k h
  cases k with
  | zero=>exact Z8v a l ihl
  | succ k=>exact ihr k (by simp [flen] at h;omega)
theorem Zjz (a:Int × Int)(l:Fo):Zjx a l:=Z8v a l (Zjy l)
theorem ZjA (op n:Int)(l:Fo):decide (0≤Z6a (op,n) l 30 200)=Z0d op n l:=by
 rw [ZaF,Z6a]
 cases h:fitE (op,n) l 30 200 with
 | mk b x =>
  cases b with
  | false=>rfl
  | true =>
   rw [fitE] at h
   split at h
   · simp at h
   · have:=Z72 _ _ _ _ h (by omega)
     simp;omega
theorem Z4k (op n:Int)(l:Fo)(v:Value)(w:World)(hv:FoV w w.heap.size v l) :
 Calls Tryz.prog 127 #[.agg #[.int .i64 op,.int .i64 n,v]] w fun e w'=>e=.returned (.bool (Z0d op n l))∧Below w.heap.size w w':=by
 have hge:=ZjA op n l
 obtain ⟨z,hz⟩:∃ z,Z6a (op,n) l 30 200=z:=⟨_,rfl⟩
 rw [hz] at hge
 have HZ:=zh hz;rw [← hge]
 clear hge hz;obtain ⟨A,c,rfl,hA⟩:=hv
 have HA:=zh hA;clear hA;go_enter Tryz.func127,Tryz.ntmps127
 go_wp2_with fail;refine (Zjz (op,n) l 30 200 _ (.slice A (flen l) c) w.heap.size ⟨A,c,rfl,FoAt.keep (fun p hp=>by first | rfl | exact Z0C _ _ _ hp) l A 0 HA.out⟩ (by simp) (by omega) (by omega) (by omega) (by omega)).mono ?_
 rintro e w1 ⟨rfl,hb⟩;rw [HZ.out]
 go_wp2_with fail;go_ret
 exact ⟨rfl,Z00 ((Z69 w).alloc (zn _) _) hb⟩
end
section
open Go.RowKit
theorem Z0z {w:World}{r:Nat}{o:Obj}(h:w.heap[r]?=some o)(x:Obj):(w.alloc x).heap[r]?=some o:=((World.grownBy_alloc w x none).block r (zs h) (by simp)).trans h
theorem Z1G {P:Program}{w:World}{t k e:TypeId}{r:Nat}{es:Array MapEntry}{clk:Nat}{n:Int}{v:Value}(ht:P.underlying t=some (.map k e))(hk:P.underlying k=some (.int .i64))
 (hr:w.heap[r]?=some (.map es clk)) (hf:Instr.findNow (.int .i64) (.int .i64 n) es.toList 0=some none) :
 (Instr.mapUpdate t (.map (some r)) (.int .i64 n) v).run P w=.ok () (w.putObj r (.map (es.push { key:=.int .i64 n,val:=v,born:=clk }) (clk+1))):=by
 have hck:(Instr.checkKey false (9999+1) k (.int .i64 n)).run P w=.ok () w:=Go.MapKept.run_checkKey hk (by simp [MapKept.IsKey]) false 9999
 simp only [Instr.mapUpdate,Instr.findKey,Sem.run_bind,Sem.run_pure,run_underlying ht,run_underlying hk,Go.MapKept.run_getObj_map hr,hck,hf,Result.andThen_ok]
 rw [Go.MapKept.run_setObj_map _ hr]
 rfl
theorem Z5n {P:Program}{w:World}{t k e:TypeId}{r:Nat}{es:Array MapEntry}{clk:Nat}{n:Int}{i:Nat}{v:Value}(ht:P.underlying t=some (.map k e))(hk:P.underlying k=some (.int .i64))
 (hr:w.heap[r]?=some (.map es clk)) (hf:Instr.findNow (.int .i64) (.int .i64 n) es.toList 0=some (some (i,v))) :
 (Instr.lookup t (.map (some r)) (.int .i64 n) true).run P w=.ok (.tuple #[v,.bool true]) w:=by
 have hck:(Instr.checkKey es.isEmpty (9999+1) k (.int .i64 n)).run P w=.ok () w:=Go.MapKept.run_checkKey hk (by simp [MapKept.IsKey]) _ 9999
 simp only [Instr.lookup,Instr.findKey,Sem.run_bind,Sem.run_pure,run_underlying ht,run_underlying hk,Go.MapKept.run_getObj_map hr,hck,hf,Result.andThen_ok]
 rfl
theorem Z7u {P:Program}{w:World}{t k e:TypeId}{r:Nat}{es:Array MapEntry}{clk:Nat}{n:Int}{z:Value}(ht:P.underlying t=some (.map k e))(hk:P.underlying k=some (.int .i64))
 (hr:w.heap[r]?=some (.map es clk)) (hf:Instr.findNow (.int .i64) (.int .i64 n) es.toList 0=some none) (hz:(zeroValue e).run P w=.ok z w) :
 (Instr.lookup t (.map (some r)) (.int .i64 n) true).run P w=.ok (.tuple #[z,.bool false]) w:=by
 have hck:(Instr.checkKey es.isEmpty (9999+1) k (.int .i64 n)).run P w=.ok () w:=Go.MapKept.run_checkKey hk (by simp [MapKept.IsKey]) _ 9999
 simp only [Instr.lookup,Instr.findKey,Sem.run_bind,Sem.run_pure,run_underlying ht,run_underlying hk,Go.MapKept.run_getObj_map hr,hck,hf,hz,Result.andThen_ok]
 rfl
theorem Z4x {P:Program}(w:World){ops:Array Oper}{rest:List Oper}{o:Oper}{a:Act}{Q:Exit→Act→World→Prop}
 (hg:o.guard=none) (m x v:Operand) (t:TypeId) (hop:o.op=Op.mapUpdate t m x v) (k e:TypeId) (ht:P.underlying t=some (.map k e)) (hk:P.underlying k=some (.int .i64)) (r:Nat) (es:Array MapEntry) (clk:Nat)
 (hm:a.eval m=.map (some r)) (hr:w.heap[r]?=some (.map es clk)) (n:Int) (val:Value) (hx:a.eval x=.int .i64 n) (hv:a.eval v=val) (hf:Instr.findNow (.int .i64) (.int .i64 n) es.toList 0=some none)
 (hK:∀ w',w'.heap[r]?=some (.map (es.push { key:=.int .i64 n,val:=val,born:=clk }) (clk+1))→w.grownBy w' (some r)→wpList P ops Q rest (a.put o.dst undef) w') :
 wpList P ops Q (o::rest) a w:=by
 refine wpList_plain hg fun K' hK'=>?_
 have hrun:=Z1G (v:=val) ht hk hr hf
 have hlt:=(zs hr)
 unfold Oper.wp
 simp [execOp,hop,hm,hx,hv,hrun,Result.andThen]
 refine hK' _ _ (hK _ ?_ ?_)
 · simp [World.putObj,hlt]
 · refine ⟨rfl,rfl,rfl,by simp [World.putObj],fun i hi hne=>?_⟩
   exact World.putObj_heap_other (by intro e;subst e;exact hne rfl)
end
section
open Go.RowKit Lx Px
namespace Px
def Z0h (op:Int):Nat:=if op=10 then 3 else if op=15 then 1 else 2
def sepL (op:Int):List Bytes:=if op=10 then [Z53 10 1,Z53 10 2] else if op=15 then [] else [Z53 op 1]
def Z8w (op:Int):List Int:=if op=10 then [0,0,0] else if op=15 then [3] else [Z08 op 0,Z08 op 1]
end Px
def esOf:List (Int × Value)→Nat→List MapEntry
 | [],_=>[]
 | p::r,i=>{ key:=.int .i64 p.1,val:=p.2,born:=i }::esOf r (i+1)
theorem Z7v (p:Int × Value):∀ (L:List (Int × Value)) (i:Nat),esOf (L++[p]) i=esOf L i++[{ key:=.int .i64 p.1,val:=p.2,born:=i+L.length }]:=by
 intro L
 induction L with
 | nil=>intro i;rfl
 | cons q r ih=>intro i;simp only [List.cons_append,esOf,ih,List.length_cons];rw [show i+1+r.length=i+(r.length+1) from by omega]
def ZaG (w:World)(r:Nat)(op:Int)(v:Value):Prop :=
 ∃ bs b2:Nat,v=.agg #[.string (mk (Z0y op)),(if op=15 then .slice none 0 0 else .slice (some ⟨bs,0,none⟩) (Z0h op - 1) (Z0h op - 1)),.string (mk (Z3g op)),.int .i64 (Z03 op),.slice (some ⟨b2,0,none⟩) (Z0h op) (Z0h op)] ∧
  (op≠15→bs≠r∧w.heap[bs]?=some (.cells ((sepL op).map fun s=>.string (mk s)).toArray 9 (0,0))) ∧
  b2≠r∧w.heap[b2]?=some (.cells ((Z8w op).map (.int .i64)).toArray 3 (0,0))
def Z2j (w:World)(r:Nat)(L:List (Int × Value)):Prop:=w.heap[r]?=some (.map (esOf L 0).toArray L.length)∧∀ p∈L,ZaG w r p.1 p.2
theorem ZaG.grown {w w':World}{r:Nat}{op:Int}{v:Value}(h:ZaG w r op v)(hg:w.grownBy w' (some r)):ZaG w' r op v:=by
 obtain ⟨bs,b2,hv,h1,h2,h3⟩:=h
 refine ⟨bs,b2,hv,fun ho=>?_,h2,?_⟩
 · obtain ⟨g1,g2⟩:=h1 ho
   exact ⟨g1,(hg.block bs (zs g2) (by simpa using g1)).trans g2⟩
 · exact (hg.block b2 (zs h3) (by simpa using h2)).trans h3
theorem Z2c (n:Int):∀ (L:List (Int × Value)) (i j:Nat),(∀ p∈L,p.1≠n)→Instr.findNow (.int .i64) (.int .i64 n) (esOf L i) j=some none:=by
 intro L
 induction L with
 | nil=>intro i j _;rfl
 | cons q r ih =>
  intro i j h
  have h1:q.1≠n:=h q (by simp)
  have h2:=ih (i+1) (j+1) (fun p hp=>h p (by simp [hp]))
  have h3:Instr.sameNow (.int .i64) (.int .i64 n) (.int .i64 q.1)=some false:=by
   simp [Instr.sameNow,Ne.symm h1]
  simp only [esOf,Instr.findNow,h3]
  exact h2
theorem Z6b (n:Int)(v:Value):∀ (L L2:List (Int × Value)) (i j:Nat),(∀ p∈L,p.1≠n)→Instr.findNow (.int .i64) (.int .i64 n) (esOf (L++(n,v)::L2) i) j=some (some (j+L.length,v)):=by
 intro L
 induction L with
 | nil=>intro L2 i j _;simp [esOf,Instr.findNow,Instr.sameNow]
 | cons q r ih =>
  intro L2 i j h
  have h1:q.1≠n:=h q (by simp)
  have h2:=ih L2 (i+1) (j+1) (fun p hp=>h p (by simp [hp]))
  have h3:Instr.sameNow (.int .i64) (.int .i64 n) (.int .i64 q.1)=some false:=by
   simp [Instr.sameNow,Ne.symm h1]
  simp only [List.cons_append,esOf,Instr.findNow,h3,h2,List.length_cons]
  rw [show j+1+r.length=j+(r.length+1) from by omega]
theorem Z1x (w:World)(o o2:Obj):((w.alloc o).alloc o2).heap[w.heap.size]?=some o∧((w.alloc o).alloc o2).heap[w.heap.size+1]?=some o2 :=
 ⟨Z0z (za w o) o2,by have:=za (w.alloc o) o2;simpa using this⟩
theorem ZaH {w w':World}(h:w.grownBy w' none)(r:Nat):w.grownBy w' (some r):=by
 obtain ⟨h1,h2,h3,h4,h5⟩:=h
 exact ⟨h1,h2,h3,h4,fun i hi _=>h5 i hi (by simp)⟩
theorem Z2j.new (w:World):Z2j (w.alloc (.map #[] 0)) w.heap.size []:=⟨za w _,by simp⟩
theorem Z2j.step {w w1 w':World}{r:Nat}{L:List (Int × Value)}{op:Int}{V:Value}(h:Z2j w r L)(hw:w.grownBy w1 none)(hV:ZaG w1 r op V)
 (hr:w'.heap[r]?=some (.map ((esOf L 0).toArray.push { key:=.int .i64 op,val:=V,born:=L.length }) (L.length+1))) (hg:w1.grownBy w' (some r)):Z2j w' r (L++[(op,V)]):=by
 have hrl:r<w.heap.size:=(zs h.1)
 refine ⟨?_,?_⟩
 · rw [hr,Z7v];simp
 · intro p hp
   rcases List.mem_append.1 hp with hp | hp
   · exact ((h.2 p hp).grown (ZaH hw r)).grown hg
   · simp at hp;subst hp;exact hV.grown hg
theorem Z2j.lt {w:World}{r:Nat}{L:List (Int × Value)}(h:Z2j w r L):r<w.heap.size:=(zs h.1)
theorem Z0G {o:Oper}{a:Act}{K:Act→World→Prop}{Q:Exit→Act→World→Prop}{w w1:World}{r:Nat}{L:List (Int × Value)}{op:Int}{V:Value}(h:Z2j w r L)(hw:w.grownBy w1 none)(hV:ZaG w1 r op V)
 (hn:∀ p∈L,p.1≠op) (hK:∀ w',Z2j w' r (L++[(op,V)])→w.grownBy w' (some r)→Oper.upon Tryz.prog o a K Q (.ok .skip w')) :
 Oper.upon Tryz.prog o a K Q (((Instr.mapUpdate 236 (.map (some r)) (.int .i64 op) V).run Tryz.prog w1).andThen fun _ w'=>.ok .skip w'):=by
 have hr1:w1.heap[r]?=some (.map (esOf L 0).toArray L.length):=(hw.block r h.lt (by simp)).trans h.1
 have hrun:=Z1G (P:=Tryz.prog) (v:=V) Tryz.underlying236 Tryz.underlying3 hr1 (Z2c op L 0 0 hn)
 rw [hrun]
 have hlt:=(zs hr1)
 have hg:w1.grownBy (w1.putObj r (.map ((esOf L 0).toArray.push { key:=.int .i64 op,val:=V,born:=L.length }) (L.length+1))) (some r) :=
  ⟨rfl,rfl,rfl,by simp [World.putObj],fun i hi hne=>World.putObj_heap_other (by intro e;subst e;exact hne rfl)⟩
 refine hK _ (h.step hw hV ?_ hg) ((ZaH hw r).trans hg)
 simp [World.putObj,hlt]
theorem Z15 {w:World}{r:Nat}{op:Int}{b1 b2 k:Nat}{s1 s2:ByteArray}{rk:Int}{cs ls:Array Value}(hr:r<w.heap.size)(hb1:b1=w.heap.size)(hb2:b2=w.heap.size+1)(ho:op≠15)(h1:s1=mk (Z0y op))(h2:s2=mk (Z3g op))(h3:rk=Z03 op)
 (hk:k=Z0h op) (hcs:cs=((sepL op).map fun s=>.string (mk s)).toArray) (hls:ls=((Z8w op).map (.int .i64)).toArray) :
 ZaG ((w.alloc (.cells cs 9 (0,0))).alloc (.cells ls 3 (0,0))) r op (.agg #[.string s1,.slice (some ⟨b1,0,none⟩) (k - 1) (k - 1),.string s2,.int .i64 rk,.slice (some ⟨b2,0,none⟩) k k]):=by
 subst hb1 hb2 h1 h2 h3 hk hcs hls;obtain ⟨g1,g2⟩:=Z1x w (.cells ((sepL op).map fun s=>.string (mk s)).toArray 9 (0,0)) (.cells ((Z8w op).map (.int .i64)).toArray 3 (0,0))
 exact ⟨w.heap.size,w.heap.size+1,by rw [if_neg ho],fun _=>⟨by omega,g1⟩,by omega,g2⟩
theorem Zh5 {w:World}{r:Nat}{b2:Nat}(hr:r<w.heap.size)(hb2:b2=w.heap.size) :
 ZaG (w.alloc (.cells #[.int .i64 3] 3 (0,0))) r 15 (.agg #[.string ⟨#[110,111,116,32]⟩,.slice none 0 0,.string ⟨#[]⟩,.int .i64 3,.slice (some ⟨b2,0,none⟩) 1 1]):=by
 subst hb2;exact ⟨0,w.heap.size,rfl,fun h=>absurd rfl h,by omega,za w _⟩
end
section
open Go.RowKit Lx Px
def Zh6 (w:World)(e:Ending)(w':World):Prop :=
 ∃ (r:Nat) (v0 v1 v2 v3 v4 v5 v6 v7 v8 v9 v10 v11:Value),e=.returned (.map (some r))∧w.heap.size≤r∧Z2j w' r [(10,v0),(14,v1),(13,v2),(15,v3),(11,v4),(12,v5),(4,v6),(5,v7),(6,v8),(7,v9),(8,v10),(9,v11)]∧Below w.heap.size w w'
theorem Z0H {w w1 w2:World}{B r:Nat}(h:Below B w w1)(hB:B≤w1.heap.size)(hg:w1.grownBy w2 (some r))(hr:B≤r):Below B w w2 :=
 h.grown hg hB (fun g e=>by injection e with e;omega)
set_option maxHeartbeats 4000000 in
theorem Zb0 (w:World):Calls Tryz.prog 180 #[] w (Zh6 w):=by
 have hmm:=@run_makeMap Tryz.prog
 have h0:=Z2j.new w
 have g0:Below w.heap.size w (w.alloc (.map #[] 0)):=(Below.refl _ _).alloc (zn _) _
 go_enter Tryz.func180,Tryz.ntmps180
 go_wp2_with fail;refine Z0G h0 ((World.grownBy_alloc (w.alloc (.map #[] 0)) _ none).trans (World.grownBy_alloc _ _ none)) (Z15 (op:=10) (k:=Z0h 10) h0.lt (by simp) (by simp) (by decide) rfl rfl rfl rfl rfl rfl) (by simp) ?_
 intro w1 h1 q1
 have g1:=Z0H g0 (by have:=g0.size;omega) q1 (zn _)
 simp only [List.nil_append] at h1
 clear h0 g0 q1 hmm;go_wp2_with fail;refine Z0G h1 ((World.grownBy_alloc w1 _ none).trans (World.grownBy_alloc _ _ none)) (Z15 (op:=14) (k:=Z0h 14) h1.lt (by simp) (by simp) (by decide) rfl rfl rfl rfl rfl rfl) (by simp) ?_
 intro w2 h2 q2
 have g2:=Z0H g1 (by have:=g1.size;omega) q2 (zn _)
 simp only [List.nil_append,List.cons_append] at h2
 clear h1 g1 q2;go_wp2_with fail;refine Z0G h2 ((World.grownBy_alloc w2 _ none).trans (World.grownBy_alloc _ _ none)) (Z15 (op:=13) (k:=Z0h 13) h2.lt (by simp) (by simp) (by decide) rfl rfl rfl rfl rfl rfl) (by simp) ?_
 intro w3 h3 q3
 have g3:=Z0H g2 (by have:=g2.size;omega) q3 (zn _)
 simp only [List.nil_append,List.cons_append] at h3
 clear h2 g2 q3;go_wp2_with fail;refine Z0G h3 (World.grownBy_alloc w3 _ none) (Zh5 h3.lt (by simp)) (by simp) ?_
 intro w4 h4 q4
 have g4:=Z0H g3 (by have:=g3.size;omega) q4 (zn _)
 simp only [List.nil_append,List.cons_append] at h4
 clear h3 g3 q4;go_wp2_with fail;refine Z0G h4 ((World.grownBy_alloc w4 _ none).trans (World.grownBy_alloc _ _ none)) (Z15 (op:=11) (k:=Z0h 11) h4.lt (by simp) (by simp) (by decide) rfl rfl rfl rfl rfl rfl) (by simp) ?_
 intro w5 h5 q5
 have g5:=Z0H g4 (by have:=g4.size;omega) q5 (zn _)
 simp only [List.nil_append,List.cons_append] at h5
 clear h4 g4 q5;go_wp2_with fail;refine Z0G h5 ((World.grownBy_alloc w5 _ none).trans (World.grownBy_alloc _ _ none)) (Z15 (op:=12) (k:=Z0h 12) h5.lt (by simp) (by simp) (by decide) rfl rfl rfl rfl rfl rfl) (by simp) ?_
 intro w6 h6 q6
 have g6:=Z0H g5 (by have:=g5.size;omega) q6 (zn _)
 simp only [List.nil_append,List.cons_append] at h6
 clear h5 g5 q6;go_wp2_with fail;refine Z0G h6 ((World.grownBy_alloc w6 _ none).trans (World.grownBy_alloc _ _ none)) (Z15 (op:=4) (k:=Z0h 4) h6.lt (by simp) (by simp) (by decide) rfl rfl rfl rfl rfl rfl) (by simp) ?_
 intro w7 h7 q7
 have g7:=Z0H g6 (by have:=g6.size;omega) q7 (zn _)
 simp only [List.nil_append,List.cons_append] at h7
 clear h6 g6 q7;go_wp2_with fail;refine Z0G h7 ((World.grownBy_alloc w7 _ none).trans (World.grownBy_alloc _ _ none)) (Z15 (op:=5) (k:=Z0h 5) h7.lt (by simp) (by simp) (by decide) rfl rfl rfl rfl rfl rfl) (by simp) ?_
 intro w8 h8 q8
 have g8:=Z0H g7 (by have:=g7.size;omega) q8 (zn _)
 simp only [List.nil_append,List.cons_append] at h8
 clear h7 g7 q8;go_wp2_with fail;refine Z0G h8 ((World.grownBy_alloc w8 _ none).trans (World.grownBy_alloc _ _ none)) (Z15 (op:=6) (k:=Z0h 6) h8.lt (by simp) (by simp) (by decide) rfl rfl rfl rfl rfl rfl) (by simp) ?_
 intro w9 h9 q9
 have g9:=Z0H g8 (by have:=g8.size;omega) q9 (zn _)
 simp only [List.nil_append,List.cons_append] at h9
 clear h8 g8 q9;go_wp2_with fail;refine Z0G h9 ((World.grownBy_alloc w9 _ none).trans (World.grownBy_alloc _ _ none)) (Z15 (op:=7) (k:=Z0h 7) h9.lt (by simp) (by simp) (by decide) rfl rfl rfl rfl rfl rfl) (by simp) ?_
 intro w10 h10 q10
 have g10:=Z0H g9 (by have:=g9.size;omega) q10 (zn _)
 simp only [List.nil_append,List.cons_append] at h10
 clear h9 g9 q10;go_wp2_with fail;refine Z0G h10 ((World.grownBy_alloc w10 _ none).trans (World.grownBy_alloc _ _ none)) (Z15 (op:=8) (k:=Z0h 8) h10.lt (by simp) (by simp) (by decide) rfl rfl rfl rfl rfl rfl) (by simp) ?_
 intro w11 h11 q11
 have g11:=Z0H g10 (by have:=g10.size;omega) q11 (zn _)
 simp only [List.nil_append,List.cons_append] at h11
 clear h10 g10 q11;go_wp2_with fail;refine Z0G h11 ((World.grownBy_alloc w11 _ none).trans (World.grownBy_alloc _ _ none)) (Z15 (op:=9) (k:=Z0h 9) h11.lt (by simp) (by simp) (by decide) rfl rfl rfl rfl rfl rfl) (by simp) ?_
 intro w12 h12 q12
 have g12:=Z0H g11 (by have:=g11.size;omega) q12 (zn _)
 simp only [List.nil_append,List.cons_append] at h12
 clear h11 g11 q12;go_wp2_with fail;go_ret
 exact ⟨_,_,_,_,_,_,_,_,_,_,_,_,_,rfl,zn _,h12,g12⟩
end
end Go.Proofs.YtnepkoepbapgeaaGreatDoor
