/-
  Several texts in one: QuoTyp7, QuoRat, QuoRat2, QuoRat3.
-/
import Derived.Test.YtnepkoepbapgeaaGreatDoorQuoLd
import Derived.Test.YtnepkoepbapgeaaGreatDoorQuoPlain
import Derived.Test.YtnepkoepbapgeaaGreatDoorPrtNum
import Derived.StillTailTactics
import Derived.Shelf.Abstract
import Derived.Test.YtnepkoepbapgeaaGreatDoorQuoTyp1
namespace Go.Proofs.YtnepkoepbapgeaaGreatDoor
set_option maxHeartbeats 4000000
set_option maxRecDepth 100000
section
open Go.RowKit Lx Px Qx
theorem Z9d {w:World}{B n c k:Nat}{A:Option Addr}{rs:List Rt}(h:RtsV w B (.slice A n c) rs)(hk:k<rs.length) :
 ∃ (g o:Nat) (WA PA:Option Addr) (wk pc:Nat),A=some ⟨g,o,none⟩∧g<B∧FoV w B (.slice WA (flen rs[k].wl) wk) rs[k].wl∧FoV w B (.slice PA (flen rs[k].pl) pc) rs[k].pl∧∀ j u,(Z3w rs[k] (.slice WA (flen rs[k].wl) wk) (.slice PA (flen rs[k].pl) pc))[j]?=some u→w.cell? ⟨g,o+k*16+j,none⟩=some u:=by
 obtain ⟨A',c',e,hA⟩:=h
 injection e with e1 _ e3
 subst e1;obtain ⟨ad0,e0,hb0,hs0,_⟩:=hA 0 (by omega)
 obtain ⟨ad,e1,hb,hs,wv,pv,hc,h1,h2⟩:=hA k hk
 rw [e0] at e1
 injection e1 with e1
 subst e1;have hs0':ad0.spot=none:=by unfold Addr.add at hs0;simpa using hs0
 obtain ⟨g,o,s⟩:=ad0
 cases hs0'
 obtain ⟨WA,wk,rfl,_⟩:=id h1
 obtain ⟨PA,pc,rfl,_⟩:=id h2
 refine ⟨g,o,WA,PA,wk,pc,e0,hb,h1,h2,fun j u hj=>?_⟩
 have h3:=hc j u hj
 have ea:((⟨g,o,none⟩:Addr).add (k*16))=⟨g,o+k*16,none⟩:=by
  unfold Addr.add;split
  · rename_i h;rw [h];rfl
  · rfl
 rw [ea] at h3
 exact h3
theorem Zd7 {w:World}{g o:Nat}{r:Rt}{wv pv:Value}(h:∀ j u,(Z3w r wv pv)[j]?=some u→w.cell? ⟨g,o+j,none⟩=some u):∀ j u,(#[.int .i64 r.id,.int .i64 r.lv,.int .i64 r.kd,.int .i64 r.fr,.int .i64 r.un,.int .i64 r.ls,.int .i64 r.mo,.int .i64 r.ar,.int .i64 r.kn,.int .i64 r.kq,.int .i64 r.wo,.int .i64 r.wn,wv,.int .i64 r.po,.int .i64 r.pn,pv]:Array Value)[j]?=some u→w.cell? ⟨g,o+j,none⟩=some u:=fun j u hj=>h j u (by rw [← hj];simp [Z3w])
theorem Zej {P:Program}{t k e:TypeId}(ht:P.underlying t=some (.map k e))(hk:P.underlying k=some (.int .i64)){w:World}{r:Nat}{L:List (Int × Value)}{op:Int}{z:Value}(h:Z33 w r L)(hn:∀ p∈L,p.1≠op)(hz:(zeroValue e).run P w=.ok z w) :
 (Instr.lookup t (.map (some r)) (.int .i64 op) false).run P w=.ok z w:=by
 have hr:w.heap[r]?=some (.map (esOf L 0).toArray L.length):=h
 have hf:=Z2v op L 0 0 hn
 have hck:(Instr.checkKey (esOf L 0).toArray.isEmpty (9999+1) k (.int .i64 op)).run P w=.ok () w:=Go.MapKept.run_checkKey hk (by simp [MapKept.IsKey]) _ 9999
 simp only [Instr.lookup,Instr.findKey,Sem.run_bind,Sem.run_pure,run_underlying ht,run_underlying hk,Go.MapKept.run_getObj_map hr,hck,hf,hz,Result.andThen_ok]
 rfl
def Zd8 (rs:List Rt)(k:Nat):List (Int × Value):=(rs.take k).map fun r=>(r.id,.bool true)
theorem Zkr (rs:List Rt)(k:Nat)(h:k<rs.length):Zd8 rs (k+1)=Zd8 rs k++[(rs[k].id,.bool true)]:=by
 unfold Zd8;rw [List.take_succ_eq_append_getElem h,List.map_append];rfl
theorem ZhB {rs:List Rt}{k:Nat}{x:Int}(h:x∈(rs.take k).map Rt.id):∃ L1 L2,Zd8 rs k=L1++(x,.bool true)::L2∧∀ p∈L1,p.1≠x:=by
 unfold Zd8
 generalize rs.take k=l at *
 induction l with
 | nil=>simp at h
 | cons a l ih =>
  by_cases ha:a.id=x
  · exact ⟨[],l.map fun r=>(r.id,.bool true),by rw [← ha];rfl,by simp⟩
  · simp only [List.map_cons,List.mem_cons] at h
    obtain ⟨L1,L2,e,hn⟩:=ih (by rcases h with h | h;exact absurd h.symm ha;exact h)
    refine ⟨(a.id,.bool true)::L1,L2,by simp only [List.map_cons,e,List.cons_append],?_⟩
    intro p hp
    rcases List.mem_cons.1 hp with rfl | hp
    · exact ha
    · exact hn p hp
theorem Zks {rs:List Rt}{k:Nat}{x:Int}(h:¬ x∈(rs.take k).map Rt.id):∀ p∈Zd8 rs k,p.1≠x:=by
 intro p hp e
 unfold Zd8 at hp
 obtain ⟨r,hr,rfl⟩:=List.mem_map.1 hp
 exact h (List.mem_map.2 ⟨r,hr,e⟩)
def Zkt (rs:List Rt)(k:Nat):Prop:=(∀ j (h:j<rs.length),j<k→Z14 rs[j]=0)∧((rs.take k).map Rt.id).Nodup
theorem Zg5 {rs:List Rt}(h:Zkt rs rs.length)(hl:rs.length≤100):useB rs=true:=by
 rw [Z31]
 refine ⟨hl,fun r hr=>?_,by have:=h.2;rwa [List.take_length] at this⟩
 obtain ⟨j,hj,rfl⟩:=List.getElem_of_mem hr
 exact h.1 j hj hj
theorem Zd9 {rs:List Rt}{k:Nat}(h:Zkt rs k)(hk:k<rs.length)(h1:Z14 rs[k]=0)(h2:¬ rs[k].id∈(rs.take k).map Rt.id):Zkt rs (k+1):=by
 refine ⟨fun j hj hjk=>?_,?_⟩
 · by_cases e:j=k
   · subst e;exact h1
   · exact h.1 j hj (by omega)
 · rw [List.take_succ_eq_append_getElem hk,List.map_append,List.nodup_append]
   refine ⟨h.2,by simp,?_⟩
   intro a ha b hb e
   simp at hb
   subst hb e;exact h2 ha
theorem Zg6 {rs:List Rt}{k:Nat}(hk:k<rs.length)(h1:Z14 rs[k]≠0):useB rs=false:=by
 rw [← Bool.not_eq_true,Z31]
 exact fun h=>h1 (h.2.1 _ (List.getElem_mem hk))
theorem ZpD {rs:List Rt}{k:Nat}(hk:k<rs.length)(h2:rs[k].id∈(rs.take k).map Rt.id):useB rs=false:=by
 rw [← Bool.not_eq_true,Z31]
 intro h
 have hn:=h.2.2
 rw [← List.take_append_drop k rs,List.map_append,List.nodup_append] at hn
 exact hn.2.2 _ h2 rs[k].id (List.mem_map.2 ⟨rs[k],by rw [List.drop_eq_getElem_cons hk];exact List.mem_cons_self,rfl⟩) rfl
theorem Zku (w:World):(zeroValue 4).run Tryz.prog w=.ok (.bool false) w:=by kernel_rfl
theorem Zbq {P:Program}(w:World){ops:Array Oper}{rest:List Oper}{o:Oper}{a:Act}{Q:Exit→Act→World→Prop}(hg:o.guard=none)(m x v:Operand)(t:TypeId)(hop:o.op=Op.mapUpdate t m x v)(k e:TypeId)(ht:P.underlying t=some (.map k e))(hk:P.underlying k=some (.int .i64))
 (r:Nat) (hm:a.eval m=.map (some r)) (L:List (Int × Value)) (h:Z33 w r L) (n:Int) (val:Value) (hx:a.eval x=.int .i64 n) (hv:a.eval v=val) (hn:∀ p∈L,p.1≠n)
 (hK:∀ w',Z33 w' r (L++[(n,val)])→w.grownBy w' (some r)→wpList P ops Q rest (a.put o.dst undef) w'):wpList P ops Q (o::rest) a w:=by
 refine Z5m w hg m x v t hop k e ht hk r (esOf L 0).toArray L.length hm h n val hx hv (Z2v n L 0 0 hn) ?_
 intro w' h1 h2
 refine hK w' ?_ h2
 simp [Z33,h1,Z8E]
def VlL (w:World)(rs:List Rt)(i:Value)(wr:World):Prop :=
 ∃ k:Nat,k≤rs.length∧i=.int .i64 k∧Below w.heap.size w wr∧Z33 wr w.heap.size (Zd8 rs k)∧Zkt rs k
theorem Zar (rs:List Rt)(v:Value)(w:World)(hv:RtsV w w.heap.size v rs):Calls Tryz.prog 60 #[v] w fun e w'=>e=.returned (.bool (useB rs))∧Below w.heap.size w w':=by
 obtain ⟨A,c,rfl,_⟩:=id hv
 have HV:=zh hv;clear hv;by_cases hl:100<rs.length
 · have hr:useB rs=false:=by simp [useB];omega
   have d:decide ((100:Int)<(rs.length:Int))=true:=by simp;omega
   have HR:=zh hr;clear hr;go_enter Tryz.func60,Tryz.ntmps60
   go_wp2_with fail;go_ret
   rw [HR.out]
   exact ⟨rfl,Below.refl _ _⟩
 · have d:decide ((100:Int)<(rs.length:Int))=false:=by simp;omega
   have hmm:=@run_makeMap Tryz.prog
   have h0:=Z33.new w
   have g0:Below w.heap.size w (w.alloc (.map #[] 0)):=(Below.refl _ _).alloc (zn _) _
   have H0:=zh h0;have G0:=zh g0;clear h0 g0;go_enter Tryz.func60,Tryz.ntmps60
   go_wp2_with fail;go_loopw [14] (fun i wr=>VlL w rs i wr) (fun i _=>rs.length - (intOf i).toNat)
   case atStart=>exact ⟨0,by omega,rfl,G0.out,H0.out,fun j h hj=>absurd hj (by omega),by simp⟩
   case round =>
    obtain ⟨k,hk,rfl,hb,hm,hg⟩:=hrel
    have HB:=zh hb;have HM:=zh hm;have HG:=zh hg;clear hb hm hg;by_cases hlt:k<rs.length
    · obtain ⟨g,o,WA,PA,wk,pc,rfl,hgl,f1,f2,hc⟩:=Z9d (HV.out.on HB.out) hlt
      have hsz:=HB.out.size
      have hns:Z14 rs[k]≠0→useB rs=false:=Zg6 hlt
      have hni:rs[k].id∈(rs.take k).map Rt.id→useB rs=false:=ZpD hlt
      have hst:=Zd9 HG.out hlt
      have hsn:=Zkr rs k hlt
      generalize rs[k]=r at *
      have HC:=zh (Zd7 hc)
      have dk:decide ((k:Int)<(rs.length:Int))=true:=by simpa using hlt
      have F1:=zh f1;have F2:=zh f2;have HNS:=zh hns;have HNI:=zh hni;have HST:=zh hst;have HSN:=zh hsn;clear f1 f2 hns hni hst hsn hc;go_wp2_with (first | (with_reducible refine Z3v rfl _ rfl g (o+k*16) rfl _ rfl HC.out ?_) | (with_reducible refine Z9w rfl _ rfl wr.heap.size rfl _ rfl (za wr _) ?_) | (with_reducible refine Z3c rfl _ _ rfl _ _ rfl rfl rfl rfl (by rfl) ?_))
      have ha:=(Below.refl wr.heap.size wr).alloc (zn _) (.cells #[.int .i64 r.id,.int .i64 r.lv,.int .i64 r.kd,.int .i64 r.fr,.int .i64 r.un,.int .i64 r.ls,.int .i64 r.mo,.int .i64 r.ar,.int .i64 r.kn,.int .i64 r.kq,.int .i64 r.wo,.int .i64 r.wn,.slice WA (flen r.wl) wk,.int .i64 r.po,.int .i64 r.pn,.slice PA (flen r.pl) pc] 65)
      have hba:=Z00 HB.out ha
      have hma:=HM.out.on ha
      have hx:=za wr (.cells #[.int .i64 r.id,.int .i64 r.lv,.int .i64 r.kd,.int .i64 r.fr,.int .i64 r.un,.int .i64 r.ls,.int .i64 r.mo,.int .i64 r.ar,.int .i64 r.kn,.int .i64 r.kq,.int .i64 r.wo,.int .i64 r.wn,.slice WA (flen r.wl) wk,.int .i64 r.po,.int .i64 r.pn,.slice PA (flen r.pl) pc] 65)
      have hcall:=Zk2 r (.slice WA (flen r.wl) wk) (.slice PA (flen r.pl) pc) _ ((F1.out.on (ha.mono (by omega))).up (by simp;omega)) ((F2.out.on (ha.mono (by omega))).up (by simp;omega))
      have HA1:=zh ha;have HBA:=zh hba;have HMA:=zh hma;have HX:=zh hx;have HCL:=zh hcall;clear ha hba hma hx hcall HB HM;generalize hw2:wr.alloc (.cells #[.int .i64 r.id,.int .i64 r.lv,.int .i64 r.kd,.int .i64 r.fr,.int .i64 r.un,.int .i64 r.ls,.int .i64 r.mo,.int .i64 r.ar,.int .i64 r.kn,.int .i64 r.kq,.int .i64 r.wo,.int .i64 r.wn,.slice WA (flen r.wl) wk,.int .i64 r.po,.int .i64 r.pn,.slice PA (flen r.pl) pc] 65)=w2 at *
      clear hw2;refine HCL.out.mono ?_
      rintro e w3 ⟨rfl,hb3⟩;have hba3:=Z00 HBA.out hb3
      have hma3:=HMA.out.on hb3
      have hx3:=(hb3.block _ (zs HX.out)).trans HX.out
      have q0:w3.cell? ⟨wr.heap.size,0,none⟩=some (.int .i64 r.id):=by rw [zc hx3];rfl
      by_cases he:Z14 r=0
      · have b0:(Z14 r==0)=true:=by simpa using he
        by_cases hid:r.id∈(rs.take k).map Rt.id
        · obtain ⟨L1,L2,hL,hn⟩:=ZhB hid
          rw [hL] at hma3
          have hlk:=Zbt Tryz.underlying132 Tryz.underlying3 hma3 hn
          have hr:=HNI.out hid
          have HR:=zh hr;have HB3:=zh hba3;clear hr hba3 HCL HMA HBA HX HA1 hx3 hb3 hma3 hid he hn hL;go_wp2_with fail;go_ret
          rw [HR.out]
          exact ⟨rfl,HB3.out⟩
        · have hn:=Zks hid
          have hlk:=Zej Tryz.underlying132 Tryz.underlying3 hma3 hn (Zku w3)
          have hg:=HST.out he hid
          have HB3:=zh hba3;have HM3:=zh hma3;have HN:=zh hn;have HG2:=zh hg;clear hba3 hma3 hn hg HCL HMA HBA HX HA1 hx3 hb3 hid he;go_wp2_with (with_reducible refine Zbq _ rfl _ _ _ 132 rfl _ _ Tryz.underlying132 Tryz.underlying3 w.heap.size rfl _ HM3.out r.id (.bool true) rfl rfl HN.out ?_;intro w4 hm4 hg4)
          rw [← HSN.out] at hm4
          have hb4:=HB3.out.trans (Z06 hg4 HB3.out.size (zn _))
          have HM4:=zh hm4;have HB4:=zh hb4;clear hm4 hb4 hg4;go_wp2_with fail;go_roundw
          case rel=>exact ⟨k+1,by omega,by go_num,HB4.out,HM4.out,HG2.out⟩
          case measure=>simp [intOf];omega
      · have b0:(Z14 r==0)=false:=by simpa using he
        have hr:=HNS.out he
        have HR:=zh hr;have HB3:=zh hba3;clear hr hba3 HCL HMA HBA HX HA1 hx3 hb3 hma3 he;go_wp2_with fail;go_ret
        rw [HR.out]
        exact ⟨rfl,HB3.out⟩
    · have hke:k=rs.length:=by omega
      subst hke;have hr:=Zg5 HG.out (by omega)
      have dk:decide ((rs.length:Int)<(rs.length:Int))=false:=by simp
      have HR:=zh hr;clear hr;go_wp2_with fail;go_ret
      rw [HR.out]
      exact ⟨rfl,HB.out⟩
end
section
open Go.RowKit Lx Px Qx
theorem Z6B (n:Int)(w:World)(h0 : -4000000000000000000≤n)(h1:n≤4000000000000000000):Calls Tryz.prog 113 #[.int .i64 n] w fun e w'=>e=.returned (.int .i64 (n.natAbs:Nat))∧w=w':=by
 go_enter Tryz.func113,Tryz.ntmps113
 go_wp2_with fail;go_ret
 exact ⟨Z88 (by omega),rfl⟩
theorem ZhC (k:Nat):∀ (a b:Nat) (p:Addr) (w:World),b≤k→a≤4000000000000000000→b≤4000000000000000000→w.cell? p=some (.func (.func 204) #[] #[.pointer (some p)]) →
 Calls Tryz.prog 204 #[.int .i64 a,.int .i64 b,.pointer (some p)] w fun e w'=>e=.returned (.int .i64 (Nat.gcd a b))∧∃ m,w'=w.drewN m:=by
 induction k with
 | zero =>
  intro a b p w hk ha hb hp
  have hb0:b=0:=by omega
  subst hb0;rw [Nat.gcd_zero_right]
  go_enter Tryz.func204,Tryz.ntmps204
  go_wp2_with fail;go_ret
  exact ⟨rfl,0,rfl⟩
 | succ k ih =>
  intro a b p w hk ha hb hp
  by_cases hb0:0<b
  · have t:((b:Int)==0)=false:=by simp;omega
    obtain ⟨r,hr⟩:∃ r,r=a % b:=⟨_,rfl⟩
    have hrb:r<b:=by rw [hr];exact Nat.mod_lt _ hb0
    have hc:((a:Int) % (b:Int))=(r:Int):=by rw [hr];simp
    have hc2:(a:Int).tmod (b:Int)=(r:Int):=by rw [Int.tmod_eq_emod_of_nonneg (by omega)];exact hc
    have hs:=Zbc a b hb0
    rw [← hr] at hs
    have HS:=zh hs;have HI:=zh ih;clear hs ih hr;have hz:¬ (b:Int)=0:=by omega
    have q0:(0:Int)≤(a:Int):=by omega
    go_enter Tryz.func204,Tryz.ntmps204
    go_wp2_with fail;go_quiet ((go_at_call 204;exact Calls.quiet_of (HI.out b r p _ (by omega) (by omega) (by omega) (by simpa using hp))))
    go_wp2_with fail;go_ret
    rw [HS.out]
    exact ⟨rfl,_,rfl⟩
  · have hb1:b=0:=by omega
    subst hb1;rw [Nat.gcd_zero_right]
    go_enter Tryz.func204,Tryz.ntmps204
    go_wp2_with fail;go_ret
    exact ⟨rfl,0,rfl⟩
theorem Z61 (n d:Int)(w:World)(h0 : -4000000000000000000≤n)(h1:n≤4000000000000000000)(h2:1≤d)(h3:d≤4000000000000000000) :
 Calls Tryz.prog 154 #[.agg #[.int .i64 n,.int .i64 d]] w fun e w'=>e=.returned (.agg #[.int .i64 (n.tdiv (Nat.gcd n.natAbs d.natAbs:Nat)),.int .i64 (d.tdiv (Nat.gcd n.natAbs d.natAbs:Nat))])∧Below w.heap.size w w':=by
 have hmf:∀ (fn:Fn) (first cap:Array Value) (w:World),(Instr.makeFunc fn first cap).run Tryz.prog w=.ok (.func fn first cap) w:=fun _ _ _ _=>rfl
 obtain ⟨dn,rfl⟩:=Int.eq_ofNat_of_zero_le (show 0≤d by omega)
 obtain ⟨g,hg⟩:∃ g,g=Nat.gcd n.natAbs dn:=⟨_,rfl⟩
 have hgpos:0<g:=by rw [hg];exact Nat.gcd_pos_of_pos_right _ (by omega)
 have hgle:g≤dn:=by rw [hg];exact Nat.le_of_dvd (by omega) (Nat.gcd_dvd_right _ _)
 rw [Int.natAbs_natCast,← hg]
 have HG:=zh hg;clear hg;have hgc:(Nat.gcd n.natAbs dn:Int)=(g:Int):=by rw [HG.out]
 go_enter Tryz.func154,Tryz.ntmps154
 go_wp2_with fail;go_quiet (first | (go_at_call 113;exact Calls.quiet_of_same ((Z6B n _ h0 h1).mono fun _ _ h=>⟨h.1,h.2.symm⟩)) | (go_at_call 204;exact Calls.quiet_of (ZhC dn n.natAbs dn ⟨w.heap.size+1+1,0,none⟩ _ (zn _) (by omega) (by omega) (by simp [go_sem]))))
 go_wp2_with fail;rw [show n.natAbs.gcd dn=g from HG.out.symm]
 obtain ⟨W,hW⟩:∃ W,W=(((w.alloc (.cells #[.int .i64 n,.int .i64 dn] 158)).alloc (.cells #[.int .i64 0,.int .i64 0] 158)).alloc (.cells #[.func (.func 204) #[] #[.pointer (some ⟨w.heap.size+1+1,0,none⟩)]] 110)).drewN nq:=⟨_,rfl⟩
 rw [← hW]
 have c0:W.cell? ⟨w.heap.size,0,none⟩=some (.int .i64 n):=by rw [hW];simp [go_sem]
 have c1:W.cell? ⟨w.heap.size,1,none⟩=some (.int .i64 dn):=by rw [hW];simp [go_sem]
 have hblk:W.heap[w.heap.size+1]?=some (.cells #[.int .i64 0,.int .i64 0] 158 (0,0)):=by
  rw [hW];show (((w.alloc _).alloc _).alloc _).heap[w.heap.size+1]?=_
  have:=Z0C (za (w.alloc (.cells #[.int .i64 n,.int .i64 dn] 158)) (.cells #[.int .i64 0,.int .i64 0] 158)) (.cells #[.func (.func 204) #[] #[.pointer (some ⟨w.heap.size+1+1,0,none⟩)]] 110)
  simpa using this
 have hB:Below w.heap.size w W:=by
  rw [hW];exact Z0q ((((Below.refl _ _).alloc (zn _) _).alloc (by simp) _).alloc (by simp;omega) _) _
 have HBL:=zh hB;have HBK:=zh hblk;clear hW hB hblk hmf hgc;have hz:¬ g=0:=by omega
 go_still_tail 9,(by kernel_rfl)
 change wpList _ _ _ _ _ W.drew
 have hB2:=HBL.out.drew
 have hK2:W.drew.heap[w.heap.size+1]?=_:=HBK.out
 clear HBL HBK c0 c1;generalize W.drew=W2 at *
 have r0:W2.cell? ⟨w.heap.size+1,0,none⟩=some (.int .i64 0):=by rw [zc hK2];rfl
 have r1:W2.cell? ⟨w.heap.size+1,1,none⟩=some (.int .i64 0):=by rw [zc hK2];rfl
 have s0:=Lib.frozen_of_heap hK2 0
 have s1:=Lib.frozen_of_heap hK2 1
 have HB2:=zh hB2;have HK2:=zh hK2;clear hB2 hK2;go_wp2_with fail;have hq0:(0:Int)≤(dn:Int) / (g:Int):=Int.ediv_nonneg (by omega) (by omega)
 have hq1:(dn:Int) / (g:Int)≤(dn:Int):=Int.ediv_le_self _ (by omega)
 have hw:wrap64 ((dn:Int) / (g:Int))=(dn:Int).tdiv (g:Int):=by
  rw [IntWalk.wrap64_in _ ⟨by omega,by omega⟩,Int.tdiv_eq_ediv_of_nonneg (by omega)]
 rw [hw]
 have e0:((W2.setCell ⟨w.heap.size+1,0,none⟩ (.int .i64 (n.tdiv g))).setCell ⟨w.heap.size+1,1,none⟩ (.int .i64 ((dn:Int).tdiv g))).heap[w.heap.size+1]?=some (.cells #[.int .i64 (n.tdiv g),.int .i64 ((dn:Int).tdiv g)] 158 (0,0)):=by
  rw [Z30 (Z30 HK2.out _) _];rfl
 have hB3:Below w.heap.size w ((W2.setCell ⟨w.heap.size+1,0,none⟩ (.int .i64 (n.tdiv g))).setCell ⟨w.heap.size+1,1,none⟩ (.int .i64 ((dn:Int).tdiv g))) :=
  (HB2.out.setCell (p:=⟨w.heap.size+1,0,none⟩) (by show _≤_+1;omega) _).setCell (p:=⟨w.heap.size+1,1,none⟩) (by show _≤_+1;omega) _
 have HB3:=zh hB3;clear hw hq0 hq1 hB3 r0 r1 s0 s1;generalize (W2.setCell ⟨w.heap.size+1,0,none⟩ (.int .i64 (n.tdiv g))).setCell ⟨w.heap.size+1,1,none⟩ (.int .i64 ((dn:Int).tdiv g))=W3 at *
 have k0:W3.cell? ⟨w.heap.size+1,0,none⟩=some (.int .i64 (n.tdiv g)):=by rw [zc e0];rfl
 have k1:W3.cell? ⟨w.heap.size+1,1,none⟩=some (.int .i64 ((dn:Int).tdiv g)):=by rw [zc e0];rfl
 clear e0;exact bodyPost_ret (v:=.agg #[.int .i64 (n.tdiv g),.int .i64 ((dn:Int).tdiv g)]) (by simp [results,Tryz.results154,go_sem,k0,k1]) rfl ⟨rfl,HB3.out⟩
def retV:V→Value
 | .ok n d=>.tuple #[.agg #[.int .i64 n,.int .i64 d],.int .i64 0]
 | .no e=>.tuple #[.agg #[.int .i64 0,.int .i64 0],.int .i64 e]
theorem Z7i (n d:Int)(h0 : -4000000000000000000≤n)(h1:n≤4000000000000000000)(h2:1≤d)(h3:d≤4000000000000000000) : -4000000000000000000≤redN n d∧redN n d≤4000000000000000000∧1≤redD n d∧redD n d≤4000000000000000000:=by
 have hg:0<Nat.gcd n.natAbs d.natAbs:=Nat.gcd_pos_of_pos_right _ (by omega)
 have hgd:=Nat.gcd_dvd_right n.natAbs d.natAbs
 unfold redN redD
 generalize Nat.gcd n.natAbs d.natAbs=g at *
 have e1:(n.tdiv (g:Int)).natAbs≤n.natAbs:=by rw [Int.natAbs_tdiv];exact Nat.div_le_self _ _
 obtain ⟨m,rfl⟩:=Int.eq_ofNat_of_zero_le (show 0≤d by omega)
 have e2:((m:Int)).tdiv (g:Int)=((m / g:Nat):Int):=by rw [Int.tdiv_eq_ediv_of_nonneg (by omega)];rfl
 rw [e2]
 have h4:=Nat.div_le_self m g
 have h5:0<m / g:=Nat.div_pos (Nat.le_of_dvd (by omega) hgd) hg
 omega
theorem Zrv (n d:Int)(w:World)(h0 : -4000000000000000000≤n)(h1:n≤4000000000000000000)(h2:1≤d)(h3:d≤4000000000000000000)(hc:1000000000<(redN n d).natAbs) :
 Calls Tryz.prog 215 #[.agg #[.int .i64 n,.int .i64 d]] w fun e w'=>e=.returned (.tuple #[.agg #[.int .i64 0,.int .i64 0],.int .i64 3])∧Below w.heap.size w w':=by
 obtain ⟨hb1,hb2,hb3,hb4⟩:=Z7i n d h0 h1 h2 h3
 have hred:∀ W:World,Calls Tryz.prog 154 #[.agg #[.int .i64 n,.int .i64 d]] W fun e w'=>e=.returned (.agg #[.int .i64 (redN n d),.int .i64 (redD n d)])∧Below W.heap.size W w':=fun W=>Z61 n d W h0 h1 h2 h3
 generalize redN n d=a at *
 generalize redD n d=b at *
 have hsz:=fun W:World=>Z6B a W hb1 hb2
 obtain ⟨m,hm⟩:∃ m:Int,m=(a.natAbs:Int):=⟨_,rfl⟩
 rw [← hm] at hsz
 have HR:=zh hred;have HZ:=zh hsz;have c1:1000000000<m:=by omega
 have d1:decide (1000000000<m)=true:=by simpa using c1
 clear hred hsz hm hc;have b1:Below w.heap.size w ((w.alloc (.cells #[.int .i64 n,.int .i64 d] 158)).alloc (.cells #[.int .i64 0,.int .i64 0] 60)):=((Below.refl _ _).alloc (zn _) _).alloc (by simp) _
 have x1:=Z1d w (.cells #[.int .i64 n,.int .i64 d] 158) (.cells #[.int .i64 0,.int .i64 0] 60)
 have HB:=zh b1;have HX:=zh x1;clear b1 x1;go_enter Tryz.func215,Tryz.ntmps215
 go_wp2_with fail;generalize (w.alloc (.cells #[.int .i64 n,.int .i64 d] 158)).alloc (.cells #[.int .i64 0,.int .i64 0] 60)=W1 at *
 refine (HR.out W1).mono ?_
 rintro e w2 ⟨rfl,hb⟩;have z2:=(hb.block _ (zs HX.out.2)).trans HX.out.2
 have B2:=zh (Z00 HB.out hb)
 have hl2:w.heap.size+1<w2.heap.size:=(zs z2)
 have z0:w2.cell? ⟨w.heap.size+1,0,none⟩=some (.int .i64 0):=by rw [zc z2];rfl
 have z1:w2.cell? ⟨w.heap.size+1,1,none⟩=some (.int .i64 0):=by rw [zc z2];rfl
 have y0:w2.frozen? ⟨w.heap.size+1,0,none⟩=false:=by simp [World.frozen?,z2]
 have y1:w2.frozen? ⟨w.heap.size+1,1,none⟩=false:=by simp [World.frozen?,z2]
 clear z2 hb;go_wp2_with (go_at_call 113;refine (HZ.out _).mono ?_;rintro e w' ⟨rfl,rfl⟩)
 refine bodyPost_ret (v:=.tuple #[.agg #[.int .i64 0,.int .i64 0],.int .i64 3]) (by simp [results,Tryz.results215,go_sem,z0,z1,hl2]) rfl ⟨rfl,?_⟩
 exact ((B2.out.setCell (p:=⟨w.heap.size+1,0,none⟩) (by show w.heap.size≤w.heap.size+1;omega) _).setCell (p:=⟨w.heap.size+1,1,none⟩) (by show w.heap.size≤w.heap.size+1;omega) _).alloc (by simp only [World.setCell,Array.size_modify];omega) _
theorem Zrw (n d:Int)(w:World)(h0 : -4000000000000000000≤n)(h1:n≤4000000000000000000)(h2:1≤d)(h3:d≤4000000000000000000)(hc:(redN n d).natAbs≤1000000000)(hd:1000000<redD n d) :
 Calls Tryz.prog 215 #[.agg #[.int .i64 n,.int .i64 d]] w fun e w'=>e=.returned (.tuple #[.agg #[.int .i64 0,.int .i64 0],.int .i64 3])∧Below w.heap.size w w':=by
 obtain ⟨hb1,hb2,hb3,hb4⟩:=Z7i n d h0 h1 h2 h3
 have hred:∀ W:World,Calls Tryz.prog 154 #[.agg #[.int .i64 n,.int .i64 d]] W fun e w'=>e=.returned (.agg #[.int .i64 (redN n d),.int .i64 (redD n d)])∧Below W.heap.size W w':=fun W=>Z61 n d W h0 h1 h2 h3
 generalize redN n d=a at *
 generalize redD n d=b at *
 have hsz:=fun W:World=>Z6B a W hb1 hb2
 obtain ⟨m,hm⟩:∃ m:Int,m=(a.natAbs:Int):=⟨_,rfl⟩
 rw [← hm] at hsz
 have HR:=zh hred;have HZ:=zh hsz;have c1:¬ 1000000000<m:=by omega
 have d1:decide (1000000000<m)=false:=by simpa using c1
 have d2:decide (1000000<b)=true:=by simpa using hd
 clear hred hsz hm hc;have b1:Below w.heap.size w ((w.alloc (.cells #[.int .i64 n,.int .i64 d] 158)).alloc (.cells #[.int .i64 0,.int .i64 0] 60)):=((Below.refl _ _).alloc (zn _) _).alloc (by simp) _
 have x1:=Z1d w (.cells #[.int .i64 n,.int .i64 d] 158) (.cells #[.int .i64 0,.int .i64 0] 60)
 have HB:=zh b1;have HX:=zh x1;clear b1 x1;go_enter Tryz.func215,Tryz.ntmps215
 go_wp2_with fail;generalize (w.alloc (.cells #[.int .i64 n,.int .i64 d] 158)).alloc (.cells #[.int .i64 0,.int .i64 0] 60)=W1 at *
 refine (HR.out W1).mono ?_
 rintro e w2 ⟨rfl,hb⟩;have z2:=(hb.block _ (zs HX.out.2)).trans HX.out.2
 have B2:=zh (Z00 HB.out hb)
 have hl2:w.heap.size+1<w2.heap.size:=(zs z2)
 have z0:w2.cell? ⟨w.heap.size+1,0,none⟩=some (.int .i64 0):=by rw [zc z2];rfl
 have z1:w2.cell? ⟨w.heap.size+1,1,none⟩=some (.int .i64 0):=by rw [zc z2];rfl
 have y0:w2.frozen? ⟨w.heap.size+1,0,none⟩=false:=by simp [World.frozen?,z2]
 have y1:w2.frozen? ⟨w.heap.size+1,1,none⟩=false:=by simp [World.frozen?,z2]
 clear z2 hb;go_wp2_with (go_at_call 113;refine (HZ.out _).mono ?_;rintro e w' ⟨rfl,rfl⟩)
 refine bodyPost_ret (v:=.tuple #[.agg #[.int .i64 0,.int .i64 0],.int .i64 3]) (by simp [results,Tryz.results215,go_sem,z0,z1,hl2]) rfl ⟨rfl,?_⟩
 exact ((B2.out.setCell (p:=⟨w.heap.size+1,0,none⟩) (by show w.heap.size≤w.heap.size+1;omega) _).setCell (p:=⟨w.heap.size+1,1,none⟩) (by show w.heap.size≤w.heap.size+1;omega) _).alloc (by simp only [World.setCell,Array.size_modify];omega) _
theorem rat_ok (n d:Int)(w:World)(h0 : -4000000000000000000≤n)(h1:n≤4000000000000000000)(h2:1≤d)(h3:d≤4000000000000000000)(hc:(redN n d).natAbs≤1000000000)(hd:redD n d≤1000000) :
 Calls Tryz.prog 215 #[.agg #[.int .i64 n,.int .i64 d]] w fun e w'=>e=.returned (.tuple #[.agg #[.int .i64 (redN n d),.int .i64 (redD n d)],.int .i64 0])∧Below w.heap.size w w':=by
 obtain ⟨hb1,hb2,hb3,hb4⟩:=Z7i n d h0 h1 h2 h3
 have hred:∀ W:World,Calls Tryz.prog 154 #[.agg #[.int .i64 n,.int .i64 d]] W fun e w'=>e=.returned (.agg #[.int .i64 (redN n d),.int .i64 (redD n d)])∧Below W.heap.size W w':=fun W=>Z61 n d W h0 h1 h2 h3
 generalize redN n d=a at *
 generalize redD n d=b at *
 have hsz:=fun W:World=>Z6B a W hb1 hb2
 obtain ⟨m,hm⟩:∃ m:Int,m=(a.natAbs:Int):=⟨_,rfl⟩
 rw [← hm] at hsz
 have HR:=zh hred;have HZ:=zh hsz;have c1:¬ 1000000000<m:=by omega
 have d1:decide (1000000000<m)=false:=by simpa using c1
 have d2:decide (1000000<b)=false:=by simp;omega
 clear hred hsz hm hc;have b1:Below w.heap.size w ((w.alloc (.cells #[.int .i64 n,.int .i64 d] 158)).alloc (.cells #[.int .i64 0,.int .i64 0] 60)):=((Below.refl _ _).alloc (zn _) _).alloc (by simp) _
 have x1:=Z1d w (.cells #[.int .i64 n,.int .i64 d] 158) (.cells #[.int .i64 0,.int .i64 0] 60)
 have HB:=zh b1;have HX:=zh x1;clear b1 x1;go_enter Tryz.func215,Tryz.ntmps215
 go_wp2_with fail;generalize (w.alloc (.cells #[.int .i64 n,.int .i64 d] 158)).alloc (.cells #[.int .i64 0,.int .i64 0] 60)=W1 at *
 refine (HR.out W1).mono ?_
 rintro e w2 ⟨rfl,hb⟩;have z2:=(hb.block _ (zs HX.out.2)).trans HX.out.2
 have B2:=zh (Z00 HB.out hb)
 have hl2:w.heap.size+1<w2.heap.size:=(zs z2)
 have z0:w2.cell? ⟨w.heap.size+1,0,none⟩=some (.int .i64 0):=by rw [zc z2];rfl
 have z1:w2.cell? ⟨w.heap.size+1,1,none⟩=some (.int .i64 0):=by rw [zc z2];rfl
 have y0:w2.frozen? ⟨w.heap.size+1,0,none⟩=false:=by simp [World.frozen?,z2]
 have y1:w2.frozen? ⟨w.heap.size+1,1,none⟩=false:=by simp [World.frozen?,z2]
 clear z2 hb;go_wp2_with (go_at_call 113;refine (HZ.out _).mono ?_;rintro e w' ⟨rfl,rfl⟩)
 refine bodyPost_ret (v:=.tuple #[.agg #[.int .i64 a,.int .i64 b],.int .i64 0]) (by simp [results,Tryz.results215,go_sem,z0,z1,hl2]) rfl ⟨rfl,?_⟩
 exact ((B2.out.setCell (p:=⟨w.heap.size+1,0,none⟩) (by show w.heap.size≤w.heap.size+1;omega) _).setCell (p:=⟨w.heap.size+1,1,none⟩) (by show w.heap.size≤w.heap.size+1;omega) _).alloc (by simp only [World.setCell,Array.size_modify];omega) _
theorem Zrx (n d:Int)(w:World)(h0 : -4000000000000000000≤n)(h1:n≤4000000000000000000)(h2:1≤d)(h3:d≤4000000000000000000) :
 Calls Tryz.prog 215 #[.agg #[.int .i64 n,.int .i64 d]] w fun e w'=>e=.returned (retV (ratV n d))∧Below w.heap.size w w':=by
 unfold ratV
 by_cases c1:1000000000<(redN n d).natAbs
 · rw [if_pos (.inl c1)];exact Zrv n d w h0 h1 h2 h3 c1
 · by_cases c2:1000000<redD n d
   · rw [if_pos (.inr c2)];exact Zrw n d w h0 h1 h2 h3 (by omega) c2
   · rw [if_neg (by omega)];exact rat_ok n d w h0 h1 h2 h3 (by omega) (by omega)
end
section
open Go.RowKit Lx Px Qx
namespace Qx
def vN:V→Int
 | .ok n _=>n
 | .no _=>0
def vD:V→Int
 | .ok _ d=>d
 | .no _=>0
def vE:V→Int
 | .ok _ _=>0
 | .no e=>e
end Qx
theorem Zry (v:V):retV v=.tuple #[.agg #[.int .i64 (vN v),.int .i64 (vD v)],.int .i64 (vE v)]:=by cases v <;> rfl
def RetV (v:V)(w:World)(e:Ending)(w':World):Prop:=e=.returned (.tuple #[.agg #[.int .i64 (vN v),.int .i64 (vD v)],.int .i64 (vE v)])∧Below w.heap.size w w'
theorem Zek (n d:Int)(w:World)(h0 : -4000000000000000000≤n)(h1:n≤4000000000000000000)(h2:1≤d)(h3:d≤4000000000000000000) :
 Calls Tryz.prog 215 #[.agg #[.int .i64 n,.int .i64 d]] w (RetV (ratV n d) w):=by
 have:=Zrx n d w h0 h1 h2 h3
 rw [Zry] at this
 exact this
def RatB (w:World)(b:Nat)(n d:Int):Prop:=w.heap[b]?=some (.cells #[.int .i64 n,.int .i64 d] 60 (0,0))
theorem RatB.on {w w':World}{b:Nat}{n d:Int}(h:RatB w b n d)(hb:Below w.heap.size w w'):RatB w' b n d:=(hb.block b (zs h)).trans h
theorem RatB.lt {w:World}{b:Nat}{n d:Int}(h:RatB w b n d):b<w.heap.size:=(zs h)
theorem RatB.c0 {w:World}{b:Nat}{n d:Int}(h:RatB w b n d):w.cell? ⟨b,0,none⟩=some (.int .i64 n):=by rw [zc h];rfl
theorem RatB.c1 {w:World}{b:Nat}{n d:Int}(h:RatB w b n d):w.cell? ⟨b,1,none⟩=some (.int .i64 d):=by rw [zc h];rfl
theorem RatB.fr {w:World}{b:Nat}{n d:Int}(h:RatB w b n d)(i:Nat):w.frozen? ⟨b,i,none⟩=false:=by
 have h':w.heap[b]?=_:=h
 simp [World.frozen?,h']
theorem RatB.new (w:World)(n d:Int):RatB (w.alloc (.cells #[.int .i64 n,.int .i64 d] 60)) w.heap.size n d:=za w _
theorem Z0c {w w':World}{b:Nat}(h:Below w.heap.size w w')(hb:w.heap.size≤b)(x y:Value):Below w.heap.size w ((w'.setCell ⟨b,0,none⟩ x).setCell ⟨b,1,none⟩ y) :=
 (h.setCell (p:=⟨b,0,none⟩) hb _).setCell (p:=⟨b,1,none⟩) hb _
theorem ZpE (k:Int)(w:World)(h0 : -1000000000000000≤k)(h1:k≤1000000000000000):Calls Tryz.prog 214 #[.int .i64 k] w fun e w'=>e=.returned (.bool false)∧w=w':=by
 have d1:decide (k < -1000000000000000)=false:=by simpa using h0
 have d2:decide ((1000000000000000:Int)<k)=false:=by simpa using h1
 go_enter Tryz.func214,Tryz.ntmps214
 go_wp2_with fail;go_ret
 exact ⟨rfl,rfl⟩
theorem Zbr (n d:Int)(w:World)(h0 : -1000000000000000≤n)(h1:n≤1000000000000000)(h2 : -1000000000000000≤d)(h3:d≤1000000000000000)(h4:d≠0) :
 Calls Tryz.prog 161 #[.int .i64 n,.int .i64 d] w (RetV (Z3d n d) w):=by
 have b1:Below w.heap.size w (w.alloc (.cells #[.int .i64 0,.int .i64 0] 60)):=(Below.refl _ _).alloc (zn _) _
 have x1:=RatB.new w 0 0
 have t0:(d==0)=false:=by simpa using h4
 by_cases hd:d<0
 · have hr:∀ W:World,Calls Tryz.prog 215 #[.agg #[.int .i64 (-n),.int .i64 (-d)]] W (RetV (Z3d n d) W):=fun W=>by
    have:=Zek (-n) (-d) W (by omega) (by omega) (by omega) (by omega)
    rwa [show Z3d n d=ratV (-n) (-d) by unfold Z3d;rw [if_pos hd]]
   generalize Z3d n d=V at *
   have dd:decide (d<0)=true:=by simpa using hd
   have HR:=zh hr;have HB:=zh b1;have HX:=zh x1;have H4:=zh h4;clear hr b1 x1 h4;go_enter Tryz.func161,Tryz.ntmps161
   go_wp2_with (go_at_call 214;refine (ZpE _ _ (by omega) (by omega)).mono ?_;rintro e w' ⟨rfl,rfl⟩)
   generalize w.alloc (.cells #[.int .i64 0,.int .i64 0] 60)=W1 at *
   refine (HR.out W1).mono ?_
   rintro e w2 ⟨rfl,hb⟩;have x2:=HX.out.on hb
   have B2:=zh (Z00 HB.out hb)
   have z0:=x2.c0
   have z1:=x2.c1
   have y0:=x2.fr 0
   have y1:=x2.fr 1
   clear x2 hb;go_wp2_with fail;refine bodyPost_ret (v:=.tuple #[.agg #[.int .i64 (vN V),.int .i64 (vD V)],.int .i64 (vE V)]) (by simp [results,Tryz.results161,go_sem,z0,z1]) rfl ⟨rfl,Z0c B2.out (zn _) _ _⟩
 · have hr:∀ W:World,Calls Tryz.prog 215 #[.agg #[.int .i64 n,.int .i64 d]] W (RetV (Z3d n d) W):=fun W=>by
    have:=Zek n d W (by omega) (by omega) (by omega) (by omega)
    rwa [show Z3d n d=ratV n d by unfold Z3d;rw [if_neg hd]]
   generalize Z3d n d=V at *
   have dd:decide (d<0)=false:=by simpa using hd
   have HR:=zh hr;have HB:=zh b1;have HX:=zh x1;have H4:=zh h4;clear hr b1 x1 h4;go_enter Tryz.func161,Tryz.ntmps161
   go_wp2_with (go_at_call 214;refine (ZpE _ _ (by omega) (by omega)).mono ?_;rintro e w' ⟨rfl,rfl⟩)
   generalize w.alloc (.cells #[.int .i64 0,.int .i64 0] 60)=W1 at *
   refine (HR.out W1).mono ?_
   rintro e w2 ⟨rfl,hb⟩;have x2:=HX.out.on hb
   have B2:=zh (Z00 HB.out hb)
   have z0:=x2.c0
   have z1:=x2.c1
   have y0:=x2.fr 0
   have y1:=x2.fr 1
   clear x2 hb;go_wp2_with fail;refine bodyPost_ret (v:=.tuple #[.agg #[.int .i64 (vN V),.int .i64 (vD V)],.int .i64 (vE V)]) (by simp [results,Tryz.results161,go_sem,z0,z1]) rfl ⟨rfl,Z0c B2.out (zn _) _ _⟩
theorem Z0u (w:World)(a b c d e f:Int):RatB (((w.alloc (.cells #[.int .i64 a,.int .i64 b] 60)).alloc (.cells #[.int .i64 c,.int .i64 d] 60)).alloc (.cells #[.int .i64 e,.int .i64 f] 60)) w.heap.size a b ∧
 RatB (((w.alloc (.cells #[.int .i64 a,.int .i64 b] 60)).alloc (.cells #[.int .i64 c,.int .i64 d] 60)).alloc (.cells #[.int .i64 e,.int .i64 f] 60)) (w.heap.size+1) c d ∧
 RatB (((w.alloc (.cells #[.int .i64 a,.int .i64 b] 60)).alloc (.cells #[.int .i64 c,.int .i64 d] 60)).alloc (.cells #[.int .i64 e,.int .i64 f] 60)) (w.heap.size+2) e f:=by
 obtain ⟨g1,g2⟩:=Z1d w (.cells #[.int .i64 a,.int .i64 b] 60) (.cells #[.int .i64 c,.int .i64 d] 60)
 refine ⟨Z0C g1 _,Z0C g2 _,?_⟩
 have:=za ((w.alloc (.cells #[.int .i64 a,.int .i64 b] 60)).alloc (.cells #[.int .i64 c,.int .i64 d] 60)) (.cells #[.int .i64 e,.int .i64 f] 60)
 simpa [RatB] using this
theorem Zbs (a b c d n m:Int)(g:FuncId)(cap:Array Value)(w:World)(hg:∀ args w,(callFunc g args).run Tryz.prog w=.ok (.enter g args) w)(ha:ratB a b=true)(hc:ratB c d=true)
 (hf:∀ W:World,Below w.heap.size w W→Calls Tryz.prog g cap W fun e w'=>e=.returned (.agg #[.int .i64 n,.int .i64 m])∧Below W.heap.size W w')
 (h0 : -4000000000000000000≤n) (h1:n≤4000000000000000000) (h2:1≤m) (h3:m≤4000000000000000000) :
 Calls Tryz.prog 247 #[.agg #[.int .i64 a,.int .i64 b],.agg #[.int .i64 c,.int .i64 d],.func (.func g) #[] cap] w (RetV (ratV n m) w):=by
 have hr:=fun W=>Zek n m W h0 h1 h2 h3
 generalize ratV n m=V at *
 have v1:=fun W=>Z12 a b W
 have v2:=fun W=>Z12 c d W
 rw [ha] at v1
 rw [hc] at v2
 have b1:Below w.heap.size w (((w.alloc (.cells #[.int .i64 a,.int .i64 b] 60)).alloc (.cells #[.int .i64 c,.int .i64 d] 60)).alloc (.cells #[.int .i64 0,.int .i64 0] 60)):=(((Below.refl _ _).alloc (zn _) _).alloc (by simp) _).alloc (by simp;omega) _
 have x1:=Z0u w a b c d 0 0
 have HR:=zh hr;have V1:=zh v1;have V2:=zh v2;have HB:=zh b1;have HX:=zh x1;have HF:=zh hf;have HA:=zh ha;have HC:=zh hc;clear hr v1 v2 b1 x1 hf ha hc;go_enter Tryz.func247,Tryz.ntmps247
 go_wp2_with fail;generalize ((w.alloc (.cells #[.int .i64 a,.int .i64 b] 60)).alloc (.cells #[.int .i64 c,.int .i64 d] 60)).alloc (.cells #[.int .i64 0,.int .i64 0] 60)=W1 at *
 refine (V1.out W1).mono ?_
 rintro e w2 ⟨rfl,hb⟩;obtain ⟨x1,x2,x3⟩:=HX.out
 have X2:=zh (x2.on hb)
 have X3:=zh (x3.on hb)
 have B2:=zh (Z00 HB.out hb)
 clear x1 x2 x3 hb HX HB V1;have z0:=X2.out.c0
 have z1:=X2.out.c1
 go_wp2_with fail;refine (V2.out _).mono ?_
 rintro e w3 ⟨rfl,hb⟩;have Y3:=zh (X3.out.on hb)
 have B3:=zh (Z00 B2.out hb)
 clear hb X2 X3 B2 z0 z1;go_wp2_with fail;refine (HF.out _ B3.out).mono ?_
 rintro e w4 ⟨rfl,hb⟩;have Y4:=zh (Y3.out.on hb)
 have B4:=zh (Z00 B3.out hb)
 clear hb Y3 B3;go_wp2_with fail;refine (HR.out _).mono ?_
 rintro e w5 ⟨rfl,hb⟩;have x5:=Y4.out.on hb
 have B5:=zh (Z00 B4.out hb)
 have z0:=x5.c0
 have z1:=x5.c1
 have y0:=x5.fr 0
 have y1:=x5.fr 1
 clear x5 hb Y4 B4;go_wp2_with fail;refine bodyPost_ret (v:=.tuple #[.agg #[.int .i64 (vN V),.int .i64 (vD V)],.int .i64 (vE V)]) (by simp [results,Tryz.results247,go_sem,z0,z1]) rfl ⟨rfl,Z0c B5.out (by omega) _ _⟩
end
section
open Go.RowKit Lx Px Qx
theorem Z2w {a b c d:Int}(h1:ratB a b=true)(h2:ratB c d=true):(-1000000000000000≤a*d∧a*d≤1000000000000000)∧(-1000000000000000≤c*b∧c*b≤1000000000000000)∧(1≤b*d∧b*d≤1000000000000)∧(-1000000000000000000≤a*c∧a*c≤1000000000000000000):=by
 obtain ⟨b1,b2,a1,a2,_⟩:=Z1j h1
 obtain ⟨d1,d2,c1,c2,_⟩:=Z1j h2
 have e1:=Z5y (x:=d) (y:=a) (a:=1000000) (b:=1000000000) (by omega) d2 a1 a2 (by omega)
 have e2:=Z5y (x:=b) (y:=c) (a:=1000000) (b:=1000000000) (by omega) b2 c1 c2 (by omega)
 have e3:=Z5y (x:=b) (y:=d) (a:=1000000) (b:=1000000) (by omega) b2 (by omega) d2 (by omega)
 have e4:1≤b*d:=Int.mul_pos (by omega) (by omega)
 have e5 : -1000000000000000000≤a*c∧a*c≤1000000000000000000:=by
  by_cases ha:0≤a
  · have:=Z5y (x:=a) (y:=c) (a:=1000000000) (b:=1000000000) ha a2 c1 c2 (by omega);omega
  · have:=Z5y (x:=-a) (y:=c) (a:=1000000000) (b:=1000000000) (by omega) (by omega) c1 c2 (by omega)
    rw [Int.neg_mul] at this;omega
 rw [Int.mul_comm d a] at e1
 rw [Int.mul_comm b c] at e2
 refine ⟨?_,?_,?_,e5⟩ <;> omega
theorem ZnH (a b c d:Int)(p q:Nat)(w:World)(h1:ratB a b=true)(h2:ratB c d=true)(hp:RatB w p a b)(hq:RatB w q c d) :
 Calls Tryz.prog 248 #[.pointer (some ⟨p,0,none⟩),.pointer (some ⟨q,0,none⟩)] w fun e w'=>e=.returned (.agg #[.int .i64 (a*d+c*b),.int .i64 (b*d)])∧Below w.heap.size w w':=by
 obtain ⟨⟨k1,k2⟩,⟨k3,k4⟩,⟨k5,k6⟩,⟨k7,k8⟩⟩:=Z2w h1 h2
 have t0:=hp.c0
 have t1:=hp.c1
 have t2:=hq.c0
 have t3:=hq.c1
 have l1:=hp.lt
 have l2:=hq.lt
 clear h1 h2 hp hq;go_enter Tryz.func248,Tryz.ntmps248
 go_wp2_with fail;exact bodyPost_ret (v:=.agg #[.int .i64 (a*d+c*b),.int .i64 (b*d)]) (by simp [results,Tryz.results248,go_sem]) rfl ⟨rfl,(Below.refl _ _).alloc (zn _) _⟩
theorem Zrz (a b c d:Int)(w:World)(h1:ratB a b=true)(h2:ratB c d=true) :
 Calls Tryz.prog 190 #[.agg #[.int .i64 a,.int .i64 b],.agg #[.int .i64 c,.int .i64 d]] w (RetV (addV a b c d) w):=by
 have hmf:∀ (fn:Fn) (first cap:Array Value) (w:World),(Instr.makeFunc fn first cap).run Tryz.prog w=.ok (.func fn first cap) w:=fun _ _ _ _=>rfl
 obtain ⟨⟨k1,k2⟩,⟨k3,k4⟩,⟨k5,k6⟩,⟨k7,k8⟩⟩:=Z2w h1 h2
 have b1:Below w.heap.size w (((w.alloc (.cells #[.int .i64 a,.int .i64 b] 60)).alloc (.cells #[.int .i64 c,.int .i64 d] 60)).alloc (.cells #[.int .i64 0,.int .i64 0] 60)):=(((Below.refl _ _).alloc (zn _) _).alloc (by simp) _).alloc (by simp;omega) _
 have x1:=Z0u w a b c d 0 0
 have hj:∀ W:World,RatB W w.heap.size a b→RatB W (w.heap.size+1) c d→Calls Tryz.prog 247 #[.agg #[.int .i64 a,.int .i64 b],.agg #[.int .i64 c,.int .i64 d],.func (.func 248) #[] #[.pointer (some ⟨w.heap.size,0,none⟩),.pointer (some ⟨w.heap.size+1,0,none⟩)]] W (RetV (addV a b c d) W):=fun W q1 q2 =>
  Zbs a b c d (a*d+c*b) (b*d) 248 _ W (enters_of Tryz.func248 (by kernel_rfl) rfl) h1 h2 (fun W' hb=>ZnH a b c d _ _ W' h1 h2 (q1.on hb) (q2.on hb)) (by omega) (by omega) (by omega) (by omega)
 generalize addV a b c d=V at *
 have HJ:=zh hj;have HB:=zh b1;have HX:=zh x1;have H1:=zh h1;have H2:=zh h2;clear hj b1 x1 h1 h2 k1 k2 k3 k4 k5 k6 k7 k8;go_enter Tryz.func190,Tryz.ntmps190
 go_wp2_with fail;generalize ((w.alloc (.cells #[.int .i64 a,.int .i64 b] 60)).alloc (.cells #[.int .i64 c,.int .i64 d] 60)).alloc (.cells #[.int .i64 0,.int .i64 0] 60)=W1 at *
 refine (HJ.out W1 HX.out.1 HX.out.2.1).mono ?_
 rintro e w2 ⟨rfl,hb⟩;have x2:=HX.out.2.2.on hb
 have B2:=zh (Z00 HB.out hb)
 have z0:=x2.c0
 have z1:=x2.c1
 have y0:=x2.fr 0
 have y1:=x2.fr 1
 clear x2 hb;go_wp2_with fail;refine bodyPost_ret (v:=.tuple #[.agg #[.int .i64 (vN V),.int .i64 (vD V)],.int .i64 (vE V)]) (by simp [results,Tryz.results190,go_sem,z0,z1]) rfl ⟨rfl,Z0c B2.out (by omega) _ _⟩
theorem Zp0 (a b c d:Int)(p q:Nat)(w:World)(h1:ratB a b=true)(h2:ratB c d=true)(hp:RatB w p a b)(hq:RatB w q c d) :
 Calls Tryz.prog 249 #[.pointer (some ⟨p,0,none⟩),.pointer (some ⟨q,0,none⟩)] w fun e w'=>e=.returned (.agg #[.int .i64 (a*d - c*b),.int .i64 (b*d)])∧Below w.heap.size w w':=by
 obtain ⟨⟨k1,k2⟩,⟨k3,k4⟩,⟨k5,k6⟩,⟨k7,k8⟩⟩:=Z2w h1 h2
 have t0:=hp.c0
 have t1:=hp.c1
 have t2:=hq.c0
 have t3:=hq.c1
 have l1:=hp.lt
 have l2:=hq.lt
 clear h1 h2 hp hq;go_enter Tryz.func249,Tryz.ntmps249
 go_wp2_with fail;exact bodyPost_ret (v:=.agg #[.int .i64 (a*d - c*b),.int .i64 (b*d)]) (by simp [results,Tryz.results249,go_sem]) rfl ⟨rfl,(Below.refl _ _).alloc (zn _) _⟩
theorem ZrA (a b c d:Int)(w:World)(h1:ratB a b=true)(h2:ratB c d=true) :
 Calls Tryz.prog 192 #[.agg #[.int .i64 a,.int .i64 b],.agg #[.int .i64 c,.int .i64 d]] w (RetV (subV a b c d) w):=by
 have hmf:∀ (fn:Fn) (first cap:Array Value) (w:World),(Instr.makeFunc fn first cap).run Tryz.prog w=.ok (.func fn first cap) w:=fun _ _ _ _=>rfl
 obtain ⟨⟨k1,k2⟩,⟨k3,k4⟩,⟨k5,k6⟩,⟨k7,k8⟩⟩:=Z2w h1 h2
 have b1:Below w.heap.size w (((w.alloc (.cells #[.int .i64 a,.int .i64 b] 60)).alloc (.cells #[.int .i64 c,.int .i64 d] 60)).alloc (.cells #[.int .i64 0,.int .i64 0] 60)):=(((Below.refl _ _).alloc (zn _) _).alloc (by simp) _).alloc (by simp;omega) _
 have x1:=Z0u w a b c d 0 0
 have hj:∀ W:World,RatB W w.heap.size a b→RatB W (w.heap.size+1) c d→Calls Tryz.prog 247 #[.agg #[.int .i64 a,.int .i64 b],.agg #[.int .i64 c,.int .i64 d],.func (.func 249) #[] #[.pointer (some ⟨w.heap.size,0,none⟩),.pointer (some ⟨w.heap.size+1,0,none⟩)]] W (RetV (subV a b c d) W):=fun W q1 q2 =>
  Zbs a b c d (a*d - c*b) (b*d) 249 _ W (enters_of Tryz.func249 (by kernel_rfl) rfl) h1 h2 (fun W' hb=>Zp0 a b c d _ _ W' h1 h2 (q1.on hb) (q2.on hb)) (by omega) (by omega) (by omega) (by omega)
 generalize subV a b c d=V at *
 have HJ:=zh hj;have HB:=zh b1;have HX:=zh x1;have H1:=zh h1;have H2:=zh h2;clear hj b1 x1 h1 h2 k1 k2 k3 k4 k5 k6 k7 k8;go_enter Tryz.func192,Tryz.ntmps192
 go_wp2_with fail;generalize ((w.alloc (.cells #[.int .i64 a,.int .i64 b] 60)).alloc (.cells #[.int .i64 c,.int .i64 d] 60)).alloc (.cells #[.int .i64 0,.int .i64 0] 60)=W1 at *
 refine (HJ.out W1 HX.out.1 HX.out.2.1).mono ?_
 rintro e w2 ⟨rfl,hb⟩;have x2:=HX.out.2.2.on hb
 have B2:=zh (Z00 HB.out hb)
 have z0:=x2.c0
 have z1:=x2.c1
 have y0:=x2.fr 0
 have y1:=x2.fr 1
 clear x2 hb;go_wp2_with fail;refine bodyPost_ret (v:=.tuple #[.agg #[.int .i64 (vN V),.int .i64 (vD V)],.int .i64 (vE V)]) (by simp [results,Tryz.results192,go_sem,z0,z1]) rfl ⟨rfl,Z0c B2.out (by omega) _ _⟩
theorem Zp1 (a b c d:Int)(p q:Nat)(w:World)(h1:ratB a b=true)(h2:ratB c d=true)(hp:RatB w p a b)(hq:RatB w q c d) :
 Calls Tryz.prog 250 #[.pointer (some ⟨p,0,none⟩),.pointer (some ⟨q,0,none⟩)] w fun e w'=>e=.returned (.agg #[.int .i64 (a*c),.int .i64 (b*d)])∧Below w.heap.size w w':=by
 obtain ⟨⟨k1,k2⟩,⟨k3,k4⟩,⟨k5,k6⟩,⟨k7,k8⟩⟩:=Z2w h1 h2
 have t0:=hp.c0
 have t1:=hp.c1
 have t2:=hq.c0
 have t3:=hq.c1
 have l1:=hp.lt
 have l2:=hq.lt
 clear h1 h2 hp hq;go_enter Tryz.func250,Tryz.ntmps250
 go_wp2_with fail;exact bodyPost_ret (v:=.agg #[.int .i64 (a*c),.int .i64 (b*d)]) (by simp [results,Tryz.results250,go_sem]) rfl ⟨rfl,(Below.refl _ _).alloc (zn _) _⟩
theorem ZrB (a b c d:Int)(w:World)(h1:ratB a b=true)(h2:ratB c d=true) :
 Calls Tryz.prog 194 #[.agg #[.int .i64 a,.int .i64 b],.agg #[.int .i64 c,.int .i64 d]] w (RetV (mulV a b c d) w):=by
 have hmf:∀ (fn:Fn) (first cap:Array Value) (w:World),(Instr.makeFunc fn first cap).run Tryz.prog w=.ok (.func fn first cap) w:=fun _ _ _ _=>rfl
 obtain ⟨⟨k1,k2⟩,⟨k3,k4⟩,⟨k5,k6⟩,⟨k7,k8⟩⟩:=Z2w h1 h2
 have b1:Below w.heap.size w (((w.alloc (.cells #[.int .i64 a,.int .i64 b] 60)).alloc (.cells #[.int .i64 c,.int .i64 d] 60)).alloc (.cells #[.int .i64 0,.int .i64 0] 60)):=(((Below.refl _ _).alloc (zn _) _).alloc (by simp) _).alloc (by simp;omega) _
 have x1:=Z0u w a b c d 0 0
 have hj:∀ W:World,RatB W w.heap.size a b→RatB W (w.heap.size+1) c d→Calls Tryz.prog 247 #[.agg #[.int .i64 a,.int .i64 b],.agg #[.int .i64 c,.int .i64 d],.func (.func 250) #[] #[.pointer (some ⟨w.heap.size,0,none⟩),.pointer (some ⟨w.heap.size+1,0,none⟩)]] W (RetV (mulV a b c d) W):=fun W q1 q2 =>
  Zbs a b c d (a*c) (b*d) 250 _ W (enters_of Tryz.func250 (by kernel_rfl) rfl) h1 h2 (fun W' hb=>Zp1 a b c d _ _ W' h1 h2 (q1.on hb) (q2.on hb)) (by omega) (by omega) (by omega) (by omega)
 generalize mulV a b c d=V at *
 have HJ:=zh hj;have HB:=zh b1;have HX:=zh x1;have H1:=zh h1;have H2:=zh h2;clear hj b1 x1 h1 h2 k1 k2 k3 k4 k5 k6 k7 k8;go_enter Tryz.func194,Tryz.ntmps194
 go_wp2_with fail;generalize ((w.alloc (.cells #[.int .i64 a,.int .i64 b] 60)).alloc (.cells #[.int .i64 c,.int .i64 d] 60)).alloc (.cells #[.int .i64 0,.int .i64 0] 60)=W1 at *
 refine (HJ.out W1 HX.out.1 HX.out.2.1).mono ?_
 rintro e w2 ⟨rfl,hb⟩;have x2:=HX.out.2.2.on hb
 have B2:=zh (Z00 HB.out hb)
 have z0:=x2.c0
 have z1:=x2.c1
 have y0:=x2.fr 0
 have y1:=x2.fr 1
 clear x2 hb;go_wp2_with fail;refine bodyPost_ret (v:=.tuple #[.agg #[.int .i64 (vN V),.int .i64 (vD V)],.int .i64 (vE V)]) (by simp [results,Tryz.results194,go_sem,z0,z1]) rfl ⟨rfl,Z0c B2.out (by omega) _ _⟩
theorem Zem (a b c d:Int)(w:World)(h1:ratB a b=true)(h2:ratB c d=true) :
 Calls Tryz.prog 252 #[.agg #[.int .i64 a,.int .i64 b],.agg #[.int .i64 c,.int .i64 d]] w fun e w'=>e=.returned (.tuple #[.int .i64 (cmpI a b c d),.int .i64 0])∧Below w.heap.size w w':=by
 obtain ⟨⟨k1,k2⟩,⟨k3,k4⟩,_,_⟩:=Z2w h1 h2
 have v1:=fun W=>Z12 a b W
 have v2:=fun W=>Z12 c d W
 rw [h1] at v1
 rw [h2] at v2
 have b1:Below w.heap.size w ((w.alloc (.cells #[.int .i64 a,.int .i64 b] 60)).alloc (.cells #[.int .i64 c,.int .i64 d] 60)):=((Below.refl _ _).alloc (zn _) _).alloc (by simp) _
 have x1:RatB _ w.heap.size a b∧RatB _ (w.heap.size+1) c d:=Z1d w (.cells #[.int .i64 a,.int .i64 b] 60) (.cells #[.int .i64 c,.int .i64 d] 60)
 have hcm:cmpI a b c d=if a*d<c*b then -1 else if c*b<a*d then 1 else 0:=rfl
 have V1:=zh v1;have V2:=zh v2;have HB:=zh b1;have HX:=zh x1;have HCM:=zh hcm;have H1:=zh h1;have H2:=zh h2;clear v1 v2 b1 x1 hcm h1 h2;go_enter Tryz.func252,Tryz.ntmps252
 go_wp2_with fail;generalize (w.alloc (.cells #[.int .i64 a,.int .i64 b] 60)).alloc (.cells #[.int .i64 c,.int .i64 d] 60)=W1 at *
 refine (V1.out W1).mono ?_
 rintro e w2 ⟨rfl,hb⟩;have X1:=zh (HX.out.1.on hb)
 have X2:=zh (HX.out.2.on hb)
 have B2:=zh (Z00 HB.out hb)
 clear hb HX HB V1;have z0:=X2.out.c0
 have z1:=X2.out.c1
 go_wp2_with fail;refine (V2.out _).mono ?_
 rintro e w3 ⟨rfl,hb⟩;have Y1:=X1.out.on hb
 have Y2:=X2.out.on hb
 have B3:=zh (Z00 B2.out hb)
 clear hb X1 X2 B2 z0 z1;have u0:=Y1.c0
 have u1:=Y1.c1
 have u2:=Y2.c0
 have u3:=Y2.c1
 have q1:IntKind.i64.wrap (a*d)=a*d:=IntWalk.i64_in _ (by omega)
 have q2:IntKind.i64.wrap (c*b)=c*b:=IntWalk.i64_in _ (by omega)
 clear Y1 Y2;go_wp2_with fail;go_quiet (fail)
 clear u0 u1 u2 u3 q1 q2;generalize a*d=x at *
 generalize c*b=y at *
 by_cases hlt:x<y
 · have d1:decide (x<y)=true:=by simpa using hlt
   have hr:cmpI a b c d = -1:=by rw [HCM.out,if_pos hlt]
   have HR:=zh hr;have HL:=zh hlt;clear hr hlt;go_wp2_with fail;go_ret2
   rw [HR.out]
   exact ⟨rfl,Z0q B3.out _⟩
 · have d1:decide (x<y)=false:=by simpa using hlt
   by_cases hgt:y<x
   · have d2:decide (y<x)=true:=by simpa using hgt
     have hr:cmpI a b c d=1:=by rw [HCM.out,if_neg hlt,if_pos hgt]
     have HR:=zh hr;have HL:=zh hlt;have HG:=zh hgt;clear hr hlt hgt;go_wp2_with fail;go_ret2
     rw [HR.out]
     exact ⟨rfl,Z0q B3.out _⟩
   · have d2:decide (y<x)=false:=by simpa using hgt
     have hr:cmpI a b c d=0:=by rw [HCM.out,if_neg hlt,if_neg hgt]
     have HR:=zh hr;have HL:=zh hlt;have HG:=zh hgt;clear hr hlt hgt;go_wp2_with fail;go_ret2
     rw [HR.out]
     exact ⟨rfl,Z0q B3.out _⟩
end
end Go.Proofs.YtnepkoepbapgeaaGreatDoor
