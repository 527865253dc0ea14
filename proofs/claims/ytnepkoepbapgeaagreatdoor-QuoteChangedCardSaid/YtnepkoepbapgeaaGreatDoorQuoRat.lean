/-
  Several texts in one: QuoTyp7, QuoRat.
-/
import Derived.Test.YtnepkoepbapgeaaGreatDoorQuoLd
import Derived.Test.YtnepkoepbapgeaaGreatDoorQuoPlain
import Derived.Test.YtnepkoepbapgeaaGreatDoorPrtNum
namespace Go.Proofs.YtnepkoepbapgeaaGreatDoor
set_option maxHeartbeats 4000000
set_option maxRecDepth 100000
section
open Go.RowKit Lx Px Qx
theorem Z80 {w:World}{B n c k:Nat}{A:Option Addr}{rs:List Rt}(h:RtsV w B (.slice A n c) rs)(hk:k<rs.length) :
 ∃ (g o:Nat) (WA PA:Option Addr) (wk pc:Nat),A=some ⟨g,o,none⟩∧g<B∧FoV w B (.slice WA (flen rs[k].wl) wk) rs[k].wl∧FoV w B (.slice PA (flen rs[k].pl) pc) rs[k].pl∧∀ j u,(Z48 rs[k] (.slice WA (flen rs[k].wl) wk) (.slice PA (flen rs[k].pl) pc))[j]?=some u→w.cell? ⟨g,o+k*16+j,none⟩=some u:=by
 obtain ⟨A',c',e,hA⟩:=h
 injection e with e1 _ e3
 subst e1;obtain ⟨ad0,e0,hb0,hs0,_⟩:=hA 0 (by omega)
 obtain ⟨ad,e1,hb,hs,wv,pv,hc,h1,h2⟩:=hA k hk
 rw [e0] at e1
 injection e1 with e1
 subst e1;have hs0':ad0.spot=none:=by unfold Addr.add at hs0;simpa using hs0
 obtain ⟨g,o,s⟩:=ad0
 cases hs0'
 obtain ⟨WA,wk,rfl,_⟩:=id h1
 obtain ⟨PA,pc,rfl,_⟩:=id h2
 refine ⟨g,o,WA,PA,wk,pc,e0,hb,h1,h2,fun j u hj=>?_⟩
 have h3:=hc j u hj
 have ea:((⟨g,o,none⟩:Addr).add (k*16))=⟨g,o+k*16,none⟩:=by
  unfold Addr.add;split
  · rename_i h;rw [h];rfl
  · rfl
 rw [ea] at h3
 exact h3
theorem Zbh {w:World}{g o:Nat}{r:Rt}{wv pv:Value}(h:∀ j u,(Z48 r wv pv)[j]?=some u→w.cell? ⟨g,o+j,none⟩=some u):∀ j u,(#[.int .i64 r.id,.int .i64 r.lv,.int .i64 r.kd,.int .i64 r.fr,.int .i64 r.un,.int .i64 r.ls,.int .i64 r.mo,.int .i64 r.ar,.int .i64 r.kn,.int .i64 r.kq,.int .i64 r.wo,.int .i64 r.wn,wv,.int .i64 r.po,.int .i64 r.pn,pv]:Array Value)[j]?=some u→w.cell? ⟨g,o+j,none⟩=some u:=fun j u hj=>h j u (by rw [← hj];simp [Z48])
theorem Zct {P:Program}{t k e:TypeId}(ht:P.underlying t=some (.map k e))(hk:P.underlying k=some (.int .i64)){w:World}{r:Nat}{L:List (Int × Value)}{op:Int}{z:Value}(h:Z2u w r L)(hn:∀ p∈L,p.1≠op)(hz:(zeroValue e).run P w=.ok z w) :
 (Instr.lookup t (.map (some r)) (.int .i64 op) false).run P w=.ok z w:=by
 have hr:w.heap[r]?=some (.map (esOf L 0).toArray L.length):=h
 have hf:=Z2c op L 0 0 hn
 have hck:(Instr.checkKey (esOf L 0).toArray.isEmpty (9999+1) k (.int .i64 op)).run P w=.ok () w:=Go.MapKept.run_checkKey hk (by simp [MapKept.IsKey]) _ 9999
 simp only [Instr.lookup,Instr.findKey,Sem.run_bind,Sem.run_pure,run_underlying ht,run_underlying hk,Go.MapKept.run_getObj_map hr,hck,hf,hz,Result.andThen_ok]
 rfl
def Zbi (rs:List Rt)(k:Nat):List (Int × Value):=(rs.take k).map fun r=>(r.id,.bool true)
theorem Zi8 (rs:List Rt)(k:Nat)(h:k<rs.length):Zbi rs (k+1)=Zbi rs k++[(rs[k].id,.bool true)]:=by
 unfold Zbi;rw [List.take_succ_eq_append_getElem h,List.map_append];rfl
theorem Zfh {rs:List Rt}{k:Nat}{x:Int}(h:x∈(rs.take k).map Rt.id):∃ L1 L2,Zbi rs k=L1++(x,.bool true)::L2∧∀ p∈L1,p.1≠x:=by
 unfold Zbi
 generalize rs.take k=l at *
 induction l with
 | nil=>simp at h
 | cons a l ih =>
  by_cases ha:a.id=x
  · exact ⟨[],l.map fun r=>(r.id,.bool true),by rw [← ha];rfl,by simp⟩
  · simp only [List.map_cons,List.mem_cons] at h
    obtain ⟨L1,L2,e,hn⟩:=ih (by rcases h with h | h;exact absurd h.symm ha;exact h)
    refine ⟨(a.id,.bool true)::L1,L2,by simp only [List.map_cons,e,List.cons_append],?_⟩
    intro p hp
    rcases List.mem_cons.1 hp with rfl | hp
    · exact ha
    · exact hn p hp
theorem Zi9 {rs:List Rt}{k:Nat}{x:Int}(h:¬ x∈(rs.take k).map Rt.id):∀ p∈Zbi rs k,p.1≠x:=by
 intro p hp e
 unfold Zbi at hp
 obtain ⟨r,hr,rfl⟩:=List.mem_map.1 hp
 exact h (List.mem_map.2 ⟨r,hr,e⟩)
def Zia (rs:List Rt)(k:Nat):Prop:=(∀ j (h:j<rs.length),j<k→Z11 rs[j]=0)∧((rs.take k).map Rt.id).Nodup
theorem ZdD {rs:List Rt}(h:Zia rs rs.length)(hl:rs.length≤100):useB rs=true:=by
 rw [Z36]
 refine ⟨hl,fun r hr=>?_,by have:=h.2;rwa [List.take_length] at this⟩
 obtain ⟨j,hj,rfl⟩:=List.getElem_of_mem hr
 exact h.1 j hj hj
theorem Zbj {rs:List Rt}{k:Nat}(h:Zia rs k)(hk:k<rs.length)(h1:Z11 rs[k]=0)(h2:¬ rs[k].id∈(rs.take k).map Rt.id):Zia rs (k+1):=by
 refine ⟨fun j hj hjk=>?_,?_⟩
 · by_cases e:j=k
   · subst e;exact h1
   · exact h.1 j hj (by omega)
 · rw [List.take_succ_eq_append_getElem hk,List.map_append,List.nodup_append]
   refine ⟨h.2,by simp,?_⟩
   intro a ha b hb e
   simp at hb
   subst hb e;exact h2 ha
theorem ZdE {rs:List Rt}{k:Nat}(hk:k<rs.length)(h1:Z11 rs[k]≠0):useB rs=false:=by
 rw [← Bool.not_eq_true,Z36]
 exact fun h=>h1 (h.2.1 _ (List.getElem_mem hk))
theorem Zmg {rs:List Rt}{k:Nat}(hk:k<rs.length)(h2:rs[k].id∈(rs.take k).map Rt.id):useB rs=false:=by
 rw [← Bool.not_eq_true,Z36]
 intro h
 have hn:=h.2.2
 rw [← List.take_append_drop k rs,List.map_append,List.nodup_append] at hn
 exact hn.2.2 _ h2 rs[k].id (List.mem_map.2 ⟨rs[k],by rw [List.drop_eq_getElem_cons hk];exact List.mem_cons_self,rfl⟩) rfl
theorem Zib (w:World):(zeroValue 4).run Tryz.prog w=.ok (.bool false) w:=by kernel_rfl
theorem Z9E {P:Program}(w:World){ops:Array Oper}{rest:List Oper}{o:Oper}{a:Act}{Q:Exit→Act→World→Prop}(hg:o.guard=none)(m x v:Operand)(t:TypeId)(hop:o.op=Op.mapUpdate t m x v)(k e:TypeId)(ht:P.underlying t=some (.map k e))(hk:P.underlying k=some (.int .i64))
 (r:Nat) (hm:a.eval m=.map (some r)) (L:List (Int × Value)) (h:Z2u w r L) (n:Int) (val:Value) (hx:a.eval x=.int .i64 n) (hv:a.eval v=val) (hn:∀ p∈L,p.1≠n)
 (hK:∀ w',Z2u w' r (L++[(n,val)])→w.grownBy w' (some r)→wpList P ops Q rest (a.put o.dst undef) w'):wpList P ops Q (o::rest) a w:=by
 refine Z4x w hg m x v t hop k e ht hk r (esOf L 0).toArray L.length hm h n val hx hv (Z2c n L 0 0 hn) ?_
 intro w' h1 h2
 refine hK w' ?_ h2
 simp [Z2u,h1,Z7v]
def VlL (w:World)(rs:List Rt)(i:Value)(wr:World):Prop :=
 ∃ k:Nat,k≤rs.length∧i=.int .i64 k∧Below w.heap.size w wr∧Z2u wr w.heap.size (Zbi rs k)∧Zia rs k
theorem Z92 (rs:List Rt)(v:Value)(w:World)(hv:RtsV w w.heap.size v rs):Calls Tryz.prog 60 #[v] w fun e w'=>e=.returned (.bool (useB rs))∧Below w.heap.size w w':=by
 obtain ⟨A,c,rfl,_⟩:=id hv
 have HV:=zh hv;clear hv;by_cases hl:100<rs.length
 · have hr:useB rs=false:=by simp [useB];omega
   have d:decide ((100:Int)<(rs.length:Int))=true:=by simp;omega
   have HR:=zh hr;clear hr;go_enter Tryz.func60,Tryz.ntmps60
   go_wp2_with fail;go_ret
   rw [HR.out]
   exact ⟨rfl,Below.refl _ _⟩
 · have d:decide ((100:Int)<(rs.length:Int))=false:=by simp;omega
   have hmm:=@run_makeMap Tryz.prog
   have h0:=Z2u.new w
   have g0:Below w.heap.size w (w.alloc (.map #[] 0)):=(Below.refl _ _).alloc (zn _) _
   have H0:=zh h0;have G0:=zh g0;clear h0 g0;go_enter Tryz.func60,Tryz.ntmps60
   go_wp2_with fail;go_loopw [14] (fun i wr=>VlL w rs i wr) (fun i _=>rs.length - (intOf i).toNat)
   case atStart=>exact ⟨0,by omega,rfl,G0.out,H0.out,fun j h hj=>absurd hj (by omega),by simp⟩
   case round =>
    obtain ⟨k,hk,rfl,hb,hm,hg⟩:=hrel
    have HB:=zh hb;have HM:=zh hm;have HG:=zh hg;clear hb hm hg;by_cases hlt:k<rs.length
    · obtain ⟨g,o,WA,PA,wk,pc,rfl,hgl,f1,f2,hc⟩:=Z80 (HV.out.on HB.out) hlt
      have hsz:=HB.out.size
      have hns:Z11 rs[k]≠0→useB rs=false:=ZdE hlt
      have hni:rs[k].id∈(rs.take k).map Rt.id→useB rs=false:=Zmg hlt
      have hst:=Zbj HG.out hlt
      have hsn:=Zi8 rs k hlt
      generalize rs[k]=r at *
      have HC:=zh (Zbh hc)
      have dk:decide ((k:Int)<(rs.length:Int))=true:=by simpa using hlt
      have F1:=zh f1;have F2:=zh f2;have HNS:=zh hns;have HNI:=zh hni;have HST:=zh hst;have HSN:=zh hsn;clear f1 f2 hns hni hst hsn hc;go_wp2_with (first | (with_reducible refine Z3c rfl _ rfl g (o+k*16) rfl _ rfl HC.out ?_) | (with_reducible refine Z8a rfl _ rfl wr.heap.size rfl _ rfl (za wr _) ?_) | (with_reducible refine Z2E rfl _ _ rfl _ _ rfl rfl rfl rfl (by rfl) ?_))
      have ha:=(Below.refl wr.heap.size wr).alloc (zn _) (.cells #[.int .i64 r.id,.int .i64 r.lv,.int .i64 r.kd,.int .i64 r.fr,.int .i64 r.un,.int .i64 r.ls,.int .i64 r.mo,.int .i64 r.ar,.int .i64 r.kn,.int .i64 r.kq,.int .i64 r.wo,.int .i64 r.wn,.slice WA (flen r.wl) wk,.int .i64 r.po,.int .i64 r.pn,.slice PA (flen r.pl) pc] 65)
      have hba:=Z00 HB.out ha
      have hma:=HM.out.on ha
      have hx:=za wr (.cells #[.int .i64 r.id,.int .i64 r.lv,.int .i64 r.kd,.int .i64 r.fr,.int .i64 r.un,.int .i64 r.ls,.int .i64 r.mo,.int .i64 r.ar,.int .i64 r.kn,.int .i64 r.kq,.int .i64 r.wo,.int .i64 r.wn,.slice WA (flen r.wl) wk,.int .i64 r.po,.int .i64 r.pn,.slice PA (flen r.pl) pc] 65)
      have hcall:=Zht r (.slice WA (flen r.wl) wk) (.slice PA (flen r.pl) pc) _ ((F1.out.on (ha.mono (by omega))).up (by simp;omega)) ((F2.out.on (ha.mono (by omega))).up (by simp;omega))
      have HA1:=zh ha;have HBA:=zh hba;have HMA:=zh hma;have HX:=zh hx;have HCL:=zh hcall;clear ha hba hma hx hcall HB HM;generalize hw2:wr.alloc (.cells #[.int .i64 r.id,.int .i64 r.lv,.int .i64 r.kd,.int .i64 r.fr,.int .i64 r.un,.int .i64 r.ls,.int .i64 r.mo,.int .i64 r.ar,.int .i64 r.kn,.int .i64 r.kq,.int .i64 r.wo,.int .i64 r.wn,.slice WA (flen r.wl) wk,.int .i64 r.po,.int .i64 r.pn,.slice PA (flen r.pl) pc] 65)=w2 at *
      clear hw2;refine HCL.out.mono ?_
      rintro e w3 ⟨rfl,hb3⟩;have hba3:=Z00 HBA.out hb3
      have hma3:=HMA.out.on hb3
      have hx3:=(hb3.block _ (zs HX.out)).trans HX.out
      have q0:w3.cell? ⟨wr.heap.size,0,none⟩=some (.int .i64 r.id):=by rw [zc hx3];rfl
      by_cases he:Z11 r=0
      · have b0:(Z11 r==0)=true:=by simpa using he
        by_cases hid:r.id∈(rs.take k).map Rt.id
        · obtain ⟨L1,L2,hL,hn⟩:=Zfh hid
          rw [hL] at hma3
          have hlk:=Z9H Tryz.underlying132 Tryz.underlying3 hma3 hn
          have hr:=HNI.out hid
          have HR:=zh hr;have HB3:=zh hba3;clear hr hba3 HCL HMA HBA HX HA1 hx3 hb3 hma3 hid he hn hL;go_wp2_with fail;go_ret
          rw [HR.out]
          exact ⟨rfl,HB3.out⟩
        · have hn:=Zi9 hid
          have hlk:=Zct Tryz.underlying132 Tryz.underlying3 hma3 hn (Zib w3)
          have hg:=HST.out he hid
          have HB3:=zh hba3;have HM3:=zh hma3;have HN:=zh hn;have HG2:=zh hg;clear hba3 hma3 hn hg HCL HMA HBA HX HA1 hx3 hb3 hid he;go_wp2_with (with_reducible refine Z9E _ rfl _ _ _ 132 rfl _ _ Tryz.underlying132 Tryz.underlying3 w.heap.size rfl _ HM3.out r.id (.bool true) rfl rfl HN.out ?_;intro w4 hm4 hg4)
          rw [← HSN.out] at hm4
          have hb4:=HB3.out.trans (Z06 hg4 HB3.out.size (zn _))
          have HM4:=zh hm4;have HB4:=zh hb4;clear hm4 hb4 hg4;go_wp2_with fail;go_roundw
          case rel=>exact ⟨k+1,by omega,by go_num,HB4.out,HM4.out,HG2.out⟩
          case measure=>simp [intOf];omega
      · have b0:(Z11 r==0)=false:=by simpa using he
        have hr:=HNS.out he
        have HR:=zh hr;have HB3:=zh hba3;clear hr hba3 HCL HMA HBA HX HA1 hx3 hb3 hma3 he;go_wp2_with fail;go_ret
        rw [HR.out]
        exact ⟨rfl,HB3.out⟩
    · have hke:k=rs.length:=by omega
      subst hke;have hr:=ZdD HG.out (by omega)
      have dk:decide ((rs.length:Int)<(rs.length:Int))=false:=by simp
      have HR:=zh hr;clear hr;go_wp2_with fail;go_ret
      rw [HR.out]
      exact ⟨rfl,HB.out⟩
end
section
open Go.RowKit Lx Px Qx
theorem Z5z (n:Int)(w:World)(h0 : -4000000000000000000≤n)(h1:n≤4000000000000000000):Calls Tryz.prog 113 #[.int .i64 n] w fun e w'=>e=.returned (.int .i64 (n.natAbs:Nat))∧w=w':=by
 go_enter Tryz.func113,Tryz.ntmps113
 go_wp2_with fail;go_ret
 exact ⟨Z71 (by omega),rfl⟩
theorem Zfi (k:Nat):∀ (a b:Nat) (p:Addr) (w:World),b≤k→a≤4000000000000000000→b≤4000000000000000000→w.cell? p=some (.func (.func 204) #[] #[.pointer (some p)]) →
 Calls Tryz.prog 204 #[.int .i64 a,.int .i64 b,.pointer (some p)] w fun e w'=>e=.returned (.int .i64 (Nat.gcd a b))∧∃ m,w'=w.drewN m:=by
 induction k with
 | zero =>
  intro a b p w hk ha hb hp
  have hb0:b=0:=by omega
  subst hb0;rw [Nat.gcd_zero_right]
  go_enter Tryz.func204,Tryz.ntmps204
  go_wp2_with fail;go_ret
  exact ⟨rfl,0,rfl⟩
 | succ k ih =>
  intro a b p w hk ha hb hp
  by_cases hb0:0<b
  · have t:((b:Int)==0)=false:=by simp;omega
    obtain ⟨r,hr⟩:∃ r,r=a % b:=⟨_,rfl⟩
    have hrb:r<b:=by rw [hr];exact Nat.mod_lt _ hb0
    have hc:((a:Int) % (b:Int))=(r:Int):=by rw [hr];simp
    have hc2:(a:Int).tmod (b:Int)=(r:Int):=by rw [Int.tmod_eq_emod_of_nonneg (by omega)];exact hc
    have hs:=Z9r a b hb0
    rw [← hr] at hs
    have HS:=zh hs;have HI:=zh ih;clear hs ih hr;have hz:¬ (b:Int)=0:=by omega
    have q0:(0:Int)≤(a:Int):=by omega
    go_enter Tryz.func204,Tryz.ntmps204
    go_wp2_with fail;go_quiet ((go_at_call 204;exact Calls.quiet_of (HI.out b r p _ (by omega) (by omega) (by omega) (by simpa using hp))))
    go_wp2_with fail;go_ret
    rw [HS.out]
    exact ⟨rfl,_,rfl⟩
  · have hb1:b=0:=by omega
    subst hb1;rw [Nat.gcd_zero_right]
    go_enter Tryz.func204,Tryz.ntmps204
    go_wp2_with fail;go_ret
    exact ⟨rfl,0,rfl⟩
theorem Z58 (n d:Int)(w:World)(h0 : -4000000000000000000≤n)(h1:n≤4000000000000000000)(h2:1≤d)(h3:d≤4000000000000000000) :
 Calls Tryz.prog 154 #[.agg #[.int .i64 n,.int .i64 d]] w fun e w'=>e=.returned (.agg #[.int .i64 (n.tdiv (Nat.gcd n.natAbs d.natAbs:Nat)),.int .i64 (d.tdiv (Nat.gcd n.natAbs d.natAbs:Nat))])∧Below w.heap.size w w':=by
 have hmf:∀ (fn:Fn) (first cap:Array Value) (w:World),(Instr.makeFunc fn first cap).run Tryz.prog w=.ok (.func fn first cap) w:=fun _ _ _ _=>rfl
 obtain ⟨dn,rfl⟩:=Int.eq_ofNat_of_zero_le (show 0≤d by omega)
 obtain ⟨g,hg⟩:∃ g,g=Nat.gcd n.natAbs dn:=⟨_,rfl⟩
 have hgpos:0<g:=by rw [hg];exact Nat.gcd_pos_of_pos_right _ (by omega)
 have hgle:g≤dn:=by rw [hg];exact Nat.le_of_dvd (by omega) (Nat.gcd_dvd_right _ _)
 rw [Int.natAbs_natCast,← hg]
 have HG:=zh hg;clear hg;have hgc:(Nat.gcd n.natAbs dn:Int)=(g:Int):=by rw [HG.out]
 go_enter Tryz.func154,Tryz.ntmps154
 go_wp2_with fail;go_quiet (first | (go_at_call 113;exact Calls.quiet_of_same ((Z5z n _ h0 h1).mono fun _ _ h=>⟨h.1,h.2.symm⟩)) | (go_at_call 204;exact Calls.quiet_of (Zfi dn n.natAbs dn ⟨w.heap.size+1+1,0,none⟩ _ (zn _) (by omega) (by omega) (by simp [go_sem]))))
 go_wp2_with fail;rw [show n.natAbs.gcd dn=g from HG.out.symm]
 obtain ⟨W,hW⟩:∃ W,W=(((w.alloc (.cells #[.int .i64 n,.int .i64 dn] 158)).alloc (.cells #[.int .i64 0,.int .i64 0] 158)).alloc (.cells #[.func (.func 204) #[] #[.pointer (some ⟨w.heap.size+1+1,0,none⟩)]] 110)).drewN nq:=⟨_,rfl⟩
 rw [← hW]
 have c0:W.cell? ⟨w.heap.size,0,none⟩=some (.int .i64 n):=by rw [hW];simp [go_sem]
 have c1:W.cell? ⟨w.heap.size,1,none⟩=some (.int .i64 dn):=by rw [hW];simp [go_sem]
 have hblk:W.heap[w.heap.size+1]?=some (.cells #[.int .i64 0,.int .i64 0] 158 (0,0)):=by
  rw [hW];show (((w.alloc _).alloc _).alloc _).heap[w.heap.size+1]?=_
  have:=Z0z (za (w.alloc (.cells #[.int .i64 n,.int .i64 dn] 158)) (.cells #[.int .i64 0,.int .i64 0] 158)) (.cells #[.func (.func 204) #[] #[.pointer (some ⟨w.heap.size+1+1,0,none⟩)]] 110)
  simpa using this
 have hB:Below w.heap.size w W:=by
  rw [hW];exact Z0n ((((Below.refl _ _).alloc (zn _) _).alloc (by simp) _).alloc (by simp;omega) _) _
 have HBL:=zh hB;have HBK:=zh hblk;clear hW hB hblk hmf hgc;have hz:¬ g=0:=by omega
 go_still_tail 9,(by kernel_rfl)
 change wpList _ _ _ _ _ W.drew
 have hB2:=HBL.out.drew
 have hK2:W.drew.heap[w.heap.size+1]?=_:=HBK.out
 clear HBL HBK c0 c1;generalize W.drew=W2 at *
 have r0:W2.cell? ⟨w.heap.size+1,0,none⟩=some (.int .i64 0):=by rw [zc hK2];rfl
 have r1:W2.cell? ⟨w.heap.size+1,1,none⟩=some (.int .i64 0):=by rw [zc hK2];rfl
 have s0:=Lib.frozen_of_heap hK2 0
 have s1:=Lib.frozen_of_heap hK2 1
 have HB2:=zh hB2;have HK2:=zh hK2;clear hB2 hK2;go_wp2_with fail;have hq0:(0:Int)≤(dn:Int) / (g:Int):=Int.ediv_nonneg (by omega) (by omega)
 have hq1:(dn:Int) / (g:Int)≤(dn:Int):=Int.ediv_le_self _ (by omega)
 have hw:wrap64 ((dn:Int) / (g:Int))=(dn:Int).tdiv (g:Int):=by
  rw [IntWalk.wrap64_in _ ⟨by omega,by omega⟩,Int.tdiv_eq_ediv_of_nonneg (by omega)]
 rw [hw]
 have e0:((W2.setCell ⟨w.heap.size+1,0,none⟩ (.int .i64 (n.tdiv g))).setCell ⟨w.heap.size+1,1,none⟩ (.int .i64 ((dn:Int).tdiv g))).heap[w.heap.size+1]?=some (.cells #[.int .i64 (n.tdiv g),.int .i64 ((dn:Int).tdiv g)] 158 (0,0)):=by
  rw [Z2r (Z2r HK2.out _) _];rfl
 have hB3:Below w.heap.size w ((W2.setCell ⟨w.heap.size+1,0,none⟩ (.int .i64 (n.tdiv g))).setCell ⟨w.heap.size+1,1,none⟩ (.int .i64 ((dn:Int).tdiv g))) :=
  (HB2.out.setCell (p:=⟨w.heap.size+1,0,none⟩) (by show _≤_+1;omega) _).setCell (p:=⟨w.heap.size+1,1,none⟩) (by show _≤_+1;omega) _
 have HB3:=zh hB3;clear hw hq0 hq1 hB3 r0 r1 s0 s1;generalize (W2.setCell ⟨w.heap.size+1,0,none⟩ (.int .i64 (n.tdiv g))).setCell ⟨w.heap.size+1,1,none⟩ (.int .i64 ((dn:Int).tdiv g))=W3 at *
 have k0:W3.cell? ⟨w.heap.size+1,0,none⟩=some (.int .i64 (n.tdiv g)):=by rw [zc e0];rfl
 have k1:W3.cell? ⟨w.heap.size+1,1,none⟩=some (.int .i64 ((dn:Int).tdiv g)):=by rw [zc e0];rfl
 clear e0;exact bodyPost_ret (v:=.agg #[.int .i64 (n.tdiv g),.int .i64 ((dn:Int).tdiv g)]) (by simp [results,Tryz.results154,go_sem,k0,k1]) rfl ⟨rfl,HB3.out⟩
def retV:V→Value
 | .ok n d=>.tuple #[.agg #[.int .i64 n,.int .i64 d],.int .i64 0]
 | .no e=>.tuple #[.agg #[.int .i64 0,.int .i64 0],.int .i64 e]
theorem Z6e (n d:Int)(h0 : -4000000000000000000≤n)(h1:n≤4000000000000000000)(h2:1≤d)(h3:d≤4000000000000000000) : -4000000000000000000≤redN n d∧redN n d≤4000000000000000000∧1≤redD n d∧redD n d≤4000000000000000000:=by
 have hg:0<Nat.gcd n.natAbs d.natAbs:=Nat.gcd_pos_of_pos_right _ (by omega)
 have hgd:=Nat.gcd_dvd_right n.natAbs d.natAbs
 unfold redN redD
 generalize Nat.gcd n.natAbs d.natAbs=g at *
 have e1:(n.tdiv (g:Int)).natAbs≤n.natAbs:=by rw [Int.natAbs_tdiv];exact Nat.div_le_self _ _
 obtain ⟨m,rfl⟩:=Int.eq_ofNat_of_zero_le (show 0≤d by omega)
 have e2:((m:Int)).tdiv (g:Int)=((m / g:Nat):Int):=by rw [Int.tdiv_eq_ediv_of_nonneg (by omega)];rfl
 rw [e2]
 have h4:=Nat.div_le_self m g
 have h5:0<m / g:=Nat.div_pos (Nat.le_of_dvd (by omega) hgd) hg
 omega
theorem ZnG (n d:Int)(w:World)(h0 : -4000000000000000000≤n)(h1:n≤4000000000000000000)(h2:1≤d)(h3:d≤4000000000000000000)(hc:1000000000<(redN n d).natAbs) :
 Calls Tryz.prog 215 #[.agg #[.int .i64 n,.int .i64 d]] w fun e w'=>e=.returned (.tuple #[.agg #[.int .i64 0,.int .i64 0],.int .i64 3])∧Below w.heap.size w w':=by
 obtain ⟨hb1,hb2,hb3,hb4⟩:=Z6e n d h0 h1 h2 h3
 have hred:∀ W:World,Calls Tryz.prog 154 #[.agg #[.int .i64 n,.int .i64 d]] W fun e w'=>e=.returned (.agg #[.int .i64 (redN n d),.int .i64 (redD n d)])∧Below W.heap.size W w':=fun W=>Z58 n d W h0 h1 h2 h3
 generalize redN n d=a at *
 generalize redD n d=b at *
 have hsz:=fun W:World=>Z5z a W hb1 hb2
 obtain ⟨m,hm⟩:∃ m:Int,m=(a.natAbs:Int):=⟨_,rfl⟩
 rw [← hm] at hsz
 have HR:=zh hred;have HZ:=zh hsz;have c1:1000000000<m:=by omega
 have d1:decide (1000000000<m)=true:=by simpa using c1
 clear hred hsz hm hc;have b1:Below w.heap.size w ((w.alloc (.cells #[.int .i64 n,.int .i64 d] 158)).alloc (.cells #[.int .i64 0,.int .i64 0] 60)):=((Below.refl _ _).alloc (zn _) _).alloc (by simp) _
 have x1:=Z1x w (.cells #[.int .i64 n,.int .i64 d] 158) (.cells #[.int .i64 0,.int .i64 0] 60)
 have HB:=zh b1;have HX:=zh x1;clear b1 x1;go_enter Tryz.func215,Tryz.ntmps215
 go_wp2_with fail;generalize (w.alloc (.cells #[.int .i64 n,.int .i64 d] 158)).alloc (.cells #[.int .i64 0,.int .i64 0] 60)=W1 at *
 refine (HR.out W1).mono ?_
 rintro e w2 ⟨rfl,hb⟩;have z2:=(hb.block _ (zs HX.out.2)).trans HX.out.2
 have B2:=zh (Z00 HB.out hb)
 have hl2:w.heap.size+1<w2.heap.size:=(zs z2)
 have z0:w2.cell? ⟨w.heap.size+1,0,none⟩=some (.int .i64 0):=by rw [zc z2];rfl
 have z1:w2.cell? ⟨w.heap.size+1,1,none⟩=some (.int .i64 0):=by rw [zc z2];rfl
 have y0:w2.frozen? ⟨w.heap.size+1,0,none⟩=false:=by simp [World.frozen?,z2]
 have y1:w2.frozen? ⟨w.heap.size+1,1,none⟩=false:=by simp [World.frozen?,z2]
 clear z2 hb;go_wp2_with (go_at_call 113;refine (HZ.out _).mono ?_;rintro e w' ⟨rfl,rfl⟩)
 refine bodyPost_ret (v:=.tuple #[.agg #[.int .i64 0,.int .i64 0],.int .i64 3]) (by simp [results,Tryz.results215,go_sem,z0,z1,hl2]) rfl ⟨rfl,?_⟩
 exact ((B2.out.setCell (p:=⟨w.heap.size+1,0,none⟩) (by show w.heap.size≤w.heap.size+1;omega) _).setCell (p:=⟨w.heap.size+1,1,none⟩) (by show w.heap.size≤w.heap.size+1;omega) _).alloc (by simp only [World.setCell,Array.size_modify];omega) _
theorem ZnH (n d:Int)(w:World)(h0 : -4000000000000000000≤n)(h1:n≤4000000000000000000)(h2:1≤d)(h3:d≤4000000000000000000)(hc:(redN n d).natAbs≤1000000000)(hd:1000000<redD n d) :
 Calls Tryz.prog 215 #[.agg #[.int .i64 n,.int .i64 d]] w fun e w'=>e=.returned (.tuple #[.agg #[.int .i64 0,.int .i64 0],.int .i64 3])∧Below w.heap.size w w':=by
 obtain ⟨hb1,hb2,hb3,hb4⟩:=Z6e n d h0 h1 h2 h3
 have hred:∀ W:World,Calls Tryz.prog 154 #[.agg #[.int .i64 n,.int .i64 d]] W fun e w'=>e=.returned (.agg #[.int .i64 (redN n d),.int .i64 (redD n d)])∧Below W.heap.size W w':=fun W=>Z58 n d W h0 h1 h2 h3
 generalize redN n d=a at *
 generalize redD n d=b at *
 have hsz:=fun W:World=>Z5z a W hb1 hb2
 obtain ⟨m,hm⟩:∃ m:Int,m=(a.natAbs:Int):=⟨_,rfl⟩
 rw [← hm] at hsz
 have HR:=zh hred;have HZ:=zh hsz;have c1:¬ 1000000000<m:=by omega
 have d1:decide (1000000000<m)=false:=by simpa using c1
 have d2:decide (1000000<b)=true:=by simpa using hd
 clear hred hsz hm hc;have b1:Below w.heap.size w ((w.alloc (.cells #[.int .i64 n,.int .i64 d] 158)).alloc (.cells #[.int .i64 0,.int .i64 0] 60)):=((Below.refl _ _).alloc (zn _) _).alloc (by simp) _
 have x1:=Z1x w (.cells #[.int .i64 n,.int .i64 d] 158) (.cells #[.int .i64 0,.int .i64 0] 60)
 have HB:=zh b1;have HX:=zh x1;clear b1 x1;go_enter Tryz.func215,Tryz.ntmps215
 go_wp2_with fail;generalize (w.alloc (.cells #[.int .i64 n,.int .i64 d] 158)).alloc (.cells #[.int .i64 0,.int .i64 0] 60)=W1 at *
 refine (HR.out W1).mono ?_
 rintro e w2 ⟨rfl,hb⟩;have z2:=(hb.block _ (zs HX.out.2)).trans HX.out.2
 have B2:=zh (Z00 HB.out hb)
 have hl2:w.heap.size+1<w2.heap.size:=(zs z2)
 have z0:w2.cell? ⟨w.heap.size+1,0,none⟩=some (.int .i64 0):=by rw [zc z2];rfl
 have z1:w2.cell? ⟨w.heap.size+1,1,none⟩=some (.int .i64 0):=by rw [zc z2];rfl
 have y0:w2.frozen? ⟨w.heap.size+1,0,none⟩=false:=by simp [World.frozen?,z2]
 have y1:w2.frozen? ⟨w.heap.size+1,1,none⟩=false:=by simp [World.frozen?,z2]
 clear z2 hb;go_wp2_with (go_at_call 113;refine (HZ.out _).mono ?_;rintro e w' ⟨rfl,rfl⟩)
 refine bodyPost_ret (v:=.tuple #[.agg #[.int .i64 0,.int .i64 0],.int .i64 3]) (by simp [results,Tryz.results215,go_sem,z0,z1,hl2]) rfl ⟨rfl,?_⟩
 exact ((B2.out.setCell (p:=⟨w.heap.size+1,0,none⟩) (by show w.heap.size≤w.heap.size+1;omega) _).setCell (p:=⟨w.heap.size+1,1,none⟩) (by show w.heap.size≤w.heap.size+1;omega) _).alloc (by simp only [World.setCell,Array.size_modify];omega) _
theorem rat_ok (n d:Int)(w:World)(h0 : -4000000000000000000≤n)(h1:n≤4000000000000000000)(h2:1≤d)(h3:d≤4000000000000000000)(hc:(redN n d).natAbs≤1000000000)(hd:redD n d≤1000000) :
 Calls Tryz.prog 215 #[.agg #[.int .i64 n,.int .i64 d]] w fun e w'=>e=.returned (.tuple #[.agg #[.int .i64 (redN n d),.int .i64 (redD n d)],.int .i64 0])∧Below w.heap.size w w':=by
 obtain ⟨hb1,hb2,hb3,hb4⟩:=Z6e n d h0 h1 h2 h3
 have hred:∀ W:World,Calls Tryz.prog 154 #[.agg #[.int .i64 n,.int .i64 d]] W fun e w'=>e=.returned (.agg #[.int .i64 (redN n d),.int .i64 (redD n d)])∧Below W.heap.size W w':=fun W=>Z58 n d W h0 h1 h2 h3
 generalize redN n d=a at *
 generalize redD n d=b at *
 have hsz:=fun W:World=>Z5z a W hb1 hb2
 obtain ⟨m,hm⟩:∃ m:Int,m=(a.natAbs:Int):=⟨_,rfl⟩
 rw [← hm] at hsz
 have HR:=zh hred;have HZ:=zh hsz;have c1:¬ 1000000000<m:=by omega
 have d1:decide (1000000000<m)=false:=by simpa using c1
 have d2:decide (1000000<b)=false:=by simp;omega
 clear hred hsz hm hc;have b1:Below w.heap.size w ((w.alloc (.cells #[.int .i64 n,.int .i64 d] 158)).alloc (.cells #[.int .i64 0,.int .i64 0] 60)):=((Below.refl _ _).alloc (zn _) _).alloc (by simp) _
 have x1:=Z1x w (.cells #[.int .i64 n,.int .i64 d] 158) (.cells #[.int .i64 0,.int .i64 0] 60)
 have HB:=zh b1;have HX:=zh x1;clear b1 x1;go_enter Tryz.func215,Tryz.ntmps215
 go_wp2_with fail;generalize (w.alloc (.cells #[.int .i64 n,.int .i64 d] 158)).alloc (.cells #[.int .i64 0,.int .i64 0] 60)=W1 at *
 refine (HR.out W1).mono ?_
 rintro e w2 ⟨rfl,hb⟩;have z2:=(hb.block _ (zs HX.out.2)).trans HX.out.2
 have B2:=zh (Z00 HB.out hb)
 have hl2:w.heap.size+1<w2.heap.size:=(zs z2)
 have z0:w2.cell? ⟨w.heap.size+1,0,none⟩=some (.int .i64 0):=by rw [zc z2];rfl
 have z1:w2.cell? ⟨w.heap.size+1,1,none⟩=some (.int .i64 0):=by rw [zc z2];rfl
 have y0:w2.frozen? ⟨w.heap.size+1,0,none⟩=false:=by simp [World.frozen?,z2]
 have y1:w2.frozen? ⟨w.heap.size+1,1,none⟩=false:=by simp [World.frozen?,z2]
 clear z2 hb;go_wp2_with (go_at_call 113;refine (HZ.out _).mono ?_;rintro e w' ⟨rfl,rfl⟩)
 refine bodyPost_ret (v:=.tuple #[.agg #[.int .i64 a,.int .i64 b],.int .i64 0]) (by simp [results,Tryz.results215,go_sem,z0,z1,hl2]) rfl ⟨rfl,?_⟩
 exact ((B2.out.setCell (p:=⟨w.heap.size+1,0,none⟩) (by show w.heap.size≤w.heap.size+1;omega) _).setCell (p:=⟨w.heap.size+1,1,none⟩) (by show w.heap.size≤w.heap.size+1;omega) _).alloc (by simp only [World.setCell,Array.size_modify];omega) _
theorem Zp0 (n d:Int)(w:World)(h0 : -4000000000000000000≤n)(h1:n≤4000000000000000000)(h2:1≤d)(h3:d≤4000000000000000000) :
 Calls Tryz.prog 215 #[.agg #[.int .i64 n,.int .i64 d]] w fun e w'=>e=.returned (retV (ratV n d))∧Below w.heap.size w w':=by
 unfold ratV
 by_cases c1:1000000000<(redN n d).natAbs
 · rw [if_pos (.inl c1)];exact ZnG n d w h0 h1 h2 h3 c1
 · by_cases c2:1000000<redD n d
   · rw [if_pos (.inr c2)];exact ZnH n d w h0 h1 h2 h3 (by omega) c2
   · rw [if_neg (by omega)];exact rat_ok n d w h0 h1 h2 h3 (by omega) (by omega)
end
end Go.Proofs.YtnepkoepbapgeaaGreatDoor
