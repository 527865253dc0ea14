/-
  Several texts in one: QuoApp, QuoTyp3, QuoTyp4.
-/
import Derived.Test.YtnepkoepbapgeaaGreatDoorQuoTyp1
import Derived.Test.YtnepkoepbapgeaaGreatDoorProg
import Derived.Laws.OwnMore
import Derived.Test.YtnepkoepbapgeaaGreatDoorQuoTyp2
import Derived.Test.YtnepkoepbapgeaaGreatDoorPrtTwo
namespace Go.Proofs.YtnepkoepbapgeaaGreatDoor
set_option maxHeartbeats 4000000
set_option maxRecDepth 100000
section
open Go.RowKit Lx Px Qx
theorem Tryz.infoInt:(Tryz.prog.info? 3).map (fun i=>(i.zero,i.size,i.bytes))=some (some (.int .i64 0),1,8):=by kernel_rfl
theorem Z4D {ops:Array Oper}{rest:List Oper}{o:Oper}{a:Act}{Q:Exit→Act→World→Prop}(w:World)(hgd:o.guard=none)(s x:Operand)
 (ho:o.op=.call { callee:=.builtin .append,args:=#[s,x],argTypes:=#[27,27] }) (base:Nat) (v:Value) (ts:List Int) (hs:a.eval s=v) (hown:w.ownsRow base 3 1 v ts.length (ts.map (.int .i64)))
 (b:Nat) (t:Int) (hx:a.eval x=.slice (some ⟨b,0,none⟩) 1 1) (hn:w.cell? ⟨b,0,none⟩=some (.int .i64 t)) (hl:ts.length≤1000000) (hbase:base≤w.heap.size)
 (h:∀ v' w',w'.ownsRow base 3 1 v' (ts++[t]).length ((ts++[t]).map (.int .i64))→w.grownBy w' v.ownBlock→wpList Tryz.prog ops Q rest (a.put o.dst v') w'):wpList Tryz.prog ops Q (o::rest) a w:=by
 obtain ⟨i0,hi,hz0,hz1,hz2⟩:=info_parts Tryz.infoInt
 refine wpList_append_own w hgd s x 27 ho base 3 i0 _ 1 8 Tryz.underlying27 hi hz0 hz1 hz2 rfl (by decide) v ts.length _ hs hown ⟨b,0,none⟩ 1 1 [.int .i64 t] hx rfl ?_ ?_ (by unfold maxLen;omega) (by omega) hbase ?_
 · intro j u hj
   have:j=0:=by
    rcases Nat.eq_zero_or_pos j with h | h
    · exact h
    · rw [List.getElem?_eq_none (by simp;omega)] at hj;cases hj
   subst this;simp at hj
   subst hj;exact hn
 · simp [Value.oneCell']
 · intro v' w' h1 h2 _
   refine h v' w' ?_ h2
   rw [List.length_append,List.map_append]
   exact h1
end
section
open Go.RowKit Lx Px Qx
def OfC (a:Int × Int)(l:Fo):Prop :=
 ∀ (w:World) (v:Value) (B r:Nat),FoV w B v l→B≤w.heap.size→Zit TFn 1 w r→Z05 a.1 a.2 (flen l)=true→wfF l →
  Calls Tryz.prog 176 #[.agg #[.int .i64 a.1,.int .i64 a.2,v],.map (some r)] w (TP (typE a l) w)
theorem Zit.on {F:World→Value→Int→Prop}{lo:Int}{w w':World}{r:Nat}(hF:∀ v op,F w v op→F w' v op)(h:Zit F lo w r)(hb:Below w.heap.size w w'):Zit F lo w' r:=by
 intro op h1 h2
 obtain ⟨L1,V,L2,hm,hn,hv⟩:=h op h1 h2
 exact ⟨L1,V,L2,hm.on hb,hn,hF _ _ hv⟩
def OfL (l:Fo)(w:World)(op n:Int)(av v i:Value)(wr:World):Prop :=
 ∃ (k:Nat) (ts:List Int),k≤flen l∧i=.int .i64 k∧ts.length=k∧(∀ j,j<k→ts.getD j 0=typE (getF l j).1 (getF l j).2∧ts.getD j 0≠0) ∧
  wr.ownsRow (w.heap.size+1) 3 1 v ts.length (ts.map (.int .i64))∧Below w.heap.size w wr∧w.heap.size<wr.heap.size∧wr.heap[w.heap.size]?=some (.cells #[.int .i64 op,.int .i64 n,av] 63 (0,0))
theorem Z5D {w w':World}{base e s n:Nat}{v:Value}{xs:List Value}(h:w.ownsRow base e s v n xs)(hb:Below w.heap.size w w'):w'.ownsRow base e s v n xs:=by
 obtain ⟨hl,hown⟩:=h
 refine ⟨hl,?_⟩
 rcases hown with h0 | ⟨g,cap,cur,hv,hg,hgk,rest⟩
 · exact .inl h0
 · exact .inr ⟨g,cap,cur,hv,hg,(hb.block g (zs hgk)).trans hgk,rest⟩
theorem Zmj (a:Int × Int)(l:Fo)(ih:∀ k,k<flen l→OfC (getF l k).1 (getF l k).2):OfC a l:=by
 intro w v B r hv hB hO hf hw
 obtain ⟨A,c,rfl,hA⟩:=hv
 obtain ⟨op,n⟩:=a
 obtain ⟨har,ho1,ho2⟩:=Z83 hf
 dsimp only at hf ho1 ho2 har
 have hfl:=Z4j hf;have hx:=za w (.cells #[.int .i64 op,.int .i64 n,.slice A (flen l) c] 63)
 have hb0:=(Below.refl w.heap.size w).alloc (zn _) (.cells #[.int .i64 op,.int .i64 n,.slice A (flen l) c] 63)
 have IH:=zh ih;have HO:=zh hO;have HW:=zh hw;have HA:=zh hA;have HF:=zh hf;have HX:=zh hx;have HB0:=zh hb0;have HAR:=zh har;clear ih hO hw hA hf hx hb0 har;go_enter Tryz.func176,Tryz.ntmps176
 go_wp2_with fail;go_loopw [5,11] (fun v i wr=>OfL l w op n (.slice A (flen l) c) v i wr) (fun _ i _=>flen l - (intOf i).toNat)
 case atStart=>exact ⟨0,[],Nat.zero_le _,rfl,rfl,fun j hj=>absurd hj (by omega),World.ownsRow_nil _ _ _ _,HB0.out,by simp,HX.out⟩
 case round =>
  obtain ⟨k,ts,hk,rfl,htl,hts,hown,hbl,hsz,hbx⟩:=hrel
  have HTS:=zh hts;have HOWN:=zh hown;have HTL:=zh htl;have HBX:=zh hbx;clear hts hown htl hbx;by_cases hkl:k<flen l
  · have hkeep:∀ p:Addr,p.block<B→wr.cell? p=w.cell? p:=fun p hp=>hbl.cell (by omega)
    obtain ⟨ad,A',c',rfl,hlo,t0,t1,t2,t3⟩:=FoAt.get l A 0 k (FoAt.keep hkeep l A 0 HA.out) hkl
    rw [Nat.zero_add] at t0 t1 t2
    have hrec:=IH.out k hkl
    obtain ⟨hwf1,hwf2⟩:=Ziq HW.out hkl
    have hno:=fun h=>Zis (a:=(op,n)) hkl h
    have htE:=Z96 (getF l k).1 (getF l k).2
    have hnew:∀ t,t=typE (getF l k).1 (getF l k).2→t≠0→∀ j,j<k+1→(ts++[t]).getD j 0=typE (getF l j).1 (getF l j).2∧(ts++[t]).getD j 0≠0:=by
     intro t ht h0 j hj
     have htl':=HTL.out
     by_cases hjk:j=k
     · subst hjk
       rw [← htl',List.getD_eq_getElem?_getD]
       simp only [List.getElem?_concat_length,Option.getD_some]
       rw [htl']
       exact ⟨ht,h0⟩
     · have:=HTS.out j (by omega)
       rw [List.getD_eq_getElem?_getD,List.getElem?_append_left (by omega),← List.getD_eq_getElem?_getD]
       exact this
    obtain ⟨⟨op',n'⟩,l',hel⟩:∃ a' l',getF l k=(a',l'):=⟨_,_,rfl⟩
    rw [hel] at t0 t1 t2 t3 hrec hwf1 hwf2 hno hnew htE
    dsimp only at t0 t1 t2 t3 hrec hwf1 hwf2 hno hnew htE
    obtain ⟨t,hte⟩:∃ t,t=typE (op',n') l':=⟨_,rfl⟩
    rw [← hte] at hno hnew htE
    have hb2:(ad.add (k*3)).block<wr.heap.size:=by rw [Z19];omega
    have HTE:=zh hte;have HRC:=zh hrec;have W1:=zh hwf1;have W2:=zh hwf2;have HNO:=zh hno;have HNEW:=zh hnew;have HEL:=zh hel;have T3:=zh t3;clear hte hrec hwf1 hwf2 hno hnew hel t3 hkeep HTS;have ha:=(Below.refl wr.heap.size wr).alloc (zn _) (.cells #[.int .i64 op',.int .i64 n',.slice A' (flen l') c'] 63)
    have hba:=Z00 hbl ha
    have hO2:=HO.out.on (fun v op h=>TFn.on h hba) hba
    have hown2:=Z5D HOWN.out ha
    have hbx2:=(ha.block _ hsz).trans HBX.out
    have hF2:=FoAt.keep (fun p hp=>ha.cell (by omega)) l' A' 0 T3.out
    have hz2:wr.heap.size<(wr.alloc (.cells #[.int .i64 op',.int .i64 n',.slice A' (flen l') c'] 63)).heap.size:=by simp
    have HA1:=zh ha;have HBA:=zh hba;have HO2:=zh hO2;have HOWN2:=zh hown2;have HBX2:=zh hbx2;have HF2:=zh hF2;clear ha hba hO2 hown2 hbx2 hF2;go_wp2_with fail;generalize wr.alloc (.cells #[.int .i64 op',.int .i64 n',.slice A' (flen l') c'] 63)=W3 at *
    refine (HRC.out W3 (.slice A' (flen l') c') B r ⟨A',c',rfl,HF2.out⟩ (by omega) HO2.out W1.out W2.out).mono ?_
    intro e w9 ht'
    have ht:TP t W3 e w9:=by rw [HTE.out];exact ht'
    clear ht';by_cases h0:t=0
    · subst h0
      obtain ⟨hb9,rfl⟩:=ht.no
      have hr:=HNO.out rfl
      have HR:=zh hr;clear hr;go_wp2_with fail;rw [HR.out]
      exact ⟨rfl,Z00 HBA.out hb9,.inr ⟨rfl,rfl⟩⟩
    · obtain ⟨hb9,rfl⟩:=ht.yes h0
      have hown3:=Z5D HOWN2.out hb9
      have hbx3:=(hb9.block _ (by omega)).trans HBX2.out
      have hb3:=Z00 HBA.out hb9
      have hz3:=hb9.size
      have hnx:=HNEW.out t rfl h0
      clear ht;have HOWN3:=zh hown3;have HBX3:=zh hbx3;have HB3:=zh hb3;have HNX:=zh hnx;have H0:=zh h0;clear hown3 hbx3 hb3 hnx h0 HOWN2 HBX2 HBA HO2 HF2 HNEW hb9;go_wp2_with (at_builtin;refine Z4D _ rfl _ _ rfl (w.heap.size+1) _ ts rfl (HOWN3.out.alloc _) w9.heap.size t rfl (by simp [go_sem]) (by have:=HTL.out;omega) (by simp;omega) ?_;intro v' w5 hown' hgrow)
      have hob:∀ g,u5.ownBlock=some g→w.heap.size+1≤g:=fun g e=>(HOWN3.out.lt g e).1
      have hb5:Below w.heap.size w w5:=(HB3.out.alloc (by omega) (.cells #[.int .i64 t] 3)).grown hgrow (by simp;omega) (fun g e=>by have:=hob g e;omega)
      have hx5:=(hgrow.block w.heap.size (by simp;omega) (fun e=>by have:=hob _ e.symm;omega)).trans (Z0z HBX3.out _)
      have hs5:w.heap.size<w5.heap.size:=by have:=hgrow.size;simp at this;omega
      go_roundw
      case rel=>exact ⟨k+1,ts++[t],by omega,by go_num,by rw [List.length_append,HTL.out];rfl,HNX.out,hown',hb5,hs5,hx5⟩
      case measure=>simp [intOf];omega
  · have hke:k=flen l:=by omega
    subst hke;have hE:typE (op,n) l=opL op ts:=Zir HTL.out HTS.out
    have hge:∀ t∈ts,1≤t∧t≤3:=by
     intro t ht
     obtain ⟨j,hj,rfl⟩:=List.getElem_of_mem ht
     have h1:=HTS.out j (by have:=HTL.out;omega)
     have h2:=Z96 (getF l j).1 (getF l j).2
     rw [← h1.1] at h2
     rw [List.getD_eq_getElem?_getD,List.getElem?_eq_getElem hj,Option.getD_some] at h1 h2
     omega
    have hO2:=HO.out.on (fun v op h=>TFn.on h hbl) hbl
    obtain ⟨L1,V,L2,hm,hn,g,cap,rfl,hcf,hcall⟩:=hO2 op ho1 ho2
    have hlk:=Z9H Tryz.underlying226 Tryz.underlying3 hm hn
    have hv:=Z02.own HOWN.out rfl
    obtain ⟨A5,c5,rfl,hA5⟩:=hv
    have hc:=hcall wr A5 c5 wr.heap.size ts (Below.refl _ _) (HTL.out.trans HAR.out) hge ⟨A5,c5,rfl,hA5⟩
    have x0:wr.cell? ⟨w.heap.size,0,none⟩=some (.int .i64 op):=by rw [zc HBX.out];rfl
    rw [← hE] at hc
    have dl:decide ((flen l:Int)<(flen l:Int))=false:=by simp
    have HC:=zh hc;have HE:=zh hE;clear hc hE hA5 hm hn hO2 hge hcall HOWN HTS HTL HBX IH HF;go_wp2_with fail;refine HC.out.mono ?_
    intro e w9 ht
    rcases ht with ⟨hb9,⟨h0,rfl⟩ | ⟨h0,rfl⟩⟩
    · have H0:=zh h0
      clear h0;go_wp2_with fail;go_ret
      exact ⟨Z00 hbl hb9,.inl ⟨H0.out,rfl⟩⟩
    · have H0:=zh h0
      clear h0;go_wp2_with fail;exact ⟨rfl,Z00 hbl hb9,.inr ⟨H0.out,rfl⟩⟩
theorem of_all (f:Fo):∀ k,k<flen f→OfC (getF f k).1 (getF f k).2:=by
 induction f with
 | nil=>intro k h;simp [flen] at h
 | node b o a l r ihl ihr =>
  intro k h
  cases k with
  | zero=>exact Zmj a l ihl
  | succ k=>exact ihr k (by simp [flen] at h;omega)
theorem of_any (a:Int × Int)(l:Fo):OfC a l:=Zmj a l (of_all l)
end
section
open Go.RowKit Lx Px Qx
theorem Z4v {P:Program}{c:Code}{Q:Exit→Act→List Frame→World→Prop}{a:Act}{cs:List Frame}{w:World}(R:Act→World→Prop)(h:c.wp P (fun e a' w'=>e=.normal∧R a' w') a w)(hR:∀ a' w',R a' w'→Q .normal a' cs w'):c.wpS P Q a cs w :=
 wpS_of_wp (Code.wp_mono (fun e a' w' h=>by obtain ⟨he,hr⟩:=h;subst he;exact hR a' w' hr) h)
def InfB (w:World)(t e:Int)(wx:World):Prop :=
 wx.heap[w.heap.size+1]?=some (.cells #[.int .i64 t] 3 (0,0))∧wx.heap[w.heap.size+2]?=some (.cells #[.int .i64 e] 35 (0,0))∧Below w.heap.size w wx
theorem InfB.on {w wx wy:World}{t e:Int}(h:InfB w t e wx)(hb:Below wx.heap.size wx wy):InfB w t e wy :=
 ⟨(hb.block _ (zs h.1)).trans h.1,(hb.block _ (zs h.2.1)).trans h.2.1,Z00 h.2.2 hb⟩
theorem Z5E {w:World}{b:Nat}{x:Value}{ty:TypeId}(h:w.heap[b]?=some (.cells #[x] ty (0,0)))(y:Value):(w.setCell ⟨b,0,none⟩ y).heap[b]?=some (.cells #[y] ty (0,0)):=by
 simp [World.setCell,Array.getElem?_modify,h]
theorem Z0m {w:World}{b:Nat}{x:Value}{ty:TypeId}(h:w.heap[b]?=some (.cells #[x] ty (0,0))):w.cell? ⟨b,0,none⟩=some x:=by rw [zc h];rfl
theorem InfB.set {w wx:World}{t e:Int}(h:InfB w t e wx)(t' e':Int):InfB w t' e' ((wx.setCell ⟨w.heap.size+1,0,none⟩ (.int .i64 t')).setCell ⟨w.heap.size+2,0,none⟩ (.int .i64 e')):=by
 refine ⟨?_,?_,?_⟩
 · rw [Below.heap_setCell _ _ _ _ (by show w.heap.size+1≠w.heap.size+2;omega)]
   exact Z5E h.1 _
 · refine Z5E (x:=.int .i64 e) ?_ _
   rw [Below.heap_setCell _ _ _ _ (by show w.heap.size+2≠w.heap.size+1;omega)]
   exact h.2.1
 · exact (h.2.2.setCell (p:=⟨w.heap.size+1,0,none⟩) (by show w.heap.size≤w.heap.size+1;omega) _).setCell (p:=⟨w.heap.size+2,0,none⟩) (by show w.heap.size≤w.heap.size+2;omega) _
theorem Z3A (w wx:World)(t e:Int)(h:InfB w t e wx) :
 CallsD Tryz.prog 175 #[.pointer (some ⟨w.heap.size+1,0,none⟩),.pointer (some ⟨w.heap.size+1+1,0,none⟩)] (.panicking [Z6f]) wx fun en u' w' =>
  en=.returned (.tuple #[])∧u'=.panicking [{ Z6f with recovered:=true }]∧InfB w 0 20 w':=by
 refine callsD_of_wpS Tryz.func175 rfl fun c₀ cs hu=>?_
 unfold Z6f at hu ⊢
 apply wpS_seq
 apply wpS_region
 simp [wpOpsS,go_sem,recoverD,hu,Tryz.ntmps175,Exit.thenS]
 refine Z4v (fun a' w'=>a'.defers=[]∧InfB w 0 20 w') ?_ ?_
 · have htm:∀ V:Value,(#[Value.pointer (some ⟨w.heap.size+1,0,none⟩),Value.pointer (some ⟨w.heap.size+1+1,0,none⟩)]++(Array.replicate 9 undef).setIfInBounds 3 V)=#[Value.pointer (some ⟨w.heap.size+1,0,none⟩),Value.pointer (some ⟨w.heap.size+1+1,0,none⟩),undef,undef,undef,V,undef,undef,undef,undef,undef]:=fun _=>by kernel_rfl
   rw [htm]
   have hta:∀ w:World,(Instr.typeAssert (.iface 224 (.agg #[])) 20 224 true).run Tryz.prog w=.ok (.tuple #[.agg #[],.bool true]) w:=fun _=>by kernel_rfl
   have ha:=(Below.refl wx.heap.size wx).alloc (zn _) (.cells #[] 224)
   have h2:=h.on ha
   have H2:=zh h2;clear h2 hu htm h ha;go_upto_region 7 with fail
   clear hta;generalize wx.alloc (.cells #[] 224)=W at *
   obtain ⟨k1,k2,kb⟩:=H2.out
   have a0:W.cell? ⟨w.heap.size+1,0,none⟩=some (.int .i64 t):=by rw [zc k1];rfl
   have a1:W.cell? ⟨w.heap.size+2,0,none⟩=some (.int .i64 e):=by rw [zc k2];rfl
   have a2:W.frozen? ⟨w.heap.size+1,0,none⟩=false:=by simp [World.frozen?,k1]
   have a3:W.frozen? ⟨w.heap.size+2,0,none⟩=false:=by simp [World.frozen?,k2]
   have hS:=H2.out.set 0 20
   have HS:=zh hS;clear hS k1 k2 kb H2;go_wp2_with fail;exact HS.out
 · rintro a' w' ⟨hd,hS⟩
   cases c₀
   simp_all [bodyPostS,results,Tryz.results175]
theorem Z85 (p q:Addr)(w:World) :
 CallsD Tryz.prog 175 #[.pointer (some p),.pointer (some q)] .returning w fun e u' w'=>e=.returned (.tuple #[])∧u'=.returning∧w'=w:=by
 refine callsD_of_wpS Tryz.func175 rfl fun c₀ cs hu=>?_
 apply wpS_seq
 apply wpS_region
 simp [wpOpsS,go_sem,recoverD,hu,Tryz.ntmps175,Exit.thenS]
 refine Z4v (fun a' w'=>a'.defers=[]∧w'=w) ?_ ?_
 · have htm:∀ V:Value,(#[Value.pointer (some p),Value.pointer (some q)]++(Array.replicate 9 undef).setIfInBounds 3 V)=#[Value.pointer (some p),Value.pointer (some q),undef,undef,undef,V,undef,undef,undef,undef,undef]:=fun _=>by kernel_rfl
   rw [htm]
   clear htm hu;go_wp2_with fail
 · rintro a' w' ⟨hd,rfl⟩
   cases c₀
   simp_all [bodyPostS,results,Tryz.results175]
theorem ZkB (w:World)(cs:Array Value)(t:TypeId):InfB w 0 0 (((w.alloc (.cells cs t)).alloc (.cells #[.int .i64 0] 3)).alloc (.cells #[.int .i64 0] 35)):=by
 refine ⟨?_,?_,(((Below.refl _ _).alloc (zn _) _).alloc (by simp) _).alloc (by simp;omega) _⟩
 · rw [Below.heap_alloc _ _ _ (by simp)]
   have:=za (w.alloc (.cells cs t)) (.cells #[.int .i64 0] 3)
   simpa using this
 · have:=za ((w.alloc (.cells cs t)).alloc (.cells #[.int .i64 0] 3)) (.cells #[.int .i64 0] 35)
   simpa using this
def Z3b (a:Int × Int)(l:Fo):Int × Int:=if Z0d a.1 a.2 l then (typE a l,if typE a l=0 then 20 else 0) else (0,1)
def InferP (a:Int × Int)(l:Fo)(w:World)(e:Ending)(w':World):Prop:=e=.returned (.tuple #[.int .i64 (Z3b a l).1,.int .i64 (Z3b a l).2])∧Below w.heap.size w w'
theorem Zbs (op n:Int)(l:Fo)(v:Value)(w:World)(hv:FoV w w.heap.size v l):Calls Tryz.prog 132 #[.agg #[.int .i64 op,.int .i64 n,v]] w (InferP (op,n) l w):=by
 obtain ⟨A,c,rfl,hA⟩:=hv
 have hmf:∀ (fn:Fn) (first cap:Array Value) (w:World),(Instr.makeFunc fn first cap).run Tryz.prog w=.ok (.func fn first cap) w:=fun _ _ _ _=>rfl
 have hI:=ZkB w #[.int .i64 op,.int .i64 n,.slice A (flen l) c] 63
 have hx:((((w.alloc (.cells #[.int .i64 op,.int .i64 n,.slice A (flen l) c] 63)).alloc (.cells #[.int .i64 0] 3)).alloc (.cells #[.int .i64 0] 35))).heap[w.heap.size]?=some (.cells #[.int .i64 op,.int .i64 n,.slice A (flen l) c] 63 (0,0)):=by
  rw [Below.heap_alloc _ _ _ (by simp;omega),Below.heap_alloc _ _ _ (by simp)]
  exact za w _
 have hF:FoAt (((w.alloc (.cells #[.int .i64 op,.int .i64 n,.slice A (flen l) c] 63)).alloc (.cells #[.int .i64 0] 3)).alloc (.cells #[.int .i64 0] 35)) w.heap.size l A 0:=FoAt.keep (fun p hp=>hI.2.2.cell hp) l A 0 hA
 have HI:=zh hI;have HX:=zh hx;have HF:=zh hF;clear hI hx hF hA;go_enter_defers Tryz.func132,Tryz.ntmps132
 go_wp2_with fail;generalize ((w.alloc (.cells #[.int .i64 op,.int .i64 n,.slice A (flen l) c] 63)).alloc (.cells #[.int .i64 0] 3)).alloc (.cells #[.int .i64 0] 35)=W at *
 have hsz:=HI.out.2.2.size
 refine (Z2D op n l (.slice A (flen l) c) W ⟨A,c,rfl,FoAt.up hsz l A 0 HF.out⟩).mono ?_
 rintro e w2 ⟨rfl,hb2⟩;have hI2:=HI.out.on hb2
 have hx2:=(hb2.block _ (zs HX.out)).trans HX.out
 have hF2:=FoAt.keep (fun p hp=>hb2.cell (by omega)) l A 0 HF.out
 have hs2:=hb2.size
 clear hb2;have I2:=zh hI2;have X2:=zh hx2;have F2:=zh hF2;clear hI2 hx2 hF2 HI HX HF;cases hvb:Z0d op n l with
 | false =>
  have hr:Z3b (op,n) l=(0,1):=by simp [Z3b,hvb]
  obtain ⟨k1,k2,kb⟩:=I2.out
  have a0:w2.cell? ⟨w.heap.size+1,0,none⟩=some (.int .i64 0):=by rw [zc k1];rfl
  have a1:w2.cell? ⟨w.heap.size+2,0,none⟩=some (.int .i64 0):=by rw [zc k2];rfl
  have a2:w2.frozen? ⟨w.heap.size+1,0,none⟩=false:=by simp [World.frozen?,k1]
  have a3:w2.frozen? ⟨w.heap.size+2,0,none⟩=false:=by simp [World.frozen?,k2]
  have hS:=I2.out.set 0 1
  have HR:=zh hr;have HS:=zh hS;clear hr hS k1 k2 kb I2 hvb hmf;go_wp2_with fail;obtain ⟨k1,k2,kb⟩:=HS.out
  have q1:=Z0m k1;have q2:=Z0m k2;refine ⟨.tuple #[.int .i64 0,.int .i64 1],by simp [results,Tryz.results132,go_sem,q1,q2],?_,kb⟩
  rw [HR.out]
 | true =>
  obtain ⟨hf,hw⟩:=Z5A hvb
  have hr:Z3b (op,n) l=(typE (op,n) l,if typE (op,n) l=0 then 20 else 0):=by simp [Z3b,hvb]
  have x0:w2.cell? ⟨w.heap.size,0,none⟩=some (.int .i64 op):=by rw [zc X2.out];rfl
  have x1:w2.cell? ⟨w.heap.size,1,none⟩=some (.int .i64 n):=by rw [zc X2.out];rfl
  have x2:w2.cell? ⟨w.heap.size,2,none⟩=some (.slice A (flen l) c):=by rw [zc X2.out];rfl
  have HR:=zh hr;have HFM:=zh hf;have HW:=zh hw;have HVB:=zh hvb;clear hr hf hw hvb;go_wp2_with fail;clear hmf;have hof:=fun W r=>of_any (op,n) l W (.slice A (flen l) c) w.heap.size r
  refine wp_region_any (by kernel_rfl) ?_
  try (change wpAny _ _ _ _ _ _ _ (World.drew _))
  have X3:w2.drew.cell? ⟨w.heap.size,0,none⟩=some (.int .i64 op):=x0
  have Y3:w2.drew.cell? ⟨w.heap.size,1,none⟩=some (.int .i64 n):=x1
  have Z3:w2.drew.cell? ⟨w.heap.size,2,none⟩=some (.slice A (flen l) c):=x2
  have B3:Below w2.heap.size w2 w2.drew:=(Below.refl _ _).drew
  have S3:w.heap.size<w2.drew.heap.size:=(zs X2.out)
  have G3:=I2.out.on B3
  have F3:=FoAt.keep (fun p hp=>B3.cell (by omega)) l A 0 F2.out
  have GG:=zh G3;have FF:=zh F3;clear G3 F3 x0 x1 x2 I2 X2 F2 B3;generalize w2.drew=w3 at *
  refine wpAny_ready (rs:=[0,1]) (by kernel_rfl) (by simp) ?_
  refine AllReady.cons rfl (fun K hK=>?_) ?_
  · go_simp
    refine hK _ _ ?_
    clear hK K;refine wpAny_ready (rs:=[1]) (by kernel_rfl) (by simp) ?_
    refine AllReady.cons rfl (fun K hK=>?_) AllReady.nil
    go_simp
    refine (Ze6 w3).mono ?_
    rintro e w4 ⟨r,rfl,hO,hr,hb4⟩;have x4:=(hb4.cell (p:=⟨w.heap.size,0,none⟩) S3).trans X3
    have y4:=(hb4.cell (p:=⟨w.heap.size,1,none⟩) S3).trans Y3
    have z4:=(hb4.cell (p:=⟨w.heap.size,2,none⟩) S3).trans Z3
    have i4:=GG.out.on hb4
    have f4:=FoAt.keep (fun p hp=>hb4.cell (by omega)) l A 0 FF.out
    have s4:=hb4.size
    have HO:=zh hO;have I4:=zh i4;have F4:=zh f4;clear hO i4 f4 X3 Y3 Z3 GG FF hb4;refine hK _ _ ?_
    clear hK K;refine wpAny_ready (rs:=[2]) (by kernel_rfl) (by simp) ?_
    refine AllReady.cons rfl (fun K hK=>?_) AllReady.nil
    go_simp
    refine (hof w4 r ⟨A,c,rfl,F4.out⟩ (by omega) HO.out HFM.out HW.out).mono ?_
    intro e w5 ht
    have i5:=I4.out.on ht.1
    by_cases h0:typE (op,n) l=0
    · rw [h0] at ht
      obtain ⟨hb5,rfl⟩:=ht.no
      have hR:Z3b (op,n) l=(0,20):=by rw [HR.out,h0];rfl
      refine leaves_cons (f:=175) (args:=#[.pointer (some ⟨w.heap.size+1,0,none⟩),.pointer (some ⟨w.heap.size+1+1,0,none⟩)]) (by simp) (by simp [go_sem]) ?_
      refine (Z3A w w5 0 0 i5).mono ?_
      rintro en u' w6 ⟨rfl,rfl,k1,k2,kb⟩
      have q1:=Z0m k1;have q2:=Z0m k2;refine ⟨.tuple #[.int .i64 0,.int .i64 20],by simp [results,Tryz.results132,go_sem,q1,q2],?_,kb⟩
      rw [hR]
    · obtain ⟨hb5,rfl⟩:=ht.yes h0
      have hR:Z3b (op,n) l=(typE (op,n) l,0):=by rw [HR.out,if_neg h0]
      generalize typE (op,n) l=t at *
      have i6:=i5.set t 0
      obtain ⟨j1,j2,jb⟩:=i5
      have a0:=Z0m j1;have a1:=Z0m j2;have a2:w5.frozen? ⟨w.heap.size+1,0,none⟩=false:=by simp [World.frozen?,j1]
      have a3:w5.frozen? ⟨w.heap.size+2,0,none⟩=false:=by simp [World.frozen?,j2]
      clear j1 j2 jb ht h0 HR hof;refine hK _ _ ?_
      clear hK K;refine wpAny_ready (rs:=[3]) (by kernel_rfl) (by simp) ?_
      refine AllReady.cons rfl (fun K hK=>?_) AllReady.nil
      go_simp
      refine hK _ _ ?_
      clear hK K;refine wpAny_ready (rs:=[4]) (by kernel_rfl) (by simp) ?_
      refine AllReady.cons rfl (fun K hK=>?_) AllReady.nil
      go_simp
      refine hK _ _ ?_
      clear hK K;refine wpAny_done (by kernel_rfl) ?_ _
      go_wp2_with fail;refine leaves_cons (f:=175) (args:=#[.pointer (some ⟨w.heap.size+1,0,none⟩),.pointer (some ⟨w.heap.size+1+1,0,none⟩)]) (by simp) (by simp [go_sem]) ?_
      refine (Z85 _ _ _).mono ?_
      rintro en u' w6 ⟨rfl,rfl,rfl⟩
      obtain ⟨k1,k2,kb⟩:=i6
      have q1:=Z0m k1;have q2:=Z0m k2;refine ⟨.tuple #[.int .i64 t,.int .i64 0],by simp [results,Tryz.results132,go_sem,q1,q2],?_,kb⟩
      rw [hR]
  · refine AllReady.cons rfl (fun K hK=>?_) AllReady.nil
    go_simp
    refine (Ze6 w3).mono ?_
    rintro e w4 ⟨r,rfl,hO,hr,hb4⟩;have x4:=(hb4.cell (p:=⟨w.heap.size,0,none⟩) S3).trans X3
    have y4:=(hb4.cell (p:=⟨w.heap.size,1,none⟩) S3).trans Y3
    have z4:=(hb4.cell (p:=⟨w.heap.size,2,none⟩) S3).trans Z3
    have i4:=GG.out.on hb4
    have f4:=FoAt.keep (fun p hp=>hb4.cell (by omega)) l A 0 FF.out
    have s4:=hb4.size
    have HO:=zh hO;have I4:=zh i4;have F4:=zh f4;clear hO i4 f4 X3 Y3 Z3 GG FF hb4;refine hK _ _ ?_
    clear hK K;refine wpAny_ready (rs:=[0]) (by kernel_rfl) (by simp) ?_
    refine AllReady.cons rfl (fun K hK=>?_) AllReady.nil
    go_simp
    refine hK _ _ ?_
    clear hK K;refine wpAny_ready (rs:=[2]) (by kernel_rfl) (by simp) ?_
    refine AllReady.cons rfl (fun K hK=>?_) AllReady.nil
    go_simp
    refine (hof w4 r ⟨A,c,rfl,F4.out⟩ (by omega) HO.out HFM.out HW.out).mono ?_
    intro e w5 ht
    have i5:=I4.out.on ht.1
    by_cases h0:typE (op,n) l=0
    · rw [h0] at ht
      obtain ⟨hb5,rfl⟩:=ht.no
      have hR:Z3b (op,n) l=(0,20):=by rw [HR.out,h0];rfl
      refine leaves_cons (f:=175) (args:=#[.pointer (some ⟨w.heap.size+1,0,none⟩),.pointer (some ⟨w.heap.size+1+1,0,none⟩)]) (by simp) (by simp [go_sem]) ?_
      refine (Z3A w w5 0 0 i5).mono ?_
      rintro en u' w6 ⟨rfl,rfl,k1,k2,kb⟩
      have q1:=Z0m k1;have q2:=Z0m k2;refine ⟨.tuple #[.int .i64 0,.int .i64 20],by simp [results,Tryz.results132,go_sem,q1,q2],?_,kb⟩
      rw [hR]
    · obtain ⟨hb5,rfl⟩:=ht.yes h0
      have hR:Z3b (op,n) l=(typE (op,n) l,0):=by rw [HR.out,if_neg h0]
      generalize typE (op,n) l=t at *
      have i6:=i5.set t 0
      obtain ⟨j1,j2,jb⟩:=i5
      have a0:=Z0m j1;have a1:=Z0m j2;have a2:w5.frozen? ⟨w.heap.size+1,0,none⟩=false:=by simp [World.frozen?,j1]
      have a3:w5.frozen? ⟨w.heap.size+2,0,none⟩=false:=by simp [World.frozen?,j2]
      clear j1 j2 jb ht h0 HR hof;refine hK _ _ ?_
      clear hK K;refine wpAny_ready (rs:=[3]) (by kernel_rfl) (by simp) ?_
      refine AllReady.cons rfl (fun K hK=>?_) AllReady.nil
      go_simp
      refine hK _ _ ?_
      clear hK K;refine wpAny_ready (rs:=[4]) (by kernel_rfl) (by simp) ?_
      refine AllReady.cons rfl (fun K hK=>?_) AllReady.nil
      go_simp
      refine hK _ _ ?_
      clear hK K;refine wpAny_done (by kernel_rfl) ?_ _
      go_wp2_with fail;refine leaves_cons (f:=175) (args:=#[.pointer (some ⟨w.heap.size+1,0,none⟩),.pointer (some ⟨w.heap.size+1+1,0,none⟩)]) (by simp) (by simp [go_sem]) ?_
      refine (Z85 _ _ _).mono ?_
      rintro en u' w6 ⟨rfl,rfl,rfl⟩
      obtain ⟨k1,k2,kb⟩:=i6
      have q1:=Z0m k1;have q2:=Z0m k2;refine ⟨.tuple #[.int .i64 t,.int .i64 0],by simp [results,Tryz.results132,go_sem,q1,q2],?_,kb⟩
      rw [hR]
end
end Go.Proofs.YtnepkoepbapgeaaGreatDoor
