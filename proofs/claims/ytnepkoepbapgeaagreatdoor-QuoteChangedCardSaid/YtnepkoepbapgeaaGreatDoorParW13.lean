/-
  Several texts in one: ParSam, ParSams, ParW12, ParW13.
-/
import Derived.Test.YtnepkoepbapgeaaGreatDoorQuoPlain
import Derived.Test.YtnepkoepbapgeaaGreatDoorPrtTwo
import Derived.Test.YtnepkoepbapgeaaGreatDoorPrtRead
import Derived.Test.YtnepkoepbapgeaaGreatDoorParHd0
namespace Go.Proofs.YtnepkoepbapgeaaGreatDoor
set_option maxHeartbeats 8000000
set_option maxRecDepth 100000
section
open Go.RowKit Lx Px
end
section
open Go.RowKit Lx Px
end
section
open Go.RowKit Lx Px
def Rh (w:World)(wx:World):Prop :=
 wx.heap[w.heap.size]?=some (.cells #[.int .i64 0] 35 (0,0))∧wx.heap[w.heap.size+1]?=some (.cells #[.int .i64 0] 3 (0,0))∧Below w.heap.size w wx
theorem Rh.keep {w wx wy:World}(h:Rh w wx)(hb:Below w.heap.size w wy)(h0:wy.heap[w.heap.size]?=wx.heap[w.heap.size]?)(h1:wy.heap[w.heap.size+1]?=wx.heap[w.heap.size+1]?):Rh w wy :=
 ⟨h0.trans h.1,h1.trans h.2.1,hb⟩
theorem Rh.but {w wx wy:World}(h:Rh w wx)(hb:But (w.heap.size+2) wx wy):Rh w wy:=by
 obtain ⟨h1,h2,h3⟩:=h
 have l2:w.heap.size+1<wx.heap.size:=(zs h2)
 exact ⟨(hb.block _ (by omega) (by omega)).trans h1,(hb.block _ l2 (by omega)).trans h2,
  h3.trans ⟨hb.os,hb.tape,hb.output,hb.size,fun k hk=>hb.block k (by omega) (by omega)⟩⟩
def RatesP (w:World)(a:AllR)(e:Ending)(w':World):Prop :=
 Below w.heap.size w w'∧(match a with
  | .ok l=>∃ v,e=.returned (.tuple #[v,.int .i64 0,.int .i64 0])∧RtsV w' w'.heap.size v (l.map Rr.rt)
  | .err er ln=>∃ v,e=.returned (.tuple #[v,.int .i64 er,.int .i64 ln]))
theorem rh_new (w:World)(v:Value):Rh w (((w.alloc (.cells #[.int .i64 0] 35)).alloc (.cells #[.int .i64 0] 3)).alloc (.cells #[v,.int .i64 0] 174)) ∧
 (((w.alloc (.cells #[.int .i64 0] 35)).alloc (.cells #[.int .i64 0] 3)).alloc (.cells #[v,.int .i64 0] 174)).heap[w.heap.size+2]?=some (.cells #[v,.int .i64 0] 174 (0,0)):=by
 refine ⟨⟨?_,?_,(((Below.refl _ _).alloc (zn _) _).alloc (by simp) _).alloc (by simp;omega) _⟩,?_⟩
 · rw [Below.heap_alloc _ _ _ (by simp;omega),Below.heap_alloc _ _ _ (by simp)]
   exact za w _
 · rw [Below.heap_alloc _ _ _ (by simp)]
   have:=za (w.alloc (.cells #[.int .i64 0] 35)) (.cells #[.int .i64 0] 3)
   simpa using this
 · have:=za ((w.alloc (.cells #[.int .i64 0] 35)).alloc (.cells #[.int .i64 0] 3)) (.cells #[v,.int .i64 0] 174)
   simpa using this
theorem PI.low {w w':World}{pb k:Nat}{v:Value}{ts:List Tok}(h:PI w pb v ts k)(hb:Below (pb+1) w w'):PI w' pb v ts k :=
 ⟨(hb.block _ (by omega)).trans h.1,h.2.1.below (hb.mono (by omega)),h.2.2.1,h.2.2.2.1,h.2.2.2.2.1,h.2.2.2.2.2.on (hb.mono (by omega))⟩
theorem Rh.low {w wx wy:World}(h:Rh w wx)(hb:Below (w.heap.size+3) wx wy):Rh w wy :=
 h.keep (h.2.2.trans (hb.mono (by omega))) (hb.block _ (by omega)) (hb.block _ (by omega))
theorem Zgr {w wx w':World}(h:Rh w wx){er ln:Int}(hs:Set2 w.heap.size (w.heap.size+1) er ln wx w') :
 w'.heap[w.heap.size]?=some (.cells #[.int .i64 er] 35 (0,0))∧w'.heap[w.heap.size+1]?=some (.cells #[.int .i64 ln] 3 (0,0))∧Below w.heap.size w w':=by
 obtain ⟨h1,h2,h3⟩:=h
 obtain ⟨s1,s2,s3,s4,s5,s6,s7⟩:=hs
 have l2:w.heap.size+1<wx.heap.size:=(zs h2)
 exact ⟨s1,s2,h3.trans ⟨s5,s6,s7,s4,fun k hk=>s3 k (by omega) (by omega) (by omega)⟩⟩
def RL (w:World)(tv:Value)(ts:List Tok)(ex:Nat→Out)(R:AllR)(v:Value)(wr:World):Prop :=
 ∃ (k:Nat) (acc:List Rr),acc.length≤k∧PI wr (w.heap.size+2) tv ts k∧Rh w wr∧OwnR wr (w.heap.size+3) v (acc.map Rr.rt)∧Z1r ex ts (ts.length - k) k acc=R
theorem toL (l:Bytes):(mk l).toList=l:=by rw [ByteArray.toList_eq];rfl
theorem toL_eq (l:Bytes):((mk l).toList==l)=true:=by rw [toL];simp
theorem toL_ne {l m:Bytes}(h:l≠m):((mk l).toList==m)=false:=by rw [toL];exact beq_eq_false_iff_ne.2 h
theorem Zmw (l:List Rr)(A:Option Addr)(c:Nat):Value.slice A (l.map Rr.rt).length c=.slice A l.length c:=by rw [List.length_map]
theorem Zgs (w:World)(v:Value)(ts:List Tok)(hS:Sl w w.heap.size v ts)(hlen:ts.length≤1000000)(hK:Knd ts)(hM:Mx w w.heap.size) :
 Calls Tryz.prog 83 #[v] w (RatesP w (allO (exOf ts) ts)):=by
 obtain ⟨A0,c0,rfl,_⟩:=id hS
 have hrd:=Z4e ts;have hex:=Zj2 (w.heap.size+2) (.slice A0 ts.length c0) ts
 generalize exOf ts=ex at *
 obtain ⟨hw3,hp3⟩:=rh_new w (.slice A0 ts.length c0)
 have P3:PI (((w.alloc (.cells #[.int .i64 0] 35)).alloc (.cells #[.int .i64 0] 3)).alloc (.cells #[.slice A0 ts.length c0,.int .i64 0] 174)) (w.heap.size+2) (.slice A0 ts.length c0) ts 0 :=
  ⟨hp3,(hS.below hw3.2.2).mono (by omega),Nat.zero_le _,hlen,hK,by obtain ⟨m,h1,h2⟩:=hM.on hw3.2.2;exact ⟨m,h1,by omega⟩⟩
 have HW:=zh hw3;have HP:=zh P3;have HRD:=zh hrd;have HEX:=zh hex;have hbad:∀ (er ln:Int) (w':World),Rh w w'→CallsD Tryz.prog 119 #[.pointer (some ⟨w.heap.size,0,none⟩),.pointer (some ⟨w.heap.size+1,0,none⟩)] (.panicking [{ v:=.iface 177 (.agg #[.int .i64 er,.int .i64 ln]),recovered:=false }]) w' fun e u' w'' =>
  e=.returned (.tuple #[])∧u'=.panicking [{ v:=.iface 177 (.agg #[.int .i64 er,.int .i64 ln]),recovered:=true }]∧w''.heap[w.heap.size]?=some (.cells #[.int .i64 er] 35 (0,0))∧w''.heap[w.heap.size+1]?=some (.cells #[.int .i64 ln] 3 (0,0))∧Below w.heap.size w w'':=by
  intro er ln w' hw
  refine (Z6x w.heap.size (w.heap.size+1) 0 0 er ln [] w' (by omega) hw.1 hw.2.1).mono ?_
  rintro e u' w'' ⟨rfl,rfl,hs⟩
  exact ⟨rfl,rfl,Zgr hw hs⟩
 have HBAD:=zh hbad;obtain ⟨R,hR⟩:∃ R,allO ex ts=R:=⟨_,rfl⟩
 rw [hR]
 have HR:=zh hR;obtain ⟨i0,hi,hz0,hz1,hz2⟩:=info_parts Tryz.infoRate
 have hI:=zh hi;have hZ0:=zh hz0;have hZ1:=zh hz1;have hZ2:=zh hz2;clear hi hz0 hz1 hz2 hw3 hp3 P3 hS hM hK hrd hex hbad hR;go_enter_defers Tryz.func83,Tryz.ntmps83
 go_wp2_with fail;generalize ((w.alloc (.cells #[.int .i64 0] 35)).alloc (.cells #[.int .i64 0] 3)).alloc (.cells #[.slice A0 ts.length c0,.int .i64 0] 174)=W3 at *
 go_loopw [2] (fun v wr=>RL w (.slice A0 ts.length c0) ts ex R v wr) (fun _ wr=>ts.length - Zap (w.heap.size+2) wr)
 case atStart=>exact ⟨0,[],Nat.zero_le _,HP.out,HW.out,OwnR.nil _ _,HR.out⟩
 case round =>
  obtain ⟨k,acc,hka,hP,hH,hO,hRk⟩:=hrel
  obtain ⟨A,c,rfl⟩:=hO.form
  rw [Zmw] at hO ⊢
  have HP:=zh hP;have HH:=zh hH;have HO:=zh hO;have HRk:=zh hRk;have HP0:=HP
  have hk1:=hP.2.2.1
  have hts:=hP.2.2.2.1
  have c1:=hP.cell1
  have hfd:=Z6F
  have hfl:=Zd9
  have e23:w.heap.size+1+1=w.heap.size+2:=rfl
  clear hP hH hO hRk;by_cases hlt:k<ts.length
  · have dl:decide ((k:Int)<(ts.length:Int))=true:=by simpa using hlt
    by_cases hl:acc.length=100∧nxt ts k=Z63
    · have d1:((acc.length:Int)==100)=true:=by simp;omega
      have d2:=hl.2
      have hR:=Zab (ex:=ex) hlt hl
      rw [HRk.out] at hR
      subst hR;clear hl;have d3:((mk (nxt ts k)).toList==[114,97,116,101])=true:=by rw [d2];exact toL_eq Z63
      clear d2;go_wp2_with fail;refine (Z24 _ _ _ ts k HP.out).mono ?_
      rintro e w1 ⟨rfl,b1⟩;rw [tokV]
      have HP1:=zh (HP.out.on b1)
      have HH1:=zh (HH.out.but (But.of_below b1))
      clear b1 HP HH HO;go_wp2_with fail;refine (Z24 _ _ _ ts k HP1.out).mono ?_
      rintro e w2 ⟨rfl,b2⟩;rw [tokV]
      have HH2:=zh (HH1.out.but (But.of_below b2))
      clear b2 HP1 HH1;go_wp2_with fail;refine leaves_cons (f:=119) (args:=#[.pointer (some ⟨w.heap.size,0,none⟩),.pointer (some ⟨w.heap.size+1,0,none⟩)]) (by simp) (by simp [go_sem]) ?_
      refine (HBAD.out 2 (lnAt ts k) _ HH2.out).mono ?_
      rintro e u' w'' ⟨rfl,rfl,z,ze,hbel⟩
      have q3:w''.cell? ⟨w.heap.size,0,none⟩=some (.int .i64 2):=by rw [zc z];rfl
      have q4:w''.cell? ⟨w.heap.size+1,0,none⟩=some (.int .i64 (lnAt ts k)):=by rw [zc ze];rfl
      exact ⟨.tuple #[.slice A acc.length c,.int .i64 2,.int .i64 (lnAt ts k)],by simp [results,Tryz.results83,go_sem,q3,q4],hbel,_,rfl⟩
    · by_cases hl1:acc.length=100
      · have d1:((acc.length:Int)==100)=true:=by simp;omega
        have d3:((mk (nxt ts k)).toList==[114,97,116,101])=false:=toL_ne (fun h=>hl ⟨hl1,h⟩)
        have HL:=zh hl;clear hl hl1;go_wp2_with fail;refine (Z24 _ _ _ ts k HP.out).mono ?_
        rintro e WC ⟨rfl,b1⟩;rw [tokV]
        have HPc:=zh (HP.out.on b1)
        have HHc:=zh (HH.out.but (But.of_below b1))
        have HOc:=zh (HO.out.but (But.of_below (pb:=w.heap.size+2) b1) (by omega))
        clear b1 HH HO;go_wp2_with fail;have hcall:=Zdc (w.heap.size+2) (.slice A0 ts.length c0) ts ex HEX.out k WC HPc.out (Z3F ex ts k) rfl
        refine hcall.mono ?_
        cases hro:Z3F ex ts k with
        | no j =>
         have hR:=Zac (ex:=ex) hlt HL.out hro
         rw [HRk.out] at hR
         subst hR;rintro e w2 ⟨hb,rfl⟩;have HHd:=HHc.out.but hb
         refine leaves_cons (f:=119) (args:=#[.pointer (some ⟨w.heap.size,0,none⟩),.pointer (some ⟨w.heap.size+1,0,none⟩)]) (by simp) (by simp [go_sem]) ?_
         refine (HBAD.out 8 (Z3d ts j) _ HHd).mono ?_
         rintro e u' w'' ⟨rfl,rfl,z,ze,hbel⟩
         have q3:w''.cell? ⟨w.heap.size,0,none⟩=some (.int .i64 8):=by rw [zc z];rfl
         have q4:w''.cell? ⟨w.heap.size+1,0,none⟩=some (.int .i64 (Z3d ts j)):=by rw [zc ze];rfl
         exact ⟨.tuple #[.slice A acc.length c,.int .i64 8,.int .i64 (Z3d ts j)],by simp [results,Tryz.results83,go_sem,q3,q4],hbel,_,rfl⟩
        | bad =>
         have hR:=Z8i (ex:=ex) hlt HL.out hro
         rw [HRk.out] at hR
         subst hR;rintro e w2 ⟨hb,rfl⟩;have HHd:=HHc.out.but hb
         refine leaves_cons (f:=119) (args:=#[.pointer (some ⟨w.heap.size,0,none⟩),.pointer (some ⟨w.heap.size+1,0,none⟩)]) (by simp) (by simp [go_sem]) ?_
         refine (HBAD.out 1 (lnAt ts k) _ HHd).mono ?_
         rintro e u' w'' ⟨rfl,rfl,z,ze,hbel⟩
         have q3:w''.cell? ⟨w.heap.size,0,none⟩=some (.int .i64 1):=by rw [zc z];rfl
         have q4:w''.cell? ⟨w.heap.size+1,0,none⟩=some (.int .i64 (lnAt ts k)):=by rw [zc ze];rfl
         exact ⟨.tuple #[.slice A acc.length c,.int .i64 1,.int .i64 (lnAt ts k)],by simp [results,Tryz.results83,go_sem,q3,q4],hbel,_,rfl⟩
        | ok r k' =>
         have hR:=Z4H (ex:=ex) HRD.out hlt HL.out hro
         rw [HRk.out] at hR
         have hfar:=Z5e HRD.out hro
         rintro e w2 ⟨hb,hP2,A1,c1,A2,c2,rfl,hF1,hF2⟩;obtain ⟨ms,hms,hown,hfo⟩:=HOc.out
         have hml:acc.length=ms.length:=by have:=congrArg List.length hms;simpa using this.symm
         have hpbz:w.heap.size+2<WC.heap.size:=HPc.out.lt
         have hba:But (w.heap.size+2) WC (w2.alloc (.cells #[.int .i64 r.id,.int .i64 r.lv,.int .i64 r.kd,.int .i64 r.fr,.int .i64 r.un,.int .i64 r.ls,.int .i64 r.mo,.int .i64 r.ar,.int .i64 (pctN r.kp),.int .i64 (pctD r.kp),.int .i64 r.wh.1.1,.int .i64 r.wh.1.2,.slice A1 (flen r.wh.2) c1,.int .i64 r.pr.1.1,.int .i64 r.pr.1.2,.slice A2 (flen r.pr.2) c2] 65)):=hb.alloc _
         have hown2:=Z2e hown (fun k h1 h2=>hba.block k h2 (by omega))
         have hsz2:=hb.size
         have hbox:=za w2 (.cells #[.int .i64 r.id,.int .i64 r.lv,.int .i64 r.kd,.int .i64 r.fr,.int .i64 r.un,.int .i64 r.ls,.int .i64 r.mo,.int .i64 r.ar,.int .i64 (pctN r.kp),.int .i64 (pctD r.kp),.int .i64 r.wh.1.1,.int .i64 r.wh.1.2,.slice A1 (flen r.wh.2) c1,.int .i64 r.pr.1.1,.int .i64 r.pr.1.2,.slice A2 (flen r.pr.2) c2] 65)
         have hPa:=hP2.on ((Below.refl _ _).alloc (zn _) (.cells #[.int .i64 r.id,.int .i64 r.lv,.int .i64 r.kd,.int .i64 r.fr,.int .i64 r.un,.int .i64 r.ls,.int .i64 r.mo,.int .i64 r.ar,.int .i64 (pctN r.kp),.int .i64 (pctD r.kp),.int .i64 r.wh.1.1,.int .i64 r.wh.1.2,.slice A1 (flen r.wh.2) c1,.int .i64 r.pr.1.1,.int .i64 r.pr.1.2,.slice A2 (flen r.pr.2) c2] 65))
         have hHa:=HHc.out.but hba
         have hal:Below w2.heap.size w2 (w2.alloc (.cells #[.int .i64 r.id,.int .i64 r.lv,.int .i64 r.kd,.int .i64 r.fr,.int .i64 r.un,.int .i64 r.ls,.int .i64 r.mo,.int .i64 r.ar,.int .i64 (pctN r.kp),.int .i64 (pctD r.kp),.int .i64 r.wh.1.1,.int .i64 r.wh.1.2,.slice A1 (flen r.wh.2) c1,.int .i64 r.pr.1.1,.int .i64 r.pr.1.2,.slice A2 (flen r.pr.2) c2] 65)):=(Below.refl _ _).alloc (zn _) _
         have f1:FoD (w2.alloc (.cells #[.int .i64 r.id,.int .i64 r.lv,.int .i64 r.kd,.int .i64 r.fr,.int .i64 r.un,.int .i64 r.ls,.int .i64 r.mo,.int .i64 r.ar,.int .i64 (pctN r.kp),.int .i64 (pctD r.kp),.int .i64 r.wh.1.1,.int .i64 r.wh.1.2,.slice A1 (flen r.wh.2) c1,.int .i64 r.pr.1.1,.int .i64 r.pr.1.2,.slice A2 (flen r.pr.2) c2] 65)) (fun b=>WC.heap.size≤b∧b<(w2.alloc (.cells #[.int .i64 r.id,.int .i64 r.lv,.int .i64 r.kd,.int .i64 r.fr,.int .i64 r.un,.int .i64 r.ls,.int .i64 r.mo,.int .i64 r.ar,.int .i64 (pctN r.kp),.int .i64 (pctD r.kp),.int .i64 r.wh.1.1,.int .i64 r.wh.1.2,.slice A1 (flen r.wh.2) c1,.int .i64 r.pr.1.1,.int .i64 r.pr.1.2,.slice A2 (flen r.pr.2) c2] 65)).heap.size) (.slice A1 (flen r.wh.2) c1) r.wh.2:=hF1.keep (fun b h=>⟨h.1,by have:=h.2;simp;omega⟩) (fun b h=>hal.block b h.2)
         have f2:FoD (w2.alloc (.cells #[.int .i64 r.id,.int .i64 r.lv,.int .i64 r.kd,.int .i64 r.fr,.int .i64 r.un,.int .i64 r.ls,.int .i64 r.mo,.int .i64 r.ar,.int .i64 (pctN r.kp),.int .i64 (pctD r.kp),.int .i64 r.wh.1.1,.int .i64 r.wh.1.2,.slice A1 (flen r.wh.2) c1,.int .i64 r.pr.1.1,.int .i64 r.pr.1.2,.slice A2 (flen r.pr.2) c2] 65)) (fun b=>WC.heap.size≤b∧b<(w2.alloc (.cells #[.int .i64 r.id,.int .i64 r.lv,.int .i64 r.kd,.int .i64 r.fr,.int .i64 r.un,.int .i64 r.ls,.int .i64 r.mo,.int .i64 r.ar,.int .i64 (pctN r.kp),.int .i64 (pctD r.kp),.int .i64 r.wh.1.1,.int .i64 r.wh.1.2,.slice A1 (flen r.wh.2) c1,.int .i64 r.pr.1.1,.int .i64 r.pr.1.2,.slice A2 (flen r.pr.2) c2] 65)).heap.size) (.slice A2 (flen r.pr.2) c2) r.pr.2:=hF2.keep (fun b h=>⟨h.1,by have:=h.2;simp;omega⟩) (fun b h=>hal.block b h.2)
         have hsa:WC.heap.size≤(w2.alloc (.cells #[.int .i64 r.id,.int .i64 r.lv,.int .i64 r.kd,.int .i64 r.fr,.int .i64 r.un,.int .i64 r.ls,.int .i64 r.mo,.int .i64 r.ar,.int .i64 (pctN r.kp),.int .i64 (pctD r.kp),.int .i64 r.wh.1.1,.int .i64 r.wh.1.2,.slice A1 (flen r.wh.2) c1,.int .i64 r.pr.1.1,.int .i64 r.pr.1.2,.slice A2 (flen r.pr.2) c2] 65)).heap.size:=by simp;omega
         have HOWN:=zh hown2;have HBX:=zh (Zdx hbox [.int .i64 r.id,.int .i64 r.lv,.int .i64 r.kd,.int .i64 r.fr,.int .i64 r.un,.int .i64 r.ls,.int .i64 r.mo,.int .i64 r.ar,.int .i64 (pctN r.kp),.int .i64 (pctD r.kp),.int .i64 r.wh.1.1,.int .i64 r.wh.1.2,.slice A1 (flen r.wh.2) c1,.int .i64 r.pr.1.1,.int .i64 r.pr.1.2,.slice A2 (flen r.pr.2) c2] rfl)
         have HR2:=zh hR;have HPa:=zh hPa;have HHa:=zh hHa;have HFO:=zh hfo;have HO1:=zh hown;have HF1:=zh f1;have HF2:=zh f2;have HBA:=zh hba;have HMS:=zh hms;have HML:=zh hml;clear hown2 hbox hR hPa hHa hfo hown f1 f2 hba hms hF1 hF2 hP2 hb hal hml hcall;rw [rrV]
         go_wp2_with (first | (at_builtin;refine wpList_append_lies _ rfl _ _ 22 rfl (w.heap.size+3) 65 i0 _ 16 160 Tryz.underlying22 hI.out hZ0.out hZ1.out hZ2.out rfl (by decide) (.slice A acc.length c) _ _ rfl HOWN.out ⟨w2.heap.size,0,none⟩ 1 1 _ rfl rfl HBX.out (by simp [Value.oneCell']) (by omega) (by have:=HML.out;unfold maxLen;omega) (by have:=HML.out;omega) (by omega) _ rfl ?_;intro g cap w4 hown4 hgrow hg hlg))
         have hlow:=(Below.refl (w.heap.size+3) _).grown hgrow (by simp;omega) (fun g e=>(HO1.out.lt g e).1)
         have hP4:=HPa.out.low hlow
         have hH4:=HHa.out.low hlow
         have hO4:=OwnR.snoc (m:=⟨r.rt,.slice A1 (flen r.wh.2) c1,.slice A2 (flen r.pr.2) c2⟩) HFO.out (fun k e=>HO1.out.lt k e) HF1.out HF2.out (fun k h1 h2=>HBA.out.block k h2 (by omega)) hsa (by omega) hown4 rfl hgrow rfl hg
         rw [List.map_append,HMS.out] at hO4
         have hln:Zap (w.heap.size+2) w4=k':=Z4f hP4
         have hln2:Zap (w.heap.size+2) wr=k:=Z4f HP0.out
         refine ⟨⟨k',acc++[r],by rw [List.length_append,List.length_singleton];omega,hP4,hH4,?_,HR2.out.symm⟩,by rw [hln,hln2];omega⟩
         rw [List.map_append]
         exact hO4
      · have d1:((acc.length:Int)==100)=false:=by simp;omega
        have HL:=zh hl;clear hl hl1;go_wp2_with fail;have HPc:=HP
        have HHc:=HH
        have HOc:=HO
        have hWC:wr=wr:=rfl
        have hcall:=Zdc (w.heap.size+2) (.slice A0 ts.length c0) ts ex HEX.out k wr HPc.out (Z3F ex ts k) rfl
        refine hcall.mono ?_
        cases hro:Z3F ex ts k with
        | no j =>
         have hR:=Zac (ex:=ex) hlt HL.out hro
         rw [HRk.out] at hR
         subst hR;rintro e w2 ⟨hb,rfl⟩;have HHd:=HHc.out.but hb
         refine leaves_cons (f:=119) (args:=#[.pointer (some ⟨w.heap.size,0,none⟩),.pointer (some ⟨w.heap.size+1,0,none⟩)]) (by simp) (by simp [go_sem]) ?_
         refine (HBAD.out 8 (Z3d ts j) _ HHd).mono ?_
         rintro e u' w'' ⟨rfl,rfl,z,ze,hbel⟩
         have q3:w''.cell? ⟨w.heap.size,0,none⟩=some (.int .i64 8):=by rw [zc z];rfl
         have q4:w''.cell? ⟨w.heap.size+1,0,none⟩=some (.int .i64 (Z3d ts j)):=by rw [zc ze];rfl
         exact ⟨.tuple #[.slice A acc.length c,.int .i64 8,.int .i64 (Z3d ts j)],by simp [results,Tryz.results83,go_sem,q3,q4],hbel,_,rfl⟩
        | bad =>
         have hR:=Z8i (ex:=ex) hlt HL.out hro
         rw [HRk.out] at hR
         subst hR;rintro e w2 ⟨hb,rfl⟩;have HHd:=HHc.out.but hb
         refine leaves_cons (f:=119) (args:=#[.pointer (some ⟨w.heap.size,0,none⟩),.pointer (some ⟨w.heap.size+1,0,none⟩)]) (by simp) (by simp [go_sem]) ?_
         refine (HBAD.out 1 (lnAt ts k) _ HHd).mono ?_
         rintro e u' w'' ⟨rfl,rfl,z,ze,hbel⟩
         have q3:w''.cell? ⟨w.heap.size,0,none⟩=some (.int .i64 1):=by rw [zc z];rfl
         have q4:w''.cell? ⟨w.heap.size+1,0,none⟩=some (.int .i64 (lnAt ts k)):=by rw [zc ze];rfl
         exact ⟨.tuple #[.slice A acc.length c,.int .i64 1,.int .i64 (lnAt ts k)],by simp [results,Tryz.results83,go_sem,q3,q4],hbel,_,rfl⟩
        | ok r k' =>
         have hR:=Z4H (ex:=ex) HRD.out hlt HL.out hro
         rw [HRk.out] at hR
         have hfar:=Z5e HRD.out hro
         rintro e w2 ⟨hb,hP2,A1,c1,A2,c2,rfl,hF1,hF2⟩;obtain ⟨ms,hms,hown,hfo⟩:=HOc.out
         have hml:acc.length=ms.length:=by have:=congrArg List.length hms;simpa using this.symm
         have hpbz:w.heap.size+2<wr.heap.size:=HPc.out.lt
         have hba:But (w.heap.size+2) wr (w2.alloc (.cells #[.int .i64 r.id,.int .i64 r.lv,.int .i64 r.kd,.int .i64 r.fr,.int .i64 r.un,.int .i64 r.ls,.int .i64 r.mo,.int .i64 r.ar,.int .i64 (pctN r.kp),.int .i64 (pctD r.kp),.int .i64 r.wh.1.1,.int .i64 r.wh.1.2,.slice A1 (flen r.wh.2) c1,.int .i64 r.pr.1.1,.int .i64 r.pr.1.2,.slice A2 (flen r.pr.2) c2] 65)):=hb.alloc _
         have hown2:=Z2e hown (fun k h1 h2=>hba.block k h2 (by omega))
         have hsz2:=hb.size
         have hbox:=za w2 (.cells #[.int .i64 r.id,.int .i64 r.lv,.int .i64 r.kd,.int .i64 r.fr,.int .i64 r.un,.int .i64 r.ls,.int .i64 r.mo,.int .i64 r.ar,.int .i64 (pctN r.kp),.int .i64 (pctD r.kp),.int .i64 r.wh.1.1,.int .i64 r.wh.1.2,.slice A1 (flen r.wh.2) c1,.int .i64 r.pr.1.1,.int .i64 r.pr.1.2,.slice A2 (flen r.pr.2) c2] 65)
         have hPa:=hP2.on ((Below.refl _ _).alloc (zn _) (.cells #[.int .i64 r.id,.int .i64 r.lv,.int .i64 r.kd,.int .i64 r.fr,.int .i64 r.un,.int .i64 r.ls,.int .i64 r.mo,.int .i64 r.ar,.int .i64 (pctN r.kp),.int .i64 (pctD r.kp),.int .i64 r.wh.1.1,.int .i64 r.wh.1.2,.slice A1 (flen r.wh.2) c1,.int .i64 r.pr.1.1,.int .i64 r.pr.1.2,.slice A2 (flen r.pr.2) c2] 65))
         have hHa:=HHc.out.but hba
         have hal:Below w2.heap.size w2 (w2.alloc (.cells #[.int .i64 r.id,.int .i64 r.lv,.int .i64 r.kd,.int .i64 r.fr,.int .i64 r.un,.int .i64 r.ls,.int .i64 r.mo,.int .i64 r.ar,.int .i64 (pctN r.kp),.int .i64 (pctD r.kp),.int .i64 r.wh.1.1,.int .i64 r.wh.1.2,.slice A1 (flen r.wh.2) c1,.int .i64 r.pr.1.1,.int .i64 r.pr.1.2,.slice A2 (flen r.pr.2) c2] 65)):=(Below.refl _ _).alloc (zn _) _
         have f1:FoD (w2.alloc (.cells #[.int .i64 r.id,.int .i64 r.lv,.int .i64 r.kd,.int .i64 r.fr,.int .i64 r.un,.int .i64 r.ls,.int .i64 r.mo,.int .i64 r.ar,.int .i64 (pctN r.kp),.int .i64 (pctD r.kp),.int .i64 r.wh.1.1,.int .i64 r.wh.1.2,.slice A1 (flen r.wh.2) c1,.int .i64 r.pr.1.1,.int .i64 r.pr.1.2,.slice A2 (flen r.pr.2) c2] 65)) (fun b=>wr.heap.size≤b∧b<(w2.alloc (.cells #[.int .i64 r.id,.int .i64 r.lv,.int .i64 r.kd,.int .i64 r.fr,.int .i64 r.un,.int .i64 r.ls,.int .i64 r.mo,.int .i64 r.ar,.int .i64 (pctN r.kp),.int .i64 (pctD r.kp),.int .i64 r.wh.1.1,.int .i64 r.wh.1.2,.slice A1 (flen r.wh.2) c1,.int .i64 r.pr.1.1,.int .i64 r.pr.1.2,.slice A2 (flen r.pr.2) c2] 65)).heap.size) (.slice A1 (flen r.wh.2) c1) r.wh.2:=hF1.keep (fun b h=>⟨h.1,by have:=h.2;simp;omega⟩) (fun b h=>hal.block b h.2)
         have f2:FoD (w2.alloc (.cells #[.int .i64 r.id,.int .i64 r.lv,.int .i64 r.kd,.int .i64 r.fr,.int .i64 r.un,.int .i64 r.ls,.int .i64 r.mo,.int .i64 r.ar,.int .i64 (pctN r.kp),.int .i64 (pctD r.kp),.int .i64 r.wh.1.1,.int .i64 r.wh.1.2,.slice A1 (flen r.wh.2) c1,.int .i64 r.pr.1.1,.int .i64 r.pr.1.2,.slice A2 (flen r.pr.2) c2] 65)) (fun b=>wr.heap.size≤b∧b<(w2.alloc (.cells #[.int .i64 r.id,.int .i64 r.lv,.int .i64 r.kd,.int .i64 r.fr,.int .i64 r.un,.int .i64 r.ls,.int .i64 r.mo,.int .i64 r.ar,.int .i64 (pctN r.kp),.int .i64 (pctD r.kp),.int .i64 r.wh.1.1,.int .i64 r.wh.1.2,.slice A1 (flen r.wh.2) c1,.int .i64 r.pr.1.1,.int .i64 r.pr.1.2,.slice A2 (flen r.pr.2) c2] 65)).heap.size) (.slice A2 (flen r.pr.2) c2) r.pr.2:=hF2.keep (fun b h=>⟨h.1,by have:=h.2;simp;omega⟩) (fun b h=>hal.block b h.2)
         have hsa:wr.heap.size≤(w2.alloc (.cells #[.int .i64 r.id,.int .i64 r.lv,.int .i64 r.kd,.int .i64 r.fr,.int .i64 r.un,.int .i64 r.ls,.int .i64 r.mo,.int .i64 r.ar,.int .i64 (pctN r.kp),.int .i64 (pctD r.kp),.int .i64 r.wh.1.1,.int .i64 r.wh.1.2,.slice A1 (flen r.wh.2) c1,.int .i64 r.pr.1.1,.int .i64 r.pr.1.2,.slice A2 (flen r.pr.2) c2] 65)).heap.size:=by simp;omega
         have HOWN:=zh hown2;have HBX:=zh (Zdx hbox [.int .i64 r.id,.int .i64 r.lv,.int .i64 r.kd,.int .i64 r.fr,.int .i64 r.un,.int .i64 r.ls,.int .i64 r.mo,.int .i64 r.ar,.int .i64 (pctN r.kp),.int .i64 (pctD r.kp),.int .i64 r.wh.1.1,.int .i64 r.wh.1.2,.slice A1 (flen r.wh.2) c1,.int .i64 r.pr.1.1,.int .i64 r.pr.1.2,.slice A2 (flen r.pr.2) c2] rfl)
         have HR2:=zh hR;have HPa:=zh hPa;have HHa:=zh hHa;have HFO:=zh hfo;have HO1:=zh hown;have HF1:=zh f1;have HF2:=zh f2;have HBA:=zh hba;have HMS:=zh hms;have HML:=zh hml;clear hown2 hbox hR hPa hHa hfo hown f1 f2 hba hms hF1 hF2 hP2 hb hal hml hcall;rw [rrV]
         go_wp2_with (first | (at_builtin;refine wpList_append_lies _ rfl _ _ 22 rfl (w.heap.size+3) 65 i0 _ 16 160 Tryz.underlying22 hI.out hZ0.out hZ1.out hZ2.out rfl (by decide) (.slice A acc.length c) _ _ rfl HOWN.out ⟨w2.heap.size,0,none⟩ 1 1 _ rfl rfl HBX.out (by simp [Value.oneCell']) (by omega) (by have:=HML.out;unfold maxLen;omega) (by have:=HML.out;omega) (by omega) _ rfl ?_;intro g cap w4 hown4 hgrow hg hlg))
         have hlow:=(Below.refl (w.heap.size+3) _).grown hgrow (by simp;omega) (fun g e=>(HO1.out.lt g e).1)
         have hP4:=HPa.out.low hlow
         have hH4:=HHa.out.low hlow
         have hO4:=OwnR.snoc (m:=⟨r.rt,.slice A1 (flen r.wh.2) c1,.slice A2 (flen r.pr.2) c2⟩) HFO.out (fun k e=>HO1.out.lt k e) HF1.out HF2.out (fun k h1 h2=>HBA.out.block k h2 (by omega)) hsa (by omega) hown4 rfl hgrow rfl hg
         rw [List.map_append,HMS.out] at hO4
         have hln:Zap (w.heap.size+2) w4=k':=Z4f hP4
         have hln2:Zap (w.heap.size+2) wr=k:=Z4f HP0.out
         refine ⟨⟨k',acc++[r],by rw [List.length_append,List.length_singleton];omega,hP4,hH4,?_,HR2.out.symm⟩,by rw [hln,hln2];omega⟩
         rw [List.map_append]
         exact hO4
  · have dl:decide ((k:Int)<(ts.length:Int))=false:=by simpa using hlt
    have hR:=Zeh (ex:=ex) (acc:=acc) hlt
    rw [HRk.out] at hR
    subst hR;obtain ⟨z0,z1,zb⟩:=HH.out
    have q3:wr.cell? ⟨w.heap.size,0,none⟩=some (.int .i64 0):=by rw [zc z0];rfl
    have q4:wr.cell? ⟨w.heap.size+1,0,none⟩=some (.int .i64 0):=by rw [zc z1];rfl
    have y3:wr.frozen? ⟨w.heap.size,0,none⟩=false:=by simp [World.frozen?,z0]
    have y4:wr.frozen? ⟨w.heap.size+1,0,none⟩=false:=by simp [World.frozen?,z1]
    have hz0:=(zs z0)
    have hz1:=(zs z1)
    go_wp2_with fail;refine leaves_cons (f:=119) (args:=#[.pointer (some ⟨w.heap.size,0,none⟩),.pointer (some ⟨w.heap.size+1,0,none⟩)]) (by simp) (by simp [go_sem]) ?_
    refine (ZbD w.heap.size (w.heap.size+1) _).mono ?_
    rintro e u' w'' ⟨rfl,rfl,rfl⟩
    refine ⟨.tuple #[.slice A acc.length c,.int .i64 0,.int .i64 0],by simp [results,Tryz.results83,go_sem,q3,q4],?_,_,rfl,?_⟩
    · exact (zb.setCell (p:=⟨w.heap.size,0,none⟩) (zn _) _).setCell (p:=⟨w.heap.size+1,0,none⟩) (by show w.heap.size≤w.heap.size+1;omega) _
    · refine (HO.out.keep (by simp [World.setCell]) (fun k h1 h2=>?_)).v
      rw [Below.heap_setCell _ _ _ _ (show k≠w.heap.size+1 by omega),Below.heap_setCell _ _ _ _ (show k≠w.heap.size by omega)]
end
section
open Go.RowKit Lx Px
def SrcP (w:World)(a:AllR)(e:Ending)(w':World):Prop :=
 Below w.heap.size w w'∧(match a with
  | .ok l=>∃ A c,e=.returned (.tuple #[.slice A l.length c,.int .i64 0,.int .i64 0])∧RtsV w' w'.heap.size (.slice A l.length c) (l.map Rr.rt)
  | .err er ln=>e=.returned (.tuple #[.slice none 0 0,.int .i64 er,.int .i64 ln]))
theorem Zep {ex:Nat→Out}{ts:List Tok}:∀ (f k:Nat) (acc:List Rr) {er ln:Int},Z1r ex ts f k acc=.err er ln→er=1∨er=2∨er=8:=by
 intro f
 induction f with
 | zero=>intro k acc er ln h;cases h
 | succ f ih =>
  intro k acc er ln h
  simp only [Z1r] at h
  split at h
  · split at h
    · injection h with h1 h2;exact .inr (.inl h1.symm)
    · split at h
      · exact ih _ _ h
      · injection h with h1 h2;exact .inr (.inr h1.symm)
      · injection h with h1 h2;exact .inl h1.symm
  · cases h
theorem Z7j (s:ByteArray)(w:World)(hM:Mx w w.heap.size):Calls Tryz.prog 47 #[.string s] w (SrcP w (srcO (bl s))):=by
 obtain ⟨hK,hlen⟩:=ZiH (bl s)
 obtain ⟨ts,er,ln,ht⟩:∃ ts er ln,toks (bl s)=(ts,er,ln):=⟨_,_,_,rfl⟩
 have htk:∀ W:World,Calls Tryz.prog 82 #[.string s] W (Z9c W (ts,er,ln)):=fun W=>by have:=ZbE s W;rwa [ht] at this
 rw [ht] at hK hlen
 dsimp only at hK hlen
 have HT:=zh htk;have HM:=zh hM;have HK:=zh hK;by_cases he:er=0
 · subst he
   rw [Zgc ht]
   have hra:=fun w1 v hS hM=>Zgs w1 v ts hS (by omega) HK.out hM
   have herr:∀ er ln:Int,allO (exOf ts) ts=.err er ln→er=1∨er=2∨er=8:=fun er ln h=>Zep _ _ _ h
   generalize allO (exOf ts) ts=R at *
   have HRA:=zh hra;have HE:=zh herr;clear htk hM hK ht hra herr;go_enter Tryz.func47,Tryz.ntmps47
   go_wp2_with fail;refine (HT.out _).mono ?_
   rintro e w1 ⟨v,rfl,hS,hb1⟩;have hc:=HRA.out w1 v hS (by obtain ⟨m,h1,h2⟩:=HM.out.on hb1;exact ⟨m,h1,by have:=hb1.size;omega⟩)
   have HC:=zh hc;have B1:=zh hb1;clear hc hb1 hS;go_wp2_with fail;refine HC.out.mono ?_
   rintro e w2 ⟨hb2,h2⟩;have B2:=zh (Z00 B1.out hb2)
   clear hb2 HC;cases hO:R with
   | ok l =>
    subst hO;obtain ⟨v2,rfl,hR⟩:=h2
    obtain ⟨A2,c2,rfl,_⟩:=id hR
    have HR:=zh hR;clear hR;go_wp2_with fail;refine bodyPost_ret (v:=.tuple #[.slice A2 (l.map Rr.rt).length c2,.int .i64 0,.int .i64 0]) (by simp [results,Tryz.results47,go_sem]) rfl ?_
    refine ⟨B2.out,A2,c2,by rw [List.length_map],?_⟩
    have:=HR.out
    rwa [List.length_map] at this
   | err er ln2 =>
    subst hO;obtain ⟨v2,rfl⟩:=h2
    have hne:er≠0:=by rcases HE.out er ln2 rfl with rfl | rfl | rfl <;> decide
    have d:(er != 0)=true:=by simpa using hne
    clear hne;go_wp2_with fail;refine bodyPost_ret (v:=.tuple #[.slice none 0 0,.int .i64 er,.int .i64 ln2]) (by simp [results,Tryz.results47,go_sem]) rfl ?_
    exact ⟨B2.out,rfl⟩
 · rw [Zj3 ht he]
   have d:(er != 0)=true:=by simpa using he
   clear htk hM hK ht he;go_enter Tryz.func47,Tryz.ntmps47
   go_wp2_with fail;refine (HT.out _).mono ?_
   rintro e w1 ⟨v,rfl,hS,hb1⟩;have B1:=zh hb1;obtain ⟨A0,c0,rfl,_⟩:=hS
   clear hb1;go_wp2_with fail;refine bodyPost_ret (v:=.tuple #[.slice none 0 0,.int .i64 er,.int .i64 ln]) (by simp [results,Tryz.results47,go_sem]) rfl ?_
   exact ⟨B1.out,rfl⟩
end
end Go.Proofs.YtnepkoepbapgeaaGreatDoor
