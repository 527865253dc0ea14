/-
  Several texts in one: ParSam, ParSams, ParW12, ParW13.
-/
import Derived.Test.YtnepkoepbapgeaaGreatDoorQuoPlain
import Derived.Test.YtnepkoepbapgeaaGreatDoorPrtSame
namespace Go.Proofs.YtnepkoepbapgeaaGreatDoor
set_option maxHeartbeats 8000000
set_option maxRecDepth 100000
section
open Go.RowKit Lx Px
def Ziv (r q:Rt):Prop :=
 q.id=r.id∧q.lv=r.lv∧q.kd=r.kd∧q.fr=r.fr∧q.un=r.un∧q.ls=r.ls∧q.mo=r.mo∧q.ar=r.ar∧q.kn=r.kn∧q.kq=r.kq∧Z6e (r.wo,r.wn) (q.wo,q.wn) r.wl q.wl=true∧Z6e (r.po,r.pn) (q.po,q.pn) r.pl q.pl=true
def Zb1 (r:Rt):Prop:=Z1m r.wl≤1000∧Z1m r.pl≤1000
theorem Zb2 (r q:Rt)(wv pv wu pu:Value)(w:World)(B:Nat)(h1:FoV w B wv r.wl)(h2:FoV w B pv r.pl)(h3:FoV w B wu q.wl)(h4:FoV w B pu q.pl)(hB:B≤w.heap.size)(hs:Zb1 r)(h:Ziv r q) :
 Calls Tryz.prog 116 #[rtV r wv pv,rtV q wu pu] w fun e w'=>e=.returned (.bool true)∧Below w.heap.size w w':=by
 obtain ⟨id,lv,kd,fr,un,ls,mo,ar,kn,kq,wo,wn,wl,po,pn,pl⟩:=r
 obtain ⟨id',lv',kd',fr',un',ls',mo',ar',kn',kq',wo',wn',wl',po',pn',pl'⟩:=q
 obtain ⟨e1,e2,e3,e4,e5,e6,e7,e8,e9,e10,e11,e12⟩:=h
 dsimp only at e1 e2 e3 e4 e5 e6 e7 e8 e9 e10 e11 e12 h1 h2 h3 h4
 subst e1 e2 e3 e4 e5 e6 e7 e8 e9 e10;obtain ⟨WA,wc,rfl,hw⟩:=h1
 obtain ⟨PA,pc,rfl,hp⟩:=h2
 obtain ⟨WA2,wc2,rfl,hw2⟩:=h3
 obtain ⟨PA2,pc2,rfl,hp2⟩:=h4
 have c1:∀ W:World,Below w.heap.size w W→Calls Tryz.prog 155 #[.agg #[.int .i64 wo,.int .i64 wn,.slice WA (flen wl) wc],.agg #[.int .i64 wo',.int .i64 wn',.slice WA2 (flen wl') wc2]] W fun e w'=>e=.returned (.bool true)∧Below W.heap.size W w':=by
  intro W hW
  have:=Zfe (wo,wn) wl (wo',wn') wl' W (.slice WA (flen wl) wc) (.slice WA2 (flen wl') wc2) B ⟨WA,wc,rfl,FoAt.keep (fun p hp=>hW.cell (by omega)) _ _ _ hw⟩ ⟨WA2,wc2,rfl,FoAt.keep (fun p hp=>hW.cell (by omega)) _ _ _ hw2⟩ (by have:=hW.size;omega) hs.1
  rwa [e11] at this
 have c2:∀ W:World,Below w.heap.size w W→Calls Tryz.prog 155 #[.agg #[.int .i64 po,.int .i64 pn,.slice PA (flen pl) pc],.agg #[.int .i64 po',.int .i64 pn',.slice PA2 (flen pl') pc2]] W fun e w'=>e=.returned (.bool true)∧Below W.heap.size W w':=by
  intro W hW
  have:=Zfe (po,pn) pl (po',pn') pl' W (.slice PA (flen pl) pc) (.slice PA2 (flen pl') pc2) B ⟨PA,pc,rfl,FoAt.keep (fun p hp=>hW.cell (by omega)) _ _ _ hp⟩ ⟨PA2,pc2,rfl,FoAt.keep (fun p hp=>hW.cell (by omega)) _ _ _ hp2⟩ (by have:=hW.size;omega) hs.2
  rwa [e12] at this
 have C1:=zh c1;have C2:=zh c2;clear c1 c2 hw hp hw2 hp2 e11 e12 hs hB;dsimp only [rtV]
 have hx:=Z1d w (.cells #[.int .i64 id',.int .i64 lv',.int .i64 kd',.int .i64 fr',.int .i64 un',.int .i64 ls',.int .i64 mo',.int .i64 ar',.int .i64 kn',.int .i64 kq',.int .i64 wo,.int .i64 wn,.slice WA (flen wl) wc,.int .i64 po,.int .i64 pn,.slice PA (flen pl) pc] 65) (.cells #[.int .i64 id',.int .i64 lv',.int .i64 kd',.int .i64 fr',.int .i64 un',.int .i64 ls',.int .i64 mo',.int .i64 ar',.int .i64 kn',.int .i64 kq',.int .i64 wo',.int .i64 wn',.slice WA2 (flen wl') wc2,.int .i64 po',.int .i64 pn',.slice PA2 (flen pl') pc2] 65)
 have hb:Below w.heap.size w ((w.alloc (.cells #[.int .i64 id',.int .i64 lv',.int .i64 kd',.int .i64 fr',.int .i64 un',.int .i64 ls',.int .i64 mo',.int .i64 ar',.int .i64 kn',.int .i64 kq',.int .i64 wo,.int .i64 wn,.slice WA (flen wl) wc,.int .i64 po,.int .i64 pn,.slice PA (flen pl) pc] 65)).alloc (.cells #[.int .i64 id',.int .i64 lv',.int .i64 kd',.int .i64 fr',.int .i64 un',.int .i64 ls',.int .i64 mo',.int .i64 ar',.int .i64 kn',.int .i64 kq',.int .i64 wo',.int .i64 wn',.slice WA2 (flen wl') wc2,.int .i64 po',.int .i64 pn',.slice PA2 (flen pl') pc2] 65)):=((Below.refl _ _).alloc (zn _) _).alloc (by simp) _
 have HX:Hid (Two w (.cells #[.int .i64 id',.int .i64 lv',.int .i64 kd',.int .i64 fr',.int .i64 un',.int .i64 ls',.int .i64 mo',.int .i64 ar',.int .i64 kn',.int .i64 kq',.int .i64 wo,.int .i64 wn,.slice WA (flen wl) wc,.int .i64 po,.int .i64 pn,.slice PA (flen pl) pc] 65 (0,0)) (.cells #[.int .i64 id',.int .i64 lv',.int .i64 kd',.int .i64 fr',.int .i64 un',.int .i64 ls',.int .i64 mo',.int .i64 ar',.int .i64 kn',.int .i64 kq',.int .i64 wo',.int .i64 wn',.slice WA2 (flen wl') wc2,.int .i64 po',.int .i64 pn',.slice PA2 (flen pl') pc2] 65 (0,0)) _):=⟨hx.1,hx.2,hb⟩
 clear hx hb;go_enter Tryz.func116,Tryz.ntmps116
 go_upto_region 1 with fail
 generalize (w.alloc (.cells #[.int .i64 id',.int .i64 lv',.int .i64 kd',.int .i64 fr',.int .i64 un',.int .i64 ls',.int .i64 mo',.int .i64 ar',.int .i64 kn',.int .i64 kq',.int .i64 wo,.int .i64 wn,.slice WA (flen wl) wc,.int .i64 po,.int .i64 pn,.slice PA (flen pl) pc] 65)).alloc (.cells #[.int .i64 id',.int .i64 lv',.int .i64 kd',.int .i64 fr',.int .i64 un',.int .i64 ls',.int .i64 mo',.int .i64 ar',.int .i64 kn',.int .i64 kq',.int .i64 wo',.int .i64 wn',.slice WA2 (flen wl') wc2,.int .i64 po',.int .i64 pn',.slice PA2 (flen pl') pc2] 65)=W1 at *
 have p0:=HX.out.cell1 10 _ rfl
 have p1:=HX.out.cell1 11 _ rfl
 have p2:=HX.out.cell1 12 _ rfl
 have q0:=HX.out.cell2 10 _ rfl
 have q1:=HX.out.cell2 11 _ rfl
 have q2:=HX.out.cell2 12 _ rfl
 go_wp2_with fail;refine (C1.out W1 HX.out.2.2).mono ?_
 rintro e w2 ⟨rfl,hb⟩;have HX2:=zh (HX.out.on hb)
 clear hb p0 p1 p2 q0 q1 q2 HX;have p0:=HX2.out.cell1 13 _ rfl
 have p1:=HX2.out.cell1 14 _ rfl
 have p2:=HX2.out.cell1 15 _ rfl
 have q0:=HX2.out.cell2 13 _ rfl
 have q1:=HX2.out.cell2 14 _ rfl
 have q2:=HX2.out.cell2 15 _ rfl
 go_wp2_with fail;refine (C2.out w2 HX2.out.2.2).mono ?_
 rintro e w3 ⟨rfl,hb⟩;have HX3:=zh (HX2.out.on hb)
 clear hb p0 p1 p2 q0 q1 q2 HX2;have p0:=HX3.out.cell1 0 _ rfl
 have p1:=HX3.out.cell1 1 _ rfl
 have p2:=HX3.out.cell1 2 _ rfl
 have p3:=HX3.out.cell1 3 _ rfl
 have p4:=HX3.out.cell1 4 _ rfl
 have p5:=HX3.out.cell1 5 _ rfl
 have p6:=HX3.out.cell1 6 _ rfl
 have p7:=HX3.out.cell1 7 _ rfl
 have p8:=HX3.out.cell1 8 _ rfl
 have p9:=HX3.out.cell1 9 _ rfl
 have q0:=HX3.out.cell2 0 _ rfl
 have q1:=HX3.out.cell2 1 _ rfl
 have q2:=HX3.out.cell2 2 _ rfl
 have q3:=HX3.out.cell2 3 _ rfl
 have q4:=HX3.out.cell2 4 _ rfl
 have q5:=HX3.out.cell2 5 _ rfl
 have q6:=HX3.out.cell2 6 _ rfl
 have q7:=HX3.out.cell2 7 _ rfl
 have q8:=HX3.out.cell2 8 _ rfl
 have q9:=HX3.out.cell2 9 _ rfl
 have hbb:∀ x:Int,(x==x)=true:=fun x=>by simp
 go_wp2_with fail;go_ret
 exact ⟨rfl,HX3.out.2.2⟩
end
section
open Go.RowKit Lx Px
def Zdy (rs qs:List Rt):Prop:=rs.length=qs.length∧∀ i (h:i<rs.length) (h':i<qs.length),Ziv rs[i] qs[i]
theorem Zf4 {w:World}{B:Nat}{p:Addr}{r:Rt}(h:RtAt w B p r):∃ wv pv,FoV w B wv r.wl∧FoV w B pv r.pl∧p.spot=none∧∀ j u,(Z3w r wv pv)[j]?=some u→w.cell? ⟨p.block,p.off+j,none⟩=some u:=by
 obtain ⟨hs,wv,pv,hc,h1,h2⟩:=h
 exact ⟨wv,pv,h1,h2,hs,hc⟩
theorem Zf5 {p:Addr}(h:p.spot=none):(⟨p.block,p.off,none⟩:Addr)=p:=by cases p;cases h;rfl
theorem Z9u (rs qs:List Rt)(v u:Value)(w:World)(B:Nat)(hv:RtsV w B v rs)(hu:RtsV w B u qs)(hB:B≤w.heap.size)(hsm:∀ r∈rs,Zb1 r)(hlen:rs.length≤1000000)(h:Zdy rs qs) :
 Calls Tryz.prog 78 #[v,u] w fun e w'=>e=.returned (.bool true)∧Below w.heap.size w w':=by
 obtain ⟨hl,hall⟩:=h
 obtain ⟨A,c,rfl,hA⟩:=hv
 obtain ⟨A2,c2,rfl,hA2⟩:=hu
 rw [← hl]
 have HA:=zh hA;have HA2:=zh hA2;have HS:=zh hsm;have HE:=zh hall;have HL:=zh hl;clear hA hA2 hsm hall hl;have d0:((rs.length:Int) != (rs.length:Int))=false:=by simp
 go_enter Tryz.func78,Tryz.ntmps78
 go_wp2_with fail;go_loopw [5] (fun i wr=>∃ k:Nat,k≤rs.length∧i=.int .i64 k∧Below w.heap.size w wr) (fun i _=>rs.length - (intOf i).toNat)
 case atStart=>exact ⟨0,by omega,rfl,Below.refl _ _⟩
 case round =>
  obtain ⟨k,hk,rfl,hb⟩:=hrel
  have HB:=zh hb;clear hb;by_cases hlt:k<rs.length
  · have hlt2:k<qs.length:=by have:=HL.out;omega
    obtain ⟨ad,rfl,hbl,hrt⟩:=HA.out k hlt
    obtain ⟨ad2,rfl,hbl2,hrt2⟩:=HA2.out k hlt2
    have hb1:Below B w wr:=HB.out.mono hB
    obtain ⟨wv,pv,f1,f2,hs1,hc1⟩:=Zf4 (hrt.keep hb1 (by rw [Z4k];exact hbl))
    obtain ⟨wu,pu,f3,f4,hs2,hc2⟩:=Zf4 (hrt2.keep hb1 (by rw [Z4k];exact hbl2))
    have hsize:=HB.out.size
    have hcall:=Zb2 rs[k] qs[k] wv pv wu pu wr.drew B (f1.on (Below.refl _ _).drew) (f2.on (Below.refl _ _).drew) (f3.on (Below.refl _ _).drew) (f4.on (Below.refl _ _).drew) (by show B≤wr.heap.size;omega) (HS.out _ (List.getElem_mem hlt)) (HE.out k hlt hlt2)
    have HC:=zh hcall;generalize rs[k]=r at *
    generalize qs[k]=q at *
    have t0:=hc1 0 _ rfl
    have t1:=hc1 1 _ rfl
    have t2:=hc1 2 _ rfl
    have t3:=hc1 3 _ rfl
    have t4:=hc1 4 _ rfl
    have t5:=hc1 5 _ rfl
    have t6:=hc1 6 _ rfl
    have t7:=hc1 7 _ rfl
    have t8:=hc1 8 _ rfl
    have t9:=hc1 9 _ rfl
    have t10:=hc1 10 _ rfl
    have t11:=hc1 11 _ rfl
    have t12:=hc1 12 _ rfl
    have t13:=hc1 13 _ rfl
    have t14:=hc1 14 _ rfl
    have t15:=hc1 15 _ rfl
    have s0:=hc2 0 _ rfl
    have s1:=hc2 1 _ rfl
    have s2:=hc2 2 _ rfl
    have s3:=hc2 3 _ rfl
    have s4:=hc2 4 _ rfl
    have s5:=hc2 5 _ rfl
    have s6:=hc2 6 _ rfl
    have s7:=hc2 7 _ rfl
    have s8:=hc2 8 _ rfl
    have s9:=hc2 9 _ rfl
    have s10:=hc2 10 _ rfl
    have s11:=hc2 11 _ rfl
    have s12:=hc2 12 _ rfl
    have s13:=hc2 13 _ rfl
    have s14:=hc2 14 _ rfl
    have s15:=hc2 15 _ rfl
    rw [Nat.add_zero,Zf5 hs1] at t0
    rw [Nat.add_zero,Zf5 hs2] at s0
    have dk:((k:Int)<(rs.length:Int)):=by omega
    clear hcall hc1 hc2 hrt hrt2 f1 f2 f3 f4 hb1;go_wp2_with fail;go_still_tail 8,(by kernel_rfl)
    change wpList _ _ _ _ _ wr.drew
    have HB2:=zh HB.out.drew
    clear HB t0 t1 t2 t3 t4 t5 t6 t7 t8 t9 t10 t11 t12 t13 t14 t15 s0 s1 s2 s3 s4 s5 s6 s7 s8 s9 s10 s11 s12 s13 s14 s15;generalize wr.drew=w6 at *
    go_wp2_with fail;refine HC.out.mono ?_
    rintro e w7 ⟨rfl,hb⟩;have HB7:=zh (Z00 HB2.out hb)
    clear hb HB2 HC;go_wp2_with fail;go_roundw
    case rel=>exact ⟨k+1,by omega,by go_num,HB7.out⟩
    case measure=>simp [intOf];omega
  · go_wp2_with fail
    go_ret
    exact ⟨rfl,HB.out⟩
end
section
open Go.RowKit Lx Px
def Rh (w:World)(wx:World):Prop :=
 wx.heap[w.heap.size]?=some (.cells #[.int .i64 0] 35 (0,0))∧wx.heap[w.heap.size+1]?=some (.cells #[.int .i64 0] 3 (0,0))∧Below w.heap.size w wx
theorem Rh.keep {w wx wy:World}(h:Rh w wx)(hb:Below w.heap.size w wy)(h0:wy.heap[w.heap.size]?=wx.heap[w.heap.size]?)(h1:wy.heap[w.heap.size+1]?=wx.heap[w.heap.size+1]?):Rh w wy :=
 ⟨h0.trans h.1,h1.trans h.2.1,hb⟩
theorem Rh.but {w wx wy:World}(h:Rh w wx)(hb:But (w.heap.size+2) wx wy):Rh w wy:=by
 obtain ⟨h1,h2,h3⟩:=h
 have l2:w.heap.size+1<wx.heap.size:=(zs h2)
 exact ⟨(hb.block _ (by omega) (by omega)).trans h1,(hb.block _ l2 (by omega)).trans h2,
  h3.trans ⟨hb.os,hb.tape,hb.output,hb.size,fun k hk=>hb.block k (by omega) (by omega)⟩⟩
def RatesP (w:World)(a:AllR)(e:Ending)(w':World):Prop :=
 Below w.heap.size w w'∧(match a with
  | .ok l=>∃ v,e=.returned (.tuple #[v,.int .i64 0,.int .i64 0])∧RtsV w' w'.heap.size v (l.map Rr.rt)
  | .err er ln=>∃ v,e=.returned (.tuple #[v,.int .i64 er,.int .i64 ln]))
theorem rh_new (w:World)(v:Value):Rh w (((w.alloc (.cells #[.int .i64 0] 35)).alloc (.cells #[.int .i64 0] 3)).alloc (.cells #[v,.int .i64 0] 174)) ∧
 (((w.alloc (.cells #[.int .i64 0] 35)).alloc (.cells #[.int .i64 0] 3)).alloc (.cells #[v,.int .i64 0] 174)).heap[w.heap.size+2]?=some (.cells #[v,.int .i64 0] 174 (0,0)):=by
 refine ⟨⟨?_,?_,(((Below.refl _ _).alloc (zn _) _).alloc (by simp) _).alloc (by simp;omega) _⟩,?_⟩
 · rw [Below.heap_alloc _ _ _ (by simp;omega),Below.heap_alloc _ _ _ (by simp)]
   exact za w _
 · rw [Below.heap_alloc _ _ _ (by simp)]
   have:=za (w.alloc (.cells #[.int .i64 0] 35)) (.cells #[.int .i64 0] 3)
   simpa using this
 · have:=za ((w.alloc (.cells #[.int .i64 0] 35)).alloc (.cells #[.int .i64 0] 3)) (.cells #[v,.int .i64 0] 174)
   simpa using this
theorem PI.low {w w':World}{pb k:Nat}{v:Value}{ts:List Tok}(h:PI w pb v ts k)(hb:Below (pb+1) w w'):PI w' pb v ts k :=
 ⟨(hb.block _ (by omega)).trans h.1,h.2.1.below (hb.mono (by omega)),h.2.2.1,h.2.2.2.1,h.2.2.2.2.1,h.2.2.2.2.2.on (hb.mono (by omega))⟩
theorem Rh.low {w wx wy:World}(h:Rh w wx)(hb:Below (w.heap.size+3) wx wy):Rh w wy :=
 h.keep (h.2.2.trans (hb.mono (by omega))) (hb.block _ (by omega)) (hb.block _ (by omega))
theorem Ziw {w wx w':World}(h:Rh w wx){er ln:Int}(hs:Set2 w.heap.size (w.heap.size+1) er ln wx w') :
 w'.heap[w.heap.size]?=some (.cells #[.int .i64 er] 35 (0,0))∧w'.heap[w.heap.size+1]?=some (.cells #[.int .i64 ln] 3 (0,0))∧Below w.heap.size w w':=by
 obtain ⟨h1,h2,h3⟩:=h
 obtain ⟨s1,s2,s3,s4,s5,s6,s7⟩:=hs
 have l2:w.heap.size+1<wx.heap.size:=(zs h2)
 exact ⟨s1,s2,h3.trans ⟨s5,s6,s7,s4,fun k hk=>s3 k (by omega) (by omega) (by omega)⟩⟩
def RL (w:World)(tv:Value)(ts:List Tok)(ex:Nat→Out)(R:AllR)(v:Value)(wr:World):Prop :=
 ∃ (k:Nat) (acc:List Rr),acc.length≤k∧PI wr (w.heap.size+2) tv ts k∧Rh w wr∧OwnR wr (w.heap.size+3) v (acc.map Rr.rt)∧Z25 ex ts (ts.length - k) k acc=R
theorem toL (l:Bytes):(mk l).toList=l:=by rw [ByteArray.toList_eq];rfl
theorem toL_eq (l:Bytes):((mk l).toList==l)=true:=by rw [toL];simp
theorem toL_ne {l m:Bytes}(h:l≠m):((mk l).toList==m)=false:=by rw [toL];exact beq_eq_false_iff_ne.2 h
theorem Zq8 (l:List Rr)(A:Option Addr)(c:Nat):Value.slice A (l.map Rr.rt).length c=.slice A l.length c:=by rw [List.length_map]
theorem Zix (w:World)(v:Value)(ts:List Tok)(hS:Sl w w.heap.size v ts)(hlen:ts.length≤1000000)(hK:Knd ts)(hM:Mx w w.heap.size) :
 Calls Tryz.prog 83 #[v] w (RatesP w (allO (exOf ts) ts)):=by
 obtain ⟨A0,c0,rfl,_⟩:=id hS
 have hrd:=Z3G ts;have hex:=Znw (w.heap.size+2) (.slice A0 ts.length c0) ts
 generalize exOf ts=ex at *
 obtain ⟨hw3,hp3⟩:=rh_new w (.slice A0 ts.length c0)
 have P3:PI (((w.alloc (.cells #[.int .i64 0] 35)).alloc (.cells #[.int .i64 0] 3)).alloc (.cells #[.slice A0 ts.length c0,.int .i64 0] 174)) (w.heap.size+2) (.slice A0 ts.length c0) ts 0 :=
  ⟨hp3,(hS.below hw3.2.2).mono (by omega),Nat.zero_le _,hlen,hK,by obtain ⟨m,h1,h2⟩:=hM.on hw3.2.2;exact ⟨m,h1,by omega⟩⟩
 have HW:=zh hw3;have HP:=zh P3;have HRD:=zh hrd;have HEX:=zh hex;have hbad:∀ (er ln:Int) (w':World),Rh w w'→CallsD Tryz.prog 119 #[.pointer (some ⟨w.heap.size,0,none⟩),.pointer (some ⟨w.heap.size+1,0,none⟩)] (.panicking [{ v:=.iface 177 (.agg #[.int .i64 er,.int .i64 ln]),recovered:=false }]) w' fun e u' w'' =>
  e=.returned (.tuple #[])∧u'=.panicking [{ v:=.iface 177 (.agg #[.int .i64 er,.int .i64 ln]),recovered:=true }]∧w''.heap[w.heap.size]?=some (.cells #[.int .i64 er] 35 (0,0))∧w''.heap[w.heap.size+1]?=some (.cells #[.int .i64 ln] 3 (0,0))∧Below w.heap.size w w'':=by
  intro er ln w' hw
  refine (Z80 w.heap.size (w.heap.size+1) 0 0 er ln [] w' (by omega) hw.1 hw.2.1).mono ?_
  rintro e u' w'' ⟨rfl,rfl,hs⟩
  exact ⟨rfl,rfl,Ziw hw hs⟩
 have HBAD:=zh hbad;obtain ⟨R,hR⟩:∃ R,allO ex ts=R:=⟨_,rfl⟩
 rw [hR]
 have HR:=zh hR;obtain ⟨i0,hi,hz0,hz1,hz2⟩:=info_parts Tryz.infoRate
 have hI:=zh hi;have hZ0:=zh hz0;have hZ1:=zh hz1;have hZ2:=zh hz2;clear hi hz0 hz1 hz2 hw3 hp3 P3 hS hM hK hrd hex hbad hR;go_enter_defers Tryz.func83,Tryz.ntmps83
 go_wp2_with fail;generalize ((w.alloc (.cells #[.int .i64 0] 35)).alloc (.cells #[.int .i64 0] 3)).alloc (.cells #[.slice A0 ts.length c0,.int .i64 0] 174)=W3 at *
 go_loopw [2] (fun v wr=>RL w (.slice A0 ts.length c0) ts ex R v wr) (fun _ wr=>ts.length - Zc5 (w.heap.size+2) wr)
 case atStart=>exact ⟨0,[],Nat.zero_le _,HP.out,HW.out,OwnR.nil _ _,HR.out⟩
 case round =>
  obtain ⟨k,acc,hka,hP,hH,hO,hRk⟩:=hrel
  obtain ⟨A,c,rfl⟩:=hO.form
  rw [Zq8] at hO ⊢
  have HP:=zh hP;have HH:=zh hH;have HO:=zh hO;have HRk:=zh hRk;have HP0:=HP
  have hk1:=hP.2.2.1
  have hts:=hP.2.2.2.1
  have c1:=hP.cell1
  have hfd:=Z86
  have hfl:=Zf0
  have e23:w.heap.size+1+1=w.heap.size+2:=rfl
  clear hP hH hO hRk;by_cases hlt:k<ts.length
  · have dl:decide ((k:Int)<(ts.length:Int))=true:=by simpa using hlt
    by_cases hl:acc.length=100∧nxt ts k=Z6a
    · have d1:((acc.length:Int)==100)=true:=by simp;omega
      have d2:=hl.2
      have hR:=Zd0 (ex:=ex) hlt hl
      rw [HRk.out] at hR
      subst hR;clear hl;have d3:((mk (nxt ts k)).toList==[114,97,116,101])=true:=by rw [d2];exact toL_eq Z6a
      clear d2;go_wp2_with fail;refine (Z2n _ _ _ ts k HP.out).mono ?_
      rintro e w1 ⟨rfl,b1⟩;rw [tokV]
      have HP1:=zh (HP.out.on b1)
      have HH1:=zh (HH.out.but (But.of_below b1))
      clear b1 HP HH HO;go_wp2_with fail;refine (Z2n _ _ _ ts k HP1.out).mono ?_
      rintro e w2 ⟨rfl,b2⟩;rw [tokV]
      have HH2:=zh (HH1.out.but (But.of_below b2))
      clear b2 HP1 HH1;go_wp2_with fail;refine leaves_cons (f:=119) (args:=#[.pointer (some ⟨w.heap.size,0,none⟩),.pointer (some ⟨w.heap.size+1,0,none⟩)]) (by simp) (by simp [go_sem]) ?_
      refine (HBAD.out 2 (lnAt ts k) _ HH2.out).mono ?_
      rintro e u' w'' ⟨rfl,rfl,z,ze,hbel⟩
      have q3:w''.cell? ⟨w.heap.size,0,none⟩=some (.int .i64 2):=by rw [zc z];rfl
      have q4:w''.cell? ⟨w.heap.size+1,0,none⟩=some (.int .i64 (lnAt ts k)):=by rw [zc ze];rfl
      exact ⟨.tuple #[.slice A acc.length c,.int .i64 2,.int .i64 (lnAt ts k)],by simp [results,Tryz.results83,go_sem,q3,q4],hbel,_,rfl⟩
    · by_cases hl1:acc.length=100
      · have d1:((acc.length:Int)==100)=true:=by simp;omega
        have d3:((mk (nxt ts k)).toList==[114,97,116,101])=false:=toL_ne (fun h=>hl ⟨hl1,h⟩)
        have HL:=zh hl;clear hl hl1;go_wp2_with fail;refine (Z2n _ _ _ ts k HP.out).mono ?_
        rintro e WC ⟨rfl,b1⟩;rw [tokV]
        have HPc:=zh (HP.out.on b1)
        have HHc:=zh (HH.out.but (But.of_below b1))
        have HOc:=zh (HO.out.but (But.of_below (pb:=w.heap.size+2) b1) (by omega))
        clear b1 HH HO;go_wp2_with fail;have hcall:=Zf3 (w.heap.size+2) (.slice A0 ts.length c0) ts ex HEX.out k WC HPc.out (Z4i ex ts k) rfl
        refine hcall.mono ?_
        cases hro:Z4i ex ts k with
        | no j =>
         have hR:=Zd1 (ex:=ex) hlt HL.out hro
         rw [HRk.out] at hR
         subst hR;rintro e w2 ⟨hb,rfl⟩;have HHd:=HHc.out.but hb
         refine leaves_cons (f:=119) (args:=#[.pointer (some ⟨w.heap.size,0,none⟩),.pointer (some ⟨w.heap.size+1,0,none⟩)]) (by simp) (by simp [go_sem]) ?_
         refine (HBAD.out 8 (Z3z ts j) _ HHd).mono ?_
         rintro e u' w'' ⟨rfl,rfl,z,ze,hbel⟩
         have q3:w''.cell? ⟨w.heap.size,0,none⟩=some (.int .i64 8):=by rw [zc z];rfl
         have q4:w''.cell? ⟨w.heap.size+1,0,none⟩=some (.int .i64 (Z3z ts j)):=by rw [zc ze];rfl
         exact ⟨.tuple #[.slice A acc.length c,.int .i64 8,.int .i64 (Z3z ts j)],by simp [results,Tryz.results83,go_sem,q3,q4],hbel,_,rfl⟩
        | bad =>
         have hR:=Zak (ex:=ex) hlt HL.out hro
         rw [HRk.out] at hR
         subst hR;rintro e w2 ⟨hb,rfl⟩;have HHd:=HHc.out.but hb
         refine leaves_cons (f:=119) (args:=#[.pointer (some ⟨w.heap.size,0,none⟩),.pointer (some ⟨w.heap.size+1,0,none⟩)]) (by simp) (by simp [go_sem]) ?_
         refine (HBAD.out 1 (lnAt ts k) _ HHd).mono ?_
         rintro e u' w'' ⟨rfl,rfl,z,ze,hbel⟩
         have q3:w''.cell? ⟨w.heap.size,0,none⟩=some (.int .i64 1):=by rw [zc z];rfl
         have q4:w''.cell? ⟨w.heap.size+1,0,none⟩=some (.int .i64 (lnAt ts k)):=by rw [zc ze];rfl
         exact ⟨.tuple #[.slice A acc.length c,.int .i64 1,.int .i64 (lnAt ts k)],by simp [results,Tryz.results83,go_sem,q3,q4],hbel,_,rfl⟩
        | ok r k' =>
         have hR:=Z46 (ex:=ex) HRD.out hlt HL.out hro
         rw [HRk.out] at hR
         have hfar:=Z6u HRD.out hro
         rintro e w2 ⟨hb,hP2,A1,c1,A2,c2,rfl,hF1,hF2⟩;obtain ⟨ms,hms,hown,hfo⟩:=HOc.out
         have hml:acc.length=ms.length:=by have:=congrArg List.length hms;simpa using this.symm
         have hpbz:w.heap.size+2<WC.heap.size:=HPc.out.lt
         have hba:But (w.heap.size+2) WC (w2.alloc (.cells #[.int .i64 r.id,.int .i64 r.lv,.int .i64 r.kd,.int .i64 r.fr,.int .i64 r.un,.int .i64 r.ls,.int .i64 r.mo,.int .i64 r.ar,.int .i64 (pctN r.kp),.int .i64 (pctD r.kp),.int .i64 r.wh.1.1,.int .i64 r.wh.1.2,.slice A1 (flen r.wh.2) c1,.int .i64 r.pr.1.1,.int .i64 r.pr.1.2,.slice A2 (flen r.pr.2) c2] 65)):=hb.alloc _
         have hown2:=Z7y hown (fun k h1 h2=>hba.block k h2 (by omega))
         have hsz2:=hb.size
         have hbox:=za w2 (.cells #[.int .i64 r.id,.int .i64 r.lv,.int .i64 r.kd,.int .i64 r.fr,.int .i64 r.un,.int .i64 r.ls,.int .i64 r.mo,.int .i64 r.ar,.int .i64 (pctN r.kp),.int .i64 (pctD r.kp),.int .i64 r.wh.1.1,.int .i64 r.wh.1.2,.slice A1 (flen r.wh.2) c1,.int .i64 r.pr.1.1,.int .i64 r.pr.1.2,.slice A2 (flen r.pr.2) c2] 65)
         have hPa:=hP2.on ((Below.refl _ _).alloc (zn _) (.cells #[.int .i64 r.id,.int .i64 r.lv,.int .i64 r.kd,.int .i64 r.fr,.int .i64 r.un,.int .i64 r.ls,.int .i64 r.mo,.int .i64 r.ar,.int .i64 (pctN r.kp),.int .i64 (pctD r.kp),.int .i64 r.wh.1.1,.int .i64 r.wh.1.2,.slice A1 (flen r.wh.2) c1,.int .i64 r.pr.1.1,.int .i64 r.pr.1.2,.slice A2 (flen r.pr.2) c2] 65))
         have hHa:=HHc.out.but hba
         have hal:Below w2.heap.size w2 (w2.alloc (.cells #[.int .i64 r.id,.int .i64 r.lv,.int .i64 r.kd,.int .i64 r.fr,.int .i64 r.un,.int .i64 r.ls,.int .i64 r.mo,.int .i64 r.ar,.int .i64 (pctN r.kp),.int .i64 (pctD r.kp),.int .i64 r.wh.1.1,.int .i64 r.wh.1.2,.slice A1 (flen r.wh.2) c1,.int .i64 r.pr.1.1,.int .i64 r.pr.1.2,.slice A2 (flen r.pr.2) c2] 65)):=(Below.refl _ _).alloc (zn _) _
         have f1:FoD (w2.alloc (.cells #[.int .i64 r.id,.int .i64 r.lv,.int .i64 r.kd,.int .i64 r.fr,.int .i64 r.un,.int .i64 r.ls,.int .i64 r.mo,.int .i64 r.ar,.int .i64 (pctN r.kp),.int .i64 (pctD r.kp),.int .i64 r.wh.1.1,.int .i64 r.wh.1.2,.slice A1 (flen r.wh.2) c1,.int .i64 r.pr.1.1,.int .i64 r.pr.1.2,.slice A2 (flen r.pr.2) c2] 65)) (fun b=>WC.heap.size≤b∧b<(w2.alloc (.cells #[.int .i64 r.id,.int .i64 r.lv,.int .i64 r.kd,.int .i64 r.fr,.int .i64 r.un,.int .i64 r.ls,.int .i64 r.mo,.int .i64 r.ar,.int .i64 (pctN r.kp),.int .i64 (pctD r.kp),.int .i64 r.wh.1.1,.int .i64 r.wh.1.2,.slice A1 (flen r.wh.2) c1,.int .i64 r.pr.1.1,.int .i64 r.pr.1.2,.slice A2 (flen r.pr.2) c2] 65)).heap.size) (.slice A1 (flen r.wh.2) c1) r.wh.2:=hF1.keep (fun b h=>⟨h.1,by have:=h.2;simp;omega⟩) (fun b h=>hal.block b h.2)
         have f2:FoD (w2.alloc (.cells #[.int .i64 r.id,.int .i64 r.lv,.int .i64 r.kd,.int .i64 r.fr,.int .i64 r.un,.int .i64 r.ls,.int .i64 r.mo,.int .i64 r.ar,.int .i64 (pctN r.kp),.int .i64 (pctD r.kp),.int .i64 r.wh.1.1,.int .i64 r.wh.1.2,.slice A1 (flen r.wh.2) c1,.int .i64 r.pr.1.1,.int .i64 r.pr.1.2,.slice A2 (flen r.pr.2) c2] 65)) (fun b=>WC.heap.size≤b∧b<(w2.alloc (.cells #[.int .i64 r.id,.int .i64 r.lv,.int .i64 r.kd,.int .i64 r.fr,.int .i64 r.un,.int .i64 r.ls,.int .i64 r.mo,.int .i64 r.ar,.int .i64 (pctN r.kp),.int .i64 (pctD r.kp),.int .i64 r.wh.1.1,.int .i64 r.wh.1.2,.slice A1 (flen r.wh.2) c1,.int .i64 r.pr.1.1,.int .i64 r.pr.1.2,.slice A2 (flen r.pr.2) c2] 65)).heap.size) (.slice A2 (flen r.pr.2) c2) r.pr.2:=hF2.keep (fun b h=>⟨h.1,by have:=h.2;simp;omega⟩) (fun b h=>hal.block b h.2)
         have hsa:WC.heap.size≤(w2.alloc (.cells #[.int .i64 r.id,.int .i64 r.lv,.int .i64 r.kd,.int .i64 r.fr,.int .i64 r.un,.int .i64 r.ls,.int .i64 r.mo,.int .i64 r.ar,.int .i64 (pctN r.kp),.int .i64 (pctD r.kp),.int .i64 r.wh.1.1,.int .i64 r.wh.1.2,.slice A1 (flen r.wh.2) c1,.int .i64 r.pr.1.1,.int .i64 r.pr.1.2,.slice A2 (flen r.pr.2) c2] 65)).heap.size:=by simp;omega
         have HOWN:=zh hown2;have HBX:=zh (ZfF hbox [.int .i64 r.id,.int .i64 r.lv,.int .i64 r.kd,.int .i64 r.fr,.int .i64 r.un,.int .i64 r.ls,.int .i64 r.mo,.int .i64 r.ar,.int .i64 (pctN r.kp),.int .i64 (pctD r.kp),.int .i64 r.wh.1.1,.int .i64 r.wh.1.2,.slice A1 (flen r.wh.2) c1,.int .i64 r.pr.1.1,.int .i64 r.pr.1.2,.slice A2 (flen r.pr.2) c2] rfl)
         have HR2:=zh hR;have HPa:=zh hPa;have HHa:=zh hHa;have HFO:=zh hfo;have HO1:=zh hown;have HF1:=zh f1;have HF2:=zh f2;have HBA:=zh hba;have HMS:=zh hms;have HML:=zh hml;clear hown2 hbox hR hPa hHa hfo hown f1 f2 hba hms hF1 hF2 hP2 hb hal hml hcall;rw [rrV]
         go_wp2_with (first | (at_builtin;refine wpList_append_lies _ rfl _ _ 22 rfl (w.heap.size+3) 65 i0 _ 16 160 Tryz.underlying22 hI.out hZ0.out hZ1.out hZ2.out rfl (by decide) (.slice A acc.length c) _ _ rfl HOWN.out ⟨w2.heap.size,0,none⟩ 1 1 _ rfl rfl HBX.out (by simp [Value.oneCell']) (by omega) (by have:=HML.out;unfold maxLen;omega) (by have:=HML.out;omega) (by omega) _ rfl ?_;intro g cap w4 hown4 hgrow hg hlg))
         have hlow:=(Below.refl (w.heap.size+3) _).grown hgrow (by simp;omega) (fun g e=>(HO1.out.lt g e).1)
         have hP4:=HPa.out.low hlow
         have hH4:=HHa.out.low hlow
         have hO4:=OwnR.snoc (m:=⟨r.rt,.slice A1 (flen r.wh.2) c1,.slice A2 (flen r.pr.2) c2⟩) HFO.out (fun k e=>HO1.out.lt k e) HF1.out HF2.out (fun k h1 h2=>HBA.out.block k h2 (by omega)) hsa (by omega) hown4 rfl hgrow rfl hg
         rw [List.map_append,HMS.out] at hO4
         have hln:Zc5 (w.heap.size+2) w4=k':=Z51 hP4
         have hln2:Zc5 (w.heap.size+2) wr=k:=Z51 HP0.out
         refine ⟨⟨k',acc++[r],by rw [List.length_append,List.length_singleton];omega,hP4,hH4,?_,HR2.out.symm⟩,by rw [hln,hln2];omega⟩
         rw [List.map_append]
         exact hO4
      · have d1:((acc.length:Int)==100)=false:=by simp;omega
        have HL:=zh hl;clear hl hl1;go_wp2_with fail;have HPc:=HP
        have HHc:=HH
        have HOc:=HO
        have hWC:wr=wr:=rfl
        have hcall:=Zf3 (w.heap.size+2) (.slice A0 ts.length c0) ts ex HEX.out k wr HPc.out (Z4i ex ts k) rfl
        refine hcall.mono ?_
        cases hro:Z4i ex ts k with
        | no j =>
         have hR:=Zd1 (ex:=ex) hlt HL.out hro
         rw [HRk.out] at hR
         subst hR;rintro e w2 ⟨hb,rfl⟩;have HHd:=HHc.out.but hb
         refine leaves_cons (f:=119) (args:=#[.pointer (some ⟨w.heap.size,0,none⟩),.pointer (some ⟨w.heap.size+1,0,none⟩)]) (by simp) (by simp [go_sem]) ?_
         refine (HBAD.out 8 (Z3z ts j) _ HHd).mono ?_
         rintro e u' w'' ⟨rfl,rfl,z,ze,hbel⟩
         have q3:w''.cell? ⟨w.heap.size,0,none⟩=some (.int .i64 8):=by rw [zc z];rfl
         have q4:w''.cell? ⟨w.heap.size+1,0,none⟩=some (.int .i64 (Z3z ts j)):=by rw [zc ze];rfl
         exact ⟨.tuple #[.slice A acc.length c,.int .i64 8,.int .i64 (Z3z ts j)],by simp [results,Tryz.results83,go_sem,q3,q4],hbel,_,rfl⟩
        | bad =>
         have hR:=Zak (ex:=ex) hlt HL.out hro
         rw [HRk.out] at hR
         subst hR;rintro e w2 ⟨hb,rfl⟩;have HHd:=HHc.out.but hb
         refine leaves_cons (f:=119) (args:=#[.pointer (some ⟨w.heap.size,0,none⟩),.pointer (some ⟨w.heap.size+1,0,none⟩)]) (by simp) (by simp [go_sem]) ?_
         refine (HBAD.out 1 (lnAt ts k) _ HHd).mono ?_
         rintro e u' w'' ⟨rfl,rfl,z,ze,hbel⟩
         have q3:w''.cell? ⟨w.heap.size,0,none⟩=some (.int .i64 1):=by rw [zc z];rfl
         have q4:w''.cell? ⟨w.heap.size+1,0,none⟩=some (.int .i64 (lnAt ts k)):=by rw [zc ze];rfl
         exact ⟨.tuple #[.slice A acc.length c,.int .i64 1,.int .i64 (lnAt ts k)],by simp [results,Tryz.results83,go_sem,q3,q4],hbel,_,rfl⟩
        | ok r k' =>
         have hR:=Z46 (ex:=ex) HRD.out hlt HL.out hro
         rw [HRk.out] at hR
         have hfar:=Z6u HRD.out hro
         rintro e w2 ⟨hb,hP2,A1,c1,A2,c2,rfl,hF1,hF2⟩;obtain ⟨ms,hms,hown,hfo⟩:=HOc.out
         have hml:acc.length=ms.length:=by have:=congrArg List.length hms;simpa using this.symm
         have hpbz:w.heap.size+2<wr.heap.size:=HPc.out.lt
         have hba:But (w.heap.size+2) wr (w2.alloc (.cells #[.int .i64 r.id,.int .i64 r.lv,.int .i64 r.kd,.int .i64 r.fr,.int .i64 r.un,.int .i64 r.ls,.int .i64 r.mo,.int .i64 r.ar,.int .i64 (pctN r.kp),.int .i64 (pctD r.kp),.int .i64 r.wh.1.1,.int .i64 r.wh.1.2,.slice A1 (flen r.wh.2) c1,.int .i64 r.pr.1.1,.int .i64 r.pr.1.2,.slice A2 (flen r.pr.2) c2] 65)):=hb.alloc _
         have hown2:=Z7y hown (fun k h1 h2=>hba.block k h2 (by omega))
         have hsz2:=hb.size
         have hbox:=za w2 (.cells #[.int .i64 r.id,.int .i64 r.lv,.int .i64 r.kd,.int .i64 r.fr,.int .i64 r.un,.int .i64 r.ls,.int .i64 r.mo,.int .i64 r.ar,.int .i64 (pctN r.kp),.int .i64 (pctD r.kp),.int .i64 r.wh.1.1,.int .i64 r.wh.1.2,.slice A1 (flen r.wh.2) c1,.int .i64 r.pr.1.1,.int .i64 r.pr.1.2,.slice A2 (flen r.pr.2) c2] 65)
         have hPa:=hP2.on ((Below.refl _ _).alloc (zn _) (.cells #[.int .i64 r.id,.int .i64 r.lv,.int .i64 r.kd,.int .i64 r.fr,.int .i64 r.un,.int .i64 r.ls,.int .i64 r.mo,.int .i64 r.ar,.int .i64 (pctN r.kp),.int .i64 (pctD r.kp),.int .i64 r.wh.1.1,.int .i64 r.wh.1.2,.slice A1 (flen r.wh.2) c1,.int .i64 r.pr.1.1,.int .i64 r.pr.1.2,.slice A2 (flen r.pr.2) c2] 65))
         have hHa:=HHc.out.but hba
         have hal:Below w2.heap.size w2 (w2.alloc (.cells #[.int .i64 r.id,.int .i64 r.lv,.int .i64 r.kd,.int .i64 r.fr,.int .i64 r.un,.int .i64 r.ls,.int .i64 r.mo,.int .i64 r.ar,.int .i64 (pctN r.kp),.int .i64 (pctD r.kp),.int .i64 r.wh.1.1,.int .i64 r.wh.1.2,.slice A1 (flen r.wh.2) c1,.int .i64 r.pr.1.1,.int .i64 r.pr.1.2,.slice A2 (flen r.pr.2) c2] 65)):=(Below.refl _ _).alloc (zn _) _
         have f1:FoD (w2.alloc (.cells #[.int .i64 r.id,.int .i64 r.lv,.int .i64 r.kd,.int .i64 r.fr,.int .i64 r.un,.int .i64 r.ls,.int .i64 r.mo,.int .i64 r.ar,.int .i64 (pctN r.kp),.int .i64 (pctD r.kp),.int .i64 r.wh.1.1,.int .i64 r.wh.1.2,.slice A1 (flen r.wh.2) c1,.int .i64 r.pr.1.1,.int .i64 r.pr.1.2,.slice A2 (flen r.pr.2) c2] 65)) (fun b=>wr.heap.size≤b∧b<(w2.alloc (.cells #[.int .i64 r.id,.int .i64 r.lv,.int .i64 r.kd,.int .i64 r.fr,.int .i64 r.un,.int .i64 r.ls,.int .i64 r.mo,.int .i64 r.ar,.int .i64 (pctN r.kp),.int .i64 (pctD r.kp),.int .i64 r.wh.1.1,.int .i64 r.wh.1.2,.slice A1 (flen r.wh.2) c1,.int .i64 r.pr.1.1,.int .i64 r.pr.1.2,.slice A2 (flen r.pr.2) c2] 65)).heap.size) (.slice A1 (flen r.wh.2) c1) r.wh.2:=hF1.keep (fun b h=>⟨h.1,by have:=h.2;simp;omega⟩) (fun b h=>hal.block b h.2)
         have f2:FoD (w2.alloc (.cells #[.int .i64 r.id,.int .i64 r.lv,.int .i64 r.kd,.int .i64 r.fr,.int .i64 r.un,.int .i64 r.ls,.int .i64 r.mo,.int .i64 r.ar,.int .i64 (pctN r.kp),.int .i64 (pctD r.kp),.int .i64 r.wh.1.1,.int .i64 r.wh.1.2,.slice A1 (flen r.wh.2) c1,.int .i64 r.pr.1.1,.int .i64 r.pr.1.2,.slice A2 (flen r.pr.2) c2] 65)) (fun b=>wr.heap.size≤b∧b<(w2.alloc (.cells #[.int .i64 r.id,.int .i64 r.lv,.int .i64 r.kd,.int .i64 r.fr,.int .i64 r.un,.int .i64 r.ls,.int .i64 r.mo,.int .i64 r.ar,.int .i64 (pctN r.kp),.int .i64 (pctD r.kp),.int .i64 r.wh.1.1,.int .i64 r.wh.1.2,.slice A1 (flen r.wh.2) c1,.int .i64 r.pr.1.1,.int .i64 r.pr.1.2,.slice A2 (flen r.pr.2) c2] 65)).heap.size) (.slice A2 (flen r.pr.2) c2) r.pr.2:=hF2.keep (fun b h=>⟨h.1,by have:=h.2;simp;omega⟩) (fun b h=>hal.block b h.2)
         have hsa:wr.heap.size≤(w2.alloc (.cells #[.int .i64 r.id,.int .i64 r.lv,.int .i64 r.kd,.int .i64 r.fr,.int .i64 r.un,.int .i64 r.ls,.int .i64 r.mo,.int .i64 r.ar,.int .i64 (pctN r.kp),.int .i64 (pctD r.kp),.int .i64 r.wh.1.1,.int .i64 r.wh.1.2,.slice A1 (flen r.wh.2) c1,.int .i64 r.pr.1.1,.int .i64 r.pr.1.2,.slice A2 (flen r.pr.2) c2] 65)).heap.size:=by simp;omega
         have HOWN:=zh hown2;have HBX:=zh (ZfF hbox [.int .i64 r.id,.int .i64 r.lv,.int .i64 r.kd,.int .i64 r.fr,.int .i64 r.un,.int .i64 r.ls,.int .i64 r.mo,.int .i64 r.ar,.int .i64 (pctN r.kp),.int .i64 (pctD r.kp),.int .i64 r.wh.1.1,.int .i64 r.wh.1.2,.slice A1 (flen r.wh.2) c1,.int .i64 r.pr.1.1,.int .i64 r.pr.1.2,.slice A2 (flen r.pr.2) c2] rfl)
         have HR2:=zh hR;have HPa:=zh hPa;have HHa:=zh hHa;have HFO:=zh hfo;have HO1:=zh hown;have HF1:=zh f1;have HF2:=zh f2;have HBA:=zh hba;have HMS:=zh hms;have HML:=zh hml;clear hown2 hbox hR hPa hHa hfo hown f1 f2 hba hms hF1 hF2 hP2 hb hal hml hcall;rw [rrV]
         go_wp2_with (first | (at_builtin;refine wpList_append_lies _ rfl _ _ 22 rfl (w.heap.size+3) 65 i0 _ 16 160 Tryz.underlying22 hI.out hZ0.out hZ1.out hZ2.out rfl (by decide) (.slice A acc.length c) _ _ rfl HOWN.out ⟨w2.heap.size,0,none⟩ 1 1 _ rfl rfl HBX.out (by simp [Value.oneCell']) (by omega) (by have:=HML.out;unfold maxLen;omega) (by have:=HML.out;omega) (by omega) _ rfl ?_;intro g cap w4 hown4 hgrow hg hlg))
         have hlow:=(Below.refl (w.heap.size+3) _).grown hgrow (by simp;omega) (fun g e=>(HO1.out.lt g e).1)
         have hP4:=HPa.out.low hlow
         have hH4:=HHa.out.low hlow
         have hO4:=OwnR.snoc (m:=⟨r.rt,.slice A1 (flen r.wh.2) c1,.slice A2 (flen r.pr.2) c2⟩) HFO.out (fun k e=>HO1.out.lt k e) HF1.out HF2.out (fun k h1 h2=>HBA.out.block k h2 (by omega)) hsa (by omega) hown4 rfl hgrow rfl hg
         rw [List.map_append,HMS.out] at hO4
         have hln:Zc5 (w.heap.size+2) w4=k':=Z51 hP4
         have hln2:Zc5 (w.heap.size+2) wr=k:=Z51 HP0.out
         refine ⟨⟨k',acc++[r],by rw [List.length_append,List.length_singleton];omega,hP4,hH4,?_,HR2.out.symm⟩,by rw [hln,hln2];omega⟩
         rw [List.map_append]
         exact hO4
  · have dl:decide ((k:Int)<(ts.length:Int))=false:=by simpa using hlt
    have hR:=Zht (ex:=ex) (acc:=acc) hlt
    rw [HRk.out] at hR
    subst hR;obtain ⟨z0,z1,zb⟩:=HH.out
    have q3:wr.cell? ⟨w.heap.size,0,none⟩=some (.int .i64 0):=by rw [zc z0];rfl
    have q4:wr.cell? ⟨w.heap.size+1,0,none⟩=some (.int .i64 0):=by rw [zc z1];rfl
    have y3:wr.frozen? ⟨w.heap.size,0,none⟩=false:=by simp [World.frozen?,z0]
    have y4:wr.frozen? ⟨w.heap.size+1,0,none⟩=false:=by simp [World.frozen?,z1]
    have hz0:=(zs z0)
    have hz1:=(zs z1)
    go_wp2_with fail;refine leaves_cons (f:=119) (args:=#[.pointer (some ⟨w.heap.size,0,none⟩),.pointer (some ⟨w.heap.size+1,0,none⟩)]) (by simp) (by simp [go_sem]) ?_
    refine (Zea w.heap.size (w.heap.size+1) _).mono ?_
    rintro e u' w'' ⟨rfl,rfl,rfl⟩
    refine ⟨.tuple #[.slice A acc.length c,.int .i64 0,.int .i64 0],by simp [results,Tryz.results83,go_sem,q3,q4],?_,_,rfl,?_⟩
    · exact (zb.setCell (p:=⟨w.heap.size,0,none⟩) (zn _) _).setCell (p:=⟨w.heap.size+1,0,none⟩) (by show w.heap.size≤w.heap.size+1;omega) _
    · refine (HO.out.keep (by simp [World.setCell]) (fun k h1 h2=>?_)).v
      rw [Below.heap_setCell _ _ _ _ (show k≠w.heap.size+1 by omega),Below.heap_setCell _ _ _ _ (show k≠w.heap.size by omega)]
end
section
open Go.RowKit Lx Px
def SrcP (w:World)(a:AllR)(e:Ending)(w':World):Prop :=
 Below w.heap.size w w'∧(match a with
  | .ok l=>∃ A c,e=.returned (.tuple #[.slice A l.length c,.int .i64 0,.int .i64 0])∧RtsV w' w'.heap.size (.slice A l.length c) (l.map Rr.rt)
  | .err er ln=>e=.returned (.tuple #[.slice none 0 0,.int .i64 er,.int .i64 ln]))
theorem ZgC {ex:Nat→Out}{ts:List Tok}:∀ (f k:Nat) (acc:List Rr) {er ln:Int},Z25 ex ts f k acc=.err er ln→er=1∨er=2∨er=8:=by
 intro f
 induction f with
 | zero=>intro k acc er ln h;cases h
 | succ f ih =>
  intro k acc er ln h
  simp only [Z25] at h
  split at h
  · split at h
    · injection h with h1 h2;exact .inr (.inl h1.symm)
    · split at h
      · exact ih _ _ h
      · injection h with h1 h2;exact .inr (.inr h1.symm)
      · injection h with h1 h2;exact .inl h1.symm
  · cases h
theorem Z4m (s:ByteArray)(w:World)(hM:Mx w w.heap.size):Calls Tryz.prog 47 #[.string s] w (SrcP w (srcO (bl s))):=by
 obtain ⟨hK,hlen⟩:=Znt (bl s)
 obtain ⟨ts,er,ln,ht⟩:∃ ts er ln,toks (bl s)=(ts,er,ln):=⟨_,_,_,rfl⟩
 have htk:∀ W:World,Calls Tryz.prog 82 #[.string s] W (ZaC W (ts,er,ln)):=fun W=>by have:=Zeb s W;rwa [ht] at this
 rw [ht] at hK hlen
 dsimp only at hK hlen
 have HT:=zh htk;have HM:=zh hM;have HK:=zh hK;by_cases he:er=0
 · subst he
   rw [Zee ht]
   have hra:=fun w1 v hS hM=>Zix w1 v ts hS (by omega) HK.out hM
   have herr:∀ er ln:Int,allO (exOf ts) ts=.err er ln→er=1∨er=2∨er=8:=fun er ln h=>ZgC _ _ _ h
   generalize allO (exOf ts) ts=R at *
   have HRA:=zh hra;have HE:=zh herr;clear htk hM hK ht hra herr;go_enter Tryz.func47,Tryz.ntmps47
   go_wp2_with fail;refine (HT.out _).mono ?_
   rintro e w1 ⟨v,rfl,hS,hb1⟩;have hc:=HRA.out w1 v hS (by obtain ⟨m,h1,h2⟩:=HM.out.on hb1;exact ⟨m,h1,by have:=hb1.size;omega⟩)
   have HC:=zh hc;have B1:=zh hb1;clear hc hb1 hS;go_wp2_with fail;refine HC.out.mono ?_
   rintro e w2 ⟨hb2,h2⟩;have B2:=zh (Z00 B1.out hb2)
   clear hb2 HC;cases hO:R with
   | ok l =>
    subst hO;obtain ⟨v2,rfl,hR⟩:=h2
    obtain ⟨A2,c2,rfl,_⟩:=id hR
    have HR:=zh hR;clear hR;go_wp2_with fail;refine bodyPost_ret (v:=.tuple #[.slice A2 (l.map Rr.rt).length c2,.int .i64 0,.int .i64 0]) (by simp [results,Tryz.results47,go_sem]) rfl ?_
    refine ⟨B2.out,A2,c2,by rw [List.length_map],?_⟩
    have:=HR.out
    rwa [List.length_map] at this
   | err er ln2 =>
    subst hO;obtain ⟨v2,rfl⟩:=h2
    have hne:er≠0:=by rcases HE.out er ln2 rfl with rfl | rfl | rfl <;> decide
    have d:(er != 0)=true:=by simpa using hne
    clear hne;go_wp2_with fail;refine bodyPost_ret (v:=.tuple #[.slice none 0 0,.int .i64 er,.int .i64 ln2]) (by simp [results,Tryz.results47,go_sem]) rfl ?_
    exact ⟨B2.out,rfl⟩
 · rw [Znx ht he]
   have d:(er != 0)=true:=by simpa using he
   clear htk hM hK ht he;go_enter Tryz.func47,Tryz.ntmps47
   go_wp2_with fail;refine (HT.out _).mono ?_
   rintro e w1 ⟨v,rfl,hS,hb1⟩;have B1:=zh hb1;obtain ⟨A0,c0,rfl,_⟩:=hS
   clear hb1;go_wp2_with fail;refine bodyPost_ret (v:=.tuple #[.slice none 0 0,.int .i64 er,.int .i64 ln]) (by simp [results,Tryz.results47,go_sem]) rfl ?_
   exact ⟨B1.out,rfl⟩
end
end Go.Proofs.YtnepkoepbapgeaaGreatDoor
