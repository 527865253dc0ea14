/-
  Several texts in one: PrtRate, LexPlain8.
-/
import Derived.Test.YtnepkoepbapgeaaGreatDoorPrtNum
import Derived.Test.YtnepkoepbapgeaaGreatDoorPrtMem
namespace Go.Proofs.YtnepkoepbapgeaaGreatDoor
set_option maxRecDepth 100000
section
open Go.RowKit Lx Px
namespace Px
structure Rt where
 id:Int
 lv:Int
 kd:Int
 fr:Int
 un:Int
 ls:Int
 mo:Int
 ar:Int
 kn:Int
 kq:Int
 wo:Int
 wn:Int
 wl:Fo
 po:Int
 pn:Int
 pl:Fo
def Rt.nums (r:Rt):List Int:=[r.id,r.lv,r.kd,r.fr,r.un,r.ls,r.mo,r.ar]
def Rt.pct (r:Rt):Int:=100 / r.kq*r.kn
def Rt.can (r:Rt):Bool:=r.nums.all numB&&(ratB r.kn r.kq&&(100 % r.kq==0))&&numB r.pct&&(Z0d r.wo r.wn r.wl&&Z0d r.po r.pn r.pl)
def Rt.items (r:Rt):List Wn:=[.inl [114,97,116,101],.inr r.id,.inl [108,101,118,101,108],.inr r.lv,.inl [107,105,110,100],.inr r.kd,.inl [110,105,103,104,116,115],.inr r.fr,.inl [116,111],.inr r.un,
 .inl [115,116,97,121],.inr r.ls,.inl [116,111],.inr r.mo,.inl [97,114,114,105,118,101],.inr r.ar,.inl [107,101,101,112],.inl (dec r.pct++[37]),.inl [119,104,101,110]]
def Rt.text (r:Rt):Bytes:=Z2a r.items++textE r.wo r.wn r.wl++[32,112,114,105,99,101,32]++textE r.po r.pn r.pl++[59]
def Rt.res (r:Rt):Bytes × Int:=if r.can then (r.text,0) else ([],1)
end Px
def rtV (r:Rt)(wv pv:Value):Value:=.agg #[.int .i64 r.id,.int .i64 r.lv,.int .i64 r.kd,.int .i64 r.fr,.int .i64 r.un,.int .i64 r.ls,.int .i64 r.mo,.int .i64 r.ar,.int .i64 r.kn,.int .i64 r.kq,.int .i64 r.wo,.int .i64 r.wn,wv,.int .i64 r.po,.int .i64 r.pn,pv]
theorem Z8e {w:World}{g:Nat}{zs:List Int}{t:TypeId}{fz:Nat × Nat}(h:w.heap[g]?=some (.cells (zs.map (.int .i64)).toArray t fz)):∀ k,k<zs.length→w.cell? ⟨g,k,none⟩=some (.int .i64 (zs.getD k 0)):=by
 intro k hk
 rw [zc h]
 simp [List.getElem?_eq_getElem hk]
def Z31 (w:World)(cs:Array Value)(wx:World):Prop:=wx.heap[w.heap.size]?=some (.cells cs 65 (0,0))∧Below w.heap.size w wx
theorem Z31.on {w wx wy:World}{cs:Array Value}(h:Z31 w cs wx)(hb:Below wx.heap.size wx wy):Z31 w cs wy:=⟨(hb.block _ (zs h.1)).trans h.1,Z00 h.2 hb⟩
theorem Z4E {x y a b:Int}(h1:0≤x)(h2:x≤a)(h3 : -b≤y)(h4:y≤b)(hb:0≤b) : -(a*b)≤x*y∧x*y≤a*b:=by
 constructor
 · have:=Int.mul_le_mul_of_nonneg_left h3 h1
   have h5:=Int.mul_le_mul_of_nonneg_right h2 hb
   rw [Int.mul_neg] at this
   omega
 · have:=Int.mul_le_mul_of_nonneg_left h4 h1
   have h5:=Int.mul_le_mul_of_nonneg_right h2 hb
   omega
theorem Z31.write {w wx wy:World}{cs:Array Value}{b:Nat}(h:Z31 w cs wx)(hb:Below b wx wy)(hlt:w.heap.size<b):Z31 w cs wy:=⟨(hb.block _ hlt).trans h.1,h.2.trans (hb.mono (by omega))⟩
theorem Z31.cell {w wx:World}{cs:Array Value}(h:Z31 w cs wx)(i:Nat)(v:Value)(hv:cs[i]?=some v):wx.cell? ⟨w.heap.size,i,none⟩=some v:=by
 rw [zc h.1,hv]
theorem ZcH (op:Int)(t:Bytes):brk (decide (Z03 op<0)) t=t:=by
 have:=Zhb op
 rw [show decide (Z03 op<0)=false by simp;omega];rfl
theorem Z8f {n d:Int}(h:ratB n d=true):1≤d∧d≤1000000∧-1000000000≤n∧n≤1000000000:=by
 simp [ratB] at h;omega
theorem Zfz (r:Rt)(W:World)(s:ByteArray)(h:s=mk (dec r.pct++[37])):(W.alloc (.cells #[.iface 9 (.string ⟨#[114,97,116,101]⟩),.iface 3 (.int .i64 r.id),.iface 9 (.string ⟨#[108,101,118,101,108]⟩),.iface 3 (.int .i64 r.lv),.iface 9 (.string ⟨#[107,105,110,100]⟩),.iface 3 (.int .i64 r.kd),.iface 9 (.string ⟨#[110,105,103,104,116,115]⟩),.iface 3 (.int .i64 r.fr),.iface 9 (.string ⟨#[116,111]⟩),.iface 3 (.int .i64 r.un),.iface 9 (.string ⟨#[115,116,97,121]⟩),.iface 3 (.int .i64 r.ls),.iface 9 (.string ⟨#[116,111]⟩),.iface 3 (.int .i64 r.mo),.iface 9 (.string ⟨#[97,114,114,105,118,101]⟩),.iface 3 (.int .i64 r.ar),.iface 9 (.string ⟨#[107,101,101,112]⟩),.iface 9 (.string s),.iface 9 (.string ⟨#[119,104,101,110]⟩)] 20)).heap[W.heap.size]?=some (.cells (r.items.map Zer).toArray 20 (0,0)):=by
 subst h;exact za W _
theorem ZfA (r:Rt)(h:(0≤r.id∧r.id≤999999999)∧(0≤r.lv∧r.lv≤999999999)∧(0≤r.kd∧r.kd≤999999999)∧(0≤r.fr∧r.fr≤999999999)∧(0≤r.un∧r.un≤999999999)∧(0≤r.ls∧r.ls≤999999999)∧(0≤r.mo∧r.mo≤999999999)∧0≤r.ar∧r.ar≤999999999):∀ x∈r.items,Zay x:=by
 intro x hx
 simp only [Rt.items,List.mem_cons,List.not_mem_nil,or_false] at hx
 rcases hx with rfl | rfl | rfl | rfl | rfl | rfl | rfl | rfl | rfl | rfl | rfl | rfl | rfl | rfl | rfl | rfl | rfl | rfl | rfl
 all_goals first | trivial | (simp only [Zay];omega)
theorem ZfB:∀ (its:List Wn),(∀ x∈its,(Z6y x).length≤20)→(Z2a its).length≤21*its.length:=by
 intro its
 induction its with
 | nil=>intro _;simp [Z2a]
 | cons x r ih =>
  intro h
  have h1:=h x (by simp)
  have h2:=ih (fun y hy=>h y (by simp [hy]))
  simp only [Z2a,List.length_append,List.length_cons,List.length_nil]
  omega
theorem Zd0 (r:Rt)(h:(0≤r.id∧r.id≤999999999)∧(0≤r.lv∧r.lv≤999999999)∧(0≤r.kd∧r.kd≤999999999)∧(0≤r.fr∧r.fr≤999999999)∧(0≤r.un∧r.un≤999999999)∧(0≤r.ls∧r.ls≤999999999)∧(0≤r.mo∧r.mo≤999999999)∧0≤r.ar∧r.ar≤999999999)(hp:0≤r.pct∧r.pct≤999999999):([]++Z2a r.items:Bytes).length≤100000:=by
 have hl:(Z2a r.items).length≤21*r.items.length:=by
  refine ZfB r.items ?_
  intro x hx
  have hok:=ZfA r h x hx
  simp only [Rt.items,List.mem_cons,List.not_mem_nil,or_false] at hx
  rcases hx with rfl | rfl | rfl | rfl | rfl | rfl | rfl | rfl | rfl | rfl | rfl | rfl | rfl | rfl | rfl | rfl | rfl | rfl | rfl
  all_goals first | (simp only [Zay] at hok;have:=Z1i _ hok.1 (Int.le_trans hok.2 (by omega));simp only [Z6y];omega) | (simp [Z6y];done) | (have:=Z1i r.pct hp.1 (by omega);simp only [Z6y,List.length_append,List.length_cons,List.length_nil];omega)
 have h19:r.items.length=19:=rfl
 rw [h19] at hl
 rw [List.nil_append]
 omega
def Z9b (r:Rt)(w:World)(e:Ending)(w':World):Prop:=e=.returned (.tuple #[.string (mk r.res.1),.int .i64 r.res.2])∧Below w.heap.size w w'
set_option maxHeartbeats 4000000 in
theorem ZfC (r:Rt)(wv pv:Value)(w:World)(B:Nat)(hwv:FoV w B wv r.wl)(hpv:FoV w B pv r.pl)(ht:Tabs B w) :
 Calls Tryz.prog 100 #[rtV r wv pv] w (Z9b r w):=by
 have hwv':=hwv
 have hpv':=hpv
 obtain ⟨WA,wc,rfl,hq1⟩:=hwv'
 obtain ⟨PA,pc,rfl,hq2⟩:=hpv'
 have hBw:=ht.2.2.1
 have HWV:=zh hwv;have HPV:=zh hpv;have HT:=zh ht;clear hwv hpv ht hq1 hq2;obtain ⟨id,lv,kd,fr,un,ls,mo,ar,kn,kq,wo,wn,wl,po,pn,pl⟩:=r
 suffices hall:∀ R:Rt,R=⟨id,lv,kd,fr,un,ls,mo,ar,kn,kq,wo,wn,wl,po,pn,pl⟩→Calls Tryz.prog 100 #[.agg #[.int .i64 id,.int .i64 lv,.int .i64 kd,.int .i64 fr,.int .i64 un,.int .i64 ls,.int .i64 mo,.int .i64 ar,.int .i64 kn,.int .i64 kq,.int .i64 wo,.int .i64 wn,.slice WA (flen wl) wc,.int .i64 po,.int .i64 pn,.slice PA (flen pl) pc]] w (Z9b R w) from hall _ rfl
 intro R hR
 have hwv:FoV w B (.slice WA (flen wl) wc) wl:=HWV.out
 have hpv:FoV w B (.slice PA (flen pl) pc) pl:=HPV.out
 clear HWV HPV;have HWV:=zh hwv;have HPV:=zh hpv;have hres:R.res=if ([id,lv,kd,fr,un,ls,mo,ar].all numB&&(ratB kn kq&&(100 % kq==0))&&numB (100 / kq*kn)&&(Z0d wo wn wl&&Z0d po pn pl)) then (R.text,0) else ([],1):=by rw [hR];rfl
 have HRES:=zh hres;have HR:=zh hR;clear hres hR hwv hpv;have hb0:=(Below.refl w.heap.size w).alloc (zn _) (.cells #[.int .i64 id,.int .i64 lv,.int .i64 kd,.int .i64 fr,.int .i64 un,.int .i64 ls,.int .i64 mo,.int .i64 ar,.int .i64 kn,.int .i64 kq,.int .i64 wo,.int .i64 wn,.slice WA (flen wl) wc,.int .i64 po,.int .i64 pn,.slice PA (flen pl) pc] 65)
 have hx0:=za w (.cells #[.int .i64 id,.int .i64 lv,.int .i64 kd,.int .i64 fr,.int .i64 un,.int .i64 ls,.int .i64 mo,.int .i64 ar,.int .i64 kn,.int .i64 kq,.int .i64 wo,.int .i64 wn,.slice WA (flen wl) wc,.int .i64 po,.int .i64 pn,.slice PA (flen pl) pc] 65)
 have HB0:=zh hb0;have HX0:=zh hx0;clear hb0 hx0;go_enter Tryz.func100,Tryz.ntmps100
 go_wp2_with fail;have hW1:Z31 w #[.int .i64 id,.int .i64 lv,.int .i64 kd,.int .i64 fr,.int .i64 un,.int .i64 ls,.int .i64 mo,.int .i64 ar,.int .i64 kn,.int .i64 kq,.int .i64 wo,.int .i64 wn,.slice WA (flen wl) wc,.int .i64 po,.int .i64 pn,.slice PA (flen pl) pc] ((w.alloc (.cells #[.int .i64 id,.int .i64 lv,.int .i64 kd,.int .i64 fr,.int .i64 un,.int .i64 ls,.int .i64 mo,.int .i64 ar,.int .i64 kn,.int .i64 kq,.int .i64 wo,.int .i64 wn,.slice WA (flen wl) wc,.int .i64 po,.int .i64 pn,.slice PA (flen pl) pc] 65)).alloc (.cells #[.int .i64 id,.int .i64 lv,.int .i64 kd,.int .i64 fr,.int .i64 un,.int .i64 ls,.int .i64 mo,.int .i64 ar] 3)):=Z31.on ⟨HX0.out,HB0.out⟩ ((Below.refl _ _).alloc (zn _) _)
 have hN1:((w.alloc (.cells #[.int .i64 id,.int .i64 lv,.int .i64 kd,.int .i64 fr,.int .i64 un,.int .i64 ls,.int .i64 mo,.int .i64 ar,.int .i64 kn,.int .i64 kq,.int .i64 wo,.int .i64 wn,.slice WA (flen wl) wc,.int .i64 po,.int .i64 pn,.slice PA (flen pl) pc] 65)).alloc (.cells #[.int .i64 id,.int .i64 lv,.int .i64 kd,.int .i64 fr,.int .i64 un,.int .i64 ls,.int .i64 mo,.int .i64 ar] 3)).heap[w.heap.size+1]?=some (.cells ([id,lv,kd,fr,un,ls,mo,ar].map (.int .i64)).toArray 3 (0,0)):=(Z1x _ _ _).2
 generalize (w.alloc (.cells #[.int .i64 id,.int .i64 lv,.int .i64 kd,.int .i64 fr,.int .i64 un,.int .i64 ls,.int .i64 mo,.int .i64 ar,.int .i64 kn,.int .i64 kq,.int .i64 wo,.int .i64 wn,.slice WA (flen wl) wc,.int .i64 po,.int .i64 pn,.slice PA (flen pl) pc] 65)).alloc (.cells #[.int .i64 id,.int .i64 lv,.int .i64 kd,.int .i64 fr,.int .i64 un,.int .i64 ls,.int .i64 mo,.int .i64 ar] 3)=W1 at *
 have HN1:=zh hN1;clear hN1;have H1:=zh hW1;clear hW1 HX0 HB0;refine (Z4C (w.heap.size+1) [id,lv,kd,fr,un,ls,mo,ar] _ (by simp) (by simp) (Z8e HN1.out)).mono ?_
 rintro e w' ⟨rfl,rfl⟩;cases hnums:[id,lv,kd,fr,un,ls,mo,ar].all numB with
 | false =>
  have hr:=HRES.out
  rw [hnums] at hr
  simp only [Bool.false_and,Bool.false_eq_true,if_false] at hr
  have HRS:=zh hr;clear hr hnums;go_wp2_with fail;go_ret2
  refine ⟨?_,H1.out.2⟩
  rw [HRS.out]
  rfl
 | true =>
  have HNUM:=zh hnums;have c8:W1.cell? ⟨w.heap.size,8,none⟩=some (.int .i64 kn):=by rw [zc H1.out.1];rfl
  have c9:W1.cell? ⟨w.heap.size,9,none⟩=some (.int .i64 kq):=by rw [zc H1.out.1];rfl
  clear hnums;go_wp2_with fail;refine (Z0E kn kq _).mono ?_
  rintro e w2 ⟨rfl,hb2⟩;have H2:=zh (H1.out.on hb2)
  clear hb2 c8 c9 H1;cases hrat:ratB kn kq with
  | false =>
   have hr:=HRES.out
   rw [HNUM.out,hrat] at hr
   simp only [Bool.false_and,Bool.and_false,Bool.false_eq_true,if_false] at hr
   have HRS:=zh hr;clear hr hrat;go_wp2_with fail;go_ret2
   refine ⟨?_,H2.out.2⟩
   rw [HRS.out]
   rfl
  | true =>
   have hq:=Z8f hrat;have HRAT:=zh hrat;have c8:w2.cell? ⟨w.heap.size,8,none⟩=some (.int .i64 kn):=by rw [zc H2.out.1];rfl
   have c9:w2.cell? ⟨w.heap.size,9,none⟩=some (.int .i64 kq):=by rw [zc H2.out.1];rfl
   have hqz:¬ kq=0:=by omega
   obtain ⟨h1,h2,h3,h4⟩:=hq
   clear hrat;by_cases hmod:100 % kq=0
   · have hmb:(100 % kq != 0)=false:=by simpa using hmod
     have hq0:0≤100 / kq∧100 / kq≤100:=⟨Int.ediv_nonneg (by omega) (by omega),Int.ediv_le_self _ (by omega)⟩
     obtain ⟨q,hq⟩:∃ q,q=100 / kq:=⟨_,rfl⟩
     obtain ⟨pc2,hp⟩:∃ p,p=q*kn:=⟨_,rfl⟩
     have hpb : -100000000000≤pc2∧pc2≤100000000000:=by
      rw [hp,hq]
      have a1:=Z4E (x:=100 / kq) (y:=kn) (a:=100) (b:=1000000000) hq0.1 hq0.2 h3 h4 (by omega)
      omega
     rw [← hq] at hq0
     have e1:(100:Int).tdiv kq=q:=by rw [Int.tdiv_eq_ediv_of_nonneg (by omega),hq]
     have e2:(100:Int) / kq=q:=hq.symm
     have e3:IntKind.i64.wrap q=q:=IntWalk.i64_in _ (by omega)
     have e4:IntKind.i64.wrap (q*kn)=pc2:=by rw [← hp];exact IntWalk.i64_in _ (by omega)
     have hr:=HRES.out
     rw [HNUM.out,HRAT.out,hmod,← hq,← hp] at hr
     simp only [beq_self_eq_true,Bool.true_and] at hr
     have hpct:R.pct=pc2:=by rw [HR.out,hp,hq];rfl
     have HRS:=zh hr;have HPCT:=zh hpct;clear hr hmod hq hp hpct;obtain ⟨hq1,hq2⟩:=hq0
     obtain ⟨hp1,hp2⟩:=hpb
     go_wp2_with fail;go_quiet (fail)
     go_wp2_with fail;have hN3:((w2.drewN nq).alloc (.cells #[.int .i64 pc2] 3)).heap[w2.heap.size]?=some (.cells ([pc2].map (.int .i64)).toArray 3 (0,0)):=za (w2.drewN nq) _
     have h3:Z31 w #[.int .i64 id,.int .i64 lv,.int .i64 kd,.int .i64 fr,.int .i64 un,.int .i64 ls,.int .i64 mo,.int .i64 ar,.int .i64 kn,.int .i64 kq,.int .i64 wo,.int .i64 wn,.slice WA (flen wl) wc,.int .i64 po,.int .i64 pn,.slice PA (flen pl) pc] ((w2.drewN nq).alloc (.cells #[.int .i64 pc2] 3)):=H2.out.on ((Z0n (Below.refl _ _) _).alloc (zn _) _)
     generalize (w2.drewN nq).alloc (.cells #[.int .i64 pc2] 3)=W3 at *
     have HN3:=zh hN3;have H3:=zh h3;clear hN3 h3 e1 e2 e3 e4 hmb c8 c9 H2;refine (Z4C w2.heap.size [pc2] _ (by simp) (by simp) (Z8e HN3.out)).mono ?_
     rintro e w' ⟨rfl,rfl⟩;rw [show [pc2].all numB=numB pc2 by simp]
     clear HN3;cases hnp:numB pc2 with
     | false =>
      have hr:=HRS.out
      rw [hnp] at hr
      simp only [Bool.false_and,Bool.false_eq_true,if_false] at hr
      have HRS2:=zh hr;clear hr hnp;go_wp2_with fail;go_ret2
      refine ⟨?_,H3.out.2⟩
      rw [HRS2.out]
      rfl
     | true =>
      have HNP:=zh hnp;have hs3:=H3.out.2.size
      have c10:W3.cell? ⟨w.heap.size,10,none⟩=some (.int .i64 wo):=by rw [zc H3.out.1];rfl
      have c11:W3.cell? ⟨w.heap.size,11,none⟩=some (.int .i64 wn):=by rw [zc H3.out.1];rfl
      have c12:W3.cell? ⟨w.heap.size,12,none⟩=some (.slice WA (flen wl) wc):=by rw [zc H3.out.1];rfl
      clear hnp;go_wp2_with fail;refine (Z2D wo wn wl (.slice WA (flen wl) wc) _ ((HWV.out.on (H3.out.2.mono hBw)).up (by omega))).mono ?_
      rintro e w4 ⟨rfl,hb4⟩;have H4:=zh (H3.out.on hb4)
      clear hb4 c10 c11 c12 H3 hs3;cases hvw:Z0d wo wn wl with
      | false =>
       have hr:=HRS.out
       rw [HNP.out,hvw] at hr
       simp only [Bool.false_and,Bool.and_false,Bool.false_eq_true,if_false] at hr
       have HRS2:=zh hr;clear hr hvw;go_wp2_with fail;go_ret2
       refine ⟨?_,H4.out.2⟩
       rw [HRS2.out]
       rfl
      | true =>
       have HVW:=zh hvw;have hs4:=H4.out.2.size
       have c13:w4.cell? ⟨w.heap.size,13,none⟩=some (.int .i64 po):=by rw [zc H4.out.1];rfl
       have c14:w4.cell? ⟨w.heap.size,14,none⟩=some (.int .i64 pn):=by rw [zc H4.out.1];rfl
       have c15:w4.cell? ⟨w.heap.size,15,none⟩=some (.slice PA (flen pl) pc):=by rw [zc H4.out.1];rfl
       clear hvw;go_wp2_with fail;refine (Z2D po pn pl (.slice PA (flen pl) pc) _ ((HPV.out.on (H4.out.2.mono hBw)).up (by omega))).mono ?_
       rintro e w5 ⟨rfl,hb5⟩;have H5:=zh (H4.out.on hb5)
       clear hb5 c13 c14 c15 H4 hs4;cases hvp:Z0d po pn pl with
       | false =>
        have hr:=HRS.out
        rw [HNP.out,HVW.out,hvp] at hr
        simp only [Bool.and_false,Bool.false_eq_true,if_false] at hr
        have HRS2:=zh hr;clear hr hvp;go_wp2_with fail;go_ret2
        refine ⟨?_,H5.out.2⟩
        rw [HRS2.out]
        rfl
       | true =>
        have hr:=HRS.out
        rw [HNP.out,HVW.out,hvp] at hr
        simp only [Bool.and_true,if_true] at hr
        have HRS2:=zh hr;have HVP:=zh hvp;clear hr hvp;have hs5:=H5.out.2.size
        have hlt5:w.heap.size<w5.heap.size:=(zs H5.out.1)
        have hp0:0≤pc2∧pc2≤999999999:=by have:=HNP.out;simp [numB] at this;exact this
        have hpl:(mk (dec pc2)).size≤13:=by rw [Z0D];exact Z1i pc2 (by omega) (by omega)
        have hpq:mk (dec pc2)++⟨#[37]⟩=mk (dec (Rt.pct ⟨id,lv,kd,fr,un,ls,mo,ar,kn,kq,wo,wn,wl,po,pn,pl⟩)++[37]):=by
         have hR2:Rt.pct ⟨id,lv,kd,fr,un,ls,mo,ar,kn,kq,wo,wn,wl,po,pn,pl⟩=pc2:=by rw [← HPCT.out,HR.out]
         rw [hR2,← ZgB (mk (dec pc2)++⟨#[37]⟩),Zca,Z52];rfl
        have HPQ:=zh hpq;have hnn:=HNUM.out
        simp only [List.all_cons,List.all_nil,Bool.and_true,Bool.and_eq_true,numB,decide_eq_true_eq] at hnn
        have HNN:=zh hnn;have hpb2:0≤Rt.pct ⟨id,lv,kd,fr,un,ls,mo,ar,kn,kq,wo,wn,wl,po,pn,pl⟩∧Rt.pct ⟨id,lv,kd,fr,un,ls,mo,ar,kn,kq,wo,wn,wl,po,pn,pl⟩≤999999999:=by
         have hR2:Rt.pct ⟨id,lv,kd,fr,un,ls,mo,ar,kn,kq,wo,wn,wl,po,pn,pl⟩=pc2:=by rw [← HPCT.out,HR.out]
         rw [hR2];exact hp0
        have HPB:=zh hpb2;have hsz1:¬ 9223372036854775807<(mk (dec pc2)).size+1:=by omega
        clear hpq hnn hpb2;go_upto_region 7 with fail
        have hW6:=wd_new w5;have hb6:=(Below.refl w5.heap.size w5).alloc (zn _) (.cells #[.pointer none,.slice none 0 0] 189)
        have h6:=H5.out.on hb6
        generalize w5.alloc (.cells #[.pointer none,.slice none 0 0] 189)=W6 at *
        have HW6:=zh hW6;have H6:=zh h6;have hz6:=Z5p hW6;clear hW6 hb6 h6 H5;have x0:W6.cell? ⟨w.heap.size,0,none⟩=some (.int .i64 id):=by rw [zc H6.out.1];rfl
        have x1:W6.cell? ⟨w.heap.size,1,none⟩=some (.int .i64 lv):=by rw [zc H6.out.1];rfl
        have x2:W6.cell? ⟨w.heap.size,2,none⟩=some (.int .i64 kd):=by rw [zc H6.out.1];rfl
        have x3:W6.cell? ⟨w.heap.size,3,none⟩=some (.int .i64 fr):=by rw [zc H6.out.1];rfl
        have x4:W6.cell? ⟨w.heap.size,4,none⟩=some (.int .i64 un):=by rw [zc H6.out.1];rfl
        have x5:W6.cell? ⟨w.heap.size,5,none⟩=some (.int .i64 ls):=by rw [zc H6.out.1];rfl
        have x6:W6.cell? ⟨w.heap.size,6,none⟩=some (.int .i64 mo):=by rw [zc H6.out.1];rfl
        have x7:W6.cell? ⟨w.heap.size,7,none⟩=some (.int .i64 ar):=by rw [zc H6.out.1];rfl
        have hzz:w.heap.size<W6.heap.size:=(zs H6.out.1)
        go_region_held3 (fun w'=>w'.cell? ⟨w.heap.size,0,none⟩=some (.int .i64 id)∧w'.cell? ⟨w.heap.size,1,none⟩=some (.int .i64 lv)∧w'.cell? ⟨w.heap.size,2,none⟩=some (.int .i64 kd)∧w'.cell? ⟨w.heap.size,3,none⟩=some (.int .i64 fr)∧w'.cell? ⟨w.heap.size,4,none⟩=some (.int .i64 un)∧w'.cell? ⟨w.heap.size,5,none⟩=some (.int .i64 ls)∧w'.cell? ⟨w.heap.size,6,none⟩=some (.int .i64 mo)∧w'.cell? ⟨w.heap.size,7,none⟩=some (.int .i64 ar)) (first | with_reducible exact ⟨x0,x1,x2,x3,x4,x5,x6,x7⟩ | with_reducible exact ⟨y0,y1,y2,y3,y4,y5,y6,y7⟩ | with_reducible exact ⟨z0,z1,z2,z3,z4,z5,z6,z7⟩ | go_keep)
         (first
          | (go_at_call 102;refine (Z9v pc2 B _ hp0.1 (by omega) (HT.out.on (H6.out.2.drew.mono hBw))).mono ?_;rintro e w7 ⟨rfl,hb7⟩;have hb7':=((Below.refl W6.heap.size W6).drew).trans hb7;have y0:=(hb7'.cell (p:=⟨w.heap.size,0,none⟩) hzz).trans x0;have y1:=(hb7'.cell (p:=⟨w.heap.size,1,none⟩) hzz).trans x1;have y2:=(hb7'.cell (p:=⟨w.heap.size,2,none⟩) hzz).trans x2;have y3:=(hb7'.cell (p:=⟨w.heap.size,3,none⟩) hzz).trans x3;have y4:=(hb7'.cell (p:=⟨w.heap.size,4,none⟩) hzz).trans x4;have y5:=(hb7'.cell (p:=⟨w.heap.size,5,none⟩) hzz).trans x5;have y6:=(hb7'.cell (p:=⟨w.heap.size,6,none⟩) hzz).trans x6;have y7:=(hb7'.cell (p:=⟨w.heap.size,7,none⟩) hzz).trans x7;have nn:=World.new_ne w7 ⟨w.heap.size,0,none⟩ y0;have H7:=zh (H6.out.on hb7');have HW7:=zh (Z34 HW6.out hb7');have hz7:=Z5p HW7.out;clear hb7 hb7')
          | (go_at_call 135;refine (Zes w5.heap.size w7.heap.size [] (Rt.items ⟨id,lv,kd,fr,un,ls,mo,ar,kn,kq,wo,wn,wl,po,pn,pl⟩) _ B (by omega) (HT.out.on ((H7.out.on ((Below.refl _ _).alloc (zn _) _)).2.mono hBw)) (Zdn HW7.out _) (Zfz ⟨id,lv,kd,fr,un,ls,mo,ar,kn,kq,wo,wn,wl,po,pn,pl⟩ w7 _ HPQ.out) (ZfA ⟨id,lv,kd,fr,un,ls,mo,ar,kn,kq,wo,wn,wl,po,pn,pl⟩ HNN.out) (Zd0 ⟨id,lv,kd,fr,un,ls,mo,ar,kn,kq,wo,wn,wl,po,pn,pl⟩ HNN.out HPB.out) (by simp [Rt.items])).mono ?_;rintro e w8 ⟨rfl,v1,v2,v3⟩;have h8:=(H7.out.on ((Below.refl _ _).alloc (zn _) _)).write v2 (by omega);have z0:=h8.cell 0 (.int .i64 id) rfl;have z1:=h8.cell 1 (.int .i64 lv) rfl;have z2:=h8.cell 2 (.int .i64 kd) rfl;have z3:=h8.cell 3 (.int .i64 fr) rfl;have z4:=h8.cell 4 (.int .i64 un) rfl;have z5:=h8.cell 5 (.int .i64 ls) rfl;have z6:=h8.cell 6 (.int .i64 mo) rfl;have z7:=h8.cell 7 (.int .i64 ar) rfl;have H8:=zh h8;have V1:=zh v1;clear h8 v1 v2 v3))
        clear x0 x1 x2 x3 x4 x5 x6 x7 y0 y1 y2 y3 y4 y5 y6 y7 z0 z1 z2 z3 z4 z5 z6 z7;obtain ⟨hfW,hokW,hndW⟩:=Z3q HVW.out
        obtain ⟨hfP,hokP,hndP⟩:=Z3q HVP.out
        have hlW:=Z5m wo wn wl hfW hokW
        have hlP:=Z5m po pn pl hfP hokP
        have hlF:=Zd0 ⟨id,lv,kd,fr,un,ls,mo,ar,kn,kq,wo,wn,wl,po,pn,pl⟩ HNN.out HPB.out
        have htx:R.text=[]++Z2a (Rt.items ⟨id,lv,kd,fr,un,ls,mo,ar,kn,kq,wo,wn,wl,po,pn,pl⟩)++textE wo wn wl++[32,112,114,105,99,101,32]++textE po pn pl++[59]:=by rw [HR.out];rfl
        obtain ⟨hd,hhd⟩:∃ hd,hd=[]++Z2a (Rt.items ⟨id,lv,kd,fr,un,ls,mo,ar,kn,kq,wo,wn,wl,po,pn,pl⟩):=⟨_,rfl⟩
        have v1:=V1.out
        rw [← hhd] at htx hlF v1
        have V1':=zh v1;have FW:=zh (And.intro hfW hokW)
        have FP:=zh (And.intro hfP hokP)
        have HTX:=zh htx;clear v1 V1 hhd hfW hokW hfP hokP htx;have c10:w8.cell? ⟨w.heap.size,10,none⟩=some (.int .i64 wo):=H8.out.cell 10 _ rfl
        have c11:w8.cell? ⟨w.heap.size,11,none⟩=some (.int .i64 wn):=H8.out.cell 11 _ rfl
        have c12:w8.cell? ⟨w.heap.size,12,none⟩=some (.slice WA (flen wl) wc):=H8.out.cell 12 _ rfl
        go_wp2_with fail;refine (Zh3 (wo,wn) wl 0 _ (.slice WA (flen wl) wc) B w5.heap.size hd FW.out.1 FW.out.2 (HWV.out.on (H8.out.2.mono hBw)) (by omega) (HT.out.on (H8.out.2.mono hBw)) V1'.out (by omega) (by omega) (by have:=Zcb (decide (Z03 wo<0)) (textE wo wn wl);simp only [List.length_append];omega)).mono ?_
        rintro e w9 ⟨rfl,v1,v2,v3⟩;dsimp only at v1
        rw [ZcH] at v1
        have h9:=H8.out.write v2 (by omega)
        have H9:=zh h9;have V2:=zh v1;clear h9 v1 v2 v3 c10 c11 c12 H8 V1';go_wp2_with fail;refine (Z35 w5.heap.size _ ⟨#[32,112,114,105,99,101,32]⟩ _ V2.out (by show _+7≤_;simp only [List.length_append];omega)).mono ?_
        rintro e w10 ⟨rfl,v1,v2,v3⟩;rw [show bl ⟨#[32,112,114,105,99,101,32]⟩=[32,112,114,105,99,101,32] from rfl] at v1
        have h10:=H9.out.write v2 (by omega)
        have H10:=zh h10;have V3:=zh v1;have c13:w10.cell? ⟨w.heap.size,13,none⟩=some (.int .i64 po):=h10.cell 13 _ rfl
        have c14:w10.cell? ⟨w.heap.size,14,none⟩=some (.int .i64 pn):=h10.cell 14 _ rfl
        have c15:w10.cell? ⟨w.heap.size,15,none⟩=some (.slice PA (flen pl) pc):=h10.cell 15 _ rfl
        clear h10 v1 v2 v3 H9 V2;go_wp2_with fail;refine (Zh3 (po,pn) pl 0 _ (.slice PA (flen pl) pc) B w5.heap.size _ FP.out.1 FP.out.2 (HPV.out.on (H10.out.2.mono hBw)) (by omega) (HT.out.on (H10.out.2.mono hBw)) V3.out (by omega) (by omega) (by have:=Zcb (decide (Z03 po<0)) (textE po pn pl);simp only [List.length_append,List.length_cons,List.length_nil];omega)).mono ?_
        rintro e w11 ⟨rfl,v1,v2,v3⟩;dsimp only at v1
        rw [ZcH] at v1
        have h11:=H10.out.write v2 (by omega)
        have H11:=zh h11;have V4:=zh v1;clear h11 v1 v2 v3 c13 c14 c15 H10 V3;go_wp2_with fail;refine (Z35 w5.heap.size _ ⟨#[59]⟩ _ V4.out (by show _+1≤_;simp only [List.length_append,List.length_cons,List.length_nil];omega)).mono ?_
        rintro e w12 ⟨rfl,v1,v2,v3⟩;rw [show bl ⟨#[59]⟩=[59] from rfl,← HTX.out] at v1
        have h12:=H11.out.write v2 (by omega)
        have H12:=zh h12;have V5:=zh v1;clear h12 v1 v2 v3 H11 V4;go_wp2_with fail;refine (ZjC _ _ _ V5.out).mono ?_
        rintro e w13 ⟨rfl,hb13⟩;have HB13:=zh (H12.out.2.trans (hb13.mono (by omega)))
        clear hb13;go_wp2_with fail;go_ret2
        refine ⟨?_,HB13.out⟩
        rw [HRS2.out]
        rfl
   · have hmb:(100 % kq != 0)=true:=by simpa using hmod
     have hmc:((100:Int) % kq==0)=false:=by simpa using hmod
     have hr:=HRES.out
     rw [HNUM.out,HRAT.out,hmc] at hr
     simp only [Bool.false_and,Bool.and_false,Bool.false_eq_true,if_false] at hr
     have HRS:=zh hr;clear hr hmc hmod;go_wp2_with fail;go_ret2
     refine ⟨?_,H2.out.2⟩
     rw [HRS.out]
     rfl
end
section
namespace Lx
def P (ln:Int)(s:Bytes):List (Int × Bytes):=pcs s.length ln s
theorem ZkD (f:Nat)(ln:Int)(s:Bytes)(h:s.length≤f):pcs f ln s=P ln s:=Zje f s.length ln s h (zn _)
theorem P_nil (ln:Int):P ln []=[]:=rfl
theorem P_blank (ln:Int)(r:Bytes):P ln (32::r)=P ln r:=by simp [P,pcs]
theorem P_feed (ln:Int)(r:Bytes):P ln (10::r)=P (ln+1) r:=by simp [P,pcs]
theorem P_hash (ln:Int)(r:Bytes):P ln (35::r)=P ln (r.dropWhile (· != 10)):=by
 show pcs (r.length+1) ln (35::r)=_
 simp only [pcs]
 rw [if_neg (by decide),if_neg (by decide),if_pos (by decide),ZkD _ _ _ (Z32 _ _)]
theorem P_tok (ln:Int)(c:UInt8)(r:Bytes)(h1:c≠32)(h2:c≠10)(h3:c≠35) :
 P ln (c::r)=(ln,(c::r).take (tlen (c::r)))::P ln ((c::r).drop (tlen (c::r))):=by
 show pcs (r.length+1) ln (c::r)=_
 simp only [pcs]
 rw [if_neg h1,if_neg h2,if_neg h3,ZkD _ _ _ (by have:=Z9q (c::r);simp only [List.length_drop,List.length_cons];omega)]
end Lx
end
section
namespace Lx
end Lx
end
section
namespace Lx
end Lx
end
section
namespace Lx
theorem Zbw (l:Bytes)(h:l.contains 46=true):l=Z9p l++46::frac l:=by
 unfold Z9p frac
 induction l with
 | nil=>simp at h
 | cons c l ih =>
  by_cases e:c=46
  · subst e;simp
  · have h2:(c != 46)=true:=by simp [e]
    have h3:((46:UInt8)==c)=false:=by simp;exact fun h=>e h.symm
    rw [List.contains_cons,h3,Bool.false_or] at h
    simp only [List.takeWhile_cons,List.dropWhile_cons,h2,if_true,List.cons_append]
    rw [← ih h]
theorem Zbx (a b:Bytes)(h:a.all (inR 48 57)=true):Z9p (a++46::b)=a∧frac (a++46::b)=b:=by
 unfold Z9p frac
 induction a with
 | nil=>simp
 | cons c a ih =>
  rw [List.all_cons,Bool.and_eq_true] at h
  have h2:(c != 46)=true:=by
   have:=h.1;simp only [inR,Bool.and_eq_true,decide_eq_true_eq] at this
   simp;rintro rfl;simp at this
  simp only [List.cons_append,List.takeWhile_cons,List.dropWhile_cons,h2,if_true]
  exact ⟨by rw [(ih h.2).1],(ih h.2).2⟩
end Lx
end
section
namespace Lx
theorem Z6v {c:UInt8}(h:inR 48 57 c=true):inR 97 122 c=false:=by
 simp only [inR,Bool.and_eq_true,decide_eq_true_eq] at h
 simp only [inR,Bool.and_eq_false_iff,decide_eq_false_iff_not];omega
theorem Za1 {lo hi:Int}{l:Bytes}(h:0<Z0k lo hi l):∃ c,c∈l.take (Z0k lo hi l):=by
 have hl:=Z2A lo hi l
 cases l with
 | nil=>simp at hl;omega
 | cons c r =>
  obtain ⟨n,hn⟩:∃ n,Z0k lo hi (c::r)=n+1:=⟨Z0k lo hi (c::r) - 1,by omega⟩
  exact ⟨c,by rw [hn];simp⟩
theorem Z3E {p:UInt8→Bool}{l:Bytes}(h:l.all p=true){c:UInt8}(hc:c∈l):p c=true:=List.all_eq_true.1 h c hc
theorem take_ne {lo hi:Int}{l:Bytes}(h:0<Z0k lo hi l):l.take (Z0k lo hi l)≠[]:=by
 obtain ⟨c,hc⟩:=Za1 h
 intro e;rw [e] at hc;simp at hc
end Lx
end
section
namespace Lx
def wide (k:Nat)(s:Bytes):Bytes:=s.flatMap fun c=>if c=32∨c=10 then c::List.replicate k 32 else [c]
end Lx
end
section
namespace Lx
end Lx
end
end Go.Proofs.YtnepkoepbapgeaaGreatDoor
