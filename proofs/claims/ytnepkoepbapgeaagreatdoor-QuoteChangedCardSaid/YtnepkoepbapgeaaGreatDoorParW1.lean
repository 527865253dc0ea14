/-
  Several texts in one: ParP1, QuoP2, ParW1.
-/
import Derived.Test.YtnepkoepbapgeaaGreatDoorPrtMem
import Derived.Test.YtnepkoepbapgeaaGreatDoorLexPlain8
import Derived.Lib.SmallJoins
import Derived.LaidMore
import Derived.Stop.Joined
import Derived.Lib.LaidTab
import Derived.LaidHandle
import Derived.MakeChecks
import Derived.Test.YtnepkoepbapgeaaGreatDoorParMem
import Derived.Test.YtnepkoepbapgeaaGreatDoorShelf
import Derived.HandedShaped
import Derived.Lay
import Derived.Test.YtnepkoepbapgeaaGreatDoorPrtTwo
import Derived.Deep.QuietTactic
import Derived.BigQuiet
import Derived.StillTailTactics
import Derived.WalkLawsBesides
import Derived.IntWalk
namespace Go.Proofs.YtnepkoepbapgeaaGreatDoor
set_option maxRecDepth 100000
section
open Go.ChangeShapes Go.WideShapes Go.ChangeAt Go.RowKit Go.Deep Lx Px
theorem Tryz.cellsExpr:Tryz.prog.cellsOf 63=3:=by kernel_rfl
theorem Zaj (a:Addr)(n j:Nat)(hj:j≠0):a.add (n+j)=⟨(a.add n).block,(a.add n).off+j,none⟩:=by
 unfold Addr.add
 rw [if_neg (by omega)]
 by_cases h:n=0
 · subst h;simp
 · rw [if_neg h];simp [Nat.add_assoc]
def FoEl (w:World)(B:Nat)(ad:Addr)(k:Nat)(a:Int × Int)(l:Fo):Prop :=
 ∃ (A':Option Addr) (c:Nat),ad.block<B∧w.cell? (ad.add (k*3))=some (.int .i64 a.1)∧w.cell? ⟨(ad.add (k*3)).block,(ad.add (k*3)).off+1,none⟩=some (.int .i64 a.2) ∧
  w.cell? ⟨(ad.add (k*3)).block,(ad.add (k*3)).off+2,none⟩=some (.slice A' (flen l) c)∧FoAt w B l A' 0
theorem Zgi {w:World}{B:Nat}{ad:Addr}:∀ (j i:Nat),(∀ k,i≤k→k<i+j→∃ a l,FoEl w B ad k a l)→∃ f:Fo,flen f=j∧FoAt w B f (some ad) i:=by
 intro j
 induction j with
 | zero=>intro i _;exact ⟨.nil,rfl,trivial⟩
 | succ j ih =>
  intro i h
  obtain ⟨a,l,A',c,h0,h1,h2,h3,h4⟩:=h i (zn _) (by omega)
  obtain ⟨f,hf,hF⟩:=ih (i+1) (fun k hk hk2=>h k (by omega) (by omega))
  exact ⟨.node 0 0 a l f,by simp [flen,hf],⟨⟨ad,A',c,rfl,h0,h1,h2,h3,h4⟩,hF⟩⟩
theorem Zgj {w:World}{p:Addr}{v:Value}(h:w.cell? p=some v):p.block<w.heap.size:=by
 rcases Nat.lt_or_ge p.block w.heap.size with h1 | h1
 · exact h1
 · unfold World.cell? at h;simp [Array.getElem?_eq_none h1] at h
theorem Z7f {H:Type}{enc:TypeId × Value→H}{W:World}{n:Nat}{cs:List Value}{y:DataW H × List MemPlace}(h:DataW.trod enc Tryz.prog W 0 (fun _=>true) true n 63 cs=some y) :
 ∃ (op k:Int) (v:Value) (n':Nat) (y2:DataW H × List MemPlace),cs=[.int .i64 op,.int .i64 k,v]∧n=n'+1∧DataW.trod enc Tryz.prog W 0 (fun _=>true) true n' 61 [v]=some y2:=by
 obtain ⟨xs,n',hn',_,hl,hxl,hf⟩:=DataW.trod_struct Tryz.underlying63 h
 rw [Tryz.cellsExpr] at hl
 obtain ⟨c0,c1,c2,rfl⟩:∃ c0 c1 c2,cs=[c0,c1,c2]:=by
  match cs,hl with
  | [c0,c1,c2],_=>exact ⟨c0,c1,c2,rfl⟩
 obtain ⟨x0,x1,x2,rfl⟩:∃ x0 x1 x2,xs=[x0,x1,x2]:=by
  have hx3:xs.length=3:=hxl
  match xs,hx3 with
  | [x0,x1,x2],_=>exact ⟨x0,x1,x2,rfl⟩
 have g0:DataW.trod enc Tryz.prog W 0 (fun _=>true) true n' 3 [c0]=some x0:=hf 0 _ rfl
 have g1:DataW.trod enc Tryz.prog W 0 (fun _=>true) true n' 3 [c1]=some x1:=hf 1 _ rfl
 have g2:DataW.trod enc Tryz.prog W 0 (fun _=>true) true n' 61 [c2]=some x2:=hf 2 _ rfl
 obtain ⟨k0,e0,_,_⟩:=DataW.trod_int Tryz.underlying3 g0
 obtain ⟨k1,e1,_,_⟩:=DataW.trod_int Tryz.underlying3 g1
 simp only [List.cons.injEq,and_true] at e0 e1
 subst e0 e1;exact ⟨k0,k1,c2,n',x2,rfl,hn',g2⟩
theorem Z6p {H:Type}{enc:TypeId × Value→H}{W:World}:∀ (fuel:Nat) (v:Value) (x:DataW H × List MemPlace),DataW.trod enc Tryz.prog W 0 (fun _=>true) true fuel 61 [v]=some x→∃ l:Fo,FoV W W.heap.size v l∧flen l≤maxLen:=by
 intro fuel
 induction fuel using Nat.strongRecOn with
 | ind fuel ih =>
  intro v x h
  rcases DataW.trod_slice Tryz.underlying61 h with ⟨h0,_⟩ | ⟨a,len,cap,elems,rest,n,hfu,hx,hcs,hb,hl,hm,hlen,hel,hsp,hns⟩
  · simp at h0;subst h0;exact ⟨.nil,⟨none,0,rfl,trivial⟩,by simp [flen]⟩
  · simp at hx
    subst hx;obtain ⟨f,hf,hF⟩:=Zgi (w:=W) (B:=W.heap.size) (ad:=a) len 0 (fun k _ hk=>by
     have hk':k<len:=by omega
     have he:=hel k hk'
     rw [List.getElem?_eq_getElem (by omega),Option.bind_eq_some_iff] at he
     obtain ⟨cs',hc,ht'⟩:=he
     obtain ⟨op,m,v2,n',y2,rfl,hn',ht2⟩:=Z7f ht'
     obtain ⟨l,⟨A',c',rfl,hA'⟩,_⟩:=ih n' (by omega) v2 y2 ht2
     rw [Tryz.cellsExpr] at hc
     obtain ⟨_,_,hat⟩:=World.cells?_some hc
     have h0:=hat 0 (by omega)
     have h1:=hat 1 (by omega)
     have h2:=hat 2 (by omega)
     have a0:(a.add (k*3)).add 0=a.add (k*3):=by rw [Go.Deep.add_add];rfl
     have a1:(a.add (k*3)).add 1=⟨(a.add (k*3)).block,(a.add (k*3)).off+1,none⟩:=by rw [Go.Deep.add_add];exact Zaj a (k*3) 1 (by decide)
     have a2:(a.add (k*3)).add 2=⟨(a.add (k*3)).block,(a.add (k*3)).off+2,none⟩:=by rw [Go.Deep.add_add];exact Zaj a (k*3) 2 (by decide)
     rw [a0] at h0
     rw [a1] at h1
     rw [a2] at h2
     refine ⟨(op,m),l,A',c',?_,h0,h1,h2,hA'⟩
     have:=Zgj h0
     rw [Z19] at this
     exact this)
    exact ⟨f,⟨some a,cap,by rw [hf],hF⟩,by omega⟩
theorem Tryz.cellsRate:Tryz.prog.cellsOf 65=16:=by kernel_rfl
theorem Zd8 {H:Type}{enc:TypeId × Value→H}{W:World}{n:Nat}{t:TypeId}{f0 f1:Field}{c0 c1:Value}{y:DataW H × List MemPlace}(ht:Tryz.prog.underlying t=some (.struct #[f0,f1]))(h0:f0.type=3∧f0.offset=0)(h1:f1.type=3∧f1.offset=1)
 (h:DataW.trod enc Tryz.prog W 0 (fun _=>true) true n t [c0,c1]=some y):∃ a b:Int,c0=.int .i64 a∧c1=.int .i64 b:=by
 obtain ⟨xs,n',hn',_,hl,hxl,hf⟩:=DataW.trod_struct ht h
 obtain ⟨x0,x1,rfl⟩:∃ x0 x1,xs=[x0,x1]:=by
  have hx3:xs.length=2:=hxl
  match xs,hx3 with
  | [x0,x1],_=>exact ⟨x0,x1,rfl⟩
 have k1:Tryz.prog.cellsOf 3=1:=by kernel_rfl
 have g0:=hf 0 f0 rfl
 have g1:=hf 1 f1 rfl
 rw [h0.1,h0.2,k1] at g0
 rw [h1.1,h1.2,k1] at g1
 obtain ⟨k0,e0,_,_⟩:=DataW.trod_int Tryz.underlying3 (show DataW.trod enc Tryz.prog W 0 (fun _=>true) true n' 3 [c0]=some x0 from g0)
 obtain ⟨k1,e1,_,_⟩:=DataW.trod_int Tryz.underlying3 (show DataW.trod enc Tryz.prog W 0 (fun _=>true) true n' 3 [c1]=some x1 from g1)
 simp only [List.cons.injEq,and_true] at e0 e1
 exact ⟨k0,k1,e0,e1⟩
end
section
open Go.ChangeShapes Go.WideShapes Go.ChangeAt Go.RowKit Go.Deep Lx Px
theorem Tryz.gPow:Tryz.prog.globalNamed "internal/strconv.uint64pow10" = some 1:=by kernel_rfl
theorem Tryz.gNames:Tryz.prog.globalNamed "innkeeper/printer.names" = some 0:=by kernel_rfl
theorem Z2z {H:Type}{enc:TypeId × Value→H}{w:World}{base:Nat}{sp:Nat→Bool}{held:Bool}{fuel:Nat}{c:Value}{y:DataW H × List MemPlace}
 (h:DataW.trod enc Tryz.prog w base sp held fuel 9 [c]=some y):∃ s:ByteArray,c=.string s∧y=(.lit (.string s.data.toList),[]):=by
 obtain ⟨s,hc,hy,_⟩:=DataW.trod_string Tryz.underlying9 h
 simp only [List.cons.injEq,and_true] at hc
 exact ⟨s,hc,hy⟩
theorem Z3e {s:ByteArray}{l:List UInt8}(h:s.data.toList=l):s=mk l:=by rw [← ZgB s];exact congrArg mk h
theorem Tryz.cellsNames:Tryz.prog.cellsOf 239=5:=by kernel_rfl
theorem Tryz.cellsStr:Tryz.prog.cellsOf 9=1:=by kernel_rfl
theorem Z9i {H:Type}{enc:TypeId × Value→H}{w:World}{base:Nat}{sp:Nat→Bool}{held:Bool}{fuel:Nat}{l:List Value}{p:List MemPlace}
 (h:DataW.trod enc Tryz.prog w base sp held fuel 239 l=some (Rows.laid_innkeeper_printer_names,p)):l=[.string (mk []),.string (mk (Z3z 1)),.string (mk (Z3z 2)),.string (mk (Z3z 3)),.string (mk (Z3z 4))]:=by
 cases fuel with
 | zero=>simp [DataW.trod] at h
 | succ fuel =>
  simp only [DataW.trod,Tryz.underlying239,Tryz.cellsNames,Tryz.cellsStr] at h
  split at h
  · rename_i hl
    obtain ⟨c0,c1,c2,c3,c4,rfl⟩:∃ c0 c1 c2 c3 c4,l=[c0,c1,c2,c3,c4]:=by
     match l,hl with
     | [a,b,c,d,e],_=>exact ⟨a,b,c,d,e,rfl⟩
    have e:List.range 5=[0,1,2,3,4]:=rfl
    rw [e] at h
    simp only [Option.map_eq_some_iff,List.mapM_cons,List.mapM_nil,Option.bind_eq_bind,Option.bind_eq_some_iff,Option.pure_def,Option.some.injEq] at h
    obtain ⟨xs,⟨y0,h0,_,⟨y1,h1,_,⟨y2,h2,_,⟨y3,h3,_,⟨y4,h4,_,rfl,rfl⟩,rfl⟩,rfl⟩,rfl⟩,rfl⟩,hx⟩:=h
    obtain ⟨n0,rfl,rfl⟩:=Z2z h0
    obtain ⟨n1,rfl,rfl⟩:=Z2z h1
    obtain ⟨n2,rfl,rfl⟩:=Z2z h2
    obtain ⟨n3,rfl,rfl⟩:=Z2z h3
    obtain ⟨n4,rfl,rfl⟩:=Z2z h4
    simp only [Rows.laid_innkeeper_printer_names,List.map_cons,List.map_nil,Prod.mk.injEq,DataW.agg.injEq,List.cons.injEq,DataW.lit.injEq,Lit.string.injEq,and_true] at hx
    obtain ⟨⟨e0,e1,e2,e3,e4⟩,_⟩:=hx
    rw [Z3e e0,Z3e e1,Z3e e2,Z3e e3,Z3e e4]
    rfl
  · cases h
end
section
open Go.ChangeShapes Go.WideShapes Go.ChangeAt Go.RowKit Go.Deep Lx Px
theorem Zak {W:World}(h:W.ShapedOpen Tryz.prog):Mx W W.heap.size:=by
 obtain ⟨m,hm⟩:=Tryz.laysM155.s1_3 W h
 exact ⟨m,hm,World.block_lt_of_cell? _ _ hm⟩
theorem Z61 {H:Type}{enc:TypeId × Value→H}{a:Assume}{C:Checked}{os:Os}{f:FuncId}{fn:Func}{s:ChangeSpec}{conds:List PathCond}{apart fresh handsOn again:Bool}{X:World→Array Value→Prop}
 (hX:∀ (w w':World) (args:Array Value),w.heap=w'.heap→X w args→X w' args)
 (own:ownKnob C.prog.godebug=none) (started:os.Started) (noInit:C.prog.inits.idxOf? f=none) (hfn:C.prog.funcs[f]?=some fn)
 (witness:∃ (w:World) (tape:Tape) (i:Input),w.os=os∧(w.forCall tape i).Shaped C.prog∧i.vars=[]∧Input.okWide C.prog (w.forCall tape i) .any w.heap.size f i ∧
  ((s.pre enc C.prog fn conds apart (w.forCall tape i).memory i.args∧X (w.forCall tape i).memory i.args)∧sizedMet enc C.prog fn (OpenSpec.ofChange s) apart (w.forCall tape i).memory i.args)∧a.holds C.prog (lone (Frame.enter C.prog f i.args .normal) [] (w.forCall tape i)))
 (contract:∀ (W:World) (base:Nat) (args:Array Value) (ds gs:List (DataW H)) (before:List MemPlace),
  (∀ (j:Nat) t v,fn.params[j]?=some t→args[j]?=some v→Value.okWide C.prog W .any base t v) →
  DataW.Whole enc C.prog fn.params.toList s.vars apart W args.toList ds gs before →
  conds.all (PathCond.test C.prog ⟨fn.params.toList,ds,s.plain.varTypes C.prog,gs⟩)=true →
  (DataW.weightsEach C.prog (fn.params.toList++s.plain.varTypes C.prog) (ds++gs)).all (·≤reachBytes)=true→X W args→W.ShapedOpen C.prog →
  a.holds C.prog (lone (Frame.enter C.prog f args .normal) [] W) →
  Calls C.prog f args W fun e W'=>∃ v,e=.returned v∧s.post enc C.prog fn apart fresh handsOn again W args v W') :
 ReturnsInHanded a C os f .any (fun w args=>(s.pre enc C.prog fn conds apart w args∧X w args)∧sizedMet enc C.prog fn (OpenSpec.ofChange s) apart w args) (s.post enc C.prog fn apart fresh handsOn again):=by
 refine returnsInHanded_of_calls own started noInit witness ?_
 intro w tape i _ hsh _ hok hpre hholds
 obtain ⟨_,_,_,fn',hfn',_,_,_,_,hval⟩:=hok
 have e:fn'=fn:=Option.some.inj (hfn'.symm.trans hfn)
 subst e;obtain ⟨⟨⟨ds,gs,before,hw,hc⟩,hx⟩,hz⟩:=hpre
 have hw':=DataW.Whole.of_heap (w':=w.forCall tape i) (by rfl) hw
 refine (contract (w.forCall tape i) w.heap.size i.args ds gs before hval hw' hc (hz.weights hw) (hX _ _ _ (by rfl) hx) hsh hholds).mono fun e W' ⟨v,he,hp⟩=>?_
 subst he;exact ChangeSpec.post_blind hp
end
section
open Go.ChangeShapes Go.WideShapes Go.ChangeAt Go.RowKit Go.Deep Lx Px
def Z7g:List (String × DataW Unit):=[("math/bits.deBruijn32tab", Rows.laid_math_bits_deBruijn32tab),("math/bits.deBruijn64tab", Rows.laid_math_bits_deBruijn64tab),("internal/strconv.uint64pow10", Rows.laid_internal_strconv_uint64pow10),("unicode/utf8.acceptRanges", Rows.laid_unicode_utf8_acceptRanges),("strconv.ErrRange", Rows.laid_strconv_ErrRange),("strconv.ErrSyntax", Rows.laid_strconv_ErrSyntax),("innkeeper/printer.names", Rows.laid_innkeeper_printer_names),("unicode/utf8.first", Rows.laid_unicode_utf8_first)]
theorem Zej (os:Os)(args:Array Value):laidMetH Tryz.prog Z7g ((World.laidAll Tryz.prog os Z7g).forCall (fun _ _=>0) ⟨#[],args,[]⟩).memory:=by
 rw [MakeChecks.laidMetH_plain _ _ _ (by kernel_rfl)];exact laidMet_laidAll _ (by kernel_rfl) (by kernel_rfl)
theorem Zgk {W:World}(h:laidMetH Tryz.prog Z7g W):Tabs W.heap.size W:=by
 rw [MakeChecks.laidMetH_plain _ _ _ (by kernel_rfl)] at h
 obtain ⟨ps,⟨g0,t0,cs0,f0,p0,q0,hg0,ht0,hv0,hd0,⟨g1,t1,cs1,f1,p1,q1,hg1,ht1,hv1,hd1,⟨g2,t2,cs2,f2,p2,q2,hg2,ht2,hv2,hd2,⟨g3,t3,cs3,f3,p3,q3,hg3,ht3,hv3,hd3,⟨g4,t4,cs4,f4,p4,q4,hg4,ht4,hv4,hd4,⟨g5,t5,cs5,f5,p5,q5,hg5,ht5,hv5,hd5,⟨g6,t6,cs6,f6,p6,q6,hg6,ht6,hv6,hd6,⟨g7,t7,cs7,f7,p7,q7,hg7,ht7,hv7,hd7,_,_⟩,_⟩,_⟩,_⟩,_⟩,_⟩,_⟩,_⟩,_,_⟩:=h
 have hT2:(Tryz.prog.globals[1]?).map (·.type)=some 277:=by kernel_rfl
 have hT6:(Tryz.prog.globals[0]?).map (·.type)=some 239:=by kernel_rfl
 obtain rfl:=Option.some.inj (Tryz.gPow.symm.trans hg2)
 obtain rfl:=Option.some.inj (Tryz.gNames.symm.trans hg6)
 obtain rfl:=Option.some.inj (hT2.symm.trans ht2)
 obtain rfl:=Option.some.inj (hT6.symm.trans ht6)
 have htab:Lib.TabIs Tryz.prog W "internal/strconv.uint64pow10" .u64 Lib.pow10Tab:=by
  have hd2':DataW.trod _ Tryz.prog W 0 _ _ f2 277 cs2.toList=some (Lib.tabData .u64 Lib.pow10Tab,p2):=hd2
  have:=Lib.cells_of_tab Tryz.underlying277 Tryz.underlying28 (by kernel_rfl) (by kernel_rfl) hd2'
  unfold Lib.TabIs
  rw [hv2,← this]
 have hnm:=Z9i hd6;have hlt:0<W.heap.size:=by
  have:=hv6
  unfold World.var? at this
  rw [Tryz.gNames] at this
  simp only [Option.bind_some] at this
  rcases Nat.lt_or_ge 0 W.heap.size with h1 | h1
  · exact h1
  · rw [Array.getElem?_eq_none h1] at this;cases this
 refine ⟨Lib.tabBelow_of_tabIs htab,hlt,zn _,?_⟩
 intro k h1 h2
 have hc:=World.var?_cell Tryz.gNames hv6 k
 rw [← Array.getElem?_toList,hnm] at hc
 rcases (show k=1∨k=2∨k=3∨k=4 by omega) with rfl | rfl | rfl | rfl
 all_goals exact hc
end
section
open Go.RowKit Lx Px
def kdAt (ts:List Tok)(k:Nat):Int:=if h:k<ts.length then ts[k].1 else 0
def lnAt (ts:List Tok)(k:Nat):Int:=if h:k<ts.length then ts[k].2.1 else 0
def tokV (ts:List Tok)(k:Nat):Value:=.agg #[.int .i64 (kdAt ts k),.int .i64 (lnAt ts k),.string (mk (nxt ts k))]
def RBox (w:World)(cs:Array Value)(ty:TypeId)(wx:World):Prop:=wx.heap[w.heap.size]?=some (.cells cs ty (0,0))
theorem RBox.on {w wx wy:World}{cs:Array Value}{ty:TypeId}(h:RBox w cs ty wx)(hb:Below wx.heap.size wx wy):RBox w cs ty wy:=(hb.block _ (zs h)).trans h
theorem RBox.lt {w wx:World}{cs:Array Value}{ty:TypeId}(h:RBox w cs ty wx):w.heap.size<wx.heap.size:=(zs h)
theorem RBox.cell {w wx:World}{cs:Array Value}{ty:TypeId}(h:RBox w cs ty wx)(i:Nat)(v:Value)(hv:cs[i]?=some v):wx.cell? ⟨w.heap.size,i,none⟩=some v:=by rw [zc h,hv]
theorem RBox.free {w wx:World}{cs:Array Value}{ty:TypeId}(h:RBox w cs ty wx)(i:Nat):wx.frozen? ⟨w.heap.size,i,none⟩=false:=by
 have h':wx.heap[w.heap.size]?=some (.cells cs ty (0,0)):=h
 simp [World.frozen?,h']
theorem Z51 (w:World)(n:Nat):Below w.heap.size w (w.drewN n):=Z0n (Below.refl _ _) n
theorem Z24 (w:World)(pb:Nat)(v:Value)(ts:List Tok)(k:Nat)(h:PI w pb v ts k) :
 Calls Tryz.prog 120 #[.pointer (some ⟨pb,0,none⟩)] w fun e w'=>e=.returned (tokV ts k)∧Below w.heap.size w w':=by
 have hl:=h.lt
 have hk1:=h.2.2.1
 have hk2:=h.2.2.2.1
 have b1:Below w.heap.size w (w.alloc (.cells #[.int .i64 0,.int .i64 0,.string ⟨#[]⟩] 169)):=(Below.refl _ _).alloc (zn _) _
 have r1:RBox w #[.int .i64 0,.int .i64 0,.string ⟨#[]⟩] 169 (w.alloc (.cells #[.int .i64 0,.int .i64 0,.string ⟨#[]⟩] 169)):=za w _
 have h1:=h.on b1
 have c1:=h1.cell1
 by_cases hk:k<ts.length
 · have hv:tokV ts k=.agg #[.int .i64 ts[k].1,.int .i64 ts[k].2.1,.string (mk ts[k].2.2)]:=by simp [tokV,kdAt,lnAt,nxt,hk]
   rw [hv]
   obtain ⟨A,c,rfl⟩:=h1.slice
   have c0:=h1.cell0
   have d:((k:Int)==(ts.length:Int))=false:=by rw [beq_eq_false_iff_ne];omega
   have HB:=zh b1;have H1:=zh h1;have R1:=zh r1;clear b1 h h1 hv r1;go_enter Tryz.func120,Tryz.ntmps120
   go_wp2_with fail;go_quiet (fail)
   go_wp2_with fail;generalize w.alloc (.cells #[.int .i64 0,.int .i64 0,.string ⟨#[]⟩] 169)=W1 at *
   have h2:=H1.out.on (Z51 W1 nq)
   have b2:=Z0n HB.out nq
   have r2:=R1.out.on (Z51 W1 nq)
   clear c0 c1 H1 HB R1;generalize W1.drewN nq=W2 at *
   obtain ⟨p,c',e,hlt,t0,t1,t2⟩:=h2.tok hk
   injection e with e1 _ e3
   subst e1 e3;have c0:=h2.cell0
   have c1:=h2.cell1
   go_still_tail 10,(by kernel_rfl)
   change wpList _ _ _ _ _ W2.drew
   have r3:=r2.on (Below.refl _ _).drew
   have b3:=b2.drew
   clear c0 c1 t0 t1 t2 h2 b2 r2;generalize W2.drew=W3 at *
   have e0:=r3.cell 0 _ rfl
   have e1:=r3.cell 1 _ rfl
   have e2:=r3.cell 2 _ rfl
   have f0:=r3.free 0
   have f1:=r3.free 1
   have f2:=r3.free 2
   go_wp2_with fail;refine bodyPost_ret (by simp [results,Tryz.results120,go_sem,e0,e1,e2]) rfl ⟨rfl,?_⟩
   exact ((b3.setCell (p:=⟨w.heap.size,0,none⟩) (zn _) _).setCell (p:=⟨w.heap.size,1,none⟩) (zn _) _).setCell (p:=⟨w.heap.size,2,none⟩) (zn _) _
 · have hk':k=ts.length:=by omega
   subst hk';obtain ⟨A,c,rfl⟩:=h1.slice
   have c0:=h1.cell0
   have d:((ts.length:Int)==(ts.length:Int))=true:=by simp
   have HB:=zh b1;have hv:tokV ts ts.length=.agg #[.int .i64 0,.int .i64 0,.string ⟨#[]⟩]:=by simp [tokV,kdAt,lnAt,nxt,mk]
   rw [hv]
   clear b1 h h1 hv r1;go_enter Tryz.func120,Tryz.ntmps120
   go_wp2_with fail;go_quiet (fail)
   go_wp2_with fail;refine bodyPost_ret (by simp [results,Tryz.results120,go_sem]) rfl ⟨rfl,?_⟩
   exact (((Z0n HB.out nq).setCell (p:=⟨w.heap.size,0,none⟩) (zn _) _).setCell (p:=⟨w.heap.size,1,none⟩) (zn _) _).setCell (p:=⟨w.heap.size,2,none⟩) (zn _) _
theorem Z6F (a b:Int)(s:ByteArray)(w:World):(Instr.field 169 (.agg #[.int .i64 a,.int .i64 b,.string s]) 2).run Tryz.prog w=.ok (.string s) w:=by kernel_rfl
theorem Zd9 (a b:Int)(s:ByteArray)(w:World):(Instr.field 169 (.agg #[.int .i64 a,.int .i64 b,.string s]) 1).run Tryz.prog w=.ok (.int .i64 b) w:=by kernel_rfl
theorem str_ne {a b:Bytes}(h:a≠b):((mk a).toList==(mk b).toList)=false:=by
 have e:∀ l:Bytes,(mk l).toList=l:=fun l=>by rw [ByteArray.toList_eq];rfl
 rw [e,e]
 exact beq_eq_false_iff_ne.2 h
theorem str_eq (a:Bytes):((mk a).toList != (mk a).toList)=false:=by simp
theorem PI.free {w:World}{pb k:Nat}{v:Value}{ts:List Tok}(h:PI w pb v ts k)(i:Nat):w.frozen? ⟨pb,i,none⟩=false:=by
 simp [World.frozen?,h.1]
theorem Z26 (w:World)(pb:Nat)(v:Value)(ts:List Tok)(k:Nat)(h:PI w pb v ts k)(hk:k<ts.length)(s:Bytes)(hs:nxt ts k=s) :
 Calls Tryz.prog 216 #[.pointer (some ⟨pb,0,none⟩),.string (mk s)] w fun e w'=>e=.returned (.bool true)∧PI w' pb v ts (k+1)∧But pb w w':=by
 have hk2:=h.2.2.2.1
 have d:=str_eq s;have hfd:=Z6F
 have H:=zh h;have HS:=zh hs;clear h hs;go_enter Tryz.func216,Tryz.ntmps216
 go_wp2_with fail;refine (Z24 _ pb v ts k H.out).mono ?_
 rintro e w1 ⟨rfl,hb⟩;have h1:=H.out.on hb
 have b1:But pb w w1:=But.of_below hb
 have hv:tokV ts k=.agg #[.int .i64 (kdAt ts k),.int .i64 (lnAt ts k),.string (mk s)]:=by rw [tokV,HS.out]
 rw [hv]
 have c1:=h1.cell1
 have f1:=h1.free 1
 have H1:=zh h1;have B1:=zh b1;clear h1 b1 hv hb H HS;go_wp2_with fail;go_ret
 refine ⟨rfl,?_,B1.out.set rfl _⟩
 have:=H1.out.set (k+1) (by omega)
 rw [show (((k+1:Nat)):Int)=(k:Int)+1 by omega] at this
 exact this
theorem Z1f (w:World)(pb:Nat)(v:Value)(ts:List Tok)(k:Nat)(h:PI w pb v ts k)(s:Bytes)(hs:nxt ts k≠s) :
 Calls Tryz.prog 216 #[.pointer (some ⟨pb,0,none⟩),.string (mk s)] w fun e w'=>e=.returned (.bool false)∧Below w.heap.size w w':=by
 have d:=str_ne hs;have hfd:=Z6F
 have H:=zh h;clear h hs;go_enter Tryz.func216,Tryz.ntmps216
 go_wp2_with fail;refine (Z24 _ pb v ts k H.out).mono ?_
 rintro e w1 ⟨rfl,hb⟩;rw [tokV]
 go_wp2_with fail;go_ret
 exact ⟨rfl,hb⟩
def Zam (ts:List Tok)(k:Nat):PanicEntry:={ v:=.iface 177 (.agg #[.int .i64 8,.int .i64 (Z3d ts k)]),recovered:=false }
theorem Zda (w:World)(pb:Nat)(v:Value)(ts:List Tok)(k:Nat)(h:PI w pb v ts k) :
 Calls Tryz.prog 217 #[.pointer (some ⟨pb,0,none⟩)] w fun e w'=>e=.panicked [Zam ts k]∧Below w.heap.size w w':=by
 have hk1:=h.2.2.1
 have hk2:=h.2.2.2.1
 by_cases h0:0<ts.length
 · have hj:min k (ts.length - 1)<ts.length:=by omega
   obtain ⟨p,c,rfl,hlt,t0,t1,t2⟩:=h.tok hj
   have hln:Z3d ts k=ts[min k (ts.length - 1)].2.1:=by
    unfold Z3d
    rw [List.getElem?_eq_getElem hj]
   have hmin:min (k:Int) ((ts.length:Int) - 1)=((min k (ts.length - 1):Nat):Int):=by omega
   have c0:=h.cell0
   have c1:=h.cell1
   have hw1:IntKind.i64.wrap ((ts.length:Int) - 1)=(ts.length:Int) - 1:=IntWalk.i64_in _ (by omega)
   have d:decide ((0:Int)<(ts.length:Int))=true:=by simpa using h0
   rw [Zam,hln]
   go_enter Tryz.func217,Tryz.ntmps217
   go_wp2_with fail;go_quiet (fail)
   go_wp2_with fail;exact ⟨rfl,rfl,Z51 w nq⟩
 · have h0':ts.length=0:=by omega
   have hts:ts=[]:=List.length_eq_zero_iff.1 h0'
   subst hts;obtain ⟨A,c,rfl⟩:=h.slice
   have c0:=h.cell0
   have c1:=h.cell1
   have hln:Z3d [] k=1:=by simp [Z3d]
   rw [Zam,hln]
   go_enter Tryz.func217,Tryz.ntmps217
   go_wp2_with fail;exact ⟨rfl,rfl,Below.refl _ _⟩
theorem Z18 (w:World)(pb:Nat)(v:Value)(ts:List Tok)(k:Nat)(h:PI w pb v ts k)(hk:k<ts.length)(s:Bytes)(hs:nxt ts k=s) :
 Calls Tryz.prog 162 #[.pointer (some ⟨pb,0,none⟩),.string (mk s)] w fun e w'=>e=.returned (.tuple #[])∧PI w' pb v ts (k+1)∧But pb w w':=by
 have H:=zh h;have HS:=zh hs;clear h hs;go_enter Tryz.func162,Tryz.ntmps162
 go_wp2_with fail;refine (Z26 _ pb v ts k H.out hk s HS.out).mono ?_
 rintro e w1 ⟨rfl,h1,b1⟩;have H1:=zh h1;have B1:=zh b1;clear h1 b1;go_wp2_with fail;exact ⟨rfl,_,results_none rfl _ _ _,rfl,H1.out,B1.out⟩
theorem Z2h (w:World)(pb:Nat)(v:Value)(ts:List Tok)(k:Nat)(h:PI w pb v ts k)(s:Bytes)(hs:nxt ts k≠s) :
 Calls Tryz.prog 162 #[.pointer (some ⟨pb,0,none⟩),.string (mk s)] w fun e w'=>e=.panicked [Zam ts k]∧Below w.heap.size w w':=by
 have H:=zh h;have HS:=zh hs;clear h hs;go_enter Tryz.func162,Tryz.ntmps162
 go_wp2_with fail;refine (Z1f _ pb v ts k H.out s HS.out).mono ?_
 rintro e w1 ⟨rfl,b1⟩;have H1:=zh (H.out.on b1)
 have B1:=zh b1;clear b1;go_wp2_with fail;refine (Zda _ pb v ts k H1.out).mono ?_
 rintro e w2 ⟨rfl,b2⟩;exact ⟨rfl,rfl,Z00 B1.out b2⟩
theorem Zdb {ts:List Tok}(hK:Knd ts){k:Nat}(hk:k<ts.length):kdAt ts k=Z07 (nxt ts k):=by
 have:=(hK ts[k] (List.getElem_mem hk)).1
 simp [kdAt,nxt,hk,this]
theorem Z7h (w:World)(pb:Nat)(v:Value)(ts:List Tok)(k:Nat)(h:PI w pb v ts k)(hk:k<ts.length)(kd:Int)(hs:Z07 (nxt ts k)=kd)(h23:kd=2∨kd=3) :
 Calls Tryz.prog 213 #[.pointer (some ⟨pb,0,none⟩),.int .i64 kd] w fun e w'=>e=.returned (.int .i64 (dval (nxt ts k)))∧PI w' pb v ts (k+1)∧But pb w w':=by
 have hk2:=h.2.2.2.1
 have hkd:kdAt ts k=kd:=by rw [Zdb h.2.2.2.2.1 hk,hs]
 obtain ⟨hat,hl18,hl100⟩:=Zj6 (nxt ts k) (by rw [hs];exact h23)
 obtain ⟨t,ht⟩:∃ t,nxt ts k=t:=⟨_,rfl⟩
 have htv:tokV ts k=.agg #[.int .i64 kd,.int .i64 (lnAt ts k),.string (mk t)]:=by rw [tokV,hkd,ht]
 rw [ht] at hat hl18 hl100 ⊢
 obtain ⟨u,hu⟩:∃ u,t.filter (· != 46)=u:=⟨_,rfl⟩
 rw [hu] at hat hl18
 have hrep:∀ (W:World) (m:Int),W.cell? ⟨2,0,none⟩=some (.int .i64 m)→Calls Tryz.prog 256 #[.string (mk t),.string ⟨#[46]⟩,.string ⟨#[]⟩] W fun e w'=>e=.returned (.string (mk u))∧Below W.heap.size W w':=by
  intro W m hm
  have:=Tryz.strings_ReplaceAll (mk t) ⟨#[46]⟩ ⟨#[]⟩ m W (by rw [Z0D];omega) hm (by decide) (by rw [Z0D,show (⟨#[]⟩:ByteArray).size=0 from rfl];omega)
  rw [show (⟨(Lib.replaceAll (mk t).data.toList (⟨#[46]⟩:ByteArray).data.toList (⟨#[]⟩:ByteArray).data.toList).toArray⟩:ByteArray)=mk u by
   show mk (Lib.replaceAll t [46] [])=mk u
   rw [Zag,hu]] at this
  exact this
 have hatoi:∀ W:World,Calls Tryz.prog 255 #[.string (mk u)] W fun e w'=>e=.returned (.tuple #[.int .i64 (dval t),.nilIface])∧∃ x,w'=Lib.bytesWorld W 5 x:=fun W=>Tryz.strconv_Atoi (mk u) (dval t) (by rw [Z0D];exact hl18) hat W
 have HR:=zh hrep;have HA:=zh hatoi;have H:=zh h;have HT:=zh htv;have d:(kd==kd)=true:=by simp
 clear h hs h23 hkd hat hl18 hl100 ht htv hu hrep hatoi;go_enter Tryz.func213,Tryz.ntmps213
 go_wp2_with fail;refine (Z24 _ pb v ts k H.out).mono ?_
 rintro e w1 ⟨rfl,hb⟩;rw [HT.out]
 have h1:=H.out.on hb
 have b1:But pb w w1:=But.of_below hb
 have c1:=h1.cell1
 have f1:=h1.free 1
 have hl1:=h1.lt
 have H1:=zh h1;have B1:=zh b1;clear h1 b1 hb H HT;go_wp2_with fail;have h2:=(H1.out.set (k+1) (by omega)).on ((Below.refl _ _).alloc (zn _) (.cells #[.int .i64 kd,.int .i64 (lnAt ts k),.string (mk t)] 169))
 have b2:But pb w ((w1.setCell ⟨pb,1,none⟩ (.int .i64 ((k+1:Nat):Int))).alloc (.cells #[.int .i64 kd,.int .i64 (lnAt ts k),.string (mk t)] 169)):=(B1.out.set rfl _).alloc _
 rw [show (((k+1:Nat)):Int)=(k:Int)+1 by omega] at h2 b2
 generalize (w1.setCell ⟨pb,1,none⟩ (.int .i64 ((k:Int)+1))).alloc (.cells #[.int .i64 kd,.int .i64 (lnAt ts k),.string (mk t)] 169)=W2 at *
 obtain ⟨m,hm,_⟩:=h2.2.2.2.2.2
 refine (HR.out W2 m hm).mono ?_
 rintro e w3 ⟨rfl,hb3⟩;have H3:=zh (h2.on hb3)
 have B3:=zh (b2.on hb3)
 clear h2 b2 hb3 H1 B1 c1 f1 hl1 hm;go_wp2_with fail;refine (HA.out w3).mono ?_
 rintro e w4 ⟨rfl,x,rfl⟩;have hb4:Below w3.heap.size w3 (Lib.bytesWorld w3 5 x):=⟨rfl,rfl,rfl,by rw [Lib.bytesWorld_size];omega,fun k hk=>Lib.bytesWorld_at_old _ _ _ k hk⟩
 have H4:=zh (H3.out.on hb4)
 have B4:=zh (B3.out.on hb4)
 clear hb4 H3 B3;generalize Lib.bytesWorld w3 5 x=w4 at *
 go_wp2_with fail;go_ret
 exact ⟨rfl,H4.out,B4.out⟩
theorem Zj7 (w:World)(pb:Nat)(v:Value)(ts:List Tok)(k:Nat)(h:PI w pb v ts k)(kd:Int)(hs:kdAt ts k≠kd) :
 Calls Tryz.prog 213 #[.pointer (some ⟨pb,0,none⟩),.int .i64 kd] w fun e w'=>e=.panicked [Zam ts k]∧Below w.heap.size w w':=by
 have d:(kdAt ts k==kd)=false:=beq_eq_false_iff_ne.2 hs
 have H:=zh h;clear h hs;go_enter Tryz.func213,Tryz.ntmps213
 go_wp2_with fail;refine (Z24 _ pb v ts k H.out).mono ?_
 rintro e w1 ⟨rfl,hb⟩;rw [tokV]
 have H1:=zh (H.out.on hb)
 have B1:=zh hb;clear hb H;go_wp2_with fail;have hb2:Below w1.heap.size w1 (w1.alloc (.cells #[.int .i64 (kdAt ts k),.int .i64 (lnAt ts k),.string (mk (nxt ts k))] 169)):=(Below.refl _ _).alloc (zn _) _
 refine (Zda _ pb v ts k (H1.out.on hb2)).mono ?_
 rintro e w2 ⟨rfl,hb3⟩;exact ⟨rfl,rfl,Z00 (Z00 B1.out hb2) hb3⟩
end
end Go.Proofs.YtnepkoepbapgeaaGreatDoor
