import Derived.Lib.SmallJoins
import Derived.LaidMore
import Derived.Stop.Joined
import Derived.Lib.LaidTab
import Derived.LaidHandle
import Derived.MakeChecks
import Derived.Test.YtnepkoepbapgeaaGreatDoorParMem
import Derived.HandedShaped
import Derived.Lay
namespace Go.Proofs.YtnepkoepbapgeaaGreatDoor
open _root_.Go.Proofs.Tryz
open Value (int slice)
open IntKind (i64)
set_option maxRecDepth 100000
section
open Go.ChangeShapes Go.WideShapes Go.ChangeAt Go.RowKit Go.Deep Lx Px
theorem Tryz.cellsExpr:Tryz.prog.cellsOf 63=3:=by kernel_rfl
theorem Zbn (a:Addr)(n j:Nat)(B:j≠0):a.add (n+j)=⟨(a.add n).block,(a.add n).off+j,none⟩:=by
 unfold Addr.add;rw [zf (by omega)];by_cases h:n=0
 · subst h;simp
 · rw [zf h];simp [Nat.add_assoc]
def FoEl (w:World)(B:Nat)(ad:Addr)(k:Nat)(a:Int × Int)(l:Fo):Prop := ∃ (A':Option Addr) (c:Nat),ad.block<B/\w.cell? (ad.add (k*3))=some (int i64 a.1)/\w.cell? ⟨(ad.add (k*3)).block,(ad.add (k*3)).off+1,none⟩=some (int i64 a.2) /\ w.cell? ⟨(ad.add (k*3)).block,(ad.add (k*3)).off+2,none⟩=some (slice A' (flen l) c)/\FoAt w B l A' 0
theorem Zik {w:World}{B:Nat}{ad:Addr}:∀ (j i:Nat),(∀ k,i<=k->k<i+j->∃ a l,FoEl w B ad k a l)->∃ f:Fo,flen f=j/\FoAt w B f (some ad) i:=by
 intro j;induction j with
 | zero=>intro i _;exact ⟨.nil,rfl,trivial⟩
 | succ j ih =>intro i h;obtain ⟨a,l,J,c,I,C,F,D,L⟩:=h i (zn _) (by omega);obtain ⟨f,H,G⟩:=ih (i+1) (λk hk hk2=>h k (by omega) (by omega));exact ⟨.node 0 0 a l f,by simp [flen,H],⟨⟨ad,J,c,rfl,I,C,F,D,L⟩,G⟩⟩
theorem Zdi {w:World}{p:Addr}{v:Value}(h:w.cell? p=some v):p.block<w.heap.size:=by
 rcases Nat.lt_or_ge p.block w.heap.size with B | B
 · exact B
 · unfold World.cell? at h;simp [Array.getElem?_eq_none B] at h
theorem Z8i {H:Type}{enc:TypeId × Value->H}{W:World}{n:Nat}{cs:List Value}{y:DataW H × List MemPlace}(h:DataW.trod enc prog W 0 (λ_=>true) true n 63 cs=some y) : ∃ (op k:Int) (v:Value) (B:Nat) (y2:DataW H × List MemPlace),cs=[int i64 op,int i64 k,v]/\n=B+1/\DataW.trod enc prog W 0 (λ_=>true) true B 61 [v]=some y2:=by
 obtain ⟨I,B,O,_,M,U,G⟩:=DataW.trod_struct underlying63 h;rw [Tryz.cellsExpr] at M;obtain ⟨c0,c1,c2,rfl⟩:∃ c0 c1 c2,cs=[c0,c1,c2]:=by
  match cs,M with
  | [c0,c1,c2],_=>exact ⟨c0,c1,c2,rfl⟩
 obtain ⟨D,F,C,rfl⟩:∃ D F C,I=[D,F,C]:=by
  have X:I.length=3:=U
  match I,X with
  | [D,F,C],_=>exact ⟨D,F,C,rfl⟩
 have R:DataW.trod enc prog W 0 (λ_=>true) true B 3 [c0]=some D:=G 0 _ rfl;have T:DataW.trod enc prog W 0 (λ_=>true) true B 3 [c1]=some F:=G 1 _ rfl;have S:DataW.trod enc prog W 0 (λ_=>true) true B 61 [c2]=some C:=G 2 _ rfl;obtain ⟨N,J,_,_⟩:=DataW.trod_int underlying3 R;obtain ⟨V,L,_,_⟩:=DataW.trod_int underlying3 T;simp only [List.cons.injEq,and_true] at J L;subst J L;exact ⟨N,V,c2,B,C,rfl,O,S⟩
theorem Z7s {H:Type}{enc:TypeId × Value->H}{W:World}:∀ (D:Nat) (v:Value) (x:DataW H × List MemPlace),DataW.trod enc prog W 0 (λ_=>true) true D 61 [v]=some x->∃ l:Fo,FoV W W.heap.size v l/\flen l<=maxLen:=by
 intro D;induction D using Nat.strongRecOn with
 | ind D ih =>
  intro v x h;rcases DataW.trod_slice underlying61 h with ⟨C,_⟩ | ⟨a,G,cap,y,rest,n,ba,I,bc,hb,hl,A,bb,X,be,r⟩
  · simp at C;subst C;exact ⟨.nil,⟨none,0,rfl,trivial⟩,by simp [flen]⟩
  · simp at I;subst I;obtain ⟨f,T,N⟩:=Zik (w:=W) (B:=W.heap.size) (ad:=a) G 0 (λk _ hk=>by
     have d:k<G:=by omega
     have he:=X k d;rw [zv (by omega),Option.bind_eq_some_iff] at he;obtain ⟨bd,J,S⟩:=he;obtain ⟨op,m,Z,R,V,rfl,hn',q⟩:=Z8i S;obtain ⟨l,⟨O,c',rfl,Y⟩,_⟩:=ih R (by omega) Z V q;rw [Tryz.cellsExpr] at J;obtain ⟨_,_,F⟩:=World.cells?_some J;have C:=F 0 (by omega);have L:=F 1 (by omega);have M:=F 2 (by omega);have j:(a.add (k*3)).add 0=a.add (k*3):=by rw [Go.Deep.add_add];rfl
     have U:(a.add (k*3)).add 1=⟨(a.add (k*3)).block,(a.add (k*3)).off+1,none⟩:=by rw [Go.Deep.add_add];exact Zbn a (k*3) 1 (by decide)
     have g:(a.add (k*3)).add 2=⟨(a.add (k*3)).block,(a.add (k*3)).off+2,none⟩:=by rw [Go.Deep.add_add];exact Zbn a (k*3) 2 (by decide)
     rw [j] at C;rw [U] at L;rw [g] at M;refine ⟨(op,m),l,O,c',?_,C,L,M,Y⟩;have:=Zdi C;rw [Z1d] at this;exact this)
    exact ⟨f,⟨some a,cap,by rw [T],N⟩,by omega⟩
theorem Tryz.cellsRate:Tryz.prog.cellsOf 65=16:=by kernel_rfl
theorem Zex {H:Type}{enc:TypeId × Value->H}{W:World}{n:Nat}{t:TypeId}{G D:Field}{c0 c1:Value}{y:DataW H × List MemPlace}(Y:Tryz.prog.underlying t=some (.struct #[G,D]))(S:G.type=3/\G.offset=0)(T:D.type=3/\D.offset=1) (h:DataW.trod enc prog W 0 (λ_=>true) true n t [c0,c1]=some y):∃ a b:Int,c0=int i64 a/\c1=int i64 b:=by
 obtain ⟨I,M,Z,_,d,V,R⟩:=DataW.trod_struct Y h;obtain ⟨B,C,rfl⟩:∃ B C,I=[B,C]:=by
  have X:I.length=2:=V
  match I,X with
  | [B,C],_=>exact ⟨B,C,rfl⟩
 have F:Tryz.prog.cellsOf 3=1:=by kernel_rfl
 have J:=R 0 G rfl;have O:=R 1 D rfl;rw [S.1,S.2,F] at J;rw [T.1,T.2,F] at O;obtain ⟨U,N,_,_⟩:=DataW.trod_int underlying3 (show DataW.trod enc prog W 0 (λ_=>true) true M 3 [c0]=some B from J);obtain ⟨F,L,_,_⟩:=DataW.trod_int underlying3 (show DataW.trod enc prog W 0 (λ_=>true) true M 3 [c1]=some C from O);simp only [List.cons.injEq,and_true] at N L;exact ⟨U,F,N,L⟩
end
section
open Go.ChangeShapes Go.WideShapes Go.ChangeAt Go.RowKit Go.Deep Lx Px
theorem Tryz.gPow:Tryz.prog.globalNamed "internal/strconv.uint64pow10" = some 1:=by kernel_rfl
theorem Tryz.gNames:Tryz.prog.globalNamed "innkeeper/printer.names" = some 0:=by kernel_rfl
theorem Z3i {H:Type}{enc:TypeId × Value->H}{w:World}{base:Nat}{D:Nat->Bool}{F:Bool}{C:Nat}{c:Value}{y:DataW H × List MemPlace} (h:DataW.trod enc prog w base D F C 9 [c]=some y):∃ s:ByteArray,c=.string s/\y=(.lit (.string s.data.toList),[]):=by
 obtain ⟨s,B,G,_⟩:=DataW.trod_string underlying9 h;simp only [List.cons.injEq,and_true] at B;exact ⟨s,B,G⟩
theorem Z3F {s:ByteArray}{l:List UInt8}(h:s.data.toList=l):s=mk l:=by rw [<- Zaq s];exact congrArg mk h
theorem Tryz.cellsNames:Tryz.prog.cellsOf 239=5:=by kernel_rfl
theorem Tryz.cellsStr:Tryz.prog.cellsOf 9=1:=by kernel_rfl
theorem Zaj {H:Type}{enc:TypeId × Value->H}{w:World}{base:Nat}{J:Nat->Bool}{L:Bool}{B:Nat}{l:List Value}{p:List MemPlace} (h:DataW.trod enc prog w base J L B 239 l=some (Rows.laid_innkeeper_printer_names,p)):l=[.string (mk []),.string (mk (Z4n 1)),.string (mk (Z4n 2)),.string (mk (Z4n 3)),.string (mk (Z4n 4))]:=by
 cases B with
 | zero=>simp [DataW.trod] at h
 | succ B =>
  simp only [DataW.trod,underlying239,Tryz.cellsNames,Tryz.cellsStr] at h;split at h
  · rename_i O;obtain ⟨c0,c1,c2,c3,c4,rfl⟩:∃ c0 c1 c2 c3 c4,l=[c0,c1,c2,c3,c4]:=by
     match l,O with
     | [a,b,c,d,e],_=>exact ⟨a,b,c,d,e,rfl⟩
    have e:List.range 5=[0,1,2,3,4]:=rfl;rw [e] at h;simp only [Option.map_eq_some_iff,List.mapM_cons,List.mapM_nil,Option.bind_eq_bind,Option.bind_eq_some_iff,Option.pure_def,Option.some.injEq] at h;obtain ⟨y,⟨r,M,_,⟨Y,R,_,⟨q,S,_,⟨f,I,_,⟨g,F,_,rfl,rfl⟩,rfl⟩,rfl⟩,rfl⟩,rfl⟩,C⟩:=h;obtain ⟨Z,rfl,rfl⟩:=Z3i M;obtain ⟨j,rfl,rfl⟩:=Z3i R;obtain ⟨m,rfl,rfl⟩:=Z3i S;obtain ⟨V,rfl,rfl⟩:=Z3i I;obtain ⟨X,rfl,rfl⟩:=Z3i F;simp only [Rows.laid_innkeeper_printer_names,List.map_cons,List.map_nil,Prod.mk.injEq,DataW.agg.injEq,List.cons.injEq,DataW.lit.injEq,Lit.string.injEq,and_true] at C;obtain ⟨⟨G,D,N,T,U⟩,_⟩:=C;rw [Z3F G,Z3F D,Z3F N,Z3F T,Z3F U];rfl
  · cases h
end
section
open Go.ChangeShapes Go.WideShapes Go.ChangeAt Go.RowKit Go.Deep Lx Px
theorem Zbp {W:World}(h:W.ShapedOpen prog):Mx W W.heap.size:=by
 obtain ⟨m,B⟩:=Tryz.laysM155.s1_3 W h;exact ⟨m,B,World.block_lt_of_cell? _ _ B⟩
theorem Z6F {H:Type}{enc:TypeId × Value->H}{a:Assume}{C:Checked}{os:Os}{f:FuncId}{B:Func}{s:ChangeSpec}{L:List PathCond}{F O N M:Bool}{X:World->Array Value->Prop} (d:∀ (w w':World) (args:Array Value),w.heap=w'.heap->X w args->X w' args) (own:ownKnob C.prog.godebug=none) (A:os.Started) (y:C.prog.inits.idxOf? f=none) (q:C.prog.funcs[f]?=some B) (Y:∃ (w:World) (D:Tape) (i:Input),w.os=os/\(w.forCall D i).Shaped C.prog/\i.vars=[]/\Input.okWide C.prog (w.forCall D i) .any w.heap.size f i /\ ((s.pre enc C.prog B L F (w.forCall D i).memory i.args/\X (w.forCall D i).memory i.args)/\sizedMet enc C.prog B (OpenSpec.ofChange s) F (w.forCall D i).memory i.args)/\a.holds C.prog (lone (Frame.enter C.prog f i.args .normal) [] (w.forCall D i))) (U:∀ (W:World) (base:Nat) (args:Array Value) (G I:List (DataW H)) (J:List MemPlace), (∀ (j:Nat) t v,B.params[j]?=some t->args[j]?=some v->Value.okWide C.prog W .any base t v) -> DataW.Whole enc C.prog B.params.toList s.vars F W args.toList G I J -> L.all (PathCond.test C.prog ⟨B.params.toList,G,s.plain.varTypes C.prog,I⟩)=true -> (DataW.weightsEach C.prog (B.params.toList++s.plain.varTypes C.prog) (G++I)).all (·<=reachBytes)=true->X W args->W.ShapedOpen C.prog -> a.holds C.prog (lone (Frame.enter C.prog f args .normal) [] W) -> Calls C.prog f args W λe W'=>∃ v,e=.returned v/\s.post enc C.prog B F O N M W args v W') : ReturnsInHanded a C os f .any (λw args=>(s.pre enc C.prog B L F w args/\X w args)/\sizedMet enc C.prog B (OpenSpec.ofChange s) F w args) (s.post enc C.prog B F O N M):=by
 refine returnsInHanded_of_calls own A y Y ?_;intro w D i _ S _ T V hholds;obtain ⟨_,_,_,g,ba,_,_,_,_,Z⟩:=T;have e:g=B:=Option.some.inj (ba.symm.trans q);subst e;obtain ⟨⟨⟨G,I,J,hw,r⟩,R⟩,m⟩:=V;have l:=DataW.Whole.of_heap (w':=w.forCall D i) (by rfl) hw;refine (U (w.forCall D i) w.heap.size i.args G I J Z l r (m.weights hw) (d _ _ _ (by rfl) R) S hholds).mono λe W' ⟨v,he,hp⟩=>?_;subst he;exact ChangeSpec.post_blind hp
end
section
open Go.ChangeShapes Go.WideShapes Go.ChangeAt Go.RowKit Go.Deep Lx Px
def Z8j:List (String × DataW Unit):=[("math/bits.deBruijn32tab", Rows.laid_math_bits_deBruijn32tab),("math/bits.deBruijn64tab", Rows.laid_math_bits_deBruijn64tab),("internal/strconv.uint64pow10", Rows.laid_internal_strconv_uint64pow10),("unicode/utf8.acceptRanges", Rows.laid_unicode_utf8_acceptRanges),("strconv.ErrRange", Rows.laid_strconv_ErrRange),("strconv.ErrSyntax", Rows.laid_strconv_ErrSyntax),("innkeeper/printer.names", Rows.laid_innkeeper_printer_names),("unicode/utf8.first", Rows.laid_unicode_utf8_first)]
theorem Zgg (os:Os)(args:Array Value):laidMetH prog Z8j ((World.laidAll prog os Z8j).forCall (λ_ _=>0) ⟨#[],args,[]⟩).memory:=by
 rw [MakeChecks.laidMetH_plain _ _ _ (by kernel_rfl)];exact laidMet_laidAll _ (by kernel_rfl) (by kernel_rfl)
theorem Zim {W:World}(h:laidMetH prog Z8j W):Tabs W.heap.size W:=by
 rw [MakeChecks.laidMetH_plain _ _ _ (by kernel_rfl)] at h;obtain ⟨ps,⟨g0,t0,cs0,f0,p0,q0,hg0,ht0,hv0,hd0,⟨g1,t1,cs1,f1,p1,q1,hg1,ht1,hv1,hd1,⟨g2,t2,cs2,f2,p2,q2,hg2,ht2,hv2,hd2,⟨g3,t3,cs3,f3,p3,q3,hg3,ht3,hv3,hd3,⟨g4,t4,cs4,f4,p4,q4,hg4,ht4,hv4,hd4,⟨g5,t5,cs5,f5,p5,q5,hg5,ht5,hv5,hd5,⟨g6,t6,cs6,f6,p6,q6,hg6,ht6,hv6,hd6,⟨g7,t7,cs7,f7,p7,q7,hg7,ht7,hv7,hd7,_,_⟩,_⟩,_⟩,_⟩,_⟩,_⟩,_⟩,_⟩,_,_⟩:=h;have hT2:(Tryz.prog.globals[1]?).map (·.type)=some 277:=by kernel_rfl
 have hT6:(Tryz.prog.globals[0]?).map (·.type)=some 239:=by kernel_rfl
 obtain rfl:=Option.some.inj (Tryz.gPow.symm.trans hg2);obtain rfl:=Option.some.inj (Tryz.gNames.symm.trans hg6);obtain rfl:=Option.some.inj (hT2.symm.trans ht2);obtain rfl:=Option.some.inj (hT6.symm.trans ht6);have htab:Lib.TabIs prog W "internal/strconv.uint64pow10" .u64 Lib.pow10Tab:=by have hd2':DataW.trod _ prog W 0 _ _ f2 277 cs2.toList=some (Lib.tabData .u64 Lib.pow10Tab,p2):=hd2;have:=Lib.cells_of_tab underlying277 underlying28 (by kernel_rfl) (by kernel_rfl) hd2';unfold Lib.TabIs;rw [hv2,<- this]
 have hnm:=Zaj hd6;have hlt:0<W.heap.size:=by
  have:=hv6;unfold World.var? at this;rw [Tryz.gNames] at this;simp only [Option.bind_some] at this;rcases Nat.lt_or_ge 0 W.heap.size with h1 | h1
  · exact h1
  · rw [Array.getElem?_eq_none h1] at this;cases this
 refine ⟨Lib.tabBelow_of_tabIs htab,hlt,zn _,?_⟩;intro k h1 h2;have hc:=World.var?_cell Tryz.gNames hv6 k;rw [<- Array.getElem?_toList,hnm] at hc;rcases (show k=1\/k=2\/k=3\/k=4 by omega) with rfl | rfl | rfl | rfl
 all_goals exact hc
end
section
open Go.RowKit Lx Px
def kdAt (ts:List Tok)(k:Nat):Int:=if h:k<ts.length then ts[k].1 else 0
def lnAt (ts:List Tok)(k:Nat):Int:=if h:k<ts.length then ts[k].2.1 else 0
def tokV (ts:List Tok)(k:Nat):Value:=.agg #[int i64 (kdAt ts k),int i64 (lnAt ts k),.string (mk (nxt ts k))]
def RBox (w:World)(cs:Array Value)(ty:TypeId)(wx:World):Prop:=wx.heap[w.heap.size]?=some (.cells cs ty (0,0))
theorem RBox.on {w B C:World}{cs:Array Value}{D:TypeId}(h:RBox w cs D B)(hb:Below B.heap.size B C):RBox w cs D C:=(hb.block _ (zs h)).trans h
theorem RBox.lt {w B:World}{cs:Array Value}{C:TypeId}(h:RBox w cs C B):w.heap.size<B.heap.size:=(zs h)
theorem RBox.cell {w B:World}{cs:Array Value}{D:TypeId}(h:RBox w cs D B)(i:Nat)(v:Value)(C:cs[i]?=some v):B.cell? ⟨w.heap.size,i,none⟩=some v:=by rw [zc h,C]
theorem RBox.free {w B:World}{cs:Array Value}{C:TypeId}(h:RBox w cs C B)(i:Nat):B.frozen? ⟨w.heap.size,i,none⟩=false:=by
 have D:B.heap[w.heap.size]?=some (.cells cs C (0,0)):=h;simp [World.frozen?,D]
theorem Z5B (w:World)(n:Nat):Below w.heap.size w (w.drewN n):=Z0e (zr _ _) n
theorem Z2t (w:World)(pb:Nat)(v:Value)(ts:List Tok)(k:Nat)(h:PI w pb v ts k) : Calls prog 120 #[.pointer (some ⟨pb,0,none⟩)] w λe w'=>e=.returned (tokV ts k)/\Below w.heap.size w w':=by
 have y:=h.lt;have hk1:=h.2.2.1;have g:=h.2.2.2.1;have F:Below w.heap.size w (w.alloc (.cells #[int i64 0,int i64 0,.string ⟨#[]⟩] 169)):=(zr _ _).alloc (zn _) _;have J:RBox w #[int i64 0,int i64 0,.string ⟨#[]⟩] 169 (w.alloc (.cells #[int i64 0,int i64 0,.string ⟨#[]⟩] 169)):=za w _;have B:=h.on F;have c1:=B.cell1;by_cases hk:k<ts.length
 · have D:tokV ts k=.agg #[int i64 ts[k].1,int i64 ts[k].2.1,.string (mk ts[k].2.2)]:=by simp [tokV,kdAt,lnAt,nxt,hk]
   rw [D];obtain ⟨A,c,rfl⟩:=B.slice;have c0:=B.cell0;have d:((k:Int)==(ts.length:Int))=false:=by rw [beq_eq_false_iff_ne];omega
   have H:=zh F;have N:=zh B;have M:=zh J;clear F h B D J;go_enter func120,ntmps120;go_wp2_with fail;go_quiet (fail);go_wp2_with fail;generalize w.alloc (.cells #[int i64 0,int i64 0,.string ⟨#[]⟩] 169)=L at *
   have G:=N.out.on (Z5B L nq);have O:=Z0e H.out nq;have S:=M.out.on (Z5B L nq);clear c0 c1 N H M;generalize L.drewN nq=R at *
   obtain ⟨p,c',e,q,T,V,Y⟩:=G.tok hk;injection e with I _ e3
   subst I e3;have c0:=G.cell0;have c1:=G.cell1;go_still_tail 10,(by kernel_rfl)
   change wpList _ _ _ _ _ R.drew;have C:=S.on (zr _ _).drew;have U:=O.drew;clear c0 c1 T V Y G O S;generalize R.drew=l at *
   have X:=C.cell 0 _ rfl;have I:=C.cell 1 _ rfl;have Z:=C.cell 2 _ rfl;have r:=C.free 0;have j:=C.free 1;have m:=C.free 2;go_wp2_with fail;refine bodyPost_ret (by simp [results,results120,go_sem,X,I,Z]) rfl ⟨rfl,?_⟩;exact ((U.setCell (p:=⟨w.heap.size,0,none⟩) (zn _) _).setCell (p:=⟨w.heap.size,1,none⟩) (zn _) _).setCell (p:=⟨w.heap.size,2,none⟩) (zn _) _
 · have f:k=ts.length:=by omega
   subst f;obtain ⟨A,c,rfl⟩:=B.slice;have c0:=B.cell0;have d:((ts.length:Int)==(ts.length:Int))=true:=by simp
   have H:=zh F;have D:tokV ts ts.length=.agg #[int i64 0,int i64 0,.string ⟨#[]⟩]:=by simp [tokV,kdAt,lnAt,nxt,mk]
   rw [D];clear F h B D J;go_enter func120,ntmps120;go_wp2_with fail;go_quiet (fail);go_wp2_with fail;refine bodyPost_ret (by simp [results,results120,go_sem]) rfl ⟨rfl,?_⟩;exact (((Z0e H.out nq).setCell (p:=⟨w.heap.size,0,none⟩) (zn _) _).setCell (p:=⟨w.heap.size,1,none⟩) (zn _) _).setCell (p:=⟨w.heap.size,2,none⟩) (zn _) _
theorem Z7G (a b:Int)(s:ByteArray)(w:World):(Instr.field 169 (.agg #[int i64 a,int i64 b,.string s]) 2).run prog w=.ok (.string s) w:=by kernel_rfl
theorem Zey (a b:Int)(s:ByteArray)(w:World):(Instr.field 169 (.agg #[int i64 a,int i64 b,.string s]) 1).run prog w=.ok (int i64 b) w:=by kernel_rfl
theorem str_ne {a b:Bytes}(h:a≠b):((mk a).toList==(mk b).toList)=false:=by
 have e:∀ l:Bytes,(mk l).toList=l:=λl=>by rw [ByteArray.toList_eq];rfl
 rw [e,e];exact beq_eq_false_iff_ne.2 h
theorem str_eq (a:Bytes):((mk a).toList != (mk a).toList)=false:=by simp
theorem PI.free {w:World}{pb k:Nat}{v:Value}{ts:List Tok}(h:PI w pb v ts k)(i:Nat):w.frozen? ⟨pb,i,none⟩=false:=by
 simp [World.frozen?,h.1]
theorem Z2y (w:World)(pb:Nat)(v:Value)(ts:List Tok)(k:Nat)(h:PI w pb v ts k)(hk:k<ts.length)(s:Bytes)(D:nxt ts k=s) : Calls prog 216 #[.pointer (some ⟨pb,0,none⟩),.string (mk s)] w λe w'=>e=.returned (.bool true)/\PI w' pb v ts (k+1)/\But pb w w':=by
 have M:=h.2.2.2.1;have d:=str_eq s;have O:=Z7G;have H:=zh h;have C:=zh D;clear h D;go_enter func216,ntmps216;go_wp2_with fail;refine (Z2t _ pb v ts k H.out).mono ?_;rintro e L ⟨rfl,hb⟩;have B:=H.out.on hb;have G:But pb w L:=But.of_below hb;have F:tokV ts k=.agg #[int i64 (kdAt ts k),int i64 (lnAt ts k),.string (mk s)]:=by rw [tokV,C.out]
 rw [F];have c1:=B.cell1;have N:=B.free 1;have I:=zh B;have J:=zh G;clear B G F hb H C;go_wp2_with fail;go_ret;refine ⟨rfl,?_,J.out.set rfl _⟩;have:=I.out.set (k+1) (by omega);rw [show (((k+1:Nat)):Int)=(k:Int)+1 by omega] at this;exact this
theorem Z1v (w:World)(pb:Nat)(v:Value)(ts:List Tok)(k:Nat)(h:PI w pb v ts k)(s:Bytes)(B:nxt ts k≠s) : Calls prog 216 #[.pointer (some ⟨pb,0,none⟩),.string (mk s)] w λe w'=>e=.returned (.bool false)/\Below w.heap.size w w':=by
 have d:=str_ne B;have D:=Z7G;have H:=zh h;clear h B;go_enter func216,ntmps216;go_wp2_with fail;refine (Z2t _ pb v ts k H.out).mono ?_;rintro e C ⟨rfl,hb⟩;rw [tokV];go_wp2_with fail;go_ret;exact ⟨rfl,hb⟩
def Zbq (ts:List Tok)(k:Nat):PanicEntry:={ v:=.iface 177 (.agg #[int i64 8,int i64 (Z3E ts k)]),recovered:=false }
theorem Zez (w:World)(pb:Nat)(v:Value)(ts:List Tok)(k:Nat)(h:PI w pb v ts k) : Calls prog 217 #[.pointer (some ⟨pb,0,none⟩)] w λe w'=>e=.panicked [Zbq ts k]/\Below w.heap.size w w':=by
 have M:=h.2.2.1;have H:=h.2.2.2.1;by_cases h0:0<ts.length
 · have C:min k (ts.length - 1)<ts.length:=by omega
   obtain ⟨p,c,rfl,L,G,J,I⟩:=h.tok C;have B:Z3E ts k=ts[min k (ts.length - 1)].2.1:=by unfold Z3E;rw [zv C]
   have N:min (k:Int) ((ts.length:Int) - 1)=((min k (ts.length - 1):Nat):Int):=by omega
   have c0:=h.cell0;have c1:=h.cell1;have O:IntKind.i64.wrap ((ts.length:Int) - 1)=(ts.length:Int) - 1:=zi _ (by omega);have d:decide ((0:Int)<(ts.length:Int))=true:=by simpa using h0
   rw [Zbq,B];go_enter func217,ntmps217;go_wp2_with fail;go_quiet (fail);go_wp2_with fail;exact ⟨rfl,rfl,Z5B w nq⟩
 · have F:ts.length=0:=by omega
   have D:ts=[]:=List.length_eq_zero_iff.1 F;subst D;obtain ⟨A,c,rfl⟩:=h.slice;have c0:=h.cell0;have c1:=h.cell1;have B:Z3E [] k=1:=by simp [Z3E]
   rw [Zbq,B];go_enter func217,ntmps217;go_wp2_with fail;exact ⟨rfl,rfl,zr _ _⟩
theorem Z1m (w:World)(pb:Nat)(v:Value)(ts:List Tok)(k:Nat)(h:PI w pb v ts k)(hk:k<ts.length)(s:Bytes)(C:nxt ts k=s) : Calls prog 162 #[.pointer (some ⟨pb,0,none⟩),.string (mk s)] w λe w'=>e=.returned (.tuple #[])/\PI w' pb v ts (k+1)/\But pb w w':=by
 have H:=zh h;have G:=zh C;clear h C;go_enter func162,ntmps162;go_wp2_with fail;refine (Z2y _ pb v ts k H.out hk s G.out).mono ?_;rintro e J ⟨rfl,B,D⟩;have F:=zh B;have I:=zh D;clear B D;go_wp2_with fail;exact ⟨rfl,_,results_none rfl _ _ _,rfl,F.out,I.out⟩
theorem Z2G (w:World)(pb:Nat)(v:Value)(ts:List Tok)(k:Nat)(h:PI w pb v ts k)(s:Bytes)(C:nxt ts k≠s) : Calls prog 162 #[.pointer (some ⟨pb,0,none⟩),.string (mk s)] w λe w'=>e=.panicked [Zbq ts k]/\Below w.heap.size w w':=by
 have H:=zh h;have G:=zh C;clear h C;go_enter func162,ntmps162;go_wp2_with fail;refine (Z1v _ pb v ts k H.out s G.out).mono ?_;rintro e J ⟨rfl,B⟩;have F:=zh (H.out.on B);have I:=zh B;clear B;go_wp2_with fail;refine (Zez _ pb v ts k F.out).mono ?_;rintro e L ⟨rfl,D⟩;exact ⟨rfl,rfl,Z00 I.out D⟩
theorem ZeA {ts:List Tok}(B:Knd ts){k:Nat}(hk:k<ts.length):kdAt ts k=Z0b (nxt ts k):=by
 have:=(B ts[k] (List.getElem_mem hk)).1;simp [kdAt,nxt,hk,this]
theorem Z8k (w:World)(pb:Nat)(v:Value)(ts:List Tok)(k:Nat)(h:PI w pb v ts k)(hk:k<ts.length)(B:Int)(S:Z0b (nxt ts k)=B)(j:B=2\/B=3) : Calls prog 213 #[.pointer (some ⟨pb,0,none⟩),int i64 B] w λe w'=>e=.returned (int i64 (dval (nxt ts k)))/\PI w' pb v ts (k+1)/\But pb w w':=by
 have bb:=h.2.2.2.1;have y:kdAt ts k=B:=by rw [ZeA h.2.2.2.2.1 hk,S]
 obtain ⟨F,J,X⟩:=Zmh (nxt ts k) (by rw [S];exact j);obtain ⟨t,T⟩:∃ t,nxt ts k=t:=⟨_,rfl⟩
 have q:tokV ts k=.agg #[int i64 B,int i64 (lnAt ts k),.string (mk t)]:=by rw [tokV,y,T]
 rw [T] at F J X |-
 obtain ⟨u,L⟩:∃ u,t.filter (· != 46)=u:=⟨_,rfl⟩
 rw [L] at F J;have g:∀ (W:World) (m:Int),W.cell? ⟨2,0,none⟩=some (int i64 m)->Calls prog 256 #[.string (mk t),.string ⟨#[46]⟩,.string ⟨#[]⟩] W λe w'=>e=.returned (.string (mk u))/\Below W.heap.size W w':=by intro W m G;have:=Tryz.strings_ReplaceAll (mk t) ⟨#[46]⟩ ⟨#[]⟩ m W (by rw [Z09];omega) G (by decide) (by rw [Z09,show (⟨#[]⟩:ByteArray).size=0 from rfl];omega);rw [show (⟨(Lib.replaceAll (mk t).data.toList (⟨#[46]⟩:ByteArray).data.toList (⟨#[]⟩:ByteArray).data.toList).toArray⟩:ByteArray)=mk u by show mk (Lib.replaceAll t [46] [])=mk u;rw [Zbj,L]] at this;exact this
 have l:∀ W:World,Calls prog 255 #[.string (mk u)] W λe w'=>e=.returned (.tuple #[int i64 (dval t),.nilIface])/\∃ x,w'=Lib.bytesWorld W 5 x:=λW=>Tryz.strconv_Atoi (mk u) (dval t) (by rw [Z09];exact J) F W;have HR:=zh g;have HA:=zh l;have H:=zh h;have Y:=zh q;have d:(B==B)=true:=by simp
 clear h S j y F J X T q L g l;go_enter func213,ntmps213;go_wp2_with fail;refine (Z2t _ pb v ts k H.out).mono ?_;rintro e R ⟨rfl,hb⟩;rw [Y.out];have C:=H.out.on hb;have f:But pb w R:=But.of_below hb;have c1:=C.cell1;have A:=C.free 1;have ba:=C.lt;have U:=zh C;have Z:=zh f;clear C f hb H Y;go_wp2_with fail;have I:=(U.out.set (k+1) (by omega)).on ((zr _ _).alloc (zn _) (.cells #[int i64 B,int i64 (lnAt ts k),.string (mk t)] 169));have N:But pb w ((R.setCell ⟨pb,1,none⟩ (int i64 ((k+1:Nat):Int))).alloc (.cells #[int i64 B,int i64 (lnAt ts k),.string (mk t)] 169)):=(Z.out.set rfl _).alloc _;rw [show (((k+1:Nat)):Int)=(k:Int)+1 by omega] at I N;generalize (R.setCell ⟨pb,1,none⟩ (int i64 ((k:Int)+1))).alloc (.cells #[int i64 B,int i64 (lnAt ts k),.string (mk t)] 169)=W2 at *
 obtain ⟨m,G,_⟩:=I.2.2.2.2.2;refine (HR.out W2 m G).mono ?_;rintro e D ⟨rfl,M⟩;have V:=zh (I.on M);have r:=zh (N.on M);clear I N M U Z c1 A ba G;go_wp2_with fail;refine (HA.out D).mono ?_;rintro e w4 ⟨rfl,x,rfl⟩;have O:Below D.heap.size D (Lib.bytesWorld D 5 x):=⟨rfl,rfl,rfl,by rw [Lib.bytesWorld_size];omega,λk hk=>Lib.bytesWorld_at_old _ _ _ k hk⟩
 have H4:=zh (V.out.on O);have B4:=zh (r.out.on O);clear O V r;generalize Lib.bytesWorld D 5 x=w4 at *
 go_wp2_with fail;go_ret;exact ⟨rfl,H4.out,B4.out⟩
theorem Zmi (w:World)(pb:Nat)(v:Value)(ts:List Tok)(k:Nat)(h:PI w pb v ts k)(B:Int)(D:kdAt ts k≠B) : Calls prog 213 #[.pointer (some ⟨pb,0,none⟩),int i64 B] w λe w'=>e=.panicked [Zbq ts k]/\Below w.heap.size w w':=by
 have d:(kdAt ts k==B)=false:=beq_eq_false_iff_ne.2 D;have H:=zh h;clear h D;go_enter func213,ntmps213;go_wp2_with fail;refine (Z2t _ pb v ts k H.out).mono ?_;rintro e C ⟨rfl,hb⟩;rw [tokV];have I:=zh (H.out.on hb);have J:=zh hb;clear hb H;go_wp2_with fail;have F:Below C.heap.size C (C.alloc (.cells #[int i64 (kdAt ts k),int i64 (lnAt ts k),.string (mk (nxt ts k))] 169)):=(zr _ _).alloc (zn _) _;refine (Zez _ pb v ts k (I.out.on F)).mono ?_;rintro e L ⟨rfl,G⟩;exact ⟨rfl,rfl,Z00 (Z00 J.out F) G⟩
end
end Go.Proofs.YtnepkoepbapgeaaGreatDoor
