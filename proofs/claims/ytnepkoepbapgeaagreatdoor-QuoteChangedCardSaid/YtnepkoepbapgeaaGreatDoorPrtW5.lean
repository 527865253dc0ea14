/-
  Several texts in one: Lay, BldW, PrtBld, PrtW5.
-/
import Derived.Test.YtnepkoepbapgeaaGreatDoorShelf
import Derived.Shelf.Strings.BuilderK
import Derived.Shelf.Strings.BuilderF
import Derived.Defers
import Derived.WalkKit
import Derived.WalkSpells
import Derived.Lib.Hide
import Derived.Test.YtnepkoepbapgeaaGreatDoorPrtMem
import Derived.Test.YtnepkoepbapgeaaGreatDoorPrtW4
import Derived.Lib.AppendIntMem
namespace Go.Proofs.YtnepkoepbapgeaaGreatDoor
set_option maxHeartbeats 2000000
set_option maxRecDepth 100000
section
open Go.RowKit Go.Shelf
def Tryz.bRen:Go.Shelf.Ren:=⟨fun | 166=>137 | 167=>179 | 240=>182 | 276=>241 | n=>n,fun | 0=>0 | 3=>3 | 4=>4 | 5=>5 | 9=>9 | 20=>20 | 37=>98 | 70=>185 | 72=>187 | 75=>193 | 76=>194 | 80=>196 | 164=>262 | n=>n,fun | n=>n⟩
theorem Tryz.lays166:Go.Proofs.Lays.n166 Tryz.prog Tryz.bRen:={
 mixed:=by kernel_rfl
 f166:=Tryz.func137.trans (congrArg some (by kernel_rfl))
 f240:=Tryz.func182.trans (congrArg some (by kernel_rfl))
 f276:=Tryz.func241.trans (congrArg some (by kernel_rfl))
 t0:=Tryz.underlying0
 a0:=Tryz.isAgg0
 z0:=Tryz.sizeOf0
 v0:=Tryz.zeroValue0
 t3:=Tryz.underlying3
 a3:=Tryz.isAgg3
 z3:=Tryz.sizeOf3
 v3:=Tryz.zeroValue3
 t4:=Tryz.underlying4
 a4:=Tryz.isAgg4
 z4:=Tryz.sizeOf4
 v4:=Tryz.zeroValue4
 t9:=Tryz.underlying9
 a9:=Tryz.isAgg9
 z9:=Tryz.sizeOf9
 v9:=Tryz.zeroValue9
 t20:=Tryz.underlying20
 a20:=Tryz.isAgg20
 z20:=Tryz.sizeOf20
 v20:=Tryz.zeroValue20
 t37:=Tryz.underlying98
 a37:=Tryz.isAgg98
 z37:=Tryz.sizeOf98
 v37:=Tryz.zeroValue98
 t70:=Tryz.underlying185
 a70:=Tryz.isAgg185
 z70:=Tryz.sizeOf185
 v70:=Tryz.zeroValue185
 t72:=Tryz.underlying187
 a72:=Tryz.isAgg187
 z72:=Tryz.sizeOf187
 v72:=Tryz.zeroValue187
 t75:=Tryz.underlying193
 a75:=Tryz.isAgg193
 z75:=Tryz.sizeOf193
 v75:=Tryz.zeroValue193
 t164:=Tryz.underlying262
 a164:=Tryz.isAgg262
 z164:=Tryz.sizeOf262
 v164:=Tryz.zeroValue262 }
theorem Tryz.lays167:Go.Proofs.Lays.n167 Tryz.prog Tryz.bRen:={
 mixed:=by kernel_rfl
 f167:=Tryz.func179.trans (congrArg some (by kernel_rfl))
 f240:=Tryz.func182.trans (congrArg some (by kernel_rfl))
 f276:=Tryz.func241.trans (congrArg some (by kernel_rfl))
 t0:=Tryz.underlying0
 a0:=Tryz.isAgg0
 z0:=Tryz.sizeOf0
 v0:=Tryz.zeroValue0
 t4:=Tryz.underlying4
 a4:=Tryz.isAgg4
 z4:=Tryz.sizeOf4
 v4:=Tryz.zeroValue4
 t5:=Tryz.underlying5
 a5:=Tryz.isAgg5
 z5:=Tryz.sizeOf5
 v5:=Tryz.zeroValue5
 t9:=Tryz.underlying9
 a9:=Tryz.isAgg9
 z9:=Tryz.sizeOf9
 v9:=Tryz.zeroValue9
 t20:=Tryz.underlying20
 a20:=Tryz.isAgg20
 z20:=Tryz.sizeOf20
 v20:=Tryz.zeroValue20
 t37:=Tryz.underlying98
 a37:=Tryz.isAgg98
 z37:=Tryz.sizeOf98
 v37:=Tryz.zeroValue98
 t70:=Tryz.underlying185
 a70:=Tryz.isAgg185
 z70:=Tryz.sizeOf185
 v70:=Tryz.zeroValue185
 t72:=Tryz.underlying187
 a72:=Tryz.isAgg187
 z72:=Tryz.sizeOf187
 v72:=Tryz.zeroValue187
 t75:=Tryz.underlying193
 a75:=Tryz.isAgg193
 z75:=Tryz.sizeOf193
 v75:=Tryz.zeroValue193
 t164:=Tryz.underlying262
 a164:=Tryz.isAgg262
 z164:=Tryz.sizeOf262
 v164:=Tryz.zeroValue262 }
theorem Tryz.bExtra:Builder.Extra Tryz.prog Tryz.bRen:={
 sizeBuilder:=by kernel_rfl
 liesBuilder:=by kernel_rfl
 t5:=Tryz.underlying5
 a5:=Tryz.isAgg5
 z5:=Tryz.sizeOf5
 v5:=Tryz.zeroValue5
 infoByte:=by kernel_rfl
 cellsByte:=by kernel_rfl
 sizeByte:=by kernel_rfl
 neB5:=by decide }
end
section
open Go.Shelf Go.RowKit Go.Proofs
section
variable {P:Program} {ρ:Ren}
def Bw.Lies (P:Program)(ρ:Ren)(T:TypeId):Prop:=liesAt P P.depth T (2 / P.cellsOf T) 0 (ρ.t 72) 1=true∧T≠ρ.t 5
theorem Zev {f:FuncId}{fn:Func}{c:Code}{args:Array Value}{w:World}{R:Ending→World→Prop}
 (hf:P.funcs[f]?=some fn) (hb:fn.body=some c)
 (h:c.wp P (bodyPost P fn R) { tmps:=args++Array.replicate (fn.ntmps - args.size) undef,defers:=[] } w) :
 Calls P f args w R∧∀ u,CallsD P f args u w fun e u' w'=>u'=u∧R e w':=⟨calls_of_wp hf hb h,fun _=>callsD_of_wp hf hb h⟩
theorem Bw.copyCheck_fresh {T:TypeId}(hT:Bw.Lies P ρ T)(L:Lays.n240 P ρ)(X:Builder.X72 P ρ)(b:Nat)(w:World)(h0:w.cell? ⟨b,0,none⟩=some (.pointer none))(hsh:w.shape? b=some (T,2))(hfz:w.frozen? ⟨b,0,none⟩=false) :
 Calls P (ρ.f 240) #[.pointer (some ⟨b,0,none⟩)] w fun e w'=>e=.returned (.tuple #[])∧w'=w.setCell ⟨b,0,none⟩ (.pointer (some ⟨b,0,none⟩)):=by
 obtain ⟨j,hj,hjs⟩:=Option.map_eq_some_iff.1 X.sizeBuilder
 have mixed:=L.mixed
 have t72:=L.t72;have a72:=L.a72;have z72:=L.z72;have v72:=L.v72;have u72:=run_underlying L.t72
 have t70:=L.t70;have a70:=L.a70;have z70:=L.z70;have v70:=L.v70;have u70:=run_underlying L.t70
 have t9:=L.t9;have a9:=L.a9;have z9:=L.z9;have v9:=L.v9;have u9:=run_underlying L.t9
 have t4:=L.t4;have a4:=L.a4;have z4:=L.z4;have v4:=L.v4;have u4:=run_underlying L.t4
 have t164:=L.t164;have a164:=L.a164;have z164:=L.z164;have v164:=L.v164;have u164:=run_underlying L.t164
 go_enter L.f240,Body.n240_ntmps ρ
 go_wp2
 rw [Lib.run_to_unsafe w ⟨b,0,none⟩ L.t70 L.t164 hj (by rw [hjs];decide) hsh (Nat.zero_lt_succ 1)]
 simp only [Result.andThen]
 rw [Oper.upon_value]
 go_wp2
 rw [run_callFunc_extern L.f276 (by kernel_rfl) (by kernel_rfl) (by kernel_rfl) (e:=Extern.AbiNoEscape.same) (by kernel_rfl)]
 rw [Lib.run_noEscape]
 simp only [Result.andThen]
 rw [Oper.upon_value]
 go_wp2
 rw [Lib.run_from_unsafe w ⟨b,0,none⟩ L.t164 L.t70 hj hsh hT.1]
 simp only [Result.andThen]
 rw [Oper.upon_value]
 go_wp2
 go_end0
 exact ⟨rfl,rfl⟩

theorem Bw.copyCheck_k {T:TypeId}(hT:Bw.Lies P ρ T)(L:Lays.n240 P ρ)(X:Builder.X72 P ρ)(B b:Nat)(bs:List Value)(w:World)(h:Lib.IsBuilderF T (ρ.t 5) B b bs w) :
 Calls P (ρ.f 240) #[.pointer (some ⟨b,0,none⟩)] w fun e w'=>e=.returned (.tuple #[])∧(Lib.BuilderAtF T (ρ.t 5) B b (.pointer (some ⟨b,0,none⟩)) bs w'∧Below B w w'∧Lib.OthersKept (ρ.t 5) (some b) w w'):=by
 rcases h with h | h
 · refine (Bw.copyCheck_fresh hT L X b w h.cell0 h.shape h.frozen0).mono ?_
   rintro e w' ⟨rfl,rfl⟩;exact ⟨rfl,h.used _,(Below.refl B w).setCell (p:=⟨b,0,none⟩) h.1 _,(Lib.OthersKept.refl _ _ w).setCell ⟨b,0,none⟩ rfl _⟩
 · refine (Any.Builder_copyCheck_used L X b w h.cell0).mono ?_
   rintro e w' ⟨rfl,rfl⟩;exact ⟨rfl,h,Below.refl B _,Lib.OthersKept.refl _ _ _⟩

theorem Bw.WriteByte_k {T:TypeId}(hT:Bw.Lies P ρ T)(L:Lays.n167 P ρ)(X:Builder.Extra P ρ)(B b:Nat)(bs:List Value)(c:Int)(w:World)(h:Lib.IsBuilderF T (ρ.t 5) B b bs w)(hlen:bs.length+1≤140737488355328)(hBw:B≤w.heap.size) :
 Calls P (ρ.f 167) #[.pointer (some ⟨b,0,none⟩),.int .u8 c] w fun e w'=>e=.returned .nilIface∧(Lib.BuilderAtF T (ρ.t 5) B b (.pointer (some ⟨b,0,none⟩)) (bs++[.int .u8 c]) w'∧Below B w w'∧Lib.OthersKept (ρ.t 5) (some b) w w'):=by
 obtain ⟨i0,hi,hz0,hz1,hz2⟩:=info_parts X.infoByte
 have mixed:=L.mixed
 have t72:=L.t72;have a72:=L.a72;have z72:=L.z72;have v72:=L.v72;have u72:=run_underlying L.t72
 have t70:=L.t70;have a70:=L.a70;have z70:=L.z70;have v70:=L.v70;have u70:=run_underlying L.t70
 have t5:=L.t5;have a5:=L.a5;have z5:=L.z5;have v5:=L.v5;have u5:=run_underlying L.t5
 have t37:=L.t37;have a37:=L.a37;have z37:=L.z37;have v37:=L.v37;have u37:=run_underlying L.t37
 have t9:=L.t9;have a9:=L.a9;have z9:=L.z9;have v9:=L.v9;have u9:=run_underlying L.t9
 have t4:=L.t4;have a4:=L.a4;have z4:=L.z4;have v4:=L.v4;have u4:=run_underlying L.t4
 have t164:=L.t164;have a164:=L.a164;have z164:=L.z164;have v164:=L.v164;have u164:=run_underlying L.t164
 have e240:∀ args w,(callFunc (ρ.f 240) args).run P w=.ok (.enter (ρ.f 240) args) w:=enters_of L.f240 (by kernel_rfl) rfl
 go_enter L.f167,Body.n167_ntmps ρ
 go_wp2_with (go_at_fn (ρ.f 240);refine (Bw.copyCheck_k hT { L with } X.toX72 B b bs _ h).mono ?_)
 rintro e w1 ⟨rfl,h1,hb1,hk1⟩;obtain ⟨hB,v,hbk,hown,hne⟩:=h1
 have c0:w1.cell? ⟨b,0,none⟩=some (.pointer (some ⟨b,0,none⟩)):=by rw [zc hbk];rfl
 have c1:w1.cell? ⟨b,1,none⟩=some v:=by rw [zc hbk];rfl
 go_wp2_with (at_builtin;refine wpList_append_ownF _ rfl _ _ (ρ.t 37) rfl B (ρ.t 5) i0 (.int .u8 0) 1 1 L.t37 hi hz0 hz1 hz2 rfl (by decide) _ _ _ rfl (hown.alloc _) ⟨w1.heap.size,0,none⟩ 1 1 [.int .u8 c] rfl rfl ?c1 ?c2 ?c3 ?c4 ?c5 ?_)
 case c1 =>
  intro j u hj
  match j,hj with
  | 0,hj=>simp at hj;subst hj;simp [Addr.add]
 case c2=>intro u hu;simp at hu;subst hu;rfl
 case c3=>unfold maxLen;omega
 case c4=>omega
 case c5=>have:=hb1.size;simp;omega
 intro v' w2 hown' hgrow _
 have hlt:b<w1.heap.size:=by
  rcases Nat.lt_or_ge b w1.heap.size with h' | h'
  · exact h'
  · simp [Array.getElem?_eq_none h'] at hbk
 have hb2:w2.heap[b]?=some (.cells #[.pointer (some ⟨b,0,none⟩),v] T (0,0)):=by
  rw [hgrow.block b (by simp;omega) (fun e=>hne e.symm),Lib.alloc_old w1 _ b hlt]
  exact hbk
 have d0:w2.cell? ⟨b,0,none⟩=some (.pointer (some ⟨b,0,none⟩)):=by rw [zc hb2];rfl
 have d1:w2.cell? ⟨b,1,none⟩=some v:=by rw [zc hb2];rfl
 have f1:w2.frozen? ⟨b,1,none⟩=false:=Lib.frozen_of_heap hb2 1
 obtain ⟨g,cap,rfl⟩:∃ g cap,v'=.slice (some ⟨g,0,none⟩) (bs.length+1) cap:=by
  rcases hown'.2 with ⟨_,h0⟩ | ⟨g,cap,cur,fz,hv,_⟩
  · omega
  · exact ⟨g,cap,hv⟩
 go_wp2
 go_ret
 refine ⟨rfl,?_,?_,((hk1.alloc _).grown hgrow (Lib.ownsRowF_kind (hown.alloc _))).setCell ⟨b,1,none⟩ rfl _⟩
 · exact Lib.BuilderAtF.put (T:=T) (e:=(ρ.t 5)) hB hb2 (bs':=bs++[.int .u8 c]) (by simpa using hown') hT.2
 · exact ((hb1.alloc (by have:=hb1.size;omega) _).grown hgrow (by have:=hb1.size;simp;omega) (fun k hk=>(hown.lt k hk).1)).setCell (p:=⟨b,1,none⟩) hB _

theorem Bw.WriteString_k {T:TypeId}(hT:Bw.Lies P ρ T)(L:Lays.n166 P ρ)(X:Builder.Extra P ρ)(B b:Nat)(bs:List Value)(s:ByteArray)(w:World)(h:Lib.IsBuilderF T (ρ.t 5) B b bs w)(hlen:bs.length+s.size≤140737488355328)(hBw:B≤w.heap.size) :
 Calls P (ρ.f 166) #[.pointer (some ⟨b,0,none⟩),.string s] w (fun e w'=>e=.returned (.tuple #[.int .i64 s.size,.nilIface])∧(Lib.BuilderAtF T (ρ.t 5) B b (.pointer (some ⟨b,0,none⟩)) (bs++Lib.strCells s) w'∧Below B w w'∧Lib.OthersKept (ρ.t 5) (some b) w w'))∧∀ u,CallsD P (ρ.f 166) #[.pointer (some ⟨b,0,none⟩),.string s] u w (fun e u' w'=>u'=u∧(e=.returned (.tuple #[.int .i64 s.size,.nilIface])∧(Lib.BuilderAtF T (ρ.t 5) B b (.pointer (some ⟨b,0,none⟩)) (bs++Lib.strCells s) w'∧Below B w w'∧Lib.OthersKept (ρ.t 5) (some b) w w'))):=by
 obtain ⟨i0,hi,hz0,hz1,hz2⟩:=info_parts X.infoByte
 have mixed:=L.mixed
 have t72:=L.t72;have a72:=L.a72;have z72:=L.z72;have v72:=L.v72;have u72:=run_underlying L.t72
 have t70:=L.t70;have a70:=L.a70;have z70:=L.z70;have v70:=L.v70;have u70:=run_underlying L.t70
 have t37:=L.t37;have a37:=L.a37;have z37:=L.z37;have v37:=L.v37;have u37:=run_underlying L.t37
 have t3:=L.t3;have a3:=L.a3;have z3:=L.z3;have v3:=L.v3;have u3:=run_underlying L.t3
 have t9:=L.t9;have a9:=L.a9;have z9:=L.z9;have v9:=L.v9;have u9:=run_underlying L.t9
 have t4:=L.t4;have a4:=L.a4;have z4:=L.z4;have v4:=L.v4;have u4:=run_underlying L.t4
 have t164:=L.t164;have a164:=L.a164;have z164:=L.z164;have v164:=L.v164;have u164:=run_underlying L.t164
 have t5:=X.t5;have a5:=X.a5;have z5:=X.z5;have v5:=X.v5;have u5:=run_underlying X.t5
 have e240:∀ args w,(callFunc (ρ.f 240) args).run P w=.ok (.enter (ρ.f 240) args) w:=enters_of L.f240 (by kernel_rfl) rfl
 refine Zev L.f166 rfl ?_
 simp only [Body.n166_ntmps ρ,List.size_toArray,List.length_cons,List.length_nil,Nat.reduceAdd,Nat.reduceSub,Array.replicate_succ,
  Array.replicate_zero,List.push_toArray,List.append_toArray,List.nil_append,List.cons_append]
 go_wp2_with (go_at_fn (ρ.f 240);refine (Bw.copyCheck_k hT { L with } X.toX72 B b bs _ h).mono ?_)
 rintro e w1 ⟨rfl,h1,hb1,hk1⟩;obtain ⟨hB,v,hbk,hown,hne⟩:=h1
 have c0:w1.cell? ⟨b,0,none⟩=some (.pointer (some ⟨b,0,none⟩)):=by rw [zc hbk];rfl
 have c1:w1.cell? ⟨b,1,none⟩=some v:=by rw [zc hbk];rfl
 go_wp2_with (at_builtin;refine Lib.wpList_append_own_stringF _ rfl _ _ (ρ.t 37) (ρ.t 9) rfl B (ρ.t 5) i0 L.t37 L.t9 hi hz0 hz1 hz2 _ _ _ rfl hown s rfl ?c3 ?c4 ?c5 ?_)
 case c3=>unfold maxLen;omega
 case c4=>omega
 case c5=>have:=hb1.size;omega
 intro v' w2 hown' hgrow _
 have hlt:b<w1.heap.size:=by
  rcases Nat.lt_or_ge b w1.heap.size with h' | h'
  · exact h'
  · simp [Array.getElem?_eq_none h'] at hbk
 have hb2:w2.heap[b]?=some (.cells #[.pointer (some ⟨b,0,none⟩),v] T (0,0)):=by
  rw [hgrow.block b hlt (fun e=>hne e.symm)]
  exact hbk
 have d0:w2.cell? ⟨b,0,none⟩=some (.pointer (some ⟨b,0,none⟩)):=by rw [zc hb2];rfl
 have d1:w2.cell? ⟨b,1,none⟩=some v:=by rw [zc hb2];rfl
 have f1:w2.frozen? ⟨b,1,none⟩=false:=Lib.frozen_of_heap hb2 1
 obtain ⟨ao,n',cap,rfl⟩:∃ ao n' cap,v'=.slice ao n' cap:=by
  rcases hown'.2 with ⟨hv,_⟩ | ⟨g,cap,cur,fz,hv,_⟩
  · exact ⟨_,_,_,hv⟩
  · exact ⟨_,_,_,hv⟩
 go_wp2
 go_ret2
 refine ⟨rfl,?_,?_,(hk1.grown hgrow (Lib.ownsRowF_kind hown)).setCell ⟨b,1,none⟩ rfl _⟩
 · exact Lib.BuilderAtF.put (T:=T) (e:=(ρ.t 5)) hB hb2 (bs':=bs++Lib.strCells s) (by simpa [Lib.strCells_length] using hown') hT.2
 · exact (hb1.grown hgrow (by have:=hb1.size;omega) (fun k hk=>(hown.lt k hk).1)).setCell (p:=⟨b,1,none⟩) hB _

theorem Bw.String_k {T:TypeId}(_hT:Bw.Lies P ρ T)(L:Lays.n169 P ρ)(X:Builder.Extra P ρ)(B b:Nat)(l:List UInt8)(w:World)(h:Lib.IsBuilderF T (ρ.t 5) B b (Lib.byteCells l) w)(h0:l≠[]) :
 Calls P (ρ.f 169) #[.pointer (some ⟨b,0,none⟩)] w fun e w'=>e=.returned (.string ⟨l.toArray⟩)∧(Lib.IsBuilderF T (ρ.t 5) B b (Lib.byteCells l) w'∧Below B w w'∧Lib.OthersKept (ρ.t 5) (some b) w w'):=by
 obtain ⟨p,hp,hAt⟩:∃ p,(p=.pointer none∨p=.pointer (some ⟨b,0,none⟩))∧Lib.BuilderAtF T (ρ.t 5) B b p (Lib.byteCells l) w:=by
  rcases h with h | h
  · exact ⟨_,.inl rfl,h⟩
  · exact ⟨_,.inr rfl,h⟩
 obtain ⟨hB,v,hbk,hown,hne⟩:=hAt
 have hl0:l.length≠0:=by simpa using h0
 rw [Lib.byteCells_length] at hown
 obtain ⟨g,cap,cur,fz,rfl,hbg,hg,hfz,hnc,hcm,hcs,htake⟩:∃ g cap cur fz,v=.slice (some ⟨g,0,none⟩) l.length cap∧B≤g∧w.heap[g]?=some (.cells cur (ρ.t 5) fz)∧fz.2≤l.length*1∧l.length≤cap∧cap≤maxLen∧cur.size=cap*1∧cur.toList.take (l.length*1)=Lib.byteCells l:=by
  rcases hown.2 with ⟨_,hz⟩ | ⟨g,cap,cur,fz,hv,r⟩
  · exact absurd hz hl0
  · exact ⟨g,cap,cur,fz,hv,r⟩
 have c1:w.drew.cell? ⟨b,1,none⟩=some (.slice (some ⟨g,0,none⟩) l.length cap):=by
  have:w.drew.heap[b]?=some (.cells #[p,.slice (some ⟨g,0,none⟩) l.length cap] T (0,0)):=hbk
  rw [zc this];rfl
 have hSD:(Builtin.unsafeSliceData_ #[(ρ.t 37)] (ρ.t 127) #[.slice (some ⟨g,0,none⟩) l.length cap]).run P w.drew=.ok (.pointer (some ⟨g,0,none⟩)) w.drew :=
  Lib.run_unsafeSliceData_row _ _ _ _ _ _ (by omega)
 have hUS:(Builtin.unsafeString_ #[(ρ.t 127),(ρ.t 3)] (ρ.t 9) #[.pointer (some ⟨g,0,none⟩),.int .i64 l.length]).run P w.drew=.ok (.string ⟨l.toArray⟩) (w.drew.freeze ⟨g,0,none⟩ l.length):=by
  refine Lib.run_unsafeString_row w.drew (ρ.t 127) (ρ.t 3) (ρ.t 9) (ρ.t 5) L.t127 X.cellsByte g cur.size (by have hg':w.drew.heap[g]?=some (.cells cur (ρ.t 5) fz):=hg;simp [World.shape?,hg']) l h0 (by omega) (by unfold maxLen at hcm;omega) ?_
  intro j x hx
  have:=hown.cells (g:=g) rfl j (.int .u8 x.toNat) (by simp [Lib.byteCells,hx])
  exact this
 have hkeep:Lib.IsBuilderF T (ρ.t 5) B b (Lib.byteCells l) (w.drew.freeze ⟨g,0,none⟩ l.length):=by
  have hA:Lib.BuilderAtF T (ρ.t 5) B b p (Lib.byteCells l) w.drew:=⟨hB,_,hbk,by rw [Lib.byteCells_length];exact hown,hne⟩
  have hF:=hA.froze (g:=g) (cap:=cap) (by rw [Lib.byteCells_length];exact c1)
  rw [Lib.byteCells_length] at hF
  rcases hp with rfl | rfl
  · exact .inl hF
  · exact .inr hF
 have mixed:=L.mixed
 have t72:=L.t72;have a72:=L.a72;have z72:=L.z72;have v72:=L.v72;have u72:=run_underlying L.t72
 have t70:=L.t70;have a70:=L.a70;have z70:=L.z70;have v70:=L.v70;have u70:=run_underlying L.t70
 have t37:=L.t37;have a37:=L.a37;have z37:=L.z37;have v37:=L.v37;have u37:=run_underlying L.t37
 have t127:=L.t127;have a127:=L.a127;have z127:=L.z127;have v127:=L.v127;have u127:=run_underlying L.t127
 have t3:=L.t3;have a3:=L.a3;have z3:=L.z3;have v3:=L.v3;have u3:=run_underlying L.t3
 have t9:=L.t9;have a9:=L.a9;have z9:=L.z9;have v9:=L.v9;have u9:=run_underlying L.t9
 have t5:=X.t5;have a5:=X.a5;have z5:=X.z5;have v5:=X.v5;have u5:=run_underlying X.t5
 go_enter L.f169,Body.n169_ntmps ρ
 go_wp2
 go_region_o
 all_goals (go_wp2;go_ret;exact ⟨rfl,hkeep,Lib.below_freeze (Below.drew (Below.refl B w)) (p:=⟨g,0,none⟩) hbg _,((Lib.OthersKept.refl _ _ w).drew).freeze ⟨g,0,none⟩ _ ⟨cur,fz,hg⟩⟩)

theorem Bw.String_nil_f {T:TypeId}(_hT:Bw.Lies P ρ T)(L:Lays.n169 P ρ)(X:Builder.Extra P ρ)(B b:Nat)(p:Value)(w:World)(hbk:w.heap[b]?=some (.cells #[p,.slice none 0 0] T (0,0)))(hA:Lib.BuilderAtF T (ρ.t 5) B b p [] w) :
 Calls P (ρ.f 169) #[.pointer (some ⟨b,0,none⟩)] w fun e w'=>e=.returned (.string ⟨#[]⟩)∧(Lib.BuilderAtF T (ρ.t 5) B b p [] w'∧Below B w w'):=by
 have hUS:=Any.unsafeString_none L X
 have c1:w.drew.cell? ⟨b,1,none⟩=some (.slice none 0 0):=by
  have:w.drew.heap[b]?=some (.cells #[p,.slice none 0 0] T (0,0)):=hbk
  rw [zc this];rfl
 have hSD:(Builtin.unsafeSliceData_ #[(ρ.t 37)] (ρ.t 127) #[.slice none 0 0]).run P w.drew=.ok (.pointer none) w.drew:=rfl
 have mixed:=L.mixed
 have t72:=L.t72;have a72:=L.a72;have z72:=L.z72;have v72:=L.v72;have u72:=run_underlying L.t72
 have t70:=L.t70;have a70:=L.a70;have z70:=L.z70;have v70:=L.v70;have u70:=run_underlying L.t70
 have t37:=L.t37;have a37:=L.a37;have z37:=L.z37;have v37:=L.v37;have u37:=run_underlying L.t37
 have t127:=L.t127;have a127:=L.a127;have z127:=L.z127;have v127:=L.v127;have u127:=run_underlying L.t127
 have t3:=L.t3;have a3:=L.a3;have z3:=L.z3;have v3:=L.v3;have u3:=run_underlying L.t3
 have t9:=L.t9;have a9:=L.a9;have z9:=L.z9;have v9:=L.v9;have u9:=run_underlying L.t9
 have t5:=X.t5;have a5:=X.a5;have z5:=X.z5;have v5:=X.v5;have u5:=run_underlying X.t5
 go_enter L.f169,Body.n169_ntmps ρ
 go_wp2
 go_region_o
 all_goals (go_wp2;go_ret;exact ⟨rfl,hA.drew,Below.drew (Below.refl B w)⟩)

theorem Bw.String_noroom_f {T:TypeId}(_hT:Bw.Lies P ρ T)(L:Lays.n169 P ρ)(X:Builder.Extra P ρ)(B b g:Nat)(p:Value)(cur:Array Value)(w:World)(hBw:B≤w.heap.size)(hbk:w.heap[b]?=some (.cells #[p,.slice (some ⟨g,0,none⟩) 0 0] T (0,0)))(fz:Nat × Nat)(hg:w.heap[g]?=some (.cells cur (ρ.t 5) fz))(hA:Lib.BuilderAtF T (ρ.t 5) B b p [] w) :
 Calls P (ρ.f 169) #[.pointer (some ⟨b,0,none⟩)] w fun e w'=>e=.returned (.string ⟨#[]⟩)∧(Lib.BuilderAtF T (ρ.t 5) B b p [] w'∧Below B w w'):=by
 have hUS:=Any.unsafeString_none L X
 have hlt:b<w.heap.size:=by
  rcases Nat.lt_or_ge b w.heap.size with h' | h'
  · exact h'
  · simp [Array.getElem?_eq_none h'] at hbk
 have c1:w.drew.cell? ⟨b,1,none⟩=some (.slice (some ⟨g,0,none⟩) 0 0):=by
  have:w.drew.heap[b]?=some (.cells #[p,.slice (some ⟨g,0,none⟩) 0 0] T (0,0)):=hbk
  rw [zc this];rfl
 have hSD:(Builtin.unsafeSliceData_ #[(ρ.t 37)] (ρ.t 127) #[.slice (some ⟨g,0,none⟩) 0 0]).run P w.drew=.ok (.pointer (some ⟨w.drew.heap.size,0,none⟩)) (w.drew.alloc (.view ⟨g,0,none⟩ (ρ.t 5))) :=
  Lib.run_unsafeSliceData_zero w.drew _ _ (ρ.t 5) L.t127 ⟨g,0,none⟩ 0 ((ρ.t 5),cur.size) (by have hg':w.drew.heap[g]?=some (.cells cur (ρ.t 5) fz):=hg;simp [World.shape?,hg'])
 have c2:(w.drew.alloc (.view ⟨g,0,none⟩ (ρ.t 5))).cell? ⟨b,1,none⟩=some (.slice (some ⟨g,0,none⟩) 0 0):=by
  have:(w.drew.alloc (.view ⟨g,0,none⟩ (ρ.t 5))).heap[b]?=_:=(Lib.alloc_old w.drew _ b hlt).trans hbk
  rw [zc this];rfl
 have c3:(w.alloc (.view ⟨g,0,none⟩ (ρ.t 5))).drew.cell? ⟨b,1,none⟩=some (.slice (some ⟨g,0,none⟩) 0 0):=c2
 have c0:w.cell? ⟨b,1,none⟩=some (.slice (some ⟨g,0,none⟩) 0 0):=c1
 have mixed:=L.mixed
 have t72:=L.t72;have a72:=L.a72;have z72:=L.z72;have v72:=L.v72;have u72:=run_underlying L.t72
 have t70:=L.t70;have a70:=L.a70;have z70:=L.z70;have v70:=L.v70;have u70:=run_underlying L.t70
 have t37:=L.t37;have a37:=L.a37;have z37:=L.z37;have v37:=L.v37;have u37:=run_underlying L.t37
 have t127:=L.t127;have a127:=L.a127;have z127:=L.z127;have v127:=L.v127;have u127:=run_underlying L.t127
 have t3:=L.t3;have a3:=L.a3;have z3:=L.z3;have v3:=L.v3;have u3:=run_underlying L.t3
 have t9:=L.t9;have a9:=L.a9;have z9:=L.z9;have v9:=L.v9;have u9:=run_underlying L.t9
 have t5:=X.t5;have a5:=X.a5;have z5:=X.z5;have v5:=X.v5;have u5:=run_underlying X.t5
 go_enter L.f169,Body.n169_ntmps ρ
 go_wp2
 go_region_o
 all_goals (go_wp2;go_ret;exact ⟨rfl,hA.drew.alloc _,(Below.drew (Below.refl B w)).alloc hBw _⟩)

theorem Bw.String_room_f {T:TypeId}(_hT:Bw.Lies P ρ T)(L:Lays.n169 P ρ)(X:Builder.Extra P ρ)(B b g cap:Nat)(p:Value)(w:World)(hc0:cap≠0)(hbk:w.heap[b]?=some (.cells #[p,.slice (some ⟨g,0,none⟩) 0 cap] T (0,0)))(hA:Lib.BuilderAtF T (ρ.t 5) B b p [] w) :
 Calls P (ρ.f 169) #[.pointer (some ⟨b,0,none⟩)] w fun e w'=>e=.returned (.string ⟨#[]⟩)∧(Lib.BuilderAtF T (ρ.t 5) B b p [] w'∧Below B w w'):=by
 have hUS:=Any.unsafeString_none L X
 have c1:w.drew.cell? ⟨b,1,none⟩=some (.slice (some ⟨g,0,none⟩) 0 cap):=by
  have:w.drew.heap[b]?=some (.cells #[p,.slice (some ⟨g,0,none⟩) 0 cap] T (0,0)):=hbk
  rw [zc this];rfl
 have hSD:(Builtin.unsafeSliceData_ #[(ρ.t 37)] (ρ.t 127) #[.slice (some ⟨g,0,none⟩) 0 cap]).run P w.drew=.ok (.pointer (some ⟨g,0,none⟩)) w.drew :=
  Lib.run_unsafeSliceData_row _ _ _ _ _ _ hc0
 clear hc0;have mixed:=L.mixed
 have t72:=L.t72;have a72:=L.a72;have z72:=L.z72;have v72:=L.v72;have u72:=run_underlying L.t72
 have t70:=L.t70;have a70:=L.a70;have z70:=L.z70;have v70:=L.v70;have u70:=run_underlying L.t70
 have t37:=L.t37;have a37:=L.a37;have z37:=L.z37;have v37:=L.v37;have u37:=run_underlying L.t37
 have t127:=L.t127;have a127:=L.a127;have z127:=L.z127;have v127:=L.v127;have u127:=run_underlying L.t127
 have t3:=L.t3;have a3:=L.a3;have z3:=L.z3;have v3:=L.v3;have u3:=run_underlying L.t3
 have t9:=L.t9;have a9:=L.a9;have z9:=L.z9;have v9:=L.v9;have u9:=run_underlying L.t9
 have t5:=X.t5;have a5:=X.a5;have z5:=X.z5;have v5:=X.v5;have u5:=run_underlying X.t5
 go_enter L.f169,Body.n169_ntmps ρ
 go_wp2
 go_region_o
 all_goals (go_wp2;go_ret;exact ⟨rfl,hA.drew,Below.drew (Below.refl B w)⟩)

theorem Bw.String_empty_f {T:TypeId}(hT:Bw.Lies P ρ T)(L:Lays.n169 P ρ)(X:Builder.Extra P ρ)(B b:Nat)(w:World)(h:Lib.IsBuilderF T (ρ.t 5) B b [] w)(hBw:B≤w.heap.size) :
 Calls P (ρ.f 169) #[.pointer (some ⟨b,0,none⟩)] w fun e w'=>e=.returned (.string ⟨#[]⟩)∧(Lib.IsBuilderF T (ρ.t 5) B b [] w'∧Below B w w'):=by
 obtain ⟨p,hp,hA⟩:∃ p,(p=.pointer none∨p=.pointer (some ⟨b,0,none⟩))∧Lib.BuilderAtF T (ρ.t 5) B b p [] w:=by
  rcases h with h | h
  · exact ⟨_,.inl rfl,h⟩
  · exact ⟨_,.inr rfl,h⟩
 have fin:∀ (e:Ending) (w':World),(e=.returned (.string ⟨#[]⟩)∧(Lib.BuilderAtF T (ρ.t 5) B b p [] w'∧Below B w w'))→e=.returned (.string ⟨#[]⟩)∧(Lib.IsBuilderF T (ρ.t 5) B b [] w'∧Below B w w'):=by
  rintro e w' ⟨he,hk,hb⟩;rcases hp with rfl | rfl
  · exact ⟨he,.inl hk,hb⟩
  · exact ⟨he,.inr hk,hb⟩
 have hA':=hA
 obtain ⟨hB,v,hbk,hown,hne⟩:=hA
 rcases hown.2 with ⟨rfl,_⟩ | ⟨g,cap,cur,fz,rfl,hbg,hg,_,_,_,_,_⟩
 · exact (Bw.String_nil_f hT L X B b p w hbk hA').mono fin
 · by_cases hc0:cap=0
   · subst hc0
     exact (Bw.String_noroom_f hT L X B b g p cur w hBw hbk fz hg hA').mono fin
   · exact (Bw.String_room_f hT L X B b g cap p w hc0 hbk hA').mono fin

theorem Bw.String_any {T:TypeId}(hT:Bw.Lies P ρ T)(L:Lays.n169 P ρ)(X:Builder.Extra P ρ)(B b:Nat)(l:List UInt8)(w:World)(h:Lib.IsBuilderF T (ρ.t 5) B b (Lib.byteCells l) w)(hBw:B≤w.heap.size) :
 Calls P (ρ.f 169) #[.pointer (some ⟨b,0,none⟩)] w fun e w'=>e=.returned (.string ⟨l.toArray⟩)∧(Lib.IsBuilderF T (ρ.t 5) B b (Lib.byteCells l) w'∧Below B w w'):=by
 cases l with
 | nil=>exact Bw.String_empty_f hT L X B b w h hBw
 | cons x r=>exact (Bw.String_k hT L X B b (x::r) w h (by simp)).mono fun _ _ h=>⟨h.1,h.2.1,h.2.2.1⟩
end
end
section
open Go.RowKit Lx
def Wd (b:Nat)(l:Bytes)(w:World):Prop:=Lib.IsBuilderF 189 5 b b (Lib.byteCells l) w
def Okp (b:Nat)(w w':World):Prop:=Lib.OthersKept 5 (some b) w w'
theorem wd_new (w:World):Wd w.heap.size [] (w.alloc (.cells #[.pointer none,.slice none 0 0] 189)) :=
 .inl ⟨zn _,.slice none 0 0,heap_alloc_new w _,World.ownsRowF_nil _ _ _ _,by simp [Value.ownBlock]⟩
theorem Zb1 {T e:TypeId}{B b:Nat}{p:Value}{bs:List Value}{w w':World}(h:Lib.BuilderAtF T e B b p bs w)(hb:Below w.heap.size w w'):Lib.BuilderAtF T e B b p bs w':=by
 obtain ⟨hB,v,hbk,⟨hl,hown⟩,hne⟩:=h
 refine ⟨hB,v,(hb.block b (zs hbk)).trans hbk,⟨hl,?_⟩,hne⟩
 rcases hown with h0 | ⟨g,cap,cur,fz,hv,hg,hgk,rest⟩
 · exact .inl h0
 · exact .inr ⟨g,cap,cur,fz,hv,hg,(hb.block g (zs hgk)).trans hgk,rest⟩
theorem Z34 {b:Nat}{l:Bytes}{w w':World}(h:Wd b l w)(hb:Below w.heap.size w w'):Wd b l w':=by
 rcases h with h | h
 · exact .inl (Zb1 h hb)
 · exact .inr (Zb1 h hb)
theorem Zdn {b:Nat}{l:Bytes}{w:World}(h:Wd b l w)(o:Obj):Wd b l (w.alloc o):=Z34 h ((Below.refl _ _).alloc (zn _) _)
theorem Z5p {b:Nat}{l:Bytes}{w:World}(h:Wd b l w):b<w.heap.size:=by
 rcases h with h | h <;> exact h.lt
theorem Zcd:Bw.Lies Tryz.prog Tryz.bRen 189:=⟨by kernel_rfl,by decide⟩
theorem Zn4:Bw.Lies Tryz.prog Tryz.lays169_ren 189:=⟨by kernel_rfl,by decide⟩
def Zm8 (b:Nat)(l:Bytes)(s:ByteArray)(w:World)(e:Ending)(w':World):Prop:=e=.returned (.tuple #[.int .i64 s.size,.nilIface])∧Wd b (l++bl s) w'∧Below b w w'∧Okp b w w'
theorem Z35 (b:Nat)(l:Bytes)(s:ByteArray)(w:World)(h:Wd b l w)(hlen:l.length+s.size≤140737488355328) :
 Calls Tryz.prog 137 #[.pointer (some ⟨b,0,none⟩),.string s] w fun e w'=>Zm8 b l s w e w' :=
 (Bw.WriteString_k Zcd Tryz.lays166 Tryz.bExtra b b (Lib.byteCells l) s w h (by rw [Lib.byteCells_length];exact hlen) (Nat.le_of_lt (Z5p h))).1.mono fun _ _ ⟨he,h1,h2,h3⟩ =>
  ⟨he,.inr (by rw [Lib.byteCells_append];exact h1),h2,h3⟩
theorem ZjB (b:Nat)(l:Bytes)(s:ByteArray)(w:World)(u:FrameMode)(h:Wd b l w)(hlen:l.length+s.size≤140737488355328) :
 CallsD Tryz.prog 137 #[.pointer (some ⟨b,0,none⟩),.string s] u w fun e u' w'=>u'=u∧Zm8 b l s w e w' :=
 ((Bw.WriteString_k Zcd Tryz.lays166 Tryz.bExtra b b (Lib.byteCells l) s w h (by rw [Lib.byteCells_length];exact hlen) (Nat.le_of_lt (Z5p h))).2 u).mono fun _ _ _ ⟨hu,he,h1,h2,h3⟩ =>
   ⟨hu,he,.inr (by rw [Lib.byteCells_append];exact h1),h2,h3⟩
theorem Zm9 (b:Nat)(l:Bytes)(c:UInt8)(w:World)(h:Wd b l w)(hlen:l.length+1≤140737488355328) :
 Calls Tryz.prog 179 #[.pointer (some ⟨b,0,none⟩),.int .u8 c.toNat] w fun e w'=>e=.returned .nilIface∧Wd b (l++[c]) w'∧Below b w w'∧Okp b w w' :=
 (Bw.WriteByte_k Zcd Tryz.lays167 Tryz.bExtra b b (Lib.byteCells l) c.toNat w h (by rw [Lib.byteCells_length];exact hlen) (Nat.le_of_lt (Z5p h))).mono fun _ _ ⟨he,h1,h2,h3⟩ =>
  ⟨he,.inr (by rw [Lib.byteCells_append];exact h1),h2,h3⟩
theorem ZjC (b:Nat)(l:Bytes)(w:World)(h:Wd b l w) :
 Calls Tryz.prog 138 #[.pointer (some ⟨b,0,none⟩)] w fun e w'=>e=.returned (.string (mk l))∧Below b w w' :=
 (Bw.String_any Zn4 Tryz.lays169 Tryz.Builder_Extra_169 b b l w h (Nat.le_of_lt (Z5p h))).mono fun _ _ ⟨he,hw⟩=>⟨he,hw.2⟩
theorem Zh7 {b k:Nat}{w w':World}{cs:Array Value}{t:TypeId}{fz:Nat × Nat}(h:Okp b w w')(hk:w.heap[k]?=some (.cells cs t fz))(hb:k≠b)(ht:t≠5):w'.heap[k]?=some (.cells cs t fz) :=
 h k _ hk (by simpa using hb) (fun c fz' e=>by cases e;exact ht rfl)
end
section
open Go.RowKit Lx Px
def Z9x (w:World)(op:Int)(A1:Option Addr)(n1 b2:Nat):Prop :=
 ((op=15∧A1=none∧n1=0)∨∃ bs,op≠15∧A1=some ⟨bs,0,none⟩∧n1=Z0h op - 1∧w.heap[bs]?=some (.cells ((sepL op).map fun s=>.string (mk s)).toArray 9 (0,0))) ∧
   w.heap[b2]?=some (.cells ((Z8w op).map (.int .i64)).toArray 3 (0,0))
def Zb2 (op:Int)(w:World)(e:Ending)(w':World):Prop :=
 ∃ (r:Nat) (A1:Option Addr) (n1 c1 b2:Nat),e=.returned (.map (some r)) ∧
  (∀ W:World,W.heap[r]?=w'.heap[r]?→(Instr.lookup 236 (.map (some r)) (.int .i64 op) true).run Tryz.prog W =
   .ok (.tuple #[.agg #[.string (mk (Z0y op)),.slice A1 n1 c1,.string (mk (Z3g op)),.int .i64 (Z03 op),.slice (some ⟨b2,0,none⟩) (Z0h op) (Z0h op)],.bool true]) W) ∧
  r<w'.heap.size∧Z9x w' op A1 n1 b2∧Below w.heap.size w w'
def Zh8 (op:Int)(w:World)(e:Ending)(w':World):Prop :=
 ∃ r:Nat,e=.returned (.map (some r)) ∧
  (∀ W:World,W.heap[r]?=w'.heap[r]?→(Instr.lookup 236 (.map (some r)) (.int .i64 op) true).run Tryz.prog W =
   .ok (.tuple #[.agg #[.string ⟨#[]⟩,.slice none 0 0,.string ⟨#[]⟩,.int .i64 0,.slice none 0 0],.bool false]) W) ∧
  r<w'.heap.size∧Below w.heap.size w w'
theorem Z2k {w w':World}{e:Ending}{r:Nat}{op:Int}{v:Value}{L L2:List (Int × Value)}(he:e=.returned (.map (some r)))(h:Z2j w' r (L++(op,v)::L2))(hn:∀ p∈L,p.1≠op)(hB:Below w.heap.size w w'):Zb2 op w e w':=by
 obtain ⟨bs,b2,hv,h1,h2,h3⟩:=h.2 (op,v) (by simp)
 have hf:=Z6b op v L L2 0 0 hn
 dsimp only at hv h1 h3
 by_cases ho:op=15
 · rw [if_pos ho] at hv
   refine ⟨r,none,0,0,b2,he,fun W hW=>?_,h.lt,⟨.inl ⟨ho,rfl,rfl⟩,h3⟩,hB⟩
   rw [← hv]
   exact Z5n Tryz.underlying236 Tryz.underlying3 (hW.trans h.1) hf
 · rw [if_neg ho] at hv
   refine ⟨r,some ⟨bs,0,none⟩,Z0h op - 1,Z0h op - 1,b2,he,fun W hW=>?_,h.lt,⟨.inr ⟨bs,ho,rfl,rfl,(h1 ho).2⟩,h3⟩,hB⟩
   rw [← hv]
   exact Z5n Tryz.underlying236 Tryz.underlying3 (hW.trans h.1) hf
theorem Zew (op:Int)(w:World)(h1:4≤op)(h2:op≤15):Calls Tryz.prog 180 #[] w (Zb2 op w):=by
 refine (Zb0 w).mono ?_
 rintro e w' ⟨r,v0,v1,v2,v3,v4,v5,v6,v7,v8,v9,v10,v11,he,hr,hF,hB⟩;have hc:op=4∨op=5∨op=6∨op=7∨op=8∨op=9∨op=10∨op=11∨op=12∨op=13∨op=14∨op=15:=by omega
 rcases hc with rfl | rfl | rfl | rfl | rfl | rfl | rfl | rfl | rfl | rfl | rfl | rfl
 · exact Z2k (L:=[(10,v0),(14,v1),(13,v2),(15,v3),(11,v4),(12,v5)]) he hF (by simp) hB
 · exact Z2k (L:=[(10,v0),(14,v1),(13,v2),(15,v3),(11,v4),(12,v5),(4,v6)]) he hF (by simp) hB
 · exact Z2k (L:=[(10,v0),(14,v1),(13,v2),(15,v3),(11,v4),(12,v5),(4,v6),(5,v7)]) he hF (by simp) hB
 · exact Z2k (L:=[(10,v0),(14,v1),(13,v2),(15,v3),(11,v4),(12,v5),(4,v6),(5,v7),(6,v8)]) he hF (by simp) hB
 · exact Z2k (L:=[(10,v0),(14,v1),(13,v2),(15,v3),(11,v4),(12,v5),(4,v6),(5,v7),(6,v8),(7,v9)]) he hF (by simp) hB
 · exact Z2k (L:=[(10,v0),(14,v1),(13,v2),(15,v3),(11,v4),(12,v5),(4,v6),(5,v7),(6,v8),(7,v9),(8,v10)]) he hF (by simp) hB
 · exact Z2k (L:=[]) he hF (by simp) hB
 · exact Z2k (L:=[(10,v0),(14,v1),(13,v2),(15,v3)]) he hF (by simp) hB
 · exact Z2k (L:=[(10,v0),(14,v1),(13,v2),(15,v3),(11,v4)]) he hF (by simp) hB
 · exact Z2k (L:=[(10,v0),(14,v1)]) he hF (by simp) hB
 · exact Z2k (L:=[(10,v0)]) he hF (by simp) hB
 · exact Z2k (L:=[(10,v0),(14,v1),(13,v2)]) he hF (by simp) hB
theorem Zex (op:Int)(w:World)(h1:1≤op)(h2:op≤3):Calls Tryz.prog 180 #[] w (Zh8 op w):=by
 refine (Zb0 w).mono ?_
 rintro e w' ⟨r,v0,v1,v2,v3,v4,v5,v6,v7,v8,v9,v10,v11,he,hr,hF,hB⟩;refine ⟨r,he,fun W hW=>?_,hF.lt,hB⟩
 refine Z7u Tryz.underlying236 Tryz.underlying3 (hW.trans hF.1) (Z2c op _ 0 0 ?_) (Tryz.zeroValue234 W)
 intro p hp
 simp at hp
 rcases hp with rfl | rfl | rfl | rfl | rfl | rfl | rfl | rfl | rfl | rfl | rfl | rfl <;> dsimp only <;> omega
def Tabs (B:Nat)(w:World):Prop :=
 Lib.TabBelow Tryz.prog B w "internal/strconv.uint64pow10" .u64 Lib.pow10Tab∧0<B∧w.heap.size≥B ∧
  ∀ k:Nat,1≤k→k≤4→w.cell? ⟨0,k,none⟩=some (.string (mk (Z3z k)))
theorem Tabs.on {B:Nat}{w w':World}(h:Tabs B w)(hb:Below B w w'):Tabs B w' :=
 ⟨h.1.on hb,h.2.1,by have:=hb.size;have:=h.2.2.1;omega,fun k h1 h2=>(hb.cell (p:=⟨0,k,none⟩) h.2.1).trans (h.2.2.2 k h1 h2)⟩
namespace Px
def okF:Fo→Bool
 | .nil=>true
 | .node _ _ a l r=>Z05 a.1 a.2 (flen l)&&okF l&&okF r
theorem okF_of:∀ (f:Fo) (lv left x:Int),Z1m f lv left=(true,x)→okF f=true:=by
 intro f
 induction f with
 | nil=>intro lv left x h;rfl
 | node b o a l r ihl ihr =>
  intro lv left x h
  rw [Z1m] at h
  split at h
  · simp at h
  · rename_i hn
    split at h
    · simp at h
    · rename_i y e
      have h1:=ihl _ _ _ e
      have h2:=ihr _ _ _ h
      have h3:Z05 a.1 a.2 (flen l)=true:=by
       cases hf:Z05 a.1 a.2 (flen l) with
       | true=>rfl
       | false=>exact absurd (.inr (.inr hf)) hn
      simp [okF,h1,h2,h3]
theorem Zh9:∀ (f:Fo) (k:Nat),okF f=true→k<flen f→Z05 (getF f k).1.1 (getF f k).1.2 (flen (getF f k).2)=true∧okF (getF f k).2=true:=by
 intro f
 induction f with
 | nil=>intro k _ h;simp [flen] at h
 | node b o a l r _ ihr =>
  intro k h hk
  simp only [okF,Bool.and_eq_true] at h
  cases k with
  | zero=>exact ⟨h.1.1,h.1.2⟩
  | succ k=>exact ihr k h.2 (by simp [flen] at hk;omega)
theorem Zce {op n:Int}{k:Nat}(h:Z05 op n k=true)(ho:4≤op):op≤15∧n=0∧k=Z0h op:=by
 unfold Z05 at h
 unfold Z0h
 repeat' split at h
 all_goals simp at h
 all_goals (split <;> (try split) <;> omega)
theorem Zha {op n:Int}{k:Nat}(h:Z05 op n k=true):1≤op:=by
 unfold Z05 at h
 repeat' split at h
 all_goals simp at h
 all_goals omega
end Px
end
end Go.Proofs.YtnepkoepbapgeaaGreatDoor
