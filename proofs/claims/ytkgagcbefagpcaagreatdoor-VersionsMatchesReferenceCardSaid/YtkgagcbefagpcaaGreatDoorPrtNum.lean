import Derived.Test.YtkgagcbefagpcaaGreatDoorShelf
import Derived.Test.YtkgagcbefagpcaaGreatDoorPrtW4
import Derived.Deep.DeepCutAuto
import Derived.StillTailTactics
import Derived.Deep.DrawnRows
import Derived.Lib.SlBytesRow
import Derived.Laws.EntriesVeiled
namespace Go.Proofs.YtkgagcbefagpcaaGreatDoor
open _root_.Go.Proofs.Tryz
open Value (int slice)
open IntKind (i64)
set_option maxHeartbeats 2000000
set_option maxRecDepth 100000
section
open Go.RowKit Go.Shelf
def Tryz.bRen:Go.Shelf.Ren:=⟨fun | 166=>124 | 167=>168 | 240=>171 | 276=>212 | n=>n,fun | 0=>0 | 3=>3 | 4=>4 | 5=>5 | 9=>9 | 20=>20 | 37=>96 | 70=>171 | 72=>173 | 75=>179 | 76=>180 | 80=>182 | 164=>247 | n=>n,fun | n=>n⟩
theorem Tryz.lays166:Go.Proofs.Lays.n166 prog Tryz.bRen:={
 mixed:=by kernel_rfl
 f166:=Tryz.func124.trans (congrArg some (by kernel_rfl))
 f240:=Tryz.func171.trans (congrArg some (by kernel_rfl))
 f276:=Tryz.func212.trans (congrArg some (by kernel_rfl))
 t0:=underlying0
 a0:=Tryz.isAgg0
 z0:=Tryz.sizeOf0
 v0:=Tryz.zeroValue0
 t3:=underlying3
 a3:=Tryz.isAgg3
 z3:=Tryz.sizeOf3
 v3:=Tryz.zeroValue3
 t4:=underlying4
 a4:=Tryz.isAgg4
 z4:=Tryz.sizeOf4
 v4:=Tryz.zeroValue4
 t9:=underlying9
 a9:=Tryz.isAgg9
 z9:=Tryz.sizeOf9
 v9:=Tryz.zeroValue9
 t20:=underlying20
 a20:=Tryz.isAgg20
 z20:=Tryz.sizeOf20
 v20:=Tryz.zeroValue20
 t37:=underlying96
 a37:=Tryz.isAgg96
 z37:=Tryz.sizeOf96
 v37:=Tryz.zeroValue96
 t70:=underlying171
 a70:=Tryz.isAgg171
 z70:=Tryz.sizeOf171
 v70:=Tryz.zeroValue171
 t72:=underlying173
 a72:=Tryz.isAgg173
 z72:=Tryz.sizeOf173
 v72:=Tryz.zeroValue173
 t75:=underlying179
 a75:=Tryz.isAgg179
 z75:=Tryz.sizeOf179
 v75:=Tryz.zeroValue179
 t164:=underlying247
 a164:=Tryz.isAgg247
 z164:=Tryz.sizeOf247
 v164:=Tryz.zeroValue247 }
theorem Tryz.lays167:Go.Proofs.Lays.n167 prog Tryz.bRen:={
 mixed:=by kernel_rfl
 f167:=Tryz.func168.trans (congrArg some (by kernel_rfl))
 f240:=Tryz.func171.trans (congrArg some (by kernel_rfl))
 f276:=Tryz.func212.trans (congrArg some (by kernel_rfl))
 t0:=underlying0
 a0:=Tryz.isAgg0
 z0:=Tryz.sizeOf0
 v0:=Tryz.zeroValue0
 t4:=underlying4
 a4:=Tryz.isAgg4
 z4:=Tryz.sizeOf4
 v4:=Tryz.zeroValue4
 t5:=underlying5
 a5:=Tryz.isAgg5
 z5:=Tryz.sizeOf5
 v5:=Tryz.zeroValue5
 t9:=underlying9
 a9:=Tryz.isAgg9
 z9:=Tryz.sizeOf9
 v9:=Tryz.zeroValue9
 t20:=underlying20
 a20:=Tryz.isAgg20
 z20:=Tryz.sizeOf20
 v20:=Tryz.zeroValue20
 t37:=underlying96
 a37:=Tryz.isAgg96
 z37:=Tryz.sizeOf96
 v37:=Tryz.zeroValue96
 t70:=underlying171
 a70:=Tryz.isAgg171
 z70:=Tryz.sizeOf171
 v70:=Tryz.zeroValue171
 t72:=underlying173
 a72:=Tryz.isAgg173
 z72:=Tryz.sizeOf173
 v72:=Tryz.zeroValue173
 t75:=underlying179
 a75:=Tryz.isAgg179
 z75:=Tryz.sizeOf179
 v75:=Tryz.zeroValue179
 t164:=underlying247
 a164:=Tryz.isAgg247
 z164:=Tryz.sizeOf247
 v164:=Tryz.zeroValue247 }
theorem Tryz.bExtra:Builder.Extra prog Tryz.bRen:={
 sizeBuilder:=by kernel_rfl
 liesBuilder:=by kernel_rfl
 t5:=underlying5
 a5:=Tryz.isAgg5
 z5:=Tryz.sizeOf5
 v5:=Tryz.zeroValue5
 infoByte:=by kernel_rfl
 cellsByte:=by kernel_rfl
 sizeByte:=by kernel_rfl
 neB5:=by decide }
end
section
open Go.Shelf Go.RowKit Go.Proofs
section
variable {P:Program} {ρ:Ren}
def Bw.Lies (P:Program)(ρ:Ren)(T:TypeId):Prop:=liesAt P P.depth T (2 / P.cellsOf T) 0 (ρ.t 72) 1=true/\T≠ρ.t 5
theorem Zhf {f:FuncId}{B:Func}{c:Code}{args:Array Value}{w:World}{R:Ending->World->Prop} (C:P.funcs[f]?=some B) (hb:B.body=some c) (h:c.wp P (bodyPost P B R) { tmps:=args++Array.replicate (B.ntmps - args.size) undef,defers:=[] } w) : Calls P f args w R/\∀ u,CallsD P f args u w λe u' w'=>u'=u/\R e w':=⟨calls_of_wp C hb h,λ_=>callsD_of_wp C hb h⟩
theorem Bw.copyCheck_fresh {T:TypeId}(D:Bw.Lies P ρ T)(L:Lays.n240 P ρ)(X:Builder.X72 P ρ)(b:Nat)(w:World)(O:w.cell? ⟨b,0,none⟩=some (.pointer none))(B:w.shape? b=some (T,2))(R:w.frozen? ⟨b,0,none⟩=false) : Calls P (ρ.f 240) #[.pointer (some ⟨b,0,none⟩)] w λe w'=>e=.returned (.tuple #[])/\w'=w.setCell ⟨b,0,none⟩ (.pointer (some ⟨b,0,none⟩)):=by
 obtain ⟨j,C,F⟩:=Option.map_eq_some_iff.1 X.sizeBuilder;have mixed:=L.mixed;have bc:=L.t72;have N:=L.a72;have M:=L.z72;have H:=L.v72;have u72:=zy L.t72;have bb:=L.t70;have bd:=L.a70;have S:=L.z70;have U:=L.v70;have G:=zy L.t70;have g:=L.t9;have Y:=L.a9;have J:=L.z9;have I:=L.v9;have r:=zy L.t9;have q:=L.t4;have Z:=L.a4;have z4:=L.z4;have y:=L.v4;have A:=zy L.t4;have l:=L.t164;have ba:=L.a164;have m:=L.z164;have d:=L.v164;have V:=zy L.t164;go_enter L.f240,Body.n240_ntmps ρ;go_wp2;rw [Lib.run_to_unsafe w ⟨b,0,none⟩ L.t70 L.t164 C (by rw [F];decide) B (Nat.zero_lt_succ 1)];simp only [Result.andThen];rw [Oper.upon_value];go_wp2;rw [run_callFunc_extern L.f276 (by kernel_rfl) (by kernel_rfl) (by kernel_rfl) (e:=Extern.AbiNoEscape.same) (by kernel_rfl)];rw [Lib.run_noEscape];simp only [Result.andThen];rw [Oper.upon_value];go_wp2;rw [Lib.run_from_unsafe w ⟨b,0,none⟩ L.t164 L.t70 C B D.1];simp only [Result.andThen];rw [Oper.upon_value];go_wp2;go_end0;exact ⟨rfl,rfl⟩
theorem Bw.copyCheck_k {T:TypeId}(D:Bw.Lies P ρ T)(L:Lays.n240 P ρ)(X:Builder.X72 P ρ)(B b:Nat)(C:List Value)(w:World)(h:Lib.IsBuilderF T (ρ.t 5) B b C w) : Calls P (ρ.f 240) #[.pointer (some ⟨b,0,none⟩)] w λe w'=>e=.returned (.tuple #[])/\(Lib.BuilderAtF T (ρ.t 5) B b (.pointer (some ⟨b,0,none⟩)) C w'/\Below B w w'/\Lib.OthersKept (ρ.t 5) (some b) w w'):=by
 rcases h with h | h
 . refine (Bw.copyCheck_fresh D L X b w h.cell0 h.shape h.frozen0).mono ?_;rintro e w' ⟨rfl,rfl⟩;exact ⟨rfl,h.used _,(zr B w).setCell (p:=⟨b,0,none⟩) h.1 _,(Lib.OthersKept.refl _ _ w).setCell ⟨b,0,none⟩ rfl _⟩
 . refine (Any.Builder_copyCheck_used L X b w h.cell0).mono ?_;rintro e w' ⟨rfl,rfl⟩;exact ⟨rfl,h,zr B _,Lib.OthersKept.refl _ _ _⟩
theorem Bw.WriteByte_k {T:TypeId}(V:Bw.Lies P ρ T)(L:Lays.n167 P ρ)(X:Builder.Extra P ρ)(B b:Nat)(D:List Value)(c:Int)(w:World)(h:Lib.IsBuilderF T (ρ.t 5) B b D w)(bu:D.length+1<=140737488355328)(bh:B<=w.heap.size) : Calls P (ρ.f 167) #[.pointer (some ⟨b,0,none⟩),.int .u8 c] w λe w'=>e=.returned .nilIface/\(Lib.BuilderAtF T (ρ.t 5) B b (.pointer (some ⟨b,0,none⟩)) (D++[.int .u8 c]) w'/\Below B w w'/\Lib.OthersKept (ρ.t 5) (some b) w w'):=by
 obtain ⟨m,r,l,hz1,Y⟩:=info_parts X.infoByte;have mixed:=L.mixed;have bB:=L.t72;have bf:=L.a72;have be:=L.z72;have bc:=L.v72;have bx:=zy L.t72;have bA:=L.t70;have bC:=L.a70;have bj:=L.z70;have bk:=L.v70;have ba:=zy L.t70;have t5:=L.t5;have a5:=L.a5;have z5:=L.z5;have v5:=L.v5;have u5:=zy L.t5;have bd:=L.t37;have bD:=L.a37;have bb:=L.z37;have br:=L.v37;have bv:=zy L.t37;have t9:=L.t9;have a9:=L.a9;have z9:=L.z9;have v9:=L.v9;have u9:=zy L.t9;have t4:=L.t4;have a4:=L.a4;have z4:=L.z4;have v4:=L.v4;have u4:=zy L.t4;have bq:=L.t164;have bz:=L.a164;have bt:=L.z164;have bn:=L.v164;have bm:=zy L.t164;have bp:∀ args w,(callFunc (ρ.f 240) args).run P w=.ok (.enter (ρ.f 240) args) w:=enters_of L.f240 (by kernel_rfl) rfl;go_enter L.f167,Body.n167_ntmps ρ;go_wp2_with (go_at_fn (ρ.f 240);refine (Bw.copyCheck_k V { L with } X.toX72 B b D _ h).mono ?_);rintro e C ⟨rfl,d,G,q⟩;obtain ⟨S,v,H,M,Z⟩:=d;have c0:C.cell? ⟨b,0,none⟩=some (.pointer (some ⟨b,0,none⟩)):=by rw [zH H];rfl
 have c1:C.cell? ⟨b,1,none⟩=some v:=by rw [zH H];rfl
 go_wp2_with (at_builtin;refine wpList_append_ownF _ rfl _ _ (ρ.t 37) rfl B (ρ.t 5) m (.int .u8 0) 1 1 L.t37 r l hz1 Y rfl (by decide) _ _ _ rfl (M.alloc _) ⟨C.heap.size,0,none⟩ 1 1 [.int .u8 c] rfl rfl ?c1 ?c2 ?c3 ?c4 ?c5 ?_)
 case c1 =>
  intro j u J
  match j,J with
  | 0,J=>simp at J;subst J;simp [Addr.add]
 case c2=>intro u R;simp at R;subst R;rfl
 case c3=>unfold maxLen;omega
 case c4=>omega
 case c5=>have:=G.size;simp;omega
 intro v' F U O _;have A:b<C.heap.size:=by
  rcases Nat.lt_or_ge b C.heap.size with N | N
  . exact N
  . simp [Array.getElem?_eq_none N] at H
 have I:F.heap[b]?=some (.cells #[.pointer (some ⟨b,0,none⟩),v] T (0,0)):=by rw [O.block b (by simp;omega) (λe=>Z e.symm),Lib.alloc_old C _ b A];exact H
 have d0:F.cell? ⟨b,0,none⟩=some (.pointer (some ⟨b,0,none⟩)):=by rw [zH I];rfl
 have d1:F.cell? ⟨b,1,none⟩=some v:=by rw [zH I];rfl
 have f1:F.frozen? ⟨b,1,none⟩=false:=zO I 1;obtain ⟨g,cap,rfl⟩:∃ g cap,v'=slice (some ⟨g,0,none⟩) (D.length+1) cap:=by
  rcases U.2 with ⟨_,h0⟩ | ⟨g,cap,bg,fz,y,_⟩
  . omega
  . exact ⟨g,cap,y⟩
 go_wp2;go_ret;refine ⟨rfl,?_,?_,((q.alloc _).grown O (Lib.ownsRowF_kind (M.alloc _))).setCell ⟨b,1,none⟩ rfl _⟩
 . exact Lib.BuilderAtF.put (T:=T) (e:=(ρ.t 5)) S I (bs':=D++[.int .u8 c]) (by simpa using U) V.2
 . exact ((G.alloc (by have:=G.size;omega) _).grown O (by have:=G.size;simp;omega) (λk hk=>(M.lt k hk).1)).setCell (p:=⟨b,1,none⟩) S _
theorem Bw.WriteString_k {T:TypeId}(V:Bw.Lies P ρ T)(L:Lays.n166 P ρ)(X:Builder.Extra P ρ)(B b:Nat)(C:List Value)(s:ByteArray)(w:World)(h:Lib.IsBuilderF T (ρ.t 5) B b C w)(bu:C.length+s.size<=140737488355328)(bz:B<=w.heap.size) : Calls P (ρ.f 166) #[.pointer (some ⟨b,0,none⟩),.string s] w (λe w'=>e=.returned (.tuple #[vI s.size,.nilIface])/\(Lib.BuilderAtF T (ρ.t 5) B b (.pointer (some ⟨b,0,none⟩)) (C++Lib.strCells s) w'/\Below B w w'/\Lib.OthersKept (ρ.t 5) (some b) w w'))/\∀ u,CallsD P (ρ.f 166) #[.pointer (some ⟨b,0,none⟩),.string s] u w (λe u' w'=>u'=u/\(e=.returned (.tuple #[vI s.size,.nilIface])/\(Lib.BuilderAtF T (ρ.t 5) B b (.pointer (some ⟨b,0,none⟩)) (C++Lib.strCells s) w'/\Below B w w'/\Lib.OthersKept (ρ.t 5) (some b) w w'))):=by
 obtain ⟨m,r,l,A,Z⟩:=info_parts X.infoByte;have mixed:=L.mixed;have bm:=L.t72;have bf:=L.a72;have be:=L.z72;have bc:=L.v72;have bx:=zy L.t72;have bB:=L.t70;have bC:=L.a70;have bj:=L.z70;have bh:=L.v70;have ba:=zy L.t70;have bd:=L.t37;have bD:=L.a37;have bb:=L.z37;have br:=L.v37;have bv:=zy L.t37;have t3:=L.t3;have a3:=L.a3;have z3:=L.z3;have v3:=L.v3;have u3:=zy L.t3;have t9:=L.t9;have a9:=L.a9;have z9:=L.z9;have v9:=L.v9;have u9:=zy L.t9;have t4:=L.t4;have a4:=L.a4;have z4:=L.z4;have v4:=L.v4;have u4:=zy L.t4;have bq:=L.t164;have bA:=L.a164;have bt:=L.z164;have bn:=L.v164;have bk:=zy L.t164;have t5:=X.t5;have a5:=X.a5;have z5:=X.z5;have v5:=X.v5;have u5:=zy X.t5;have bp:∀ args w,(callFunc (ρ.f 240) args).run P w=.ok (.enter (ρ.f 240) args) w:=enters_of L.f240 (by kernel_rfl) rfl;refine Zhf L.f166 rfl ?_;simp only [Body.n166_ntmps ρ,List.size_toArray,zw,zx,Nat.reduceAdd,Nat.reduceSub,Array.replicate_succ, Array.replicate_zero,List.push_toArray,List.append_toArray,zn2,zc2];go_wp2_with (go_at_fn (ρ.f 240);refine (Bw.copyCheck_k V { L with } X.toX72 B b C _ h).mono ?_);rintro e D ⟨rfl,j,J,q⟩;obtain ⟨S,v,G,I,d⟩:=j;have c0:D.cell? ⟨b,0,none⟩=some (.pointer (some ⟨b,0,none⟩)):=by rw [zH G];rfl
 have c1:D.cell? ⟨b,1,none⟩=some v:=by rw [zH G];rfl
 go_wp2_with (at_builtin;refine Lib.wpList_append_own_stringF _ rfl _ _ (ρ.t 37) (ρ.t 9) rfl B (ρ.t 5) m L.t37 L.t9 r l A Z _ _ _ rfl I s rfl ?c3 ?c4 ?c5 ?_)
 case c3=>unfold maxLen;omega
 case c4=>omega
 case c5=>have:=J.size;omega
 intro v' F U O _;have y:b<D.heap.size:=by
  rcases Nat.lt_or_ge b D.heap.size with M | M
  . exact M
  . simp [Array.getElem?_eq_none M] at G
 have H:F.heap[b]?=some (.cells #[.pointer (some ⟨b,0,none⟩),v] T (0,0)):=by rw [O.block b y (λe=>d e.symm)];exact G
 have d0:F.cell? ⟨b,0,none⟩=some (.pointer (some ⟨b,0,none⟩)):=by rw [zH H];rfl
 have d1:F.cell? ⟨b,1,none⟩=some v:=by rw [zH H];rfl
 have f1:F.frozen? ⟨b,1,none⟩=false:=zO H 1;obtain ⟨Y,R,cap,rfl⟩:∃ Y R cap,v'=slice Y R cap:=by
  rcases U.2 with ⟨N,_⟩ | ⟨g,cap,bg,fz,N,_⟩
  . exact ⟨_,_,_,N⟩
  . exact ⟨_,_,_,N⟩
 go_wp2;go_ret2;refine ⟨rfl,?_,?_,(q.grown O (Lib.ownsRowF_kind I)).setCell ⟨b,1,none⟩ rfl _⟩
 . exact Lib.BuilderAtF.put (T:=T) (e:=(ρ.t 5)) S H (bs':=C++Lib.strCells s) (by simpa [Lib.strCells_length] using U) V.2
 . exact (J.grown O (by have:=J.size;omega) (λk hk=>(I.lt k hk).1)).setCell (p:=⟨b,1,none⟩) S _
theorem Bw.String_k {T:TypeId}(_hT:Bw.Lies P ρ T)(L:Lays.n169 P ρ)(X:Builder.Extra P ρ)(B b:Nat)(l:List UInt8)(w:World)(h:Lib.IsBuilderF T (ρ.t 5) B b (Lib.byteCells l) w)(H:l≠[]) : Calls P (ρ.f 169) #[.pointer (some ⟨b,0,none⟩)] w λe w'=>e=.returned (.string ⟨l.toArray⟩)/\(Lib.IsBuilderF T (ρ.t 5) B b (Lib.byteCells l) w'/\Below B w w'/\Lib.OthersKept (ρ.t 5) (some b) w w'):=by
 obtain ⟨p,Y,N⟩:∃ p,(p=.pointer none\/p=.pointer (some ⟨b,0,none⟩))/\Lib.BuilderAtF T (ρ.t 5) B b p (Lib.byteCells l) w:=by
  rcases h with h | h
  . exact ⟨_,.inl rfl,h⟩
  . exact ⟨_,.inr rfl,h⟩
 obtain ⟨R,v,I,F,O⟩:=N;have d:l.length≠0:=by simpa using H
 rw [Lib.byteCells_length] at F;obtain ⟨g,cap,C,D,rfl,V,J,bj,bq,M,bt,bd⟩:∃ g cap C D,v=slice (some ⟨g,0,none⟩) l.length cap/\B<=g/\w.heap[g]?=some (.cells C (ρ.t 5) D)/\D.2<=l.length*1/\l.length<=cap/\cap<=maxLen/\C.size=cap*1/\C.toList.take (l.length*1)=Lib.byteCells l:=by
  rcases F.2 with ⟨_,U⟩ | ⟨g,cap,C,D,q,r⟩
  . exact absurd U d
  . exact ⟨g,cap,C,D,q,r⟩
 have c1:w.drew.cell? ⟨b,1,none⟩=some (slice (some ⟨g,0,none⟩) l.length cap):=by have:w.drew.heap[b]?=some (.cells #[p,slice (some ⟨g,0,none⟩) l.length cap] T (0,0)):=I;rw [zH this];rfl
 have bz:(Builtin.unsafeSliceData_ #[(ρ.t 37)] (ρ.t 127) #[slice (some ⟨g,0,none⟩) l.length cap]).run P w.drew=.ok (.pointer (some ⟨g,0,none⟩)) w.drew := Lib.run_unsafeSliceData_row _ _ _ _ _ _ (by omega);have bp:(Builtin.unsafeString_ #[(ρ.t 127),(ρ.t 3)] (ρ.t 9) #[.pointer (some ⟨g,0,none⟩),vI l.length]).run P w.drew=.ok (.string ⟨l.toArray⟩) (w.drew.freeze ⟨g,0,none⟩ l.length):=by refine Lib.run_unsafeString_row w.drew (ρ.t 127) (ρ.t 3) (ρ.t 9) (ρ.t 5) L.t127 X.cellsByte g C.size (by have hg':w.drew.heap[g]?=some (.cells C (ρ.t 5) D):=J;simp [World.shape?,hg']) l H (by omega) (by unfold maxLen at M;omega) ?_;intro j x S;have:=F.cells (g:=g) rfl j (.int .u8 x.toNat) (by simp [Lib.byteCells,S]);exact this
 have m:Lib.IsBuilderF T (ρ.t 5) B b (Lib.byteCells l) (w.drew.freeze ⟨g,0,none⟩ l.length):=by
  have Z:Lib.BuilderAtF T (ρ.t 5) B b p (Lib.byteCells l) w.drew:=⟨R,_,I,by rw [Lib.byteCells_length];exact F,O⟩
  have G:=Z.froze (g:=g) (cap:=cap) (by rw [Lib.byteCells_length];exact c1);rw [Lib.byteCells_length] at G;rcases Y with rfl | rfl
  . exact .inl G
  . exact .inr G
 have mixed:=L.mixed;have bB:=L.t72;have bh:=L.a72;have bg:=L.z72;have bc:=L.v72;have bx:=zy L.t72;have bA:=L.t70;have bC:=L.a70;have bk:=L.z70;have bm:=L.v70;have ba:=zy L.t70;have bf:=L.t37;have bD:=L.a37;have bb:=L.z37;have br:=L.v37;have bv:=zy L.t37;have y:=L.t127;have be:=L.a127;have bs:=L.z127;have bn:=L.v127;have bu:=zy L.t127;have t3:=L.t3;have a3:=L.a3;have z3:=L.z3;have v3:=L.v3;have u3:=zy L.t3;have t9:=L.t9;have a9:=L.a9;have z9:=L.z9;have v9:=L.v9;have u9:=zy L.t9;have t5:=X.t5;have a5:=X.a5;have z5:=X.z5;have A:=X.v5;have u5:=zy X.t5;go_enter L.f169,Body.n169_ntmps ρ;go_wp2;go_region_o
 all_goals (go_wp2;go_ret;exact ⟨rfl,m,Lib.below_freeze (Below.drew (zr B w)) (p:=⟨g,0,none⟩) V _,((Lib.OthersKept.refl _ _ w).drew).freeze ⟨g,0,none⟩ _ ⟨C,D,J⟩⟩)
theorem Bw.String_nil_f {T:TypeId}(_hT:Bw.Lies P ρ T)(L:Lays.n169 P ρ)(X:Builder.Extra P ρ)(B b:Nat)(p:Value)(w:World)(C:w.heap[b]?=some (.cells #[p,slice none 0 0] T (0,0)))(D:Lib.BuilderAtF T (ρ.t 5) B b p [] w) : Calls P (ρ.f 169) #[.pointer (some ⟨b,0,none⟩)] w λe w'=>e=.returned (.string ⟨#[]⟩)/\(Lib.BuilderAtF T (ρ.t 5) B b p [] w'/\Below B w w'):=by
 have r:=Any.unsafeString_none L X;have c1:w.drew.cell? ⟨b,1,none⟩=some (slice none 0 0):=by have:w.drew.heap[b]?=some (.cells #[p,slice none 0 0] T (0,0)):=C;rw [zH this];rfl
 have bf:(Builtin.unsafeSliceData_ #[(ρ.t 37)] (ρ.t 127) #[slice none 0 0]).run P w.drew=.ok (.pointer none) w.drew:=rfl;have mixed:=L.mixed;have bh:=L.t72;have Y:=L.a72;have V:=L.z72;have M:=L.v72;have be:=zy L.t72;have bg:=L.t70;have bj:=L.a70;have j:=L.z70;have m:=L.v70;have I:=zy L.t70;have S:=L.t37;have bk:=L.a37;have J:=L.z37;have ba:=L.v37;have bd:=zy L.t37;have F:=L.t127;have N:=L.a127;have bb:=L.z127;have q:=L.v127;have bc:=zy L.t127;have l:=L.t3;have a3:=L.a3;have z3:=L.z3;have H:=L.v3;have d:=zy L.t3;have A:=L.t9;have y:=L.a9;have U:=L.z9;have O:=L.v9;have u9:=zy L.t9;have t5:=X.t5;have R:=X.a5;have Z:=X.z5;have G:=X.v5;have g:=zy X.t5;go_enter L.f169,Body.n169_ntmps ρ;go_wp2;go_region_o
 all_goals (go_wp2;go_ret;exact ⟨rfl,D.drew,Below.drew (zr B w)⟩)
theorem Bw.String_noroom_f {T:TypeId}(_hT:Bw.Lies P ρ T)(L:Lays.n169 P ρ)(X:Builder.Extra P ρ)(B b g:Nat)(p:Value)(C:Array Value)(w:World)(H:B<=w.heap.size)(F:w.heap[b]?=some (.cells #[p,slice (some ⟨g,0,none⟩) 0 0] T (0,0)))(G:Nat × Nat)(J:w.heap[g]?=some (.cells C (ρ.t 5) G))(I:Lib.BuilderAtF T (ρ.t 5) B b p [] w) : Calls P (ρ.f 169) #[.pointer (some ⟨b,0,none⟩)] w λe w'=>e=.returned (.string ⟨#[]⟩)/\(Lib.BuilderAtF T (ρ.t 5) B b p [] w'/\Below B w w'):=by
 have bc:=Any.unsafeString_none L X;have M:b<w.heap.size:=by
  rcases Nat.lt_or_ge b w.heap.size with D | D
  . exact D
  . simp [Array.getElem?_eq_none D] at F
 have c1:w.drew.cell? ⟨b,1,none⟩=some (slice (some ⟨g,0,none⟩) 0 0):=by have:w.drew.heap[b]?=some (.cells #[p,slice (some ⟨g,0,none⟩) 0 0] T (0,0)):=F;rw [zH this];rfl
 have bj:(Builtin.unsafeSliceData_ #[(ρ.t 37)] (ρ.t 127) #[slice (some ⟨g,0,none⟩) 0 0]).run P w.drew=.ok (.pointer (some ⟨w.drew.heap.size,0,none⟩)) (w.drew.alloc (.view ⟨g,0,none⟩ (ρ.t 5))) := Lib.run_unsafeSliceData_zero w.drew _ _ (ρ.t 5) L.t127 ⟨g,0,none⟩ 0 ((ρ.t 5),C.size) (by have hg':w.drew.heap[g]?=some (.cells C (ρ.t 5) G):=J;simp [World.shape?,hg']);have c2:(w.drew.alloc (.view ⟨g,0,none⟩ (ρ.t 5))).cell? ⟨b,1,none⟩=some (slice (some ⟨g,0,none⟩) 0 0):=by have:(w.drew.alloc (.view ⟨g,0,none⟩ (ρ.t 5))).heap[b]?=_:=(Lib.alloc_old w.drew _ b M).trans F;rw [zH this];rfl
 have c3:(w.alloc (.view ⟨g,0,none⟩ (ρ.t 5))).drew.cell? ⟨b,1,none⟩=some (slice (some ⟨g,0,none⟩) 0 0):=c2;have c0:w.cell? ⟨b,1,none⟩=some (slice (some ⟨g,0,none⟩) 0 0):=c1;have mixed:=L.mixed;have bm:=L.t72;have q:=L.a72;have m:=L.z72;have V:=L.v72;have bh:=zy L.t72;have bk:=L.t70;have bn:=L.a70;have z70:=L.z70;have ba:=L.v70;have S:=zy L.t70;have j:=L.t37;have bp:=L.a37;have U:=L.z37;have bd:=L.v37;have bg:=zy L.t37;have N:=L.t127;have Y:=L.a127;have be:=L.z127;have bb:=L.v127;have bf:=zy L.t127;have t3:=L.t3;have a3:=L.a3;have z3:=L.z3;have R:=L.v3;have y:=zy L.t3;have t9:=L.t9;have a9:=L.a9;have l:=L.z9;have Z:=L.v9;have u9:=zy L.t9;have t5:=X.t5;have d:=X.a5;have r:=X.z5;have O:=X.v5;have A:=zy X.t5;go_enter L.f169,Body.n169_ntmps ρ;go_wp2;go_region_o
 all_goals (go_wp2;go_ret;exact ⟨rfl,I.drew.alloc _,(Below.drew (zr B w)).alloc H _⟩)
theorem Bw.String_room_f {T:TypeId}(_hT:Bw.Lies P ρ T)(L:Lays.n169 P ρ)(X:Builder.Extra P ρ)(B b g cap:Nat)(p:Value)(w:World)(C:cap≠0)(D:w.heap[b]?=some (.cells #[p,slice (some ⟨g,0,none⟩) 0 cap] T (0,0)))(F:Lib.BuilderAtF T (ρ.t 5) B b p [] w) : Calls P (ρ.f 169) #[.pointer (some ⟨b,0,none⟩)] w λe w'=>e=.returned (.string ⟨#[]⟩)/\(Lib.BuilderAtF T (ρ.t 5) B b p [] w'/\Below B w w'):=by
 have A:=Any.unsafeString_none L X;have c1:w.drew.cell? ⟨b,1,none⟩=some (slice (some ⟨g,0,none⟩) 0 cap):=by have:w.drew.heap[b]?=some (.cells #[p,slice (some ⟨g,0,none⟩) 0 cap] T (0,0)):=D;rw [zH this];rfl
 have bf:(Builtin.unsafeSliceData_ #[(ρ.t 37)] (ρ.t 127) #[slice (some ⟨g,0,none⟩) 0 cap]).run P w.drew=.ok (.pointer (some ⟨g,0,none⟩)) w.drew := Lib.run_unsafeSliceData_row _ _ _ _ _ _ C;clear C;have mixed:=L.mixed;have bh:=L.t72;have Z:=L.a72;have Y:=L.z72;have N:=L.v72;have be:=zy L.t72;have bg:=L.t70;have bj:=L.a70;have m:=L.z70;have r:=L.v70;have J:=zy L.t70;have U:=L.t37;have bk:=L.a37;have M:=L.z37;have ba:=L.v37;have bd:=zy L.t37;have G:=L.t127;have O:=L.a127;have bb:=L.z127;have y:=L.v127;have bc:=zy L.t127;have q:=L.t3;have a3:=L.a3;have z3:=L.z3;have I:=L.v3;have j:=zy L.t3;have t9:=L.t9;have a9:=L.a9;have V:=L.z9;have R:=L.v9;have u9:=zy L.t9;have t5:=X.t5;have S:=X.a5;have d:=X.z5;have H:=X.v5;have l:=zy X.t5;go_enter L.f169,Body.n169_ntmps ρ;go_wp2;go_region_o
 all_goals (go_wp2;go_ret;exact ⟨rfl,F.drew,Below.drew (zr B w)⟩)
theorem Bw.String_empty_f {T:TypeId}(F:Bw.Lies P ρ T)(L:Lays.n169 P ρ)(X:Builder.Extra P ρ)(B b:Nat)(w:World)(h:Lib.IsBuilderF T (ρ.t 5) B b [] w)(I:B<=w.heap.size) : Calls P (ρ.f 169) #[.pointer (some ⟨b,0,none⟩)] w λe w'=>e=.returned (.string ⟨#[]⟩)/\(Lib.IsBuilderF T (ρ.t 5) B b [] w'/\Below B w w'):=by
 obtain ⟨p,J,G⟩:∃ p,(p=.pointer none\/p=.pointer (some ⟨b,0,none⟩))/\Lib.BuilderAtF T (ρ.t 5) B b p [] w:=by
  rcases h with h | h
  . exact ⟨_,.inl rfl,h⟩
  . exact ⟨_,.inr rfl,h⟩
 have fin:∀ (e:Ending) (w':World),(e=.returned (.string ⟨#[]⟩)/\(Lib.BuilderAtF T (ρ.t 5) B b p [] w'/\Below B w w'))->e=.returned (.string ⟨#[]⟩)/\(Lib.IsBuilderF T (ρ.t 5) B b [] w'/\Below B w w'):=by
  rintro e w' ⟨he,hk,hb⟩;rcases J with rfl | rfl
  . exact ⟨he,.inl hk,hb⟩
  . exact ⟨he,.inr hk,hb⟩
 have D:=G;obtain ⟨R,v,C,O,U⟩:=G;rcases O.2 with ⟨rfl,_⟩ | ⟨g,cap,M,N,rfl,S,H,_,_,_,_,_⟩
 . exact (Bw.String_nil_f F L X B b p w C D).mono fin
 . by_cases hc0:cap=0
   . subst hc0;exact (Bw.String_noroom_f F L X B b g p M w I C N H D).mono fin
   . exact (Bw.String_room_f F L X B b g cap p w hc0 C D).mono fin
theorem Bw.String_any {T:TypeId}(C:Bw.Lies P ρ T)(L:Lays.n169 P ρ)(X:Builder.Extra P ρ)(B b:Nat)(l:List UInt8)(w:World)(h:Lib.IsBuilderF T (ρ.t 5) B b (Lib.byteCells l) w)(D:B<=w.heap.size) : Calls P (ρ.f 169) #[.pointer (some ⟨b,0,none⟩)] w λe w'=>e=.returned (.string ⟨l.toArray⟩)/\(Lib.IsBuilderF T (ρ.t 5) B b (Lib.byteCells l) w'/\Below B w w'):=by
 cases l with
 | nil=>exact Bw.String_empty_f C L X B b w h D
 | cons x r=>exact (Bw.String_k C L X B b (x::r) w h (by simp)).mono λ_ _ h=>⟨h.1,h.2.1,h.2.2.1⟩
end
end
section
open Go.RowKit Lx
def Wd (b:Nat)(l:Bytes)(w:World):Prop:=Lib.IsBuilderF 175 5 b b (Lib.byteCells l) w
def Okp (b:Nat)(w w':World):Prop:=Lib.OthersKept 5 (some b) w w'
theorem wd_new (w:World):Wd w.heap.size [] (w.alloc (.cells #[.pointer none,slice none 0 0] 175)) := .inl ⟨zn _,slice none 0 0,heap_alloc_new w _,World.ownsRowF_nil _ _ _ _,by simp [Value.ownBlock]⟩
theorem Zc5 {T e:TypeId}{B b:Nat}{p:Value}{F:List Value}{w w':World}(h:Lib.BuilderAtF T e B b p F w)(hb:Below w.heap.size w w'):Lib.BuilderAtF T e B b p F w':=by
 obtain ⟨G,v,C,⟨M,R⟩,O⟩:=h;refine ⟨G,v,(hb.block b (zF2.1 C).1).trans C,⟨M,?_⟩,O⟩;rcases R with H | ⟨g,cap,J,L,N,I,D,rest⟩
 . exact .inl H
 . exact .inr ⟨g,cap,J,L,N,I,(hb.block g (zF2.1 D).1).trans D,rest⟩
theorem Z3v {b:Nat}{l:Bytes}{w w':World}(h:Wd b l w)(hb:Below w.heap.size w w'):Wd b l w':=by
 rcases h with h | h
 . exact .inl (Zc5 h hb)
 . exact .inr (Zc5 h hb)
theorem Zfj {b:Nat}{l:Bytes}{w:World}(h:Wd b l w)(o:Obj):Wd b l (w.alloc o):=Z3v h ((zr _ _).alloc (zn _) _)
theorem Z6f {b:Nat}{l:Bytes}{w:World}(h:Wd b l w):b<w.heap.size:=by
 rcases h with h | h <;> exact h.lt
theorem ZdF:Bw.Lies prog Tryz.bRen 175:=⟨by kernel_rfl,by decide⟩
theorem Zrr:Bw.Lies prog Tryz.lays169_ren 175:=⟨by kernel_rfl,by decide⟩
def Zqw (b:Nat)(l:Bytes)(s:ByteArray)(w:World)(e:Ending)(w':World):Prop:=e=.returned (.tuple #[vI s.size,.nilIface])/\Wd b (l++bl s) w'/\Below b w w'/\Okp b w w'
theorem Z3w (b:Nat)(l:Bytes)(s:ByteArray)(w:World)(h:Wd b l w)(B:l.length+s.size<=140737488355328) : Calls prog 124 #[.pointer (some ⟨b,0,none⟩),.string s] w λe w'=>Zqw b l s w e w' := (Bw.WriteString_k ZdF Tryz.lays166 Tryz.bExtra b b (Lib.byteCells l) s w h (by rw [Lib.byteCells_length];exact B) (zl (Z6f h))).1.mono λ_ _ ⟨he,h1,h2,h3⟩ =>
  ⟨he,.inr (by rw [Lib.byteCells_append];exact h1),h2,h3⟩
theorem ZnB (b:Nat)(l:Bytes)(s:ByteArray)(w:World)(u:FrameMode)(h:Wd b l w)(B:l.length+s.size<=140737488355328) : CallsD prog 124 #[.pointer (some ⟨b,0,none⟩),.string s] u w λe u' w'=>u'=u/\Zqw b l s w e w' := ((Bw.WriteString_k ZdF Tryz.lays166 Tryz.bExtra b b (Lib.byteCells l) s w h (by rw [Lib.byteCells_length];exact B) (zl (Z6f h))).2 u).mono λ_ _ _ ⟨hu,he,h1,h2,h3⟩ =>
   ⟨hu,he,.inr (by rw [Lib.byteCells_append];exact h1),h2,h3⟩
theorem Zqx (b:Nat)(l:Bytes)(c:UInt8)(w:World)(h:Wd b l w)(B:l.length+1<=140737488355328) : Calls prog 168 #[.pointer (some ⟨b,0,none⟩),.int .u8 c.toNat] w λe w'=>e=.returned .nilIface/\Wd b (l++[c]) w'/\Below b w w'/\Okp b w w' := (Bw.WriteByte_k ZdF Tryz.lays167 Tryz.bExtra b b (Lib.byteCells l) c.toNat w h (by rw [Lib.byteCells_length];exact B) (zl (Z6f h))).mono λ_ _ ⟨he,h1,h2,h3⟩ =>
  ⟨he,.inr (by rw [Lib.byteCells_append];exact h1),h2,h3⟩
theorem ZnC (b:Nat)(l:Bytes)(w:World)(h:Wd b l w) : Calls prog 125 #[.pointer (some ⟨b,0,none⟩)] w λe w'=>e=.returned (.string (mk l))/\Below b w w' := (Bw.String_any Zrr Tryz.lays169 Tryz.Builder_Extra_169 b b l w h (zl (Z6f h))).mono λ_ _ ⟨he,hw⟩=>⟨he,hw.2⟩
theorem Zjz {b k:Nat}{w w':World}{cs:Array Value}{t:TypeId}{B:Nat × Nat}(h:Okp b w w')(hk:w.heap[k]?=some (.cells cs t B))(hb:k≠b)(C:t≠5):w'.heap[k]?=some (.cells cs t B) := h k _ hk (by simpa using hb) (λc fz' e=>by cases e;exact C rfl)
end
section
open Go.RowKit Lx Px
def ZaG (w:World)(op:Int)(A1:Option Addr)(n1 b2:Nat):Prop := ((op=15/\A1=none/\n1=0)\/∃ bs,op≠15/\A1=some ⟨bs,0,none⟩/\n1=Z0k op - 1/\w.heap[bs]?=some (.cells ((sepL op).map λs=>.string (mk s)).toArray 9 (0,0))) /\ w.heap[b2]?=some (.cells ((Za2 op).map (.int .i64)).toArray 3 (0,0))
def Zc6 (op:Int)(w:World)(e:Ending)(w':World):Prop := ∃ (r:Nat) (A1:Option Addr) (n1 c1 b2:Nat),e=.returned (.map (some r)) /\ (∀ W:World,W.heap[r]?=w'.heap[r]?->(Instr.lookup 222 (.map (some r)) (vI op) true).run prog W = .ok (.tuple #[.agg #[.string (mk (beginOf op)),slice A1 n1 c1,.string (mk (endOf op)),vI (Z0b op),slice (some ⟨b2,0,none⟩) (Z0k op) (Z0k op)],.bool true]) W) /\ r<w'.heap.size/\ZaG w' op A1 n1 b2/\Below w.heap.size w w'
def ZjA (op:Int)(w:World)(e:Ending)(w':World):Prop := ∃ r:Nat,e=.returned (.map (some r)) /\ (∀ W:World,W.heap[r]?=w'.heap[r]?->(Instr.lookup 222 (.map (some r)) (vI op) true).run prog W = .ok (.tuple #[.agg #[.string ⟨#[]⟩,slice none 0 0,.string ⟨#[]⟩,vI 0,slice none 0 0],.bool false]) W) /\ r<w'.heap.size/\Below w.heap.size w w'
theorem Z31 {w w':World}{e:Ending}{r:Nat}{op:Int}{v:Value}{L L2:List (Int × Value)}(he:e=.returned (.map (some r)))(h:Z33 w' r (L++(op,v)::L2))(J:∀ p∈L,p.1≠op)(D:Below w.heap.size w w'):Zc6 op w e w':=by
 obtain ⟨H,F,B,I,M,C⟩:=h.2 (op,v) (by simp);have G:=Z7f op v L L2 0 0 J;dsimp only at B I C;by_cases ho:op=15
 . rw [zp ho] at B;refine ⟨r,none,0,0,F,he,λW hW=>?_,h.lt,⟨.inl ⟨ho,rfl,rfl⟩,C⟩,D⟩;rw [<- B];exact Z6k underlying222 underlying3 (hW.trans h.1) G
 . rw [zf ho] at B;refine ⟨r,some ⟨H,0,none⟩,Z0k op - 1,Z0k op - 1,F,he,λW hW=>?_,h.lt,⟨.inr ⟨H,ho,rfl,rfl,(I ho).2⟩,C⟩,D⟩;rw [<- B];exact Z6k underlying222 underlying3 (hW.trans h.1) G
theorem Zhg (op:Int)(w:World)(Y:4<=op)(U:op<=15):Calls prog 169 #[] w (Zc6 op w):=by
 refine (Zck w).mono ?_;rintro e w' ⟨r,D,F,G,H,I,J,M,N,O,R,S,V,he,X,B,C⟩;have T:op=4\/op=5\/op=6\/op=7\/op=8\/op=9\/op=10\/op=11\/op=12\/op=13\/op=14\/op=15:=by omega
 rcases T with rfl | rfl | rfl | rfl | rfl | rfl | rfl | rfl | rfl | rfl | rfl | rfl
 . exact Z31 (L:=[(10,D),(14,F),(13,G),(15,H),(11,I),(12,J)]) he B (by simp) C
 . exact Z31 (L:=[(10,D),(14,F),(13,G),(15,H),(11,I),(12,J),(4,M)]) he B (by simp) C
 . exact Z31 (L:=[(10,D),(14,F),(13,G),(15,H),(11,I),(12,J),(4,M),(5,N)]) he B (by simp) C
 . exact Z31 (L:=[(10,D),(14,F),(13,G),(15,H),(11,I),(12,J),(4,M),(5,N),(6,O)]) he B (by simp) C
 . exact Z31 (L:=[(10,D),(14,F),(13,G),(15,H),(11,I),(12,J),(4,M),(5,N),(6,O),(7,R)]) he B (by simp) C
 . exact Z31 (L:=[(10,D),(14,F),(13,G),(15,H),(11,I),(12,J),(4,M),(5,N),(6,O),(7,R),(8,S)]) he B (by simp) C
 . exact Z31 (L:=[]) he B (by simp) C
 . exact Z31 (L:=[(10,D),(14,F),(13,G),(15,H)]) he B (by simp) C
 . exact Z31 (L:=[(10,D),(14,F),(13,G),(15,H),(11,I)]) he B (by simp) C
 . exact Z31 (L:=[(10,D),(14,F)]) he B (by simp) C
 . exact Z31 (L:=[(10,D)]) he B (by simp) C
 . exact Z31 (L:=[(10,D),(14,F),(13,G)]) he B (by simp) C
theorem Zhh (op:Int)(w:World)(X:1<=op)(J:op<=3):Calls prog 169 #[] w (ZjA op w):=by
 refine (Zck w).mono ?_;rintro e w' ⟨r,V,G,L,H,N,F,I,R,S,T,M,O,he,U,B,D⟩;refine ⟨r,he,λW hW=>?_,B.lt,D⟩;refine Z93 underlying222 underlying3 (hW.trans B.1) (Z2B op _ 0 0 ?_) (Tryz.zeroValue220 W);intro p C;simp at C;rcases C with rfl | rfl | rfl | rfl | rfl | rfl | rfl | rfl | rfl | rfl | rfl | rfl <;> dsimp only <;> omega
def Tabs (B:Nat)(w:World):Prop := Lib.TabBelow prog B w "internal/strconv.uint64pow10" .u64 Lib.pow10Tab/\0<B/\w.heap.size>=B /\ ∀ k:Nat,1<=k->k<=4->w.cell? ⟨0,k,none⟩=some (.string (mk (Z5A k)))
theorem Tabs.on {B:Nat}{w w':World}(h:Tabs B w)(hb:Below B w w'):Tabs B w' := ⟨h.1.on hb,h.2.1,by have:=hb.size;have:=h.2.2.1;omega,λk h1 h2=>(hb.cell (p:=⟨0,k,none⟩) h.2.1).trans (h.2.2.2 k h1 h2)⟩
namespace Px
def okF:Fo->Bool
 | .nil=>true
 | .node _ _ a l r=>Z07 a.1 a.2 (flen l)&&okF l&&okF r
theorem okF_of:∀ (f:Fo) (B C x:Int),Z1D f B C=(true,x)->okF f=true:=by
 intro f;induction f with
 | nil=>intro B C x h;rfl
 | node b o a l r ihl ihr =>
  intro B C x h;rw [Z1D] at h;split at h
  . simp at h
  . rename_i G;split at h
    . simp at h
    . rename_i y e;have H:=ihl _ _ _ e;have D:=ihr _ _ _ h;have F:Z07 a.1 a.2 (flen l)=true:=by
       cases hf:Z07 a.1 a.2 (flen l) with
       | true=>rfl
       | false=>exact absurd (.inr (.inr hf)) G
      simp [okF,H,D,F]
theorem ZdG:∀ (f:Fo) (k:Nat),okF f=true->k<flen f->Z07 (getF f k).1.1 (getF f k).1.2 (flen (getF f k).2)=true/\okF (getF f k).2=true:=by
 intro f;induction f with
 | nil=>intro k _ h;simp [flen] at h
 | node b o a l r _ ihr =>
  intro k h hk;simp only [okF,zd] at h;cases k with
  | zero=>exact ⟨h.1.1,h.1.2⟩
  | succ k=>exact ihr k h.2 (by simp [flen] at hk;omega)
theorem Z90 {op n:Int}{k:Nat}(h:Z07 op n k=true)(B:4<=op):op<=15/\n=0/\k=Z0k op:=by
 unfold Z07 at h;unfold Z0k
 repeat' split at h
 all_goals simp at h
 all_goals (split <;> (try split) <;> omega)
theorem Zc7 {op n:Int}{k:Nat}(h:Z07 op n k=true):1<=op:=by
 unfold Z07 at h
 repeat' split at h
 all_goals simp at h
 all_goals omega
end Px
end
section
open Go.RowKit Lx Px
def ZdH (b:Nat)(out:Bytes)(w:World)(e:Ending)(w':World):Prop:=e=.returned (.tuple #[])/\Wd b out w'/\Below b w w'/\Okp b w w'
def PutC (a:Int × Int)(l:Fo):Prop := ∀ (least:Int) (w:World) (v:Value) (B b:Nat) (txt:Bytes),Z07 a.1 a.2 (flen l)=true->okF l=true->FoV w B v l->B<=b->Tabs B w->Wd b txt w->0<=least->least<=7 -> (txt++brk (decide (Z0b a.1<least)) (textE a.1 a.2 l)).length<=140737488355328 -> Calls prog 123 #[.pointer (some ⟨b,0,none⟩),.agg #[vI a.1,vI a.2,v],vI least] w (ZdH b (txt++brk (decide (Z0b a.1<least)) (textE a.1 a.2 l)) w)
theorem zform {B w':World}(hb:Below (B.alloc (.cells #[.string ⟨#[]⟩,slice none 0 0,.string ⟨#[]⟩,vI 0,slice none 0 0] 220)).heap.size (B.alloc (.cells #[.string ⟨#[]⟩,slice none 0 0,.string ⟨#[]⟩,vI 0,slice none 0 0] 220)).drew w') : w'.cell? ⟨B.heap.size,0,none⟩=some (.string ⟨#[]⟩)/\w'.cell? ⟨B.heap.size,1,none⟩=some (slice none 0 0)/\w'.cell? ⟨B.heap.size,2,none⟩=some (.string ⟨#[]⟩)/\w'.cell? ⟨B.heap.size,3,none⟩=some (vI 0)/\w'.cell? ⟨B.heap.size,4,none⟩=some (slice none 0 0) /\ w'.frozen? ⟨B.heap.size,0,none⟩=false/\w'.frozen? ⟨B.heap.size,1,none⟩=false/\w'.frozen? ⟨B.heap.size,2,none⟩=false/\w'.frozen? ⟨B.heap.size,3,none⟩=false/\w'.frozen? ⟨B.heap.size,4,none⟩=false:=by
 have h:w'.heap[B.heap.size]?=some (.cells #[.string ⟨#[]⟩,slice none 0 0,.string ⟨#[]⟩,vI 0,slice none 0 0] 220 (0,0)):=(hb.block B.heap.size (by simp)).trans (za B _);have f:=zO h;exact ⟨by rw [zH h];rfl,by rw [zH h];rfl,by rw [zH h];rfl,by rw [zH h];rfl,by rw [zH h];rfl,f 0,f 1,f 2,f 3,f 4⟩
theorem Z1v {b k:Nat}{l:Bytes}{w w':World}{cs:Array Value}{t:TypeId}{C:Nat × Nat}(D:Wd b l w)(h:Okp b w w')(hk:w.heap[k]?=some (.cells cs t C))(F:t≠5)(B:t≠175):w'.heap[k]?=some (.cells cs t C):=by
 refine Zjz h hk (λe=>?_) F;subst e;rcases D with ⟨_,v,hb,_⟩ | ⟨_,v,hb,_⟩
 . rw [hb] at hk;injection hk with hk;injection hk with _ hk _;exact B hk.symm
 . rw [hb] at hk;injection hk with hk;injection hk with _ hk _;exact B hk.symm
theorem ZaG.keep {w w':World}{op:Int}{D:Option Addr}{F C:Nat}(h:ZaG w op D F C)(hk:∀ (k:Nat) (cs:Array Value) (t:TypeId),(t=9\/t=3)->w.heap[k]?=some (.cells cs t (0,0))->w'.heap[k]?=some (.cells cs t (0,0))):ZaG w' op D F C:=by
 obtain ⟨B,H⟩:=h;refine ⟨?_,hk _ _ _ (.inr rfl) H⟩;rcases B with B | ⟨L,J,G,M,I⟩
 . exact .inl B
 . exact .inr ⟨L,J,G,M,hk _ _ _ (.inl rfl) I⟩
def PutG (b:Nat)(acc:Bytes)(w:World)(op n:Int)(kv:Value)(bf:Nat)(A1:Option Addr)(n1 c1 b2:Nat)(wx:World):Prop := wx.heap[bf]?=some (.cells #[.string (mk (beginOf op)),slice A1 n1 c1,.string (mk (endOf op)),vI (Z0b op),slice (some ⟨b2,0,none⟩) (Z0k op) (Z0k op)] 220 (0,0)) /\ wx.heap[w.heap.size]?=some (.cells #[vI op,vI n,kv] 79 (0,0)) /\ ZaG wx op A1 n1 b2/\Wd b acc wx/\Below b w wx/\Okp b w wx
theorem PutG.write {b:Nat}{acc J:Bytes}{w:World}{op n:Int}{I:Value}{G:Nat}{H:Option Addr}{L c1 F:Nat}{C B:World}(h:PutG b acc w op n I G H L c1 F C)(M:Wd b J B)(hb:Below b C B)(hk:Okp b C B):PutG b J w op n I G H L c1 F B:=by
 obtain ⟨T,N,S,D,R,O⟩:=h;exact ⟨Z1v D hk T (by decide) (by decide),Z1v D hk N (by decide) (by decide),S.keep (λk cs t ht hc=>Z1v D hk hc (by rcases ht with rfl | rfl <;> decide) (by rcases ht with rfl | rfl <;> decide)),M,R.trans hb,Lib.OthersKept.trans O hk⟩
theorem Z4C {b:Nat}{w w':World}(h:Below w.heap.size w w'):Okp b w w':=λk _ hk _ _=>(h.block k (zF2.1 hk).1).trans hk
theorem PutG.alloc {b:Nat}{acc:Bytes}{w:World}{op n:Int}{G:Value}{C:Nat}{F:Option Addr}{H c1 B:Nat}{D:World}(h:PutG b acc w op n G C F H c1 B D)(o:Obj):PutG b acc w op n G C F H c1 B (D.alloc o) := h.write (Zfj h.2.2.2.1 o) (((zr _ _).alloc (zn _) _).mono (zl (Z6f h.2.2.2.1))) (Z4C ((zr _ _).alloc (zn _) _))
theorem PutG.drew {b:Nat}{acc:Bytes}{w:World}{op n:Int}{G:Value}{C:Nat}{F:Option Addr}{H c1 B:Nat}{D:World}(h:PutG b acc w op n G C F H c1 B D):PutG b acc w op n G C F H c1 B D.drew := ⟨h.1,h.2.1,h.2.2.1,h.2.2.2.1,h.2.2.2.2.1.drew,h.2.2.2.2.2⟩
def PutL (b:Nat)(w:World)(op n:Int)(l:Fo)(kv:Value)(bf:Nat)(A1:Option Addr)(n1 c1 b2:Nat)(fin:Bytes)(i:Value)(wr:World):Prop := ∃ (k:Nat) (acc:Bytes),k<=flen l/\i=vI k/\PutG b acc w op n kv bf A1 n1 c1 b2 wr/\acc++Z2a (Z1c l k) op k=fin
def PutF (b:Nat)(txt:Bytes)(w:World)(op n:Int)(kv:Value)(s6 s7:Value)(wx:World):Prop := ∃ (bf:Nat) (A1:Option Addr) (n1 c1 b2:Nat),s6=.pointer (some ⟨bf,0,none⟩)/\s7=.bool true/\PutG b txt w op n kv bf A1 n1 c1 b2 wx
theorem Zfk {b:Nat}{txt:Bytes}{w C w':World}{op n:Int}{L:Value}{D:Option Addr}{F c1 B:Nat}(H:Wd b txt w)(J:C.heap[w.heap.size]?=some (.cells #[vI op,vI n,L] 79 (0,0))) (N:Below w.heap.size w C) (I:Below C.heap.size C w') (M:ZaG w' op D F B) : PutF b txt w op n L (.pointer (some ⟨w'.heap.size,0,none⟩)) (.bool true) (w'.alloc (.cells #[.string (mk (beginOf op)),slice D F c1,.string (mk (endOf op)),vI (Z0b op),slice (some ⟨B,0,none⟩) (Z0k op) (Z0k op)] 220)):=by
 have hb:=Z00 N I;have G:=hb.alloc hb.size (.cells #[.string (mk (beginOf op)),slice D F c1,.string (mk (endOf op)),vI (Z0b op),slice (some ⟨B,0,none⟩) (Z0k op) (Z0k op)] 220);refine ⟨_,D,F,c1,B,rfl,rfl,za _ _,Z0w ((I.block _ (zF2.1 J).1).trans J) _,M.keep (λk cs t _ hc=>Z0w hc _),Z3v H G,G.mono (zl (Z6f H)),Z4C G⟩
theorem Z38 {w:World}{g i:Nat}{cs:Array Value}{t:TypeId}{B:Nat × Nat}(h:w.heap[g]?=some (.cells cs t B))(v:Value):(w.setCell ⟨g,i,none⟩ v).heap[g]?=some (.cells (cs.setIfInBounds i v) t B):=by
 simp [World.setCell,zM,h]
theorem Z0n {w:World}{g i k:Nat}(hk:k≠g)(v:Value):(w.setCell ⟨g,i,none⟩ v).heap[k]?=w.heap[k]?:=zg _ _ _ _ hk
theorem ZnD {b:Nat}{txt:Bytes}{w B w':World}{op n:Int}{N:Value}{F:Option Addr}{G c1 D:Nat}(J:Wd b txt w)(L:B.heap[w.heap.size]?=some (.cells #[vI op,vI n,N] 79 (0,0))) (C:Below w.heap.size w B) (H:Below (B.alloc (.cells #[.string ⟨#[]⟩,slice none 0 0,.string ⟨#[]⟩,vI 0,slice none 0 0] 220)).heap.size (B.alloc (.cells #[.string ⟨#[]⟩,slice none 0 0,.string ⟨#[]⟩,vI 0,slice none 0 0] 220)) w') (R:ZaG w' op F G D) : PutF b txt w op n N (.pointer (some ⟨B.heap.size,0,none⟩)) (.bool true) (((((w'.setCell ⟨B.heap.size,0,none⟩ (.string (mk (beginOf op)))).setCell ⟨B.heap.size,1,none⟩ (slice F G c1)).setCell ⟨B.heap.size,2,none⟩ (.string (mk (endOf op)))).setCell ⟨B.heap.size,3,none⟩ (vI (Z0b op))).setCell ⟨B.heap.size,4,none⟩ (slice (some ⟨D,0,none⟩) (Z0k op) (Z0k op))):=by
 have M:w'.heap[B.heap.size]?=some (.cells #[.string ⟨#[]⟩,slice none 0 0,.string ⟨#[]⟩,vI 0,slice none 0 0] 220 (0,0)):=(H.block B.heap.size (by simp)).trans (za B _);have S:=(zF2.1 L).1;have hb:Below w.heap.size w w':=Z00 (C.alloc (by have:=C.size;omega) _) H;have I:Below w.heap.size w (((((w'.setCell ⟨B.heap.size,0,none⟩ (.string (mk (beginOf op)))).setCell ⟨B.heap.size,1,none⟩ (slice F G c1)).setCell ⟨B.heap.size,2,none⟩ (.string (mk (endOf op)))).setCell ⟨B.heap.size,3,none⟩ (vI (Z0b op))).setCell ⟨B.heap.size,4,none⟩ (slice (some ⟨D,0,none⟩) (Z0k op) (Z0k op))) := ((((hb.setCell (p:=⟨B.heap.size,0,none⟩) C.size _).setCell (p:=⟨B.heap.size,1,none⟩) C.size _).setCell (p:=⟨B.heap.size,2,none⟩) C.size _).setCell (p:=⟨B.heap.size,3,none⟩) C.size _).setCell (p:=⟨B.heap.size,4,none⟩) C.size _;have O:∀ k,k≠B.heap.size->(((((w'.setCell ⟨B.heap.size,0,none⟩ (.string (mk (beginOf op)))).setCell ⟨B.heap.size,1,none⟩ (slice F G c1)).setCell ⟨B.heap.size,2,none⟩ (.string (mk (endOf op)))).setCell ⟨B.heap.size,3,none⟩ (vI (Z0b op))).setCell ⟨B.heap.size,4,none⟩ (slice (some ⟨D,0,none⟩) (Z0k op) (Z0k op))).heap[k]?=w'.heap[k]?:=by intro k hk;rw [Z0n hk,Z0n hk,Z0n hk,Z0n hk,Z0n hk]
 refine ⟨_,F,G,c1,D,rfl,rfl,?_,?_,R.keep (λk cs t ht hc=>?_),Z3v J I,I.mono (zl (Z6f J)),Z4C I⟩
 . rw [Z38 (Z38 (Z38 (Z38 (Z38 M _) _) _) _) _];rfl
 . rw [O _ (by omega)];exact (H.block _ (by simp;omega)).trans (Z0w L _)
 . rw [O _ (λe=>?_)]
   . exact hc
   . subst e;rw [M] at hc;injection hc with hc;injection hc with _ hc _;rcases ht with rfl | rfl <;> exact absurd hc (by decide)
namespace Px
theorem Ze0 (op:Int):0<=Z0b op/\Z0b op<=7:=by
 unfold Z0b;repeat' split
 all_goals omega
theorem ZaH (op:Int)(k:Nat):0<=Z0s op k/\(k<=1->Z0s op k<=7):=by
 unfold Z0s;have:=Ze0 op
 repeat' split
 all_goals omega
theorem ZnE (op:Int)(k:Nat)(hk:k<Z0k op)(C:4<=op)(B:op<=15):(Za2 op)[k]?=some (Z0s op k):=by
 unfold Za2 Z0k at *
 by_cases h10:op=10
 . subst h10;simp at hk |-
   rcases (show k=0\/k=1\/k=2 by omega) with rfl | rfl | rfl <;> simp [Z0s,Z0b]
 . by_cases h15:op=15
   . subst h15;simp at hk |-;subst hk;simp [Z0s,Z0b]
   . simp [h10,h15] at hk |-
     rcases (show k=0\/k=1 by omega) with rfl | rfl <;> simp
theorem Zc8 (op:Int)(k:Nat)(hk:k<Z0k op)(D:4<=op)(C:op<=15):Z0s op k<=7:=by
 have B:=(ZaH op k).2;by_cases h10:op=10
 . subst h10;simp [Z0s,Z0b]
 . exact B (by unfold Z0k at hk;rw [zf h10] at hk;split at hk <;> omega)
theorem sep_at (op:Int)(k:Nat)(hk:k+1<Z0k op):(sepL op)[k]?=some (sepOf op (k+1)):=by
 unfold sepL Z0k at *
 by_cases h10:op=10
 . subst h10;simp at hk |-
   rcases (show k=0\/k=1 by omega) with rfl | rfl <;> simp
 . by_cases h15:op=15
   . subst h15;simp at hk
   . simp [h10,h15] at hk |-
     rcases (show k=0 by omega) with rfl;simp
end Px
theorem Z2e {w:World}{op:Int}{D:Option Addr}{G B k:Nat}(h:ZaG w op D G B)(hk:k<Z0k op)(C:4<=op)(F:op<=15):w.cell? ⟨B,k,none⟩=some (vI (Px.Z0s op k)):=by
 rw [zH h.2];simp [ZnE op k hk C F]
theorem Z6g {w:World}{op:Int}{D:Option Addr}{F G k:Nat}(h:ZaG w op D F G)(hk:k+1<Z0k op):∃ B,D=some ⟨B,0,none⟩/\k<F/\w.cell? ⟨B,k,none⟩=some (.string (mk (sepOf op (k+1)))):=by
 rcases h.1 with ⟨C,_⟩ | ⟨B,C,e,I,H⟩
 . subst C;simp [Z0k] at hk
 . refine ⟨B,e,by omega,?_⟩;rw [zH H];simp [sep_at op k hk]
theorem Zfm (a:Int × Int)(l:Fo)(y:4<=a.1)(ih:∀ k,k<flen l->PutC (getF l k).1 (getF l k).2):PutC a l:=by
 intro bt w v B b txt bO bR hv hB bS bM b7 cc bu;obtain ⟨A,c,rfl,hA⟩:=hv;obtain ⟨op,n⟩:=a;dsimp only at y bO bu |-
 obtain ⟨bg,bQ,hk⟩:=Z90 bO y;have cb:=Z6f bM;obtain ⟨HW,HA,HI,HT,HK,HN,HO⟩:=zh7 bM hA ih bS hk bQ bR;clear bM hA ih bS hk bQ bO bR;go_enter_defers func123,ntmps123;go_upto_region 1 with fail
 go_cut [6,7] from 12 (λs6 s7 wx=>PutF b txt w op n (slice A (flen l) c) s6 s7 wx)
 case first =>
  have x0:(w.alloc (.cells #[vI op,vI n,slice A (flen l) c] 79)).heap[w.heap.size]?=some (.cells #[vI op,vI n,slice A (flen l) c] 79 (0,0)):=za w _;have x1:Below w.heap.size w (w.alloc (.cells #[vI op,vI n,slice A (flen l) c] 79)):=(zr _ _).alloc (zn _) _;have x2:w.heap.size<(w.alloc (.cells #[vI op,vI n,slice A (flen l) c] 79)).heap.size:=by simp
  generalize w.alloc (.cells #[vI op,vI n,slice A (flen l) c] 79)=W1 at *
  have x3:W1.cell? ⟨w.heap.size,0,none⟩=some (vI op):=by rw [zH x0];rfl
  have x4:=World.new_ne W1 ⟨w.heap.size,0,none⟩ x3;have X0:=zh x0;clear x0;go_region_held3 (λw'=>w'.cell? ⟨w.heap.size,0,none⟩=some (vI op)) (first | with_reducible assumption | go_keep) (first | (go_at_call 169;refine (Zhg op _ y bg).mono ?_;rintro e w' ⟨r,A1,n1,c1,b2,rfl,bJ,bU,bP,hb⟩;have s0:w'.cell? ⟨w.heap.size,0,none⟩=some (vI op):=(hb.cell (p:=⟨w.heap.size,0,none⟩) (by simp;omega)).trans (by assumption);have s1:=World.new_ne w' ⟨w.heap.size,0,none⟩ s0;have b7:=bJ w' rfl;have b8:=λo=>bJ (w'.alloc o) (by rw [Lib.alloc_old _ _ _ bU]);have ca:=zh bJ;clear bJ;have b9:=hb.size;(first | (have O:=zform hb;obtain ⟨k0,k1,k2,k3,k4,j0,j1,j2,j3,j4⟩:=O) | skip);have HB:=zh hb;clear hb))
  all_goals (go_wp2_with fail)
  all_goals go_meet
  . exact Zfk HW.o X0.o x1 (((zr _ _).drew).trans HB.o) bP
  . exact Zfk HW.o X0.o x1 (((zr _ _).drew).trans HB.o) bP
  . exact ZnD HW.o X0.o x1 (((zr _ _).drew).trans HB.o) bP
 case rest =>
  obtain ⟨Y,A1,n1,c1,b2,rfl,rfl,hG⟩:=hcut;have i1:(op==1)=false:=by simp;omega
  have i2:(op==2)=false:=by simp;omega
  have i3:(op==3)=false:=by simp;omega
  have f3:wc.cell? ⟨Y,3,none⟩=some (vI (Z0b op)):=by rw [zH hG.1];rfl
  have e0:wc.cell? ⟨w.heap.size,0,none⟩=some (vI op):=by rw [zH hG.2.1];rfl
  have D:=zh hG;clear hG;by_cases hbr:Z0b op<bt
  . have d1:decide (Z0b op<bt)=true:=by simpa using hbr
    have bT:txt.length+1+(beginOf op).length+(Z2a l op 0).length+(endOf op).length+1<=140737488355328:=by have:=bu;simp only [d1,brk,textE,body,zf (show ¬ op=1 by omega),zf (show ¬ op=2 by omega),zf (show ¬ op=3 by omega),zj,zw,zx,if_true] at this;omega
    clear bu;go_wp2_with fail;refine (Z3w b txt ⟨#[40]⟩ _ D.o.2.2.2.1 (by show txt.length+1<=_;omega)).mono ?_;rintro e w3 ⟨rfl,G,F,C⟩;have bI:=D.o.write G F C;rw [show bl ⟨#[40]⟩=[40] from rfl] at bI;have bZ:w3.cell? ⟨w.heap.size,0,none⟩=some (vI op):=by rw [zH bI.2.1];rfl
    clear D G F C f3 e0;have D:=zh bI;clear bI;go_wp2_with fail;clear bZ;have f0:w3.cell? ⟨Y,0,none⟩=some (.string (mk (beginOf op))):=by rw [zH D.o.1];rfl
    go_still_tail 5,(by kernel_rfl)
    change wpList _ _ _ _ _ w3.drew;have hG1:=D.o.drew;clear f0 D;generalize w3.drew=w1 at *
    have V:=zh hG1;clear hG1;go_wp2_with fail;refine (Z3w b (txt++[40]) (mk (beginOf op)) _ V.o.2.2.2.1 (by rw [Z06];(try simp only [zj]);(try simp only [zw,zx]);omega)).mono ?_;rintro e w2 ⟨rfl,G,F,C⟩;have bh:=V.o.write G F C;rw [Z3n] at bh;have e2:w2.cell? ⟨w.heap.size,2,none⟩=some (slice A (flen l) c):=by rw [zH bh.2.1];rfl
    have bz:=zh bh;clear bh G F C V;have bY:flen l<=3:=by rw [HK.o];unfold Z0k;split <;> (try split) <;> omega
    go_wp2_with fail;go_loopw [44] (λi wr=>PutL b w op n l (slice A (flen l) c) Y A1 n1 c1 b2 ((txt++[40])++beginOf op++Z2a l op 0) i wr) (λi _=>flen l - (intOf i).toNat)
    case atStart=>exact ⟨0,_,by omega,rfl,bz.o,by rw [Z1c]⟩
    case round =>
     clear e2 bz;obtain ⟨k,acc,b0,rfl,bC,br⟩:=hrel;have D:=zh bC;have g:=zh br;clear bC br;by_cases hlt:k<flen l
     . have bD:∀ p:Addr,p.block<B->wr.cell? p=w.cell? p:=λp hp=>D.o.2.2.2.2.1.cell (by omega);obtain ⟨ad,I,c',rfl,bV,t0,t1,t2,t3⟩:=FoAt.get l A 0 k (FoAt.keep bD l A 0 HA.o) hlt;rw [Nat.zero_add] at t0 t1 t2;obtain ⟨bb,oo,hd⟩:=Z3p l k hlt;have be:=HI.o k hlt;have ba:=ZdG l k HO.o hlt;obtain ⟨⟨J,N⟩,H,bA⟩:∃ a' H,getF l k=(a',H):=⟨_,_,rfl⟩
       rw [bA] at t0 t1 t2 t3 hd be ba;dsimp only at t0 t1 t2 t3 hd be ba;have bm:Z2a (Z1c l k) op k=(if 0<k then sepOf op k else [])++brk (decide (Z0b J<Px.Z0s op k)) (textE J N H)++Z2a (Z1c l (k+1)) op (k+1):=by rw [hd];rfl
       have bv:=(ZaH op k).1;have bB:=Zc8 op k (by rw [<- HK.o];exact hlt) y bg;have d:acc.length+(if 0<k then sepOf op k else []).length+(brk (decide (Z0b J<Px.Z0s op k)) (textE J N H)).length<=140737488355328:=by have:=congrArg List.length g.o;rw [bm] at this;simp only [zj] at this;(try simp only [zw,zx] at this);omega
       obtain ⟨HR,bd,HS,T3⟩:=zh4 be ba bm t3;have bX:(ad.add (k*3)).block<wr.heap.size:=by have:=Z6f D.o.2.2.2.1;rw [Z10];omega
       have gl:=Z2e D.o.2.2.1 (by rw [<- HK.o];exact hlt) y bg;clear be ba bm t3 hd bA bD;have bG:k<Z0k op:=by rw [<- HK.o];exact hlt
       clear gl;by_cases hk0:0<k
       . obtain ⟨bs,rfl,bW,_⟩:=Z6g (k:=k - 1) D.o.2.2.1 (by omega);go_wp2_with fail;have T:=D.o.alloc (.cells #[vI J,vI N,slice I (flen H) c'] 79);have S:=za wr (.cells #[vI J,vI N,slice I (flen H) c'] 79);generalize wr.alloc (.cells #[vI J,vI N,slice I (flen H) c'] 79)=L at *
         obtain ⟨q,O⟩:∃ q,q=wr.heap.size:=⟨_,rfl⟩
         rw [<- O] at S |-
         have HQ:=zh O;clear O;obtain ⟨bs',m,_,gs⟩:=Z6g (k:=k - 1) T.2.2.1 (by omega);rw [show k - 1+1=k from by omega] at gs;injection m with m
         injection m with m _ _
         subst m;have g1:L.cell? ⟨Y,1,none⟩=some (slice (some ⟨bs,0,none⟩) n1 c1):=by rw [zH T.1];rfl
         have j:=zh T;have X:=zh S;clear T S;have b1:(0:Int)<=k - 1:=by omega
         have b3:(k:Int) - 1<(n1:Int):=by omega
         have b4:((k:Int) - 1).toNat=k - 1:=by omega
         have b5:IntKind.i64.wrap ((k:Int) - 1)=(k:Int) - 1:=zi _ (by omega);have b6:(1:Int)<=k:=by omega
         go_still_tail 9,(by kernel_rfl)
         change wpList _ _ _ _ _ L.drew;clear b1 b3 b4 b5 b6 g1 gs;have R:=j.o.drew;have bE:L.drew.heap[q]?=_:=X.o;clear j X;generalize L.drew=w5 at *
         have bc:=zh R;have bx:=zh bE;clear R bE;go_wp2_with fail;refine (Z3w b acc (mk (sepOf op k)) _ bc.o.2.2.2.1 (by rw [Z06];rw [zp hk0] at d;omega)).mono ?_;rintro e Z ⟨rfl,G,F,C⟩;have bp:=bc.o.write G F C;have bF:=Z1v bc.o.2.2.2.1 C bx.o (by decide) (by decide);rw [Z3n] at bp;have bH:=zh bp;have bj:=zh bF;clear bp bF G F C bc bx;go_wp2_with fail;have U:=bH.o;have m0:Z.cell? ⟨q,0,none⟩=some (vI J):=by rw [zH bj.o];rfl
         have m1:Z.cell? ⟨q,1,none⟩=some (vI N):=by rw [zH bj.o];rfl
         have m2:Z.cell? ⟨q,2,none⟩=some (slice I (flen H) c'):=by rw [zH bj.o];rfl
         have m4:Z.cell? ⟨Y,4,none⟩=some (slice (some ⟨b2,0,none⟩) (Z0k op) (Z0k op)):=by rw [zH U.1];rfl
         have ml:=Z2e U.2.2.1 bG y bg;clear U;have mi:(k:Int)<(Z0k op:Int):=by omega
         go_still_tail 7,(by kernel_rfl)
         change wpList _ _ _ _ _ Z.drew;clear mi m0 m1 m2 m4 ml;have R:=bH.o.drew;generalize Z.drew=w7 at *
         have M:=zh R;clear R;go_wp2_with fail;refine (HR.o (Px.Z0s op k) w7 (slice I (flen H) c') B b _ bd.o.1 bd.o.2 ⟨I,c',rfl,FoAt.keep (λp hp=>(M.o.2.2.2.2.1.cell (by omega)).trans (D.o.2.2.2.2.1.cell (by omega)).symm) H I 0 T3.o⟩ hB (HT.o.on (M.o.2.2.2.2.1.mono hB)) M.o.2.2.2.1 bv bB (by rw [zp hk0] at d;simpa [zj,Nat.add_assoc] using d)).mono ?_;rintro e w8 ⟨rfl,G,F,C⟩;have bk:=zh (M.o.write G F C);clear G F C M;go_wp2_with fail;go_roundw
         case rel=>exact ⟨k+1,_,by omega,by go_num,bk.o,by rw [<- g.o,HS.o,zp hk0];simp⟩
         case measure=>simp [intOf];omega
       . go_wp2_with fail;have T:=D.o.alloc (.cells #[vI J,vI N,slice I (flen H) c'] 79);have S:=za wr (.cells #[vI J,vI N,slice I (flen H) c'] 79);generalize wr.alloc (.cells #[vI J,vI N,slice I (flen H) c'] 79)=L at *
         obtain ⟨q,O⟩:∃ q,q=wr.heap.size:=⟨_,rfl⟩
         rw [<- O] at S |-
         obtain ⟨HQ,j,X⟩:=zh3 O T S;clear T S O;have U:=j.o;have m0:L.cell? ⟨q,0,none⟩=some (vI J):=by rw [zH X.o];rfl
         have m1:L.cell? ⟨q,1,none⟩=some (vI N):=by rw [zH X.o];rfl
         have m2:L.cell? ⟨q,2,none⟩=some (slice I (flen H) c'):=by rw [zH X.o];rfl
         have m4:L.cell? ⟨Y,4,none⟩=some (slice (some ⟨b2,0,none⟩) (Z0k op) (Z0k op)):=by rw [zH U.1];rfl
         have ml:=Z2e U.2.2.1 bG y bg;clear U;have mi:(k:Int)<(Z0k op:Int):=by omega
         go_still_tail 7,(by kernel_rfl)
         change wpList _ _ _ _ _ L.drew;clear mi m0 m1 m2 m4 ml;have R:=j.o.drew;generalize L.drew=w7 at *
         have M:=zh R;clear R;go_wp2_with fail;refine (HR.o (Px.Z0s op k) w7 (slice I (flen H) c') B b _ bd.o.1 bd.o.2 ⟨I,c',rfl,FoAt.keep (λp hp=>(M.o.2.2.2.2.1.cell (by omega)).trans (D.o.2.2.2.2.1.cell (by omega)).symm) H I 0 T3.o⟩ hB (HT.o.on (M.o.2.2.2.2.1.mono hB)) M.o.2.2.2.1 bv bB (by rw [zf hk0] at d;simpa [zj] using d)).mono ?_;rintro e w8 ⟨rfl,G,F,C⟩;have bk:=zh (M.o.write G F C);clear G F C M;go_wp2_with fail;go_roundw
         case rel=>exact ⟨k+1,_,by omega,by go_num,bk.o,by rw [<- g.o,HS.o,zf hk0];simp⟩
         case measure=>simp [intOf];omega
     . have bN:Z1c l k=.nil:=Z2A l k (by omega);have hC:=g.o;rw [bN,Z2a,List.append_nil] at hC;subst hC;clear g;have g2:wr.cell? ⟨Y,2,none⟩=some (.string (mk (endOf op))):=by rw [zH D.o.1];rfl
       go_wp2_with fail;go_still_tail 5,(by kernel_rfl)
       change wpList _ _ _ _ _ wr.drew;have hG1:=D.o.drew;clear g2 D;generalize wr.drew=w4 at *
       have V:=zh hG1;clear hG1;go_wp2_with fail;refine (Z3w b _ (mk (endOf op)) _ V.o.2.2.2.1 (by rw [Z06];(try simp only [zj]);(try simp only [zw,zx]);omega)).mono ?_;rintro e w5 ⟨rfl,G,F,C⟩;have bn:=V.o.write G F C;rw [Z3n] at bn;have bq:=zh bn;clear bn G F C V;go_wp2_with fail;have bK:txt++brk (decide (Z0b op<bt)) (textE op n l)=txt++[40]++beginOf op++Z2a l op 0++endOf op++[41]:=by simp [d1,brk,textE,body,zf (show ¬ op=1 by omega),zf (show ¬ op=2 by omega),zf (show ¬ op=3 by omega)]
       rw [bK];refine leaves_cons (f:=124) (args:=#[.pointer (some ⟨b,0,none⟩),.string ⟨#[41]⟩]) (by simp) (by simp [go_sem]) ?_;refine (ZnB b _ ⟨#[41]⟩ _ .returning bq.o.2.2.2.1 (by show _+1<=_;simp only [zj,zw,zx];omega)).mono ?_;rintro e u' w9 ⟨rfl,rfl,G,F,C⟩;have bL:=bq.o.write G F C;exact ⟨_,results_none rfl _ _ _,rfl,bL.2.2.2.1,bL.2.2.2.2.1,bL.2.2.2.2.2⟩
  . have d1:decide (Z0b op<bt)=false:=by simpa using hbr
    have bT:txt.length+(beginOf op).length+(Z2a l op 0).length+(endOf op).length<=140737488355328:=by have:=bu;simp only [d1,brk,textE,body,zf (show ¬ op=1 by omega),zf (show ¬ op=2 by omega),zf (show ¬ op=3 by omega),zj,Bool.false_eq_true,if_false] at this;omega
    clear bu;go_wp2_with fail;clear f3 e0;have f0:wc.cell? ⟨Y,0,none⟩=some (.string (mk (beginOf op))):=by rw [zH D.o.1];rfl
    go_still_tail 5,(by kernel_rfl)
    change wpList _ _ _ _ _ wc.drew;have hG1:=D.o.drew;clear f0 D;generalize wc.drew=w1 at *
    have V:=zh hG1;clear hG1;go_wp2_with fail;refine (Z3w b txt (mk (beginOf op)) _ V.o.2.2.2.1 (by rw [Z06];(try simp only [zj]);(try simp only [zw,zx]);omega)).mono ?_;rintro e w2 ⟨rfl,G,F,C⟩;have bh:=V.o.write G F C;rw [Z3n] at bh;have e2:w2.cell? ⟨w.heap.size,2,none⟩=some (slice A (flen l) c):=by rw [zH bh.2.1];rfl
    have bz:=zh bh;clear bh G F C V;have bY:flen l<=3:=by rw [HK.o];unfold Z0k;split <;> (try split) <;> omega
    go_wp2_with fail;go_loopw [44] (λi wr=>PutL b w op n l (slice A (flen l) c) Y A1 n1 c1 b2 (txt++beginOf op++Z2a l op 0) i wr) (λi _=>flen l - (intOf i).toNat)
    case atStart=>exact ⟨0,_,by omega,rfl,bz.o,by rw [Z1c]⟩
    case round =>
     clear e2 bz;obtain ⟨k,acc,b0,rfl,bC,br⟩:=hrel;have D:=zh bC;have g:=zh br;clear bC br;by_cases hlt:k<flen l
     . have bD:∀ p:Addr,p.block<B->wr.cell? p=w.cell? p:=λp hp=>D.o.2.2.2.2.1.cell (by omega);obtain ⟨ad,I,c',rfl,bV,t0,t1,t2,t3⟩:=FoAt.get l A 0 k (FoAt.keep bD l A 0 HA.o) hlt;rw [Nat.zero_add] at t0 t1 t2;obtain ⟨bb,oo,hd⟩:=Z3p l k hlt;have be:=HI.o k hlt;have ba:=ZdG l k HO.o hlt;obtain ⟨⟨J,N⟩,H,bA⟩:∃ a' H,getF l k=(a',H):=⟨_,_,rfl⟩
       rw [bA] at t0 t1 t2 t3 hd be ba;dsimp only at t0 t1 t2 t3 hd be ba;have bm:Z2a (Z1c l k) op k=(if 0<k then sepOf op k else [])++brk (decide (Z0b J<Px.Z0s op k)) (textE J N H)++Z2a (Z1c l (k+1)) op (k+1):=by rw [hd];rfl
       have bv:=(ZaH op k).1;have bB:=Zc8 op k (by rw [<- HK.o];exact hlt) y bg;have d:acc.length+(if 0<k then sepOf op k else []).length+(brk (decide (Z0b J<Px.Z0s op k)) (textE J N H)).length<=140737488355328:=by have:=congrArg List.length g.o;rw [bm] at this;simp only [zj] at this;(try simp only [zw,zx] at this);omega
       obtain ⟨HR,bd,HS,T3⟩:=zh4 be ba bm t3;have bX:(ad.add (k*3)).block<wr.heap.size:=by have:=Z6f D.o.2.2.2.1;rw [Z10];omega
       have gl:=Z2e D.o.2.2.1 (by rw [<- HK.o];exact hlt) y bg;clear be ba bm t3 hd bA bD;have bG:k<Z0k op:=by rw [<- HK.o];exact hlt
       clear gl;by_cases hk0:0<k
       . obtain ⟨bs,rfl,bW,_⟩:=Z6g (k:=k - 1) D.o.2.2.1 (by omega);go_wp2_with fail;have T:=D.o.alloc (.cells #[vI J,vI N,slice I (flen H) c'] 79);have S:=za wr (.cells #[vI J,vI N,slice I (flen H) c'] 79);generalize wr.alloc (.cells #[vI J,vI N,slice I (flen H) c'] 79)=L at *
         obtain ⟨q,O⟩:∃ q,q=wr.heap.size:=⟨_,rfl⟩
         rw [<- O] at S |-
         have HQ:=zh O;clear O;obtain ⟨bs',m,_,gs⟩:=Z6g (k:=k - 1) T.2.2.1 (by omega);rw [show k - 1+1=k from by omega] at gs;injection m with m
         injection m with m _ _
         subst m;have g1:L.cell? ⟨Y,1,none⟩=some (slice (some ⟨bs,0,none⟩) n1 c1):=by rw [zH T.1];rfl
         have j:=zh T;have X:=zh S;clear T S;have b1:(0:Int)<=k - 1:=by omega
         have b3:(k:Int) - 1<(n1:Int):=by omega
         have b4:((k:Int) - 1).toNat=k - 1:=by omega
         have b5:IntKind.i64.wrap ((k:Int) - 1)=(k:Int) - 1:=zi _ (by omega);have b6:(1:Int)<=k:=by omega
         go_still_tail 9,(by kernel_rfl)
         change wpList _ _ _ _ _ L.drew;clear b1 b3 b4 b5 b6 g1 gs;have R:=j.o.drew;have bE:L.drew.heap[q]?=_:=X.o;clear j X;generalize L.drew=w5 at *
         have bc:=zh R;have bx:=zh bE;clear R bE;go_wp2_with fail;refine (Z3w b acc (mk (sepOf op k)) _ bc.o.2.2.2.1 (by rw [Z06];rw [zp hk0] at d;omega)).mono ?_;rintro e Z ⟨rfl,G,F,C⟩;have bp:=bc.o.write G F C;have bF:=Z1v bc.o.2.2.2.1 C bx.o (by decide) (by decide);rw [Z3n] at bp;have bH:=zh bp;have bj:=zh bF;clear bp bF G F C bc bx;go_wp2_with fail;have U:=bH.o;have m0:Z.cell? ⟨q,0,none⟩=some (vI J):=by rw [zH bj.o];rfl
         have m1:Z.cell? ⟨q,1,none⟩=some (vI N):=by rw [zH bj.o];rfl
         have m2:Z.cell? ⟨q,2,none⟩=some (slice I (flen H) c'):=by rw [zH bj.o];rfl
         have m4:Z.cell? ⟨Y,4,none⟩=some (slice (some ⟨b2,0,none⟩) (Z0k op) (Z0k op)):=by rw [zH U.1];rfl
         have ml:=Z2e U.2.2.1 bG y bg;clear U;have mi:(k:Int)<(Z0k op:Int):=by omega
         go_still_tail 7,(by kernel_rfl)
         change wpList _ _ _ _ _ Z.drew;clear mi m0 m1 m2 m4 ml;have R:=bH.o.drew;generalize Z.drew=w7 at *
         have M:=zh R;clear R;go_wp2_with fail;refine (HR.o (Px.Z0s op k) w7 (slice I (flen H) c') B b _ bd.o.1 bd.o.2 ⟨I,c',rfl,FoAt.keep (λp hp=>(M.o.2.2.2.2.1.cell (by omega)).trans (D.o.2.2.2.2.1.cell (by omega)).symm) H I 0 T3.o⟩ hB (HT.o.on (M.o.2.2.2.2.1.mono hB)) M.o.2.2.2.1 bv bB (by rw [zp hk0] at d;simpa [zj,Nat.add_assoc] using d)).mono ?_;rintro e w8 ⟨rfl,G,F,C⟩;have bk:=zh (M.o.write G F C);clear G F C M;go_wp2_with fail;go_roundw
         case rel=>exact ⟨k+1,_,by omega,by go_num,bk.o,by rw [<- g.o,HS.o,zp hk0];simp⟩
         case measure=>simp [intOf];omega
       . go_wp2_with fail;have T:=D.o.alloc (.cells #[vI J,vI N,slice I (flen H) c'] 79);have S:=za wr (.cells #[vI J,vI N,slice I (flen H) c'] 79);generalize wr.alloc (.cells #[vI J,vI N,slice I (flen H) c'] 79)=L at *
         obtain ⟨q,O⟩:∃ q,q=wr.heap.size:=⟨_,rfl⟩
         rw [<- O] at S |-
         obtain ⟨HQ,j,X⟩:=zh3 O T S;clear T S O;have U:=j.o;have m0:L.cell? ⟨q,0,none⟩=some (vI J):=by rw [zH X.o];rfl
         have m1:L.cell? ⟨q,1,none⟩=some (vI N):=by rw [zH X.o];rfl
         have m2:L.cell? ⟨q,2,none⟩=some (slice I (flen H) c'):=by rw [zH X.o];rfl
         have m4:L.cell? ⟨Y,4,none⟩=some (slice (some ⟨b2,0,none⟩) (Z0k op) (Z0k op)):=by rw [zH U.1];rfl
         have ml:=Z2e U.2.2.1 bG y bg;clear U;have mi:(k:Int)<(Z0k op:Int):=by omega
         go_still_tail 7,(by kernel_rfl)
         change wpList _ _ _ _ _ L.drew;clear mi m0 m1 m2 m4 ml;have R:=j.o.drew;generalize L.drew=w7 at *
         have M:=zh R;clear R;go_wp2_with fail;refine (HR.o (Px.Z0s op k) w7 (slice I (flen H) c') B b _ bd.o.1 bd.o.2 ⟨I,c',rfl,FoAt.keep (λp hp=>(M.o.2.2.2.2.1.cell (by omega)).trans (D.o.2.2.2.2.1.cell (by omega)).symm) H I 0 T3.o⟩ hB (HT.o.on (M.o.2.2.2.2.1.mono hB)) M.o.2.2.2.1 bv bB (by rw [zf hk0] at d;simpa [zj] using d)).mono ?_;rintro e w8 ⟨rfl,G,F,C⟩;have bk:=zh (M.o.write G F C);clear G F C M;go_wp2_with fail;go_roundw
         case rel=>exact ⟨k+1,_,by omega,by go_num,bk.o,by rw [<- g.o,HS.o,zf hk0];simp⟩
         case measure=>simp [intOf];omega
     . have bN:Z1c l k=.nil:=Z2A l k (by omega);have hC:=g.o;rw [bN,Z2a,List.append_nil] at hC;subst hC;clear g;have g2:wr.cell? ⟨Y,2,none⟩=some (.string (mk (endOf op))):=by rw [zH D.o.1];rfl
       go_wp2_with fail;go_still_tail 5,(by kernel_rfl)
       change wpList _ _ _ _ _ wr.drew;have hG1:=D.o.drew;clear g2 D;generalize wr.drew=w4 at *
       have V:=zh hG1;clear hG1;go_wp2_with fail;refine (Z3w b _ (mk (endOf op)) _ V.o.2.2.2.1 (by rw [Z06];(try simp only [zj]);(try simp only [zw,zx]);omega)).mono ?_;rintro e w5 ⟨rfl,G,F,C⟩;have bn:=V.o.write G F C;rw [Z3n] at bn;have bq:=zh bn;clear bn G F C V;go_wp2_with fail;have bK:txt++brk (decide (Z0b op<bt)) (textE op n l)=txt++beginOf op++Z2a l op 0++endOf op:=by simp [d1,brk,textE,body,zf (show ¬ op=1 by omega),zf (show ¬ op=2 by omega),zf (show ¬ op=3 by omega)]
       rw [bK];exact ⟨_,results_none rfl _ _ _,rfl,bq.o.2.2.2.1,bq.o.2.2.2.2.1,bq.o.2.2.2.2.2⟩
end
section
namespace Px
open Lx
theorem Z2y (u:Nat):Lib.decDigits u=if u<10 then [UInt8.ofNat (48+u)] else Lib.decDigits (u / 10)++[UInt8.ofNat (48+u % 10)]:=by
 rw [Lib.decDigits];split <;> rfl
theorem ZjB:∀ (f u:Nat),u<10 ^ f->0<f->decF f u=Lib.decDigits u:=by
 intro f;induction f with
 | zero=>intro u _ h;omega
 | succ f ih =>
  intro u B _;rw [decF,Z2y];by_cases h:u<10
  . rw [zp h,zp h,Z5t,Nat.mod_eq_of_lt h]
  . rw [zf h,zf h];have C:0<f:=by
     cases f with
     | zero=>simp at B;omega
     | succ f=>omega
    rw [ih (u / 10) (by rw [Nat.pow_succ] at B;omega) C,Z5t]
theorem Z6h (n:Int)(B:0<=n)(C:n<=1000000000000):Lib.itoa n=dec n:=by
 unfold Lib.itoa dec;rw [zf (by omega),ZjB 20 n.toNat (by omega) (by omega)]
def digs (m:Nat):Bytes:=if m=0 then [] else Lib.decDigits m
theorem Zc9 (m:Nat)(h:0<m):digs m=digs (m / 10)++[UInt8.ofNat (48+m % 10)]:=by
 unfold digs;rw [zf (by omega),Z2y];by_cases h10:m<10
 . rw [zp h10,zp (by omega),Nat.mod_eq_of_lt h10];rfl
 . rw [zf h10,zf (by omega)]
theorem Zfn (m:Nat)(h:m<10000000000000):(digs m).length<=13:=by
 have C:∀ (k m:Nat),m<10 ^ k->(digs m).length<=k:=by
  intro k;induction k with
  | zero=>intro m B;rw [show m=0 by simpa using B];simp [digs]
  | succ k ih =>
   intro m B;by_cases h0:0<m
   . rw [Zc9 m h0,zj,List.length_singleton];have:=ih (m / 10) (by rw [Nat.pow_succ] at B;omega);omega
   . rw [show m=0 by omega];simp [digs]
 exact C 13 m (by omega)
theorem Zfp (n:Int)(C:0<n)(B:n<=1000000000000):dec n=digs n.toNat:=by
 rw [<- Z6h n (by omega) B,digs,zf (by omega),Lib.itoa,zf (by omega)]
theorem Zfq:dec 0=[48]:=by decide
theorem Z0q (n:Int)(C:0<=n)(B:n<=1000000000000):(dec n).length<=13:=by
 by_cases h:0<n
 . rw [Zfp n h B];exact Zfn _ (by omega)
 . rw [show n=0 by omega,Zfq];decide
theorem ZjC (k:Nat)(h:k<10):dec (k:Int)=[Z5t k]:=by
 have:=ZjB 20 k (by omega) (by omega);unfold dec;rw [zB,this,Z2y,zp h,Z5t,Nat.mod_eq_of_lt h]
theorem ZnF (n:Int)(D:0<=n)(F:n<=1000000000):Z32 n=dec (n / 100)++[46]++dec (n % 100 / 10)++dec (n % 10):=by
 have B:dec (n % 100 / 10)=[Z5t (n.toNat / 10)]:=by have:=ZjC (n.toNat / 10 % 10) (by omega);rw [show ((n.toNat / 10 % 10:Nat):Int)=n % 100 / 10 by omega] at this;rw [this,Z5t,Z5t];congr 3;omega
 have C:dec (n % 10)=[Z5t n.toNat]:=by have:=ZjC (n.toNat % 10) (by omega);rw [show ((n.toNat % 10:Nat):Int)=n % 10 by omega] at this;rw [this,Z5t,Z5t];congr 3;omega
 rw [B,C,Z32];simp
end Px
end
section
open Go.RowKit Lx
def Own8 (w:World)(B:Nat)(v:Value)(l:Bytes):Prop:=w.ownsRow B 5 1 v l.length (Lib.byteCells l)
theorem Z22 {w:World}{B:Nat}{v:Value}{l:Bytes}(h:Own8 w B v l):∃ A c,v=slice A l.length c:=by
 rcases h.2 with ⟨C,D⟩ | ⟨g,cap,F,C,_⟩
 . exact ⟨none,0,by rw [C,D]⟩
 . exact ⟨_,_,C⟩
theorem Z4D {C w w':World}{B:Nat}{v:Value}{l:Bytes}{G:Obj}(D:Below B C w)(I:B<=w.heap.size)(H:Own8 w B v l)(F:(w.alloc G).grownBy w' v.ownBlock):Below B C w' := (D.alloc I _).grown F (by simp;omega) (λg e=>(H.lt g e).1)
theorem Z60 (w:World)(n:Nat)(x:Value)(t:TypeId)(C:n=w.heap.size):∀ (j:Nat) (u:Value),[x][j]?=some u->(w.alloc (.cells #[x] t)).cell? ((⟨n,0,none⟩:Addr).add j)=some u:=by
 subst C;intro j u B
 match j,B with
 | 0,B=>simp at B;subst B;simp [Addr.add]
theorem Zrs (w:World)(n:Nat)(x y z:Value)(t:TypeId)(C:n=w.heap.size):∀ (j:Nat) (u:Value),[x,y,z][j]?=some u->(w.alloc (.cells #[x,y,z] t)).cell? ((⟨n,0,none⟩:Addr).add j)=some u:=by
 subst C;intro j u B
 match j,B with
 | 0,B=>simp at B;subst B;simp [Addr.add]
 | 1,B=>simp at B;subst B;simp [Addr.add]
 | 2,B=>simp at B;subst B;simp [Addr.add]
theorem Z6i (w:World)(B:Nat):Own8 w B (slice none 0 0) []:=⟨rfl,.inl ⟨rfl,rfl⟩⟩
theorem Zca {w:World}{B:Nat}{A:Option Addr}{c:Nat}{l:Bytes}(h:Own8 w B (slice A l.length c) l):(convert 96 9 (slice A l.length c)).run prog w=.ok (.string (mk l)) w:=by
 rcases h.2 with ⟨C,D⟩ | ⟨g,cap,I,C,_,H,_⟩
 . have F:l=[]:=List.length_eq_zero_iff.1 D;subst F;injection C with e1 e2 e3
   subst e1 e3;rw [run_convert_bytes_string w _ _ 5 _ _ _ underlying96 underlying5 underlying9];simp [Conv.bytesToString,mk];rfl
 . injection C with e1 e2 e3
   subst e1 e3;have:=Lib.run_convert_whole (P:=prog) w 96 5 9 underlying96 underlying5 underlying9 g 0 (mk l) (λi hi=>by
    have G:i<l.length:=by rw [Z06] at hi;exact hi
    rw [Nat.zero_add,h.cellAt i (by omega),Lib.byteCells,List.getElem?_map,zv G];rfl) c
   rw [Z06] at this;exact this
theorem Tryz.infoByte:(Tryz.prog.info? 5).map (λi=>(i.zero,i.size,i.bytes))=some (some (.int .u8 0),1,1):=by kernel_rfl
end
section
open Go.RowKit Lx Px
theorem Zb0 (n:Int)(B:Nat)(w:World)(C:0<=n)(F:n<=1000000000000)(D:Tabs B w) : Calls prog 92 #[vI n] w λe w'=>e=.returned (.string (mk (dec n)))/\Below w.heap.size w w':=by
 refine (Tryz.strconv_Itoa n (by omega) (by omega) w D.1.here).mono ?_;rintro e w' ⟨rfl,k,os,rfl⟩;rw [Z6h n C F];exact ⟨rfl,Lib.below_grow _ _ (zn _) _ _⟩
def DecL (n:Nat)(w:World)(v m:Value)(wr:World):Prop := ∃ (k:Nat) (l:Bytes),m=vI k/\k<=n/\Own8 wr w.heap.size v l/\Below w.heap.size w wr/\digs k++l.reverse=digs n
def DecR (l:Bytes)(w:World)(v i:Value)(wr:World):Prop := ∃ (k:Nat) (o:Bytes),i=vI ((k:Int) - 1)/\k<=l.length/\Own8 wr w.heap.size v o/\Below w.heap.size w wr/\o++(l.take k).reverse=l.reverse
theorem ZnG (l:Bytes)(k:Nat)(B:0<k)(hk:k<=l.length):(l.take k).reverse=l[k - 1]::(l.take (k - 1)).reverse:=by
 cases k with
 | zero=>omega
 | succ k=>rw [zT (by omega)];simp
theorem ZjD {w:World}{B:Nat}{A:Option Addr}{c:Nat}{l:Bytes}(h:Own8 w B (slice A l.length c) l)(i:Nat)(F:i<l.length):∃ g,A=some ⟨g,0,none⟩/\g<w.heap.size/\w.cell? ⟨g,i,none⟩=some (.int .u8 (l[i].toNat)):=by
 rcases h.2 with ⟨C,G⟩ | ⟨g,cap,H,C,_,D,_⟩
 . omega
 . injection C with e1 e2 e3
   subst e1;refine ⟨g,rfl,(zF2.1 D).1,?_⟩;rw [h.cellAt i (by omega),Lib.byteCells,List.getElem?_map,zv F];rfl
theorem Ze1 (n:Nat)(w:World)(h0:0<n)(j:n<=1000000000000) : Calls prog 144 #[vI n] w λe w'=>e=.returned (.string (mk (digs n)))/\Below w.heap.size w w':=by
 obtain ⟨i0,hi,y,bb,d⟩:=info_parts Tryz.infoByte;obtain ⟨f,r,bc,A⟩:=zh4 hi y bb d;clear hi y bb d;have t0:((n:Int)==0)=false:=by simp;omega
 go_enter func144,ntmps144;go_wp2_with fail;go_loopw [3,4] (λv m wr=>DecL n w v m wr) (λ_ m _=>(intOf m).toNat)
 case atStart=>exact ⟨n,[],rfl,zn _,Z6i _ _,zr _ _,by simp⟩
 case round =>
  obtain ⟨m,l,rfl,hm,D,B,X⟩:=hrel;have hl:l.length<=13:=by have j:=congrArg List.length X;have h2:=Zfn n (by omega);simp at j;omega
  have ba:=B.size;obtain ⟨H,HB,J⟩:=zh3 D B X;clear D B X;by_cases hm0:0<m
  . have t1:((m:Int) != 0)=true:=by simp;omega
    go_wp2_with (at_builtin;refine wpList_append_own _ rfl _ _ 96 rfl w.heap.size 5 i0 _ 1 1 underlying96 f.o r.o bc.o A.o rfl (by decide) _ _ _ rfl (H.o.alloc _) ⟨wr.heap.size,0,none⟩ 1 1 [.int .u8 (48+m % 10:Nat)] rfl rfl (Z60 _ _ _ _ rfl) (by simp [Value.oneCell']) (by unfold maxLen;omega) (by omega) (by simp;omega) ?_;intro Z C R O N;clear N);have T:Own8 C w.heap.size Z (l++[UInt8.ofNat (48+m % 10)]):=by
     show World.ownsRow _ _ _ _ _ _ _;rw [zj,List.length_singleton,Lib.byteCells_append];have:Lib.byteCells [UInt8.ofNat (48+m % 10)]=[.int .u8 (48+m % 10:Nat)]:=by simp only [Lib.byteCells,List.map_cons,List.map_nil,UInt8.toNat_ofNat'];rw [Nat.mod_eq_of_lt (show 48+m % 10<2 ^ 8 by omega)]
     rw [this];exact R
    have M:Below w.heap.size w C:=Z4D HB.o ba H.o O;have bd:digs (m / 10)++(l++[UInt8.ofNat (48+m % 10)]).reverse=digs n:=by rw [<- J.o,Zc9 m hm0];simp
    exact ⟨⟨m / 10,_,by go_num,by omega,T,M,bd⟩,by simp [intOf];omega⟩
  . have L:m=0:=by omega
    have U:=J.o;rw [L,show digs 0=[] from rfl,zn2] at U;have bh:=zh U;clear U J;obtain ⟨A3,c3,rfl⟩:=Z22 H.o;have t1:((m:Int) != 0)=false:=by simp;exact L
    clear L;have t2:decide ((n:Int)<0)=false:=by simp
    clear hm hm0;go_wp2_with fail;obtain ⟨F,rfl⟩:∃ W:World,W=wr:=⟨_,rfl⟩
    go_loopw [6,7] (λv i wr=>DecR l F v i wr) (λ_ i _=>(intOf i+1).toNat)
    case atStart=>exact ⟨l.length,[],by go_num,zn _,Z6i _ _,zr _ _,by simp⟩
    case round =>
     obtain ⟨k,o,rfl,hk,D,B,I⟩:=hrel;have bk:=B.size;have bm:o.length<=13:=by have:=congrArg List.length I;simp at this;omega
     obtain ⟨G,V,Y⟩:=zh3 D B I;clear D B I;by_cases hk0:0<k
     . obtain ⟨g,rfl,hg,q⟩:=ZjD H.o (k - 1) (by omega);have bf:wr.cell? ⟨g,k - 1,none⟩=some (.int .u8 (l[k - 1].toNat)):=(V.o.cell (p:=⟨g,k - 1,none⟩) hg).trans q;have b1:(0:Int)<=k - 1:=by omega
       have b2:(1:Int)<=k:=by omega
       have b3:(k:Int) - 1<(l.length:Int):=by omega
       obtain ⟨x,S⟩:∃ x:UInt8,x=l[k - 1]:=⟨_,rfl⟩
       rw [<- S] at bf;have HX:=zh S;clear S q;go_wp2_with (at_builtin;refine wpList_append_own _ rfl _ _ 96 rfl F.heap.size 5 i0 _ 1 1 underlying96 f.o r.o bc.o A.o rfl (by decide) _ _ _ rfl (G.o.alloc _) ⟨wr.heap.size,0,none⟩ 1 1 [.int .u8 x.toNat] rfl rfl (Z60 _ _ _ _ rfl) (by simp [Value.oneCell']) (by unfold maxLen;omega) (by omega) (by simp;omega) ?_;intro Z C R O N;clear N);have T:Own8 C F.heap.size Z (o++[x]):=by show World.ownsRow _ _ _ _ _ _ _;rw [zj,List.length_singleton,Lib.byteCells_append];exact R
       have M:Below F.heap.size F C:=Z4D V.o bk G.o O;have be:(o++[x])++(l.take (k - 1)).reverse=l.reverse:=by rw [<- Y.o,HX.o,ZnG l k hk0 hk];simp
       exact ⟨⟨k - 1,_,by go_num,by omega,T,M,be⟩,by simp [intOf];omega⟩
     . have bj:k=0:=by omega
       subst bj;have he:=Y.o;simp only [List.take_zero,List.reverse_nil,List.append_nil] at he;rw [bh.o] at he;obtain ⟨A4,c4,rfl⟩:=Z22 G.o;have bn:=Zca G.o;have bg:=zh he;clear he Y hk hk0;go_wp2_with fail;go_ret;rw [bg.o];exact ⟨rfl,HB.o.trans (V.o.mono ba)⟩
theorem Z0r (n:Int)(w:World)(B:0<=n)(D:n<=1000000000000) : Calls prog 144 #[vI n] w λe w'=>e=.returned (.string (mk (dec n)))/\Below w.heap.size w w':=by
 by_cases h:0<n
 . obtain ⟨k,rfl⟩:=zE2 B;rw [Zfp _ h D,zB];exact Ze1 k w (by omega) (by omega)
 . have C:n=0:=by omega
   subst C;rw [Zfq];go_enter func144,ntmps144;go_wp2_with fail;go_ret;exact ⟨rfl,zr _ _⟩
end
section
open Go.RowKit Lx Px
theorem p_bl_append (a b:ByteArray):bl (a++b)=bl a++bl b:=by simp [bl,ByteArray.data_append]
theorem Zqy {B B':Nat}{w:World}(h:Tabs B w)(hB:B<=B'):Lib.TabBelow prog B' w "internal/strconv.uint64pow10" .u64 Lib.pow10Tab:=λw' hb=>h.1 w' (hb.mono hB)
theorem Zcb (n:Int)(w:World)(B:0<=n)(C:n<=1000000000):Calls prog 210 #[vI n] w λe w'=>e=.returned (.bool true)/\w=w':=by
 go_enter func210,ntmps210;go_wp2;go_ret;exact ⟨by simp,rfl⟩
theorem Ze2 (n:Int)(w:World)(B:0<=n)(C:n<=1000000000):Calls prog 239 #[vI n] w λe w'=>e=.returned (.bool true)/\w=w':=by
 go_enter func239,ntmps239;go_wp2;go_ret;exact ⟨by simp,rfl⟩
def Zfr (n:Int)(w:World)(e:Ending)(w':World):Prop:=e=.returned (.tuple #[.string (mk (Z32 n)),vI 0])/\Below w.heap.size w w'
theorem Zb1 (n:Int)(B:Nat)(w:World)(r:0<=n)(h1:n<=1000000000)(U:Tabs B w):Calls prog 170 #[vI n] w (Zfr n w):=by
 obtain ⟨i0,Y,V,Z,H⟩:=info_parts Tryz.infoByte;obtain ⟨m,ba,bg,bb,O⟩:=zh5 Y V Z H U;clear Y V Z H U;have d0:decide (n<0)=false:=by simp;omega
 go_enter func170,ntmps170;go_wp2_with fail;refine (Zcb n _ r h1).mono ?_;rintro e w' ⟨rfl,rfl⟩;go_wp2_with fail;refine (Tryz.strconv_AppendInt_10 w.heap.size 0 (n / 100) (by omega) (by omega) (slice none 0 0) [] w (Z6i _ _) (zn _) (by omega) (Zqy O.o O.o.2.2.1)).mono ?_;rintro e L ⟨v1,rfl,N,G,_⟩;have D:Own8 L w.heap.size v1 (dec (n / 100)):=by show World.ownsRow _ _ _ _ _ _ _;rw [<- Z6h _ (by omega) (by omega)];simpa using N
 obtain ⟨A1,c1,rfl⟩:=Z22 D;have hl:=Z0q (n / 100) (by omega) (by omega);have be:=G.size;have J:=zh D;have j:=zh G;clear N D G;obtain ⟨x,T⟩:∃ x:Nat,x=(n.toNat / 10 % 10):=⟨_,rfl⟩
 obtain ⟨y,X⟩:∃ y:Nat,y=(n.toNat % 10):=⟨_,rfl⟩
 have l:n / 10 % 10=(x:Int):=by omega
 have g:n % 10=(y:Int):=by omega
 have f:x<10:=by omega
 have A:y<10:=by omega
 have HX:=zh T;have HY:=zh X;clear T X;go_wp2_with (at_builtin;refine wpList_append_own _ rfl _ _ 96 rfl w.heap.size 5 i0 _ 1 1 underlying96 m.o ba.o bg.o bb.o rfl (by decide) _ _ _ rfl (J.o.alloc _) ⟨L.heap.size,0,none⟩ 3 3 [.int .u8 46,.int .u8 (48+(x:Int)),.int .u8 (48+(y:Int))] rfl rfl (Zrs _ _ _ _ _ _ rfl) (by simp [Value.oneCell']) (by unfold maxLen;omega) (by omega) (by simp;omega) ?_;intro v' I S d q;clear q);have C:Own8 I w.heap.size v' (Z32 n):=by
  have hb:∀ z:Nat,z<10->Lib.byteCells [UInt8.ofNat (48+z)]=[.int .u8 (48+(z:Int))]:=by intro z hz;simp only [Lib.byteCells,List.map_cons,List.map_nil,UInt8.toNat_ofNat'];rw [Nat.mod_eq_of_lt (show 48+z<2 ^ 8 by omega)];rfl
  have hm:Z32 n=dec (n / 100)++([46]++[UInt8.ofNat (48+x)]++[UInt8.ofNat (48+y)]):=by rw [Z32,Z5t,Z5t,<- HX.o,<- HY.o];rfl
  rw [hm];show World.ownsRow _ _ _ _ _ _ _;rw [zj,Lib.byteCells_append,Lib.byteCells_append,Lib.byteCells_append,hb x f,hb y A];exact S
 have M:Below w.heap.size w I:=Z4D j.o be J.o d;obtain ⟨R,F⟩:∃ R,R=Z32 n:=⟨_,rfl⟩
 rw [<- F] at C;have bf:=zh F;obtain ⟨A4,c4,rfl⟩:=Z22 C;have bd:=Zca C;have bc:=zh M;clear S d C M F l g;rw [bd];simp only [Result.andThen];rw [Oper.upon_value];go_wp2_with fail;go_ret2;rw [bf.o];exact ⟨rfl,bc.o⟩
theorem ZjE (n:Int)(w:World)(D:0<=n)(G:n<=1000000000):Calls prog 189 #[vI n] w (Zfr n w):=by
 have X:decide (n<0)=false:=by simp;omega
 have C:=ZnF n D G;obtain ⟨d,B⟩:∃ m,m=Z32 n:=⟨_,rfl⟩
 rw [<- B] at C;have U:=zh C;have V:=zh B;clear C B;have S:=Z0q (n / 100) (by omega) (by omega);have L:=Z0q (n % 100 / 10) (by omega) (by omega);have l3:=Z0q (n % 10) (by omega) (by omega);have N:=Z06 (dec (n / 100));have T:=Z06 (dec (n % 100 / 10));have M:=Z06 (dec (n % 10));have l:(mk (dec (n / 100))).size<=13:=by omega
 have j:(mk (dec (n % 100 / 10))).size<=13:=by omega
 have f:(mk (dec (n % 10))).size<=13:=by omega
 clear N T M S L l3;go_enter func189,ntmps189;go_wp2_with fail;refine (Ze2 n _ D G).mono ?_;rintro e w' ⟨rfl,rfl⟩;go_wp2_with fail;refine (Z0r (n / 100) _ (by omega) (by omega)).mono ?_;rintro e Z ⟨rfl,F⟩;have J:=zh F;clear F;go_wp2_with fail;refine (Z0r (n % 100 / 10) _ (by omega) (by omega)).mono ?_;rintro e g ⟨rfl,I⟩;have O:=zh I;clear I;go_wp2_with fail;refine (Z0r (n % 10) _ (by omega) (by omega)).mono ?_;rintro e Y ⟨rfl,H⟩;have R:=zh H;clear H;go_wp2_with fail;go_ret2;refine ⟨?_,(Z00 (Z00 J.o O.o) R.o)⟩;rw [<- V.o,U.o];refine congrArg (λs=>Ending.returned (.tuple #[.string s,vI 0])) ?_;rw [<- Zb3 (_++mk (dec (n % 10)))];refine congrArg mk ?_;simp only [p_bl_append,Z3n];rfl
end
section
open Go.RowKit Lx Px
def Z79 (b:Nat)(acc:Bytes)(w:World)(op n:Int)(kv:Value)(wx:World):Prop := wx.heap[w.heap.size]?=some (.cells #[vI op,vI n,kv] 79 (0,0))/\Wd b acc wx/\Below w.heap.size w wx
def Zrt (b:Nat)(txt:Bytes)(w:World)(op n:Int)(kv:Value)(s7:Value)(wx:World):Prop:=s7=.bool false/\Z79 b txt w op n kv wx
theorem Zcc {b:Nat}{txt:Bytes}{w B w':World}{op n:Int}{G:Value}(H:Wd b txt w)(F:B.heap[w.heap.size]?=some (.cells #[vI op,vI n,G] 79 (0,0))) (I:Below w.heap.size w B) (C:Below B.heap.size B w') (o:Obj):Zrt b txt w op n G (.bool false) (w'.alloc o):=by
 have hb:=Z00 I C;have D:=hb.alloc hb.size o;exact ⟨rfl,Z0w ((C.block _ (zF2.1 F).1).trans F) _,Z3v H D,D⟩
theorem ZjF {b:Nat}{txt:Bytes}{w B w':World}{op n:Int}{N:Value}{o:Obj}(R:Wd b txt w)(M:B.heap[w.heap.size]?=some (.cells #[vI op,vI n,N] 79 (0,0))) (C:Below w.heap.size w B) (H:Below (B.alloc o).heap.size (B.alloc o) w') (F I L G O:Value) : Zrt b txt w op n N (.bool false) (((((w'.setCell ⟨B.heap.size,0,none⟩ F).setCell ⟨B.heap.size,1,none⟩ I).setCell ⟨B.heap.size,2,none⟩ L).setCell ⟨B.heap.size,3,none⟩ G).setCell ⟨B.heap.size,4,none⟩ O):=by
 have S:=(zF2.1 M).1;have hb:Below w.heap.size w w':=Z00 (C.alloc (by have:=C.size;omega) _) H;have J:Below w.heap.size w (((((w'.setCell ⟨B.heap.size,0,none⟩ F).setCell ⟨B.heap.size,1,none⟩ I).setCell ⟨B.heap.size,2,none⟩ L).setCell ⟨B.heap.size,3,none⟩ G).setCell ⟨B.heap.size,4,none⟩ O) := ((((hb.setCell (p:=⟨B.heap.size,0,none⟩) C.size _).setCell (p:=⟨B.heap.size,1,none⟩) C.size _).setCell (p:=⟨B.heap.size,2,none⟩) C.size _).setCell (p:=⟨B.heap.size,3,none⟩) C.size _).setCell (p:=⟨B.heap.size,4,none⟩) C.size _;refine ⟨rfl,?_,Z3v R J,J⟩;have D:w.heap.size≠B.heap.size:=by omega
 rw [Z0n D,Z0n D,Z0n D,Z0n D,Z0n D];exact (H.block _ (by simp;omega)).trans (Z0w M _)
theorem Z79.on {b:Nat}{txt:Bytes}{w B D:World}{op n:Int}{C:Value}(h:Z79 b txt w op n C B)(hb:Below B.heap.size B D):Z79 b txt w op n C D := ⟨(hb.block _ (zF2.1 h.1).1).trans h.1,Z3v h.2.1 hb,Z00 h.2.2 hb⟩
theorem Z79.cell1 {b:Nat}{txt:Bytes}{w B:World}{op n:Int}{C:Value}(h:Z79 b txt w op n C B):B.cell? ⟨w.heap.size,1,none⟩=some (vI n):=by rw [zH h.1];rfl
theorem Z79.cell1' {b:Nat}{txt:Bytes}{w B C:World}{op n:Int}{D:Value}(h:Z79 b txt w op n D B)(hk:Okp b B C):C.cell? ⟨w.heap.size,1,none⟩=some (vI n):=by
 rw [zH (Z1v h.2.1 hk h.1 (by decide) (by decide))];rfl
theorem Z7a {b:Nat}{txt D:Bytes}{w C B:World}{op n:Int}{G:Value}(h:Z79 b txt w op n G C)(hb:b<w.heap.size)(F:Wd b D B)(H:Below b C B)(hk:Okp b C B):ZdH b D w (.returned (.tuple #[])) B := ⟨rfl,F,(h.2.2.mono (zl hb)).trans H,Lib.OthersKept.trans (Z4C h.2.2) hk⟩
theorem Zfs (a:Int × Int)(l:Fo)(y:a.1<=3):PutC a l:=by
 intro bk w v B b txt O be hv hB bd f bj bq G;obtain ⟨A,c,rfl,hA⟩:=hv;obtain ⟨op,n⟩:=a;dsimp only at y O G |-
 have bf:=Zc7 O;have V:=Z6f f;have bb:Z0b op=7:=by unfold Z0b;repeat' split;all_goals omega
 have hd:decide (Z0b op<bk)=false:=by rw [bb];simp;omega
 rw [hd] at G |-
 simp only [brk,Bool.false_eq_true,if_false,textE,body] at G |-
 obtain ⟨S,U,d⟩:=zh3 f bd O;clear f hA bd O be bb hd;go_enter_defers func123,ntmps123;go_upto_region 1 with fail
 go_cut [6,7] from 12 (λ_ s7 wx=>Zrt b txt w op n (slice A (flen l) c) s7 wx)
 case first =>
  have Z:(w.alloc (.cells #[vI op,vI n,slice A (flen l) c] 79)).heap[w.heap.size]?=some (.cells #[vI op,vI n,slice A (flen l) c] 79 (0,0)):=za w _;have g:Below w.heap.size w (w.alloc (.cells #[vI op,vI n,slice A (flen l) c] 79)):=(zr _ _).alloc (zn _) _;have x2:w.heap.size<(w.alloc (.cells #[vI op,vI n,slice A (flen l) c] 79)).heap.size:=by simp
  generalize w.alloc (.cells #[vI op,vI n,slice A (flen l) c] 79)=W1 at *
  have x3:W1.cell? ⟨w.heap.size,0,none⟩=some (vI op):=by rw [zH Z];rfl
  have x4:=World.new_ne W1 ⟨w.heap.size,0,none⟩ x3;have T:=zh Z;clear Z;go_region_held3 (λw'=>w'.cell? ⟨w.heap.size,0,none⟩=some (vI op)) (first | with_reducible assumption | go_keep) (first | (go_at_call 169;refine (Zhh op _ bf y).mono ?_;rintro e w' ⟨r,rfl,R,bg,hb⟩;have s0:w'.cell? ⟨w.heap.size,0,none⟩=some (vI op):=(hb.cell (p:=⟨w.heap.size,0,none⟩) (by simp;omega)).trans (by assumption);have s1:=World.new_ne w' ⟨w.heap.size,0,none⟩ s0;have bj:=R w' rfl;have bn:=λo=>R (w'.alloc o) (by rw [Lib.alloc_old _ _ _ bg]);have bm:=zh R;clear R;have bp:=hb.size;(first | (have hq:=zform hb;obtain ⟨k0,k1,k2,k3,k4,j0,j1,j2,j3,j4⟩:=hq) | skip);have j:=zh hb;clear hb))
  all_goals (go_wp2_with fail)
  all_goals go_meet
  . exact Zcc S.o T.o g (((zr _ _).drew).trans j.o) _
  . exact Zcc S.o T.o g (((zr _ _).drew).trans j.o) _
  . exact ZjF S.o T.o g (((zr _ _).drew).trans j.o) _ _ _ _ _
 case rest =>
  obtain ⟨rfl,N⟩:=hcut;have e0:wc.cell? ⟨w.heap.size,0,none⟩=some (vI op):=by rw [zH N.1];rfl
  have e1:wc.cell? ⟨w.heap.size,1,none⟩=some (vI n):=by rw [zH N.1];rfl
  have D:=zh N;clear N;rcases (show op=1\/op=2\/op=3 by omega) with rfl | rfl | rfl
  . have L:0<=n/\n<=999999999:=by have:=d.o;simp [Z07] at this;omega
    simp only [if_true] at G;go_wp2_with fail;clear e0;go_region_held3 (λw'=>w'.cell? ⟨w.heap.size,1,none⟩=some (vI n)) (first | with_reducible assumption | go_keep) (first
      | (go_at_call 92;refine (Zb0 n B _ L.1 (by omega) (U.o.on (D.o.2.2.drew.mono (by omega)))).mono ?_;rintro e w2 ⟨rfl,M⟩;have Y:=Z79.on D.o (((zr _ _).drew).trans M);have s2:=Y.cell1;have I:=zh Y;clear M Y)
      | (go_at_call 124;refine (Z3w b txt (mk (dec n)) _ I.o.2.1 (by rw [Z06];simpa [zj] using G)).mono ?_;rintro e q ⟨rfl,C,H,F⟩;rw [Z3n] at C;have hP:=Z7a I.o V C H F;have s3:=Z79.cell1' I.o F;have J:=zh hP;clear C H F hP))
    go_wp2_with fail;exact ⟨_,results_none rfl _ _ _,J.o⟩
  . have L:0<=n/\n<=1000000000:=by have:=d.o;simp [Z07] at this;omega
    have X:txt.length+(Z32 n).length<=140737488355328:=by simpa [zj] using G
    clear G;go_wp2_with fail;refine (Zb1 n B _ L.1 L.2 (U.o.on (D.o.2.2.mono (by omega)))).mono ?_;rintro e w2 ⟨rfl,M⟩;have I:=zh (Z79.on D.o M);clear M D;go_wp2_with fail;refine (Z3w b txt (mk (Z32 n)) _ I.o.2.1 (by rw [Z06];exact X)).mono ?_;rintro e q ⟨rfl,C,H,F⟩;rw [Z3n] at C;have J:=zh (Z7a I.o V C H F);clear C H F;go_wp2_with fail;exact ⟨_,results_none rfl _ _ _,J.o⟩
  . have L:1<=n/\n<=4:=by have:=d.o;simp [Z07] at this;omega
    have X:txt.length+(Z5A n).length<=140737488355328:=by simpa [zj] using G
    clear G;obtain ⟨k,rfl⟩:=zE2 (show 0<=n by omega);have m:=U.o.on (D.o.2.2.mono (by omega));have bh:=m.2.2.2 k (by omega) (by omega);have b1:(0:Int)<=k:=by omega
    have b2:(k:Int)<5:=by omega
    have b3:k<5:=by omega
    clear m;go_wp2_with fail;go_still_tail 7,(by kernel_rfl)
    change wpList _ _ _ _ _ wc.drew;have bc:Z79 b txt w 3 k (slice A (flen l) c) wc.drew:=⟨D.o.1,D.o.2.1,D.o.2.2.drew⟩
    clear e0 e1 D bh;generalize wc.drew=w1 at *
    have ba:=zh bc;clear bc;go_wp2_with fail;refine (Z3w b txt (mk (Z5A k)) _ ba.o.2.1 (by rw [Z06];exact X)).mono ?_;rintro e q ⟨rfl,C,H,F⟩;rw [Z3n] at C;have J:=zh (Z7a ba.o V C H F);clear C H F;go_wp2_with fail;exact ⟨_,results_none rfl _ _ _,J.o⟩
theorem Zru (f:Fo):∀ k,k<flen f->PutC (getF f k).1 (getF f k).2:=by
 induction f with
 | nil=>intro k h;simp [flen] at h
 | node b o a l r ihl ihr =>
  intro k h;cases k with
  | zero =>
   by_cases ho:a.1<=3
   . exact Zfs a l ho
   . exact Zfm a l (by omega) ihl
  | succ k=>exact ihr k (by simp [flen] at h;omega)
theorem ZjG (a:Int × Int)(l:Fo):PutC a l:=by
 by_cases ho:a.1<=3
 . exact Zfs a l ho
 . exact Zfm a l (by omega) (Zru l)
end
section
namespace Px
open Lx
def Z1u:Fo->Nat
 | .nil=>0
 | .node _ _ _ l r=>Z1u l+Z1u r+1
theorem Zhi:∀ (f:Fo) (C B x:Int),Z1D f C B=(true,x)->(Z1u f:Int)=B - x:=by
 intro f;induction f with
 | nil=>intro C B x h;simp [Z1D] at h;simp [Z1u];omega
 | node b o a l r ihl ihr =>
  intro C B x h;rw [Z1D] at h;split at h
  . simp at h
  . split at h
    . simp at h
    . rename_i y e;have D:=ihl _ _ _ e;have F:=ihr _ _ _ h;simp only [Z1u];omega
theorem Zcd:∀ (f:Fo) (k:Nat),k<flen f->Z1u (getF f k).2+1<=Z1u f:=by
 intro f;induction f with
 | nil=>intro k h;simp [flen] at h
 | node b o a l r _ ihr =>
  intro k h;cases k with
  | zero=>simp [getF,Z1u]
  | succ k=>have:=ihr k (by simp [flen] at h;omega);simp only [getF,Z1u];omega
theorem ZjH (op:Int):(beginOf op).length+(endOf op).length<=5:=by
 unfold beginOf endOf
 repeat' split
 all_goals simp
theorem Zrv (op:Int)(i:Nat):(sepOf op i).length<=6:=by
 unfold sepOf
 repeat' split
 all_goals simp
theorem ZnH (n:Int):(Z5A n).length<=7:=by
 unfold Z5A
 repeat' split
 all_goals simp
theorem Ze3 (b:Bool)(t:Bytes):(brk b t).length<=t.length+2:=by
 unfold brk;split <;> simp
theorem Zft {op n:Int}{k:Nat}(h:Z07 op n k=true)(t:Bytes):(body op n t).length<=t.length+16:=by
 unfold body;split
 . next e=>subst e;simp [Z07] at h;have:=Z0q n (by omega) (by omega);omega
 . split
   . next e=>subst e;simp [Z07] at h;have:=Z0q (n / 100) (by omega) (by omega);simp [Z32];omega
   . split
     . have:=ZnH n;omega
     . have:=ZjH op;simp;omega
theorem Zp0:∀ (f:Fo) (B:Int) (i:Nat),okF f=true->(Z2a f B i).length<=24*Z1u f:=by
 intro f;induction f with
 | nil=>intro B i _;simp [Z2a,Z1u]
 | node b o a l r ihl ihr =>
  intro B i h;simp only [okF,zd] at h;have H:=ihl a.1 0 h.1.2;have C:=ihr B (i+1) h.2;have G:=Zft h.1.1 (Z2a l a.1 0);have F:=Ze3 (decide (Z0b a.1<Z0s B i)) (body a.1 a.2 (Z2a l a.1 0));have D:(if 0<i then sepOf B i else []).length<=6:=by split <;> first | exact Zrv _ _ | simp
  simp only [Z2a,zj,Z1u];omega
theorem Z2z (op n:Int)(l:Fo)(h:Z07 op n (flen l)=true)(B:okF l=true):(textE op n l).length<=24*(Z1u l+1):=by
 have C:=Zp0 l op 0 B;have D:=Zft h (Z2a l op 0);unfold textE;omega
theorem Z1m {op n:Int}{l:Fo}(h:Z0f op n l=true):Z07 op n (flen l)=true/\okF l=true/\Z1u l<=199:=by
 unfold Z0f at h;obtain ⟨x,B⟩:∃ x,Z1D (.node 0 0 (op,n) l .nil) 30 200=(true,x):=by
  cases hf:Z1D (.node 0 0 (op,n) l .nil) 30 200 with
  | mk b x=>rw [hf] at h;exact ⟨x,by rw [show b=true from h]⟩
 have C:=okF_of _ _ _ _ B;have D:=Zhi _ _ _ _ B;have F:0<=x:=by
  rw [Z1D] at B;split at B
  . simp at B
  . rename_i G;split at B
    . simp at B
    . rename_i y e;have:=Z8e l _ _ _ e (by omega);simp [Z1D] at B;omega
 simp only [okF,zd,and_true,Z1u] at C D;exact ⟨C.1,C.2,by omega⟩
def kidT:Fo->Int->Nat->List Bytes
 | .nil,_,_=>[]
 | .node _ _ a l r,par,i=>brk (decide (Z0b a.1<Z0s par i)) (textE a.1 a.2 l)::kidT r par (i+1)
theorem Zrw (l:Fo)(op:Int)(h:flen l=1):∃ t,kidT l op 0=[t]/\Z2a l op 0=t:=by
 match l,h with
 | .node _ _ a l' .nil,_=>exact ⟨_,rfl,by simp [Z2a,textE]⟩
 | .node _ _ a l' (.node _ _ _ _ _),h=>simp [flen] at h
theorem Ze4 (l:Fo)(op:Int)(h:flen l=2):∃ t u,kidT l op 0=[t,u]/\Z2a l op 0=t++sepOf op 1++u:=by
 match l,h with
 | .node _ _ a l1 .nil,h=>simp [flen] at h
 | .node _ _ a l1 (.node _ _ b l2 .nil),_=>exact ⟨_,_,rfl,by simp [Z2a,textE]⟩
 | .node _ _ a l1 (.node _ _ b l2 (.node _ _ _ _ _)),h=>simp [flen] at h
theorem Zk0 (l:Fo)(op:Int)(h:flen l=3):∃ t u v,kidT l op 0=[t,u,v]/\Z2a l op 0=t++sepOf op 1++u++sepOf op 2++v:=by
 match l,h with
 | .node _ _ a l1 .nil,h=>simp [flen] at h
 | .node _ _ a l1 (.node _ _ b l2 .nil),h=>simp [flen] at h
 | .node _ _ a l1 (.node _ _ b l2 (.node _ _ c l3 .nil)),_=>exact ⟨_,_,_,rfl,by simp [Z2a,textE]⟩
 | .node _ _ a l1 (.node _ _ b l2 (.node _ _ c l3 (.node _ _ _ _ _))),h=>simp [flen] at h
end Px
end
section
open Go.RowKit Lx Px
namespace Px
end Px
theorem FoAt.up {w:World}{B D:Nat}(h:B<=D):∀ (f:Fo) (A:Option Addr) (k:Nat),FoAt w B f A k->FoAt w D f A k:=by
 intro f;induction f with
 | nil=>intro A k _;trivial
 | node b o a l r ihl ihr =>intro A k H;obtain ⟨⟨ad,C,c,e,M,F,L,G,I⟩,J⟩:=H;exact ⟨⟨ad,C,c,e,by omega,F,L,G,ihl C 0 I⟩,ihr A (k+1) J⟩
theorem FoV.on {w w':World}{B:Nat}{v:Value}{l:Fo}(h:FoV w B v l)(hb:Below B w w'):FoV w' B v l:=by
 obtain ⟨A,c,e,C⟩:=h;exact ⟨A,c,e,FoAt.keep (λp hp=>hb.cell hp) l A 0 C⟩
theorem FoV.up {w:World}{B C:Nat}{v:Value}{l:Fo}(h:FoV w B v l)(D:B<=C):FoV w C v l:=by
 obtain ⟨A,c,e,F⟩:=h;exact ⟨A,c,e,FoAt.up D l A 0 F⟩
end
section
open Go.RowKit Lx Px
theorem Z4f {k:IntKind}{a b:Int}(h:a=b):Ending.returned (.int k a)=.returned (.int k b):=by rw [h]
theorem Z04 {B:Nat}{w w':World}(h:Below B w w')(n:Nat):Below B w (w'.drewN n):=⟨h.os,h.tape,h.output,h.size,h.block⟩
theorem Zhj:∀ f:Fo,flen f<=Z1u f:=by
 intro f;induction f with
 | nil=>simp [flen,Z1u]
 | node b o a l r _ ihr=>simp only [flen,Z1u];omega
def Two (w:World)(o1 o2:Obj)(wx:World):Prop:=wx.heap[w.heap.size]?=some o1/\wx.heap[w.heap.size+1]?=some o2/\Below w.heap.size w wx
theorem Two.on {w B F:World}{C D:Obj}(h:Two w C D B)(hb:Below B.heap.size B F):Two w C D F := ⟨(hb.block _ (zF2.1 h.1).1).trans h.1,(hb.block _ (zF2.1 h.2.1).1).trans h.2.1,Z00 h.2.2 hb⟩
theorem Two.drew {w B:World}{C D:Obj}(h:Two w C D B):Two w C D B.drew:=⟨h.1,h.2.1,h.2.2.drew⟩
theorem Two.cell1 {w B:World}{D:Obj}{cs:Array Value}{F:TypeId}{z:Nat × Nat}(h:Two w (.cells cs F z) D B)(i:Nat)(v:Value)(C:cs[i]?=some v):B.cell? ⟨w.heap.size,i,none⟩=some v:=by
 rw [zH h.1,C]
theorem Two.cell2 {w B:World}{D:Obj}{cs:Array Value}{F:TypeId}{z:Nat × Nat}(h:Two w D (.cells cs F z) B)(i:Nat)(v:Value)(C:cs[i]?=some v):B.cell? ⟨w.heap.size+1,i,none⟩=some v:=by
 rw [zH h.2.1,C]
end
section
open Go.RowKit Lx Px
namespace Px
def ratB (n d:Int):Bool:=decide (1<=d)&&decide (d<=1000000)&&decide (-1000000000<=n)&&decide (n<=1000000000)&&(Nat.gcd n.natAbs d.natAbs==1)
theorem Z8d (a b:Nat)(_h:0<b):Nat.gcd a b=Nat.gcd b (a % b):=by
 rw [Nat.gcd_comm a b,Nat.gcd_rec b a,Nat.gcd_comm]
end Px
theorem Zrx {n d:Int}{g:Nat}(C:0<g)(B:1<=d):(n.tdiv g=n/\d.tdiv g=d) ↔ g=1:=by
 constructor
 . rintro ⟨_,h⟩;rw [Int.tdiv_eq_ediv_of_nonneg (by omega)] at h;by_cases h1:g=1
   . exact h1
   . have:=Int.ediv_lt_self_of_pos_of_ne_one (x:=d) (y:=g) (by omega) (by omega);omega
 . rintro rfl;simp
theorem Zp1 (a b:Nat)(w:World)(F:a<=2000000000)(hb:b<=2000000000):Calls prog 100 #[vI a,vI b] w λe w'=>e=.returned (vI (Nat.gcd a b))/\w=w':=by
 go_enter func100,ntmps100;go_wp2_with fail;go_loop [0,1] (λx y=>∃ p q:Nat,x=vI p/\y=vI q/\p<=2000000000/\q<=2000000000/\Hid (Nat.gcd p q=Nat.gcd a b)) (λ_ y=>(intOf y).toNat)
 case atStart=>exact ⟨a,b,rfl,rfl,F,hb,rfl⟩
 case round =>
  obtain ⟨p,q,rfl,rfl,I,G,C⟩:=hrel;by_cases h0:0<q
  . have t:((q:Int) != 0)=true:=by simp;omega
    have L:p % q<q:=Nat.mod_lt _ h0;have J:((p:Int) % (q:Int))=((p % q:Nat):Int):=by simp
    go_wp2_with fail;go_round
    case rel=>exact ⟨q,p % q,rfl,by first | rfl | simp,G,by omega,by rw [<- C.o,Z8d p q h0];rfl⟩
    case measure=>simp [intOf];omega
  . have t:((q:Int) != 0)=false:=by simp;omega
    have D:q=0:=by omega
    have B:=C.o;rw [D,Nat.gcd_zero_right] at B;have H:=zh B;clear B C D;go_wp2_with fail;go_ret;rw [<- H.o];exact ⟨rfl,rfl⟩
theorem Zp2 (n:Int)(w:World)(B : -1000000000<=n)(C:n<=1000000000):Calls prog 101 #[vI n] w λe w'=>e=.returned (vI (n.natAbs:Nat))/\w=w':=by
 by_cases h:n<0
 . have d:decide (n<0)=true:=by simpa using h
   go_enter func101,ntmps101;go_wp2_with fail;go_ret;exact ⟨Z4f (by omega),rfl⟩
 . have d:decide (n<0)=false:=by simpa using h
   go_enter func101,ntmps101;go_wp2_with fail;go_ret;exact ⟨Z4f (by omega),rfl⟩
theorem Zce (n:Int)(w:World)(B : -1000000000<=n)(C:n<=1000000000):Calls prog 136 #[vI n] w λe w'=>e=.returned (vI (n.natAbs:Nat))/\w=w':=by
 go_enter func136,ntmps136;go_wp2_with fail;go_ret;exact ⟨Z4f (by omega),rfl⟩
theorem Zhk (k:Nat):∀ (a b:Nat) (p:Addr) (w:World),b<=k->a<=2000000000->b<=2000000000->w.cell? p=some (.func (.func 209) #[] #[.pointer (some p)]) -> Calls prog 209 #[vI a,vI b,.pointer (some p)] w λe w'=>e=.returned (vI (Nat.gcd a b))/\∃ m,w'=w.drewN m:=by
 induction k with
 | zero =>
  intro a b p w hk H hb F;have B:b=0:=by omega
  subst B;rw [Nat.gcd_zero_right];go_enter func209,ntmps209;go_wp2_with fail;go_ret;exact ⟨rfl,0,rfl⟩
 | succ k ih =>
  intro a b p w hk H hb F;by_cases B:0<b
  . have t:((b:Int)==0)=false:=by simp;omega
    obtain ⟨r,C⟩:∃ r,r=a % b:=⟨_,rfl⟩
    have R:r<b:=by rw [C];exact Nat.mod_lt _ B
    have I:((a:Int) % (b:Int))=(r:Int):=by rw [C];simp
    have M:(a:Int).tmod (b:Int)=(r:Int):=by rw [Int.tmod_eq_emod_of_nonneg (by omega)];exact I
    have D:=Z8d a b B;rw [<- C] at D;have L:=zh D;have J:=zh ih;clear D ih C;have O:¬ (b:Int)=0:=by omega
    have N:(0:Int)<=a:=by omega
    go_enter func209,ntmps209;go_wp2_with fail;go_quiet ((go_at_call 209;exact Calls.quiet_of (J.o b r p _ (by omega) (by omega) (by omega) (by simpa using F))));go_wp2_with fail;go_ret;rw [L.o];exact ⟨rfl,_,rfl⟩
  . have G:b=0:=by omega
    subst G;rw [Nat.gcd_zero_right];go_enter func209,ntmps209;go_wp2_with fail;go_ret;exact ⟨rfl,0,rfl⟩
theorem Z91 (n d:Int)(w:World)(X : -1000000000<=n)(l:n<=1000000000)(h2:1<=d)(h3:d<=1000000) : Calls prog 167 #[.agg #[vI n,vI d]] w λe w'=>e=.returned (.agg #[vI (n.tdiv (Nat.gcd n.natAbs d.natAbs:Nat)),vI (d.tdiv (Nat.gcd n.natAbs d.natAbs:Nat))])/\Below w.heap.size w w':=by
 have A:∀ (fn:Fn) (first cap:Array Value) (w:World),(Instr.makeFunc fn first cap).run prog w=.ok (.func fn first cap) w:=λ_ _ _ _=>rfl;obtain ⟨B,rfl⟩:=zE2 (show 0<=d by omega);obtain ⟨g,G⟩:∃ g,g=Nat.gcd n.natAbs B:=⟨_,rfl⟩
 have ba:0<g:=by rw [G];exact Nat.gcd_pos_of_pos_right _ (by omega)
 have bb:g<=B:=by rw [G];exact Nat.le_of_dvd (by omega) (Nat.gcd_dvd_right _ _)
 rw [Int.natAbs_natCast,<- G];have O:=zh G;clear G;have j:(Nat.gcd n.natAbs B:Int)=(g:Int):=by rw [O.o]
 go_enter func167,ntmps167;go_wp2_with fail;go_quiet (first | (go_at_call 136;exact Calls.quiet_of_same ((Zce n _ X l).mono λ_ _ h=>⟨h.1,h.2.symm⟩)) | (go_at_call 209;exact Calls.quiet_of (Zhk B n.natAbs B ⟨w.heap.size+1+1,0,none⟩ _ (zn _) (by omega) (by omega) (by simp [go_sem]))));go_wp2_with fail;rw [show n.natAbs.gcd B=g from O.o.symm];obtain ⟨W,D⟩:∃ W,W=(((w.alloc (.cells #[vI n,vI B] 196)).alloc (.cells #[vI 0,vI 0] 196)).alloc (.cells #[.func (.func 209) #[] #[.pointer (some ⟨w.heap.size+1+1,0,none⟩)]] 71)).drewN nq:=⟨_,rfl⟩
 rw [<- D];have c0:W.cell? ⟨w.heap.size,0,none⟩=some (vI n):=by rw [D];simp [go_sem]
 have c1:W.cell? ⟨w.heap.size,1,none⟩=some (vI B):=by rw [D];simp [go_sem]
 have R:W.heap[w.heap.size+1]?=some (.cells #[vI 0,vI 0] 196 (0,0)):=by rw [D];show (((w.alloc _).alloc _).alloc _).heap[w.heap.size+1]?=_;have:=Z0w (za (w.alloc (.cells #[vI n,vI B] 196)) (.cells #[vI 0,vI 0] 196)) (.cells #[.func (.func 209) #[] #[.pointer (some ⟨w.heap.size+1+1,0,none⟩)]] 71);simpa using this
 have L:Below w.heap.size w W:=by rw [D];exact Z04 ((((zr _ _).alloc (zn _) _).alloc (by simp) _).alloc (by simp;omega) _) _
 have N:=zh L;have I:=zh R;clear D L R A j;have hz:¬ g=0:=by omega
 go_still_tail 9,(by kernel_rfl)
 change wpList _ _ _ _ _ W.drew;have M:=N.o.drew;have C:W.drew.heap[w.heap.size+1]?=_:=I.o;clear N I c0 c1;generalize W.drew=F at *
 have Y:F.cell? ⟨w.heap.size+1,0,none⟩=some (vI 0):=by rw [zH C];rfl
 have r1:F.cell? ⟨w.heap.size+1,1,none⟩=some (vI 0):=by rw [zH C];rfl
 have V:=zO C 0;have T:=zO C 1;have m:=zh M;have y:=zh C;clear M C;go_wp2_with fail;have q:(0:Int)<=B / (g:Int):=Int.ediv_nonneg (by omega) (by omega);have f:(B:Int) / (g:Int)<=B:=Int.ediv_le_self _ (by omega);have hw:wrap64 ((B:Int) / (g:Int))=(B:Int).tdiv (g:Int):=by rw [IntWalk.wrap64_in _ ⟨by omega,by omega⟩,Int.tdiv_eq_ediv_of_nonneg (by omega)]
 rw [hw];have H:((F.setCell ⟨w.heap.size+1,0,none⟩ (vI (n.tdiv g))).setCell ⟨w.heap.size+1,1,none⟩ (vI ((B:Int).tdiv g))).heap[w.heap.size+1]?=some (.cells #[vI (n.tdiv g),vI ((B:Int).tdiv g)] 196 (0,0)):=by rw [Z38 (Z38 y.o _) _];rfl
 have J:Below w.heap.size w ((F.setCell ⟨w.heap.size+1,0,none⟩ (vI (n.tdiv g))).setCell ⟨w.heap.size+1,1,none⟩ (vI ((B:Int).tdiv g))) := (m.o.setCell (p:=⟨w.heap.size+1,0,none⟩) (by show _<=_+1;omega) _).setCell (p:=⟨w.heap.size+1,1,none⟩) (by show _<=_+1;omega) _;have r:=zh J;clear hw q f J Y r1 V T;generalize (F.setCell ⟨w.heap.size+1,0,none⟩ (vI (n.tdiv g))).setCell ⟨w.heap.size+1,1,none⟩ (vI ((B:Int).tdiv g))=S at *
 have U:S.cell? ⟨w.heap.size+1,0,none⟩=some (vI (n.tdiv g)):=by rw [zH H];rfl
 have Z:S.cell? ⟨w.heap.size+1,1,none⟩=some (vI ((B:Int).tdiv g)):=by rw [zH H];rfl
 clear H;exact bodyPost_ret (v:=.agg #[vI (n.tdiv g),vI ((B:Int).tdiv g)]) (by simp [results,results167,go_sem,U,Z]) rfl ⟨rfl,r.o⟩
theorem Z19 (n d:Int)(w:World):Calls prog 121 #[.agg #[vI n,vI d]] w λe w'=>e=.returned (.bool (ratB n d))/\Below w.heap.size w w':=by
 have D:=zh ((zr w.heap.size w).alloc (zn _) (.cells #[vI n,vI d] 76));by_cases h1:d<1
 . have B:ratB n d=false:=by simp [ratB];omega
   have C:=zh B;have j:decide (d<1)=true:=by simpa using h1
   clear B;go_enter func121,ntmps121;go_wp2_with fail;go_ret;rw [C.o];exact ⟨rfl,D.o⟩
 . have j:decide (d<1)=false:=by simpa using h1
   by_cases h2:1000000<d
   . have B:ratB n d=false:=by simp [ratB];omega
     have C:=zh B;have f:decide (1000000<d)=true:=by simpa using h2
     clear B;go_enter func121,ntmps121;go_wp2_with fail;go_ret;rw [C.o];exact ⟨rfl,D.o⟩
   . have f:decide (1000000<d)=false:=by simpa using h2
     by_cases h3:n < -1000000000
     . have B:ratB n d=false:=by simp [ratB];omega
       have C:=zh B;have X:decide (n < -1000000000)=true:=by simpa using h3
       clear B;go_enter func121,ntmps121;go_wp2_with fail;go_ret;rw [C.o];exact ⟨rfl,D.o⟩
     . have X:decide (n < -1000000000)=false:=by simpa using h3
       by_cases h4:1000000000<n
       . have B:ratB n d=false:=by simp [ratB];omega
         have C:=zh B;have S:decide (1000000000<n)=true:=by simpa using h4
         clear B;go_enter func121,ntmps121;go_wp2_with fail;go_ret;rw [C.o];exact ⟨rfl,D.o⟩
       . have S:decide (1000000000<n)=false:=by simpa using h4
         have B:ratB n d=(Nat.gcd n.natAbs d.natAbs==1):=by simp [ratB,show 1<=d by omega,show d<=1000000 by omega,show -1000000000<=n by omega,show n<=1000000000 by omega]
         have C:=zh B;clear B;go_enter func121,ntmps121;go_wp2_with fail;have N:(w.alloc (.cells #[vI n,vI d] 76)).cell? ⟨w.heap.size,0,none⟩=some (vI n):=by simp [go_sem]
         have R:(w.alloc (.cells #[vI n,vI d] 76)).cell? ⟨w.heap.size,1,none⟩=some (vI d):=by simp [go_sem]
         have O:w.heap.size<(w.alloc (.cells #[vI n,vI d] 76)).heap.size:=by simp
         have L:=D.o;clear D;generalize w.alloc (.cells #[vI n,vI d] 76)=r at *
         have Z:=zh L;clear L;obtain ⟨p,F⟩:∃ p,p=n.tdiv (Nat.gcd n.natAbs d.natAbs:Nat):=⟨_,rfl⟩
         obtain ⟨q,G⟩:∃ q,q=d.tdiv (Nat.gcd n.natAbs d.natAbs:Nat):=⟨_,rfl⟩
         have I:=λW=>Z91 n d W (by omega) (by omega) (by omega) (by omega);rw [<- F,<- G] at I;have J:0<Nat.gcd n.natAbs d.natAbs:=Nat.gcd_pos_of_pos_right _ (by omega);have M:(p=n/\q=d) ↔ Nat.gcd n.natAbs d.natAbs=1:=by rw [F,G];exact Zrx J (by omega)
         have T:=zh I;have H:=zh M;clear F G I J M;have l:(n=p/\d=q)\/¬ p=n\/(n=p/\¬ q=d):=by by_cases a:n=p <;> by_cases b:d=q <;> simp [a,b,Ne.symm]
         rcases l with ⟨rfl,rfl⟩ | g | ⟨rfl,Y⟩
         all_goals go_region_held3 (λw'=>w'.cell? ⟨w.heap.size,0,none⟩=some (vI n)/\w'.cell? ⟨w.heap.size,1,none⟩=some (vI d)) (first | with_reducible exact ⟨N,R⟩ | with_reducible exact ⟨V,U⟩ | go_keep) (first | (go_at_call 167;refine (T.o _).mono ?_;rintro e w' ⟨rfl,hb⟩;have V:=(hb.cell (p:=⟨w.heap.size,0,none⟩) O).trans N;have U:=(hb.cell (p:=⟨w.heap.size,1,none⟩) O).trans R;have m:=zh hb;clear hb))
         all_goals go_wp2_with fail
         all_goals go_ret
         all_goals rw [C.o]
         all_goals refine ⟨Z5e ?_,Z00 Z.o (((zr _ _).drew).trans m.o)⟩
         . exact (beq_iff_eq.2 (H.o.1 (by simp))).symm
         . exact (beq_eq_false_iff_ne.2 (λh=>g (H.o.2 h).1)).symm
         . exact (beq_eq_false_iff_ne.2 (λh=>Y (H.o.2 h).2)).symm
theorem Z1r (n d:Int)(w:World):Calls prog 69 #[.agg #[vI n,vI d]] w λe w'=>e=.returned (.bool (ratB n d))/\Below w.heap.size w w':=by
 have D:=zh ((zr w.heap.size w).alloc (zn _) (.cells #[vI n,vI d] 76));by_cases h1:d<1
 . have B:ratB n d=false:=by simp [ratB];omega
   have C:=zh B;have L:decide (d<1)=true:=by simpa using h1
   clear B;go_enter func69,ntmps69;go_wp2_with fail;go_ret;rw [C.o];exact ⟨rfl,D.o⟩
 . have L:decide (d<1)=false:=by simpa using h1
   by_cases h2:1000000<d
   . have B:ratB n d=false:=by simp [ratB];omega
     have C:=zh B;have M:decide (1000000<d)=true:=by simpa using h2
     clear B;go_enter func69,ntmps69;go_wp2_with fail;go_ret;rw [C.o];exact ⟨rfl,D.o⟩
   . have M:decide (1000000<d)=false:=by simpa using h2
     by_cases h3:n < -1000000000
     . have B:ratB n d=false:=by simp [ratB];omega
       have C:=zh B;have I:decide (n < -1000000000)=true:=by simpa using h3
       clear B;go_enter func69,ntmps69;go_wp2_with fail;go_ret;rw [C.o];exact ⟨rfl,D.o⟩
     . have I:decide (n < -1000000000)=false:=by simpa using h3
       by_cases h4:1000000000<n
       . have B:ratB n d=false:=by simp [ratB];omega
         have C:=zh B;have J:decide (1000000000<n)=true:=by simpa using h4
         clear B;go_enter func69,ntmps69;go_wp2_with fail;go_ret;rw [C.o];exact ⟨rfl,D.o⟩
       . have J:decide (1000000000<n)=false:=by simpa using h4
         have B:ratB n d=(Nat.gcd n.natAbs d.natAbs==1):=by simp [ratB,show 1<=d by omega,show d<=1000000 by omega,show -1000000000<=n by omega,show n<=1000000000 by omega]
         have C:=zh B;clear B;go_enter func69,ntmps69;go_wp2_with fail;obtain ⟨H,rfl⟩:=zE2 (show 0<=d by omega);rw [Int.natAbs_natCast] at C;obtain ⟨g,G⟩:∃ g,g=Nat.gcd n.natAbs H:=⟨_,rfl⟩
         rw [<- G] at C;have F:=λW=>Zp1 n.natAbs H W (by omega) (by omega);rw [<- G] at F;have N:=zh F;clear G F;go_quiet (first | (go_at_call 101;exact Calls.quiet_of_same ((Zp2 n _ (by omega) (by omega)).mono λ_ _ h=>⟨h.1,h.2.symm⟩)) | (go_at_call 100;exact Calls.quiet_of_same ((N.o _).mono λ_ _ h=>⟨h.1,h.2.symm⟩)));go_wp2_with fail;go_ret;rw [C.o];refine ⟨Z5e ?_,Z04 D.o _⟩;by_cases hg1:g=1
         . subst hg1;rfl
         . rw [beq_eq_false_iff_ne.2 hg1,beq_eq_false_iff_ne.2 (show ¬ (g:Int)=1 by omega)]
end
section
open Go.RowKit Lx Px
namespace Px
def numB (n:Int):Bool:=decide (0<=n)&&decide (n<=999999999)
abbrev Wn:=Bytes ⊕ Int
def Z7b:Wn->Bytes
 | .inl s=>s
 | .inr n=>dec n
def Z23:List Wn->Bytes
 | []=>[]
 | x::r=>Z7b x++[32]++Z23 r
def Zcf:Wn->Prop
 | .inl _=>True
 | .inr n=>0<=n/\n<=1000000000
end Px
theorem Z1s (n:Int)(w:World):Calls prog 68 #[vI n] w λe w'=>e=.returned (.bool (numB n))/\w=w':=by
 by_cases h1:0<=n
 . have B:decide (0<=n)=true:=by simpa using h1
   unfold numB;rw [B];go_enter func68,ntmps68;go_wp2_with fail;go_ret;exact ⟨by simp,rfl⟩
 . have B:decide (0<=n)=false:=by simpa using h1
   unfold numB;rw [B];go_enter func68,ntmps68;go_wp2_with fail;go_ret;exact ⟨by simp,rfl⟩
theorem Z5z (g:Nat)(B:List Int)(w:World)(S:0<B.length)(V:B.length<=100)(L:∀ k,k<B.length->w.cell? ⟨g,k,none⟩=some (vI (B.getD k 0))) : Calls prog 120 #[slice (some ⟨g,0,none⟩) B.length B.length] w λe w'=>e=.returned (.bool (B.all numB))/\w=w':=by
 obtain ⟨F,J⟩:∃ F,F=B.length:=⟨_,rfl⟩
 rw [<- J] at S V L |-
 have N:=zh J;have U:=zh L;clear J L;go_enter func120,ntmps120;go_wp2_with fail;go_loop [7] (λi=>∃ k:Nat,k<=F/\i=vI k/\Hid (B.all numB=(B.drop k).all numB)) (λi=>F - (intOf i).toNat)
 case atStart=>exact ⟨0,by omega,rfl,rfl⟩
 case round =>
  obtain ⟨k,hk,rfl,G⟩:=hrel;by_cases hlt:k<F
  . have R:=U.o k hlt;have I:(B.drop k).all numB=(numB (B.getD k 0)&&(B.drop (k+1)).all numB):=by
     have O:k<B.length:=by rw [<- N.o];exact hlt
     rw [List.drop_eq_getElem_cons O,List.all_cons,List.getD_eq_getElem?_getD,zv O];rfl
    obtain ⟨z,M⟩:∃ z,z=B.getD k 0:=⟨_,rfl⟩
    rw [<- M] at R I;have H:=zh I;clear M I;by_cases c1:z<0
    . have X:decide (z<0)=true:=by simpa using c1
      have C:numB z=false:=by simp [numB];omega
      have D:=zh C;clear C;go_wp2_with fail;go_ret;rw [G.o,H.o,D.o];exact ⟨rfl,rfl⟩
    . have X:decide (z<0)=false:=by simpa using c1
      by_cases c2:999999999<z
      . have T:decide (999999999<z)=true:=by simpa using c2
        have C:numB z=false:=by simp [numB];omega
        have D:=zh C;clear C;go_wp2_with fail;go_ret;rw [G.o,H.o,D.o];exact ⟨rfl,rfl⟩
      . have T:decide (999999999<z)=false:=by simpa using c2
        have C:numB z=true:=by simp [numB];omega
        have D:=zh C;clear C;go_wp2_with fail;go_round
        case rel=>exact ⟨k+1,by omega,by go_num,by rw [G.o,H.o,D.o];rfl⟩
        case measure=>simp [intOf];omega
  . go_wp2_with fail;go_ret;have:B.drop k=[]:=List.drop_eq_nil_of_le (by rw [<- N.o];omega);rw [G.o,this];exact ⟨rfl,rfl⟩
def Zhm:Wn->Value
 | .inl s=>.iface 9 (.string (mk s))
 | .inr n=>.iface 3 (vI n)
theorem ta_str (s:ByteArray)(w:World):(Instr.typeAssert (.iface 9 (.string s)) 20 9 true).run prog w=.ok (.tuple #[.string s,.bool true]) w:=by kernel_rfl
theorem ta_no (n:Int)(w:World):(Instr.typeAssert (.iface 3 (vI n)) 20 9 true).run prog w=.ok (.tuple #[.string ⟨#[]⟩,.bool false]) w:=by kernel_rfl
theorem ta_int (n:Int)(w:World):(Instr.typeAssert (.iface 3 (vI n)) 20 3 true).run prog w=.ok (.tuple #[vI n,.bool true]) w:=by kernel_rfl
def FldL (b:Nat)(g:Nat)(its:List Wn)(w:World)(fin:Bytes)(i:Value)(wr:World):Prop := ∃ (k:Nat) (acc:Bytes),k<=its.length/\i=vI k/\Wd b acc wr/\wr.heap[g]?=some (.cells (its.map Zhm).toArray 20 (0,0))/\Below b w wr/\Okp b w wr/\acc++Z23 (its.drop k)=fin
theorem Zhn (b g:Nat)(txt:Bytes)(C:List Wn)(w:World)(B:Nat)(hB:B<=b)(ht:Tabs B w)(hw:Wd b txt w)(hg:w.heap[g]?=some (.cells (C.map Zhm).toArray 20 (0,0)))(hok:∀ x∈C,Zcf x) (bh:(txt++Z23 C).length<=100000) (bj:C.length<=100) : Calls prog 122 #[.pointer (some ⟨b,0,none⟩),slice (some ⟨g,0,none⟩) C.length C.length] w (ZdH b (txt++Z23 C) w):=by
 obtain ⟨HT,HW,HG,HO⟩:=zh4 ht hw hg hok;clear ht hw hg hok;go_enter func122,ntmps122;go_wp2_with fail;go_loopw [10] (λi wr=>FldL b g C w (txt++Z23 C) i wr) (λi _=>C.length - (intOf i).toNat)
 case atStart=>exact ⟨0,txt,by omega,rfl,HW.o,HG.o,zr _ _,Lib.OthersKept.refl _ _ _,rfl⟩
 case round =>
  obtain ⟨k,acc,hk,rfl,bc,be,bb,ba,A⟩:=hrel;obtain ⟨I,R,O,y,V⟩:=zh5 bc be bb ba A;clear bc be bb ba A;by_cases hlt:k<C.length
  . have T:wr.cell? ⟨g,k,none⟩=some (Zhm C[k]):=by rw [zH R.o];simp [zv hlt]
    have Z:Z23 (C.drop k)=Z7b C[k]++[32]++Z23 (C.drop (k+1)):=by rw [List.drop_eq_getElem_cons hlt];rfl
    have S:=HO.o C[k] (List.getElem_mem hlt);have HS:=zh Z;have U:acc.length+(Z7b C[k]).length+1<=100000:=by have:=congrArg List.length V.o;rw [Z] at this;simp only [zj,List.length_singleton] at this bh;omega
    clear Z;cases hx:C[k] with
    | inl s =>
     rw [hx] at T U;simp only [Zhm,Z7b] at T U;have q:=zh hx;clear hx S;have Y:=ta_str (mk s);go_wp2_with fail;refine (Z3w b acc (mk s) _ I.o (by rw [Z06];omega)).mono ?_;rintro e w2 ⟨rfl,F,N,D⟩;rw [Z3n] at F;have M:=zh F;have X:=zh (O.o.trans N);have f:=zh (Lib.OthersKept.trans y.o D);have d:=zh (Z1v I.o D R.o (by decide) (by decide));clear F N D Y;go_wp2_with fail;refine (Zqx b _ 32 _ M.o (by simp only [zj];omega)).mono ?_;rintro e w3 ⟨rfl,H,J,G⟩;have l:=zh H;have j:=zh (X.o.trans J);have m:=zh (Lib.OthersKept.trans f.o G);have r:=zh (Z1v M.o G d.o (by decide) (by decide));clear H J G;go_wp2_with fail;go_roundw
     case rel=>exact ⟨k+1,_,by omega,by go_num,l.o,r.o,j.o,m.o,by rw [<- V.o,HS.o,q.o];simp [Z7b]⟩
     case measure=>simp [intOf];omega
    | inr n =>
     rw [hx] at T U S;simp only [Zhm,Z7b,Zcf] at T U S;have q:=zh hx;clear hx;have Y:=ta_no n;have bg:=ta_int n;go_wp2_with fail;clear Y bg;go_region_held3 (λ_=>True) (exact trivial) (first
       | (go_at_call 92;refine (Zb0 n B _ S.1 (by omega) (HT.o.on (O.o.drew.mono hB))).mono ?_;rintro e w2 ⟨rfl,bf⟩;have L:=((zr wr.heap.size wr).drew).trans bf;have V1:=zh (Z3v I.o L);have V2:=zh (O.o.trans (L.mono (zl (Z6f I.o))));have V3:=zh (Lib.OthersKept.trans y.o (Z4C L));have V4:=zh ((L.block _ (zF2.1 R.o).1).trans R.o);clear bf L)
       | (go_at_call 124;refine (Z3w b acc (mk (dec n)) _ V1.o (by rw [Z06];omega)).mono ?_;rintro e w3 ⟨rfl,F,N,D⟩;rw [Z3n] at F;have bd:=Z1v V1.o D V4.o (by decide) (by decide);have M:=zh F;have X:=zh (V2.o.trans N);have f:=zh (Lib.OthersKept.trans V3.o D);have d:=zh bd;clear F N D bd))
     go_wp2_with fail;refine (Zqx b _ 32 _ M.o (by simp only [zj];omega)).mono ?_;rintro e w4 ⟨rfl,H,J,G⟩;have l:=zh H;have j:=zh (X.o.trans J);have m:=zh (Lib.OthersKept.trans f.o G);have r:=zh (Z1v M.o G d.o (by decide) (by decide));clear H J G;go_wp2_with fail;go_roundw
     case rel=>exact ⟨k+1,_,by omega,by go_num,l.o,r.o,j.o,m.o,by rw [<- V.o,HS.o,q.o];simp [Z7b]⟩
     case measure=>simp [intOf];omega
  . go_wp2_with fail;go_end0;have hd:C.drop k=[]:=List.drop_eq_nil_of_le (by omega);have h5:=V.o;rw [hd,Z23,List.append_nil] at h5;subst h5;exact ⟨rfl,I.o,O.o,y.o⟩
end
