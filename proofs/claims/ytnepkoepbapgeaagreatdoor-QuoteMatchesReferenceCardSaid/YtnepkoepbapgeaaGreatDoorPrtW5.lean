import Derived.Test.YtnepkoepbapgeaaGreatDoorShelf
import Derived.Defers
import Derived.Test.YtnepkoepbapgeaaGreatDoorPrtW4
import Derived.Lib.AppendIntMem
namespace Go.Proofs.YtnepkoepbapgeaaGreatDoor
open _root_.Go.Proofs.Tryz
open Value (int slice)
open IntKind (i64)
set_option maxHeartbeats 2000000
set_option maxRecDepth 100000
section
open Go.RowKit Go.Shelf
def Tryz.bRen:Go.Shelf.Ren:=⟨fun | 166=>137 | 167=>179 | 240=>182 | 276=>241 | n=>n,fun | 0=>0 | 3=>3 | 4=>4 | 5=>5 | 9=>9 | 20=>20 | 37=>98 | 70=>185 | 72=>187 | 75=>193 | 76=>194 | 80=>196 | 164=>262 | n=>n,fun | n=>n⟩
theorem Tryz.lays166:Go.Proofs.Lays.n166 prog Tryz.bRen:={
 mixed:=by kernel_rfl
 f166:=Tryz.func137.trans (congrArg some (by kernel_rfl))
 f240:=Tryz.func182.trans (congrArg some (by kernel_rfl))
 f276:=Tryz.func241.trans (congrArg some (by kernel_rfl))
 t0:=underlying0
 a0:=Tryz.isAgg0
 z0:=Tryz.sizeOf0
 v0:=Tryz.zeroValue0
 t3:=underlying3
 a3:=Tryz.isAgg3
 z3:=Tryz.sizeOf3
 v3:=Tryz.zeroValue3
 t4:=underlying4
 a4:=Tryz.isAgg4
 z4:=Tryz.sizeOf4
 v4:=Tryz.zeroValue4
 t9:=underlying9
 a9:=Tryz.isAgg9
 z9:=Tryz.sizeOf9
 v9:=Tryz.zeroValue9
 t20:=underlying20
 a20:=Tryz.isAgg20
 z20:=Tryz.sizeOf20
 v20:=Tryz.zeroValue20
 t37:=underlying98
 a37:=Tryz.isAgg98
 z37:=Tryz.sizeOf98
 v37:=Tryz.zeroValue98
 t70:=underlying185
 a70:=Tryz.isAgg185
 z70:=Tryz.sizeOf185
 v70:=Tryz.zeroValue185
 t72:=underlying187
 a72:=Tryz.isAgg187
 z72:=Tryz.sizeOf187
 v72:=Tryz.zeroValue187
 t75:=underlying193
 a75:=Tryz.isAgg193
 z75:=Tryz.sizeOf193
 v75:=Tryz.zeroValue193
 t164:=underlying262
 a164:=Tryz.isAgg262
 z164:=Tryz.sizeOf262
 v164:=Tryz.zeroValue262 }
theorem Tryz.lays167:Go.Proofs.Lays.n167 prog Tryz.bRen:={
 mixed:=by kernel_rfl
 f167:=Tryz.func179.trans (congrArg some (by kernel_rfl))
 f240:=Tryz.func182.trans (congrArg some (by kernel_rfl))
 f276:=Tryz.func241.trans (congrArg some (by kernel_rfl))
 t0:=underlying0
 a0:=Tryz.isAgg0
 z0:=Tryz.sizeOf0
 v0:=Tryz.zeroValue0
 t4:=underlying4
 a4:=Tryz.isAgg4
 z4:=Tryz.sizeOf4
 v4:=Tryz.zeroValue4
 t5:=underlying5
 a5:=Tryz.isAgg5
 z5:=Tryz.sizeOf5
 v5:=Tryz.zeroValue5
 t9:=underlying9
 a9:=Tryz.isAgg9
 z9:=Tryz.sizeOf9
 v9:=Tryz.zeroValue9
 t20:=underlying20
 a20:=Tryz.isAgg20
 z20:=Tryz.sizeOf20
 v20:=Tryz.zeroValue20
 t37:=underlying98
 a37:=Tryz.isAgg98
 z37:=Tryz.sizeOf98
 v37:=Tryz.zeroValue98
 t70:=underlying185
 a70:=Tryz.isAgg185
 z70:=Tryz.sizeOf185
 v70:=Tryz.zeroValue185
 t72:=underlying187
 a72:=Tryz.isAgg187
 z72:=Tryz.sizeOf187
 v72:=Tryz.zeroValue187
 t75:=underlying193
 a75:=Tryz.isAgg193
 z75:=Tryz.sizeOf193
 v75:=Tryz.zeroValue193
 t164:=underlying262
 a164:=Tryz.isAgg262
 z164:=Tryz.sizeOf262
 v164:=Tryz.zeroValue262 }
theorem Tryz.bExtra:Builder.Extra prog Tryz.bRen:={
 sizeBuilder:=by kernel_rfl
 liesBuilder:=by kernel_rfl
 t5:=underlying5
 a5:=Tryz.isAgg5
 z5:=Tryz.sizeOf5
 v5:=Tryz.zeroValue5
 infoByte:=by kernel_rfl
 cellsByte:=by kernel_rfl
 sizeByte:=by kernel_rfl
 neB5:=by decide }
end
section
open Go.Shelf Go.RowKit Go.Proofs
section
variable {P:Program} {ρ:Ren}
def Bw.Lies (P:Program)(ρ:Ren)(T:TypeId):Prop:=liesAt P P.depth T (2 / P.cellsOf T) 0 (ρ.t 72) 1=true/\T≠ρ.t 5
theorem Zgu {f:FuncId}{B:Func}{c:Code}{args:Array Value}{w:World}{R:Ending->World->Prop} (C:P.funcs[f]?=some B) (hb:B.body=some c) (h:c.wp P (bodyPost P B R) { tmps:=args++Array.replicate (B.ntmps - args.size) undef,defers:=[] } w) : Calls P f args w R/\∀ u,CallsD P f args u w λe u' w'=>u'=u/\R e w':=⟨calls_of_wp C hb h,λ_=>callsD_of_wp C hb h⟩
theorem Bw.copyCheck_fresh {T:TypeId}(F:Bw.Lies P ρ T)(L:Lays.n240 P ρ)(X:Builder.X72 P ρ)(b:Nat)(w:World)(r:w.cell? ⟨b,0,none⟩=some (.pointer none))(B:w.shape? b=some (T,2))(bb:w.frozen? ⟨b,0,none⟩=false) : Calls P (ρ.f 240) #[.pointer (some ⟨b,0,none⟩)] w λe w'=>e=.returned (.tuple #[])/\w'=w.setCell ⟨b,0,none⟩ (.pointer (some ⟨b,0,none⟩)):=by
 obtain ⟨j,C,D⟩:=Option.map_eq_some_iff.1 X.sizeBuilder;have mixed:=L.mixed;have bc:=L.t72;have S:=L.a72;have ba:=L.z72;have V:=L.v72;have g:=zy L.t72;have t70:=L.t70;have N:=L.a70;have H:=L.z70;have U:=L.v70;have J:=zy L.t70;have G:=L.t9;have l:=L.a9;have Y:=L.z9;have m:=L.v9;have Z:=zy L.t9;have M:=L.t4;have y:=L.a4;have I:=L.z4;have v4:=L.v4;have u4:=zy L.t4;have q:=L.t164;have R:=L.a164;have A:=L.z164;have O:=L.v164;have d:=zy L.t164;go_enter L.f240,Body.n240_ntmps ρ;go_wp2;rw [Lib.run_to_unsafe w ⟨b,0,none⟩ L.t70 L.t164 C (by rw [D];decide) B (Nat.zero_lt_succ 1)];simp only [Result.andThen];rw [Oper.upon_value];go_wp2;rw [run_callFunc_extern L.f276 (by kernel_rfl) (by kernel_rfl) (by kernel_rfl) (e:=Extern.AbiNoEscape.same) (by kernel_rfl)];rw [Lib.run_noEscape];simp only [Result.andThen];rw [Oper.upon_value];go_wp2;rw [Lib.run_from_unsafe w ⟨b,0,none⟩ L.t164 L.t70 C B F.1];simp only [Result.andThen];rw [Oper.upon_value];go_wp2;go_end0;exact ⟨rfl,rfl⟩
theorem Bw.copyCheck_k {T:TypeId}(D:Bw.Lies P ρ T)(L:Lays.n240 P ρ)(X:Builder.X72 P ρ)(B b:Nat)(C:List Value)(w:World)(h:Lib.IsBuilderF T (ρ.t 5) B b C w) : Calls P (ρ.f 240) #[.pointer (some ⟨b,0,none⟩)] w λe w'=>e=.returned (.tuple #[])/\(Lib.BuilderAtF T (ρ.t 5) B b (.pointer (some ⟨b,0,none⟩)) C w'/\Below B w w'/\Lib.OthersKept (ρ.t 5) (some b) w w'):=by
 rcases h with h | h
 · refine (Bw.copyCheck_fresh D L X b w h.cell0 h.shape h.frozen0).mono ?_;rintro e w' ⟨rfl,rfl⟩;exact ⟨rfl,h.used _,(zr B w).setCell (p:=⟨b,0,none⟩) h.1 _,(Lib.OthersKept.refl _ _ w).setCell ⟨b,0,none⟩ rfl _⟩
 · refine (Any.Builder_copyCheck_used L X b w h.cell0).mono ?_;rintro e w' ⟨rfl,rfl⟩;exact ⟨rfl,h,zr B _,Lib.OthersKept.refl _ _ _⟩
theorem Bw.WriteByte_k {T:TypeId}(V:Bw.Lies P ρ T)(L:Lays.n167 P ρ)(X:Builder.Extra P ρ)(B b:Nat)(D:List Value)(c:Int)(w:World)(h:Lib.IsBuilderF T (ρ.t 5) B b D w)(bA:D.length+1<=140737488355328)(br:B<=w.heap.size) : Calls P (ρ.f 167) #[.pointer (some ⟨b,0,none⟩),.int .u8 c] w λe w'=>e=.returned .nilIface/\(Lib.BuilderAtF T (ρ.t 5) B b (.pointer (some ⟨b,0,none⟩)) (D++[.int .u8 c]) w'/\Below B w w'/\Lib.OthersKept (ρ.t 5) (some b) w w'):=by
 obtain ⟨r,hi,y,d,Z⟩:=info_parts X.infoByte;have mixed:=L.mixed;have bE:=L.t72;have bn:=L.a72;have bD:=L.z72;have bq:=L.v72;have bv:=zy L.t72;have bC:=L.t70;have bf:=L.a70;have bb:=L.z70;have bp:=L.v70;have bc:=zy L.t70;have t5:=L.t5;have a5:=L.a5;have z5:=L.z5;have v5:=L.v5;have u5:=zy L.t5;have bx:=L.t37;have bd:=L.a37;have bu:=L.z37;have bg:=L.v37;have be:=zy L.t37;have t9:=L.t9;have a9:=L.a9;have z9:=L.z9;have v9:=L.v9;have u9:=zy L.t9;have t4:=L.t4;have a4:=L.a4;have z4:=L.z4;have v4:=L.v4;have u4:=zy L.t4;have bz:=L.t164;have bm:=L.a164;have bB:=L.z164;have bh:=L.v164;have bt:=zy L.t164;have bj:∀ args w,(callFunc (ρ.f 240) args).run P w=.ok (.enter (ρ.f 240) args) w:=enters_of L.f240 (by kernel_rfl) rfl;go_enter L.f167,Body.n167_ntmps ρ;go_wp2_with (go_at_fn (ρ.f 240);refine (Bw.copyCheck_k V { L with } X.toX72 B b D _ h).mono ?_);rintro e C ⟨rfl,A,F,ba⟩;obtain ⟨U,v,J,O,m⟩:=A;have c0:C.cell? ⟨b,0,none⟩=some (.pointer (some ⟨b,0,none⟩)):=by rw [zc J];rfl
 have c1:C.cell? ⟨b,1,none⟩=some v:=by rw [zc J];rfl
 go_wp2_with (at_builtin;refine wpList_append_ownF _ rfl _ _ (ρ.t 37) rfl B (ρ.t 5) r (.int .u8 0) 1 1 L.t37 hi y d Z rfl (by decide) _ _ _ rfl (O.alloc _) ⟨C.heap.size,0,none⟩ 1 1 [.int .u8 c] rfl rfl ?c1 ?c2 ?c3 ?c4 ?c5 ?_)
 case c1 =>
  intro j u H
  match j,H with
  | 0,H=>simp at H;subst H;simp [Addr.add]
 case c2=>intro u S;simp at S;subst S;rfl
 case c3=>unfold maxLen;omega
 case c4=>omega
 case c5=>have:=F.size;simp;omega
 intro Y I R N _;have q:b<C.heap.size:=by
  rcases Nat.lt_or_ge b C.heap.size with M | M
  · exact M
  · simp [Array.getElem?_eq_none M] at J
 have G:I.heap[b]?=some (.cells #[.pointer (some ⟨b,0,none⟩),v] T (0,0)):=by rw [N.block b (by simp;omega) (λe=>m e.symm),Lib.alloc_old C _ b q];exact J
 have d0:I.cell? ⟨b,0,none⟩=some (.pointer (some ⟨b,0,none⟩)):=by rw [zc G];rfl
 have d1:I.cell? ⟨b,1,none⟩=some v:=by rw [zc G];rfl
 have f1:I.frozen? ⟨b,1,none⟩=false:=zO G 1;obtain ⟨g,cap,rfl⟩:∃ g cap,Y=slice (some ⟨g,0,none⟩) (D.length+1) cap:=by
  rcases R.2 with ⟨_,h0⟩ | ⟨g,cap,bk,fz,l,_⟩
  · omega
  · exact ⟨g,cap,l⟩
 go_wp2;go_ret;refine ⟨rfl,?_,?_,((ba.alloc _).grown N (Lib.ownsRowF_kind (O.alloc _))).setCell ⟨b,1,none⟩ rfl _⟩
 · exact Lib.BuilderAtF.put (T:=T) (e:=(ρ.t 5)) U G (bs':=D++[.int .u8 c]) (by simpa using R) V.2
 · exact ((F.alloc (by have:=F.size;omega) _).grown N (by have:=F.size;simp;omega) (λk hk=>(O.lt k hk).1)).setCell (p:=⟨b,1,none⟩) U _
theorem Bw.WriteString_k {T:TypeId}(Y:Bw.Lies P ρ T)(L:Lays.n166 P ρ)(X:Builder.Extra P ρ)(B b:Nat)(C:List Value)(s:ByteArray)(w:World)(h:Lib.IsBuilderF T (ρ.t 5) B b C w)(bz:C.length+s.size<=140737488355328)(bq:B<=w.heap.size) : Calls P (ρ.f 166) #[.pointer (some ⟨b,0,none⟩),.string s] w (λe w'=>e=.returned (.tuple #[int i64 s.size,.nilIface])/\(Lib.BuilderAtF T (ρ.t 5) B b (.pointer (some ⟨b,0,none⟩)) (C++Lib.strCells s) w'/\Below B w w'/\Lib.OthersKept (ρ.t 5) (some b) w w'))/\∀ u,CallsD P (ρ.f 166) #[.pointer (some ⟨b,0,none⟩),.string s] u w (λe u' w'=>u'=u/\(e=.returned (.tuple #[int i64 s.size,.nilIface])/\(Lib.BuilderAtF T (ρ.t 5) B b (.pointer (some ⟨b,0,none⟩)) (C++Lib.strCells s) w'/\Below B w w'/\Lib.OthersKept (ρ.t 5) (some b) w w'))):=by
 obtain ⟨q,A,r,j,d⟩:=info_parts X.infoByte;have mixed:=L.mixed;have bD:=L.t72;have bm:=L.a72;have bC:=L.z72;have bp:=L.v72;have bu:=zy L.t72;have bB:=L.t70;have be:=L.a70;have ba:=L.z70;have bn:=L.v70;have bb:=zy L.t70;have bv:=L.t37;have bc:=L.a37;have bt:=L.z37;have bf:=L.v37;have bd:=zy L.t37;have t3:=L.t3;have a3:=L.a3;have z3:=L.z3;have v3:=L.v3;have u3:=zy L.t3;have t9:=L.t9;have a9:=L.a9;have z9:=L.z9;have v9:=L.v9;have u9:=zy L.t9;have t4:=L.t4;have a4:=L.a4;have z4:=L.z4;have v4:=L.v4;have u4:=zy L.t4;have bx:=L.t164;have bk:=L.a164;have bA:=L.z164;have bg:=L.v164;have br:=zy L.t164;have t5:=X.t5;have a5:=X.a5;have z5:=X.z5;have v5:=X.v5;have u5:=zy X.t5;have bh:∀ args w,(callFunc (ρ.f 240) args).run P w=.ok (.enter (ρ.f 240) args) w:=enters_of L.f240 (by kernel_rfl) rfl;refine Zgu L.f166 rfl ?_;simp only [Body.n166_ntmps ρ,List.size_toArray,zw,zx,Nat.reduceAdd,Nat.reduceSub,Array.replicate_succ, Array.replicate_zero,List.push_toArray,List.append_toArray,zn2,zc2];go_wp2_with (go_at_fn (ρ.f 240);refine (Bw.copyCheck_k Y { L with } X.toX72 B b C _ h).mono ?_);rintro e F ⟨rfl,y,J,hk1⟩;obtain ⟨V,v,H,O,l⟩:=y;have c0:F.cell? ⟨b,0,none⟩=some (.pointer (some ⟨b,0,none⟩)):=by rw [zc H];rfl
 have c1:F.cell? ⟨b,1,none⟩=some v:=by rw [zc H];rfl
 go_wp2_with (at_builtin;refine Lib.wpList_append_own_stringF _ rfl _ _ (ρ.t 37) (ρ.t 9) rfl B (ρ.t 5) q L.t37 L.t9 A r j d _ _ _ rfl O s rfl ?c3 ?c4 ?c5 ?_)
 case c3=>unfold maxLen;omega
 case c4=>omega
 case c5=>have:=J.size;omega
 intro Z G S N _;have m:b<F.heap.size:=by
  rcases Nat.lt_or_ge b F.heap.size with I | I
  · exact I
  · simp [Array.getElem?_eq_none I] at H
 have D:G.heap[b]?=some (.cells #[.pointer (some ⟨b,0,none⟩),v] T (0,0)):=by rw [N.block b m (λe=>l e.symm)];exact H
 have d0:G.cell? ⟨b,0,none⟩=some (.pointer (some ⟨b,0,none⟩)):=by rw [zc D];rfl
 have d1:G.cell? ⟨b,1,none⟩=some v:=by rw [zc D];rfl
 have f1:G.frozen? ⟨b,1,none⟩=false:=zO D 1;obtain ⟨R,U,cap,rfl⟩:∃ R U cap,Z=slice R U cap:=by
  rcases S.2 with ⟨M,_⟩ | ⟨g,cap,bj,fz,M,_⟩
  · exact ⟨_,_,_,M⟩
  · exact ⟨_,_,_,M⟩
 go_wp2;go_ret2;refine ⟨rfl,?_,?_,(hk1.grown N (Lib.ownsRowF_kind O)).setCell ⟨b,1,none⟩ rfl _⟩
 · exact Lib.BuilderAtF.put (T:=T) (e:=(ρ.t 5)) V D (bs':=C++Lib.strCells s) (by simpa [Lib.strCells_length] using S) Y.2
 · exact (J.grown N (by have:=J.size;omega) (λk hk=>(O.lt k hk).1)).setCell (p:=⟨b,1,none⟩) V _
theorem Bw.String_k {T:TypeId}(_hT:Bw.Lies P ρ T)(L:Lays.n169 P ρ)(X:Builder.Extra P ρ)(B b:Nat)(l:List UInt8)(w:World)(h:Lib.IsBuilderF T (ρ.t 5) B b (Lib.byteCells l) w)(J:l≠[]) : Calls P (ρ.f 169) #[.pointer (some ⟨b,0,none⟩)] w λe w'=>e=.returned (.string ⟨l.toArray⟩)/\(Lib.IsBuilderF T (ρ.t 5) B b (Lib.byteCells l) w'/\Below B w w'/\Lib.OthersKept (ρ.t 5) (some b) w w'):=by
 obtain ⟨p,M,q⟩:∃ p,(p=.pointer none\/p=.pointer (some ⟨b,0,none⟩))/\Lib.BuilderAtF T (ρ.t 5) B b p (Lib.byteCells l) w:=by
  rcases h with h | h
  · exact ⟨_,.inl rfl,h⟩
  · exact ⟨_,.inr rfl,h⟩
 obtain ⟨Y,v,I,F,Z⟩:=q;have S:l.length≠0:=by simpa using J
 rw [Lib.byteCells_length] at F;obtain ⟨g,cap,C,D,rfl,U,H,bB,bA,N,bx,y⟩:∃ g cap C D,v=slice (some ⟨g,0,none⟩) l.length cap/\B<=g/\w.heap[g]?=some (.cells C (ρ.t 5) D)/\D.2<=l.length*1/\l.length<=cap/\cap<=maxLen/\C.size=cap*1/\C.toList.take (l.length*1)=Lib.byteCells l:=by
  rcases F.2 with ⟨_,m⟩ | ⟨g,cap,C,D,V,r⟩
  · exact absurd m S
  · exact ⟨g,cap,C,D,V,r⟩
 have c1:w.drew.cell? ⟨b,1,none⟩=some (slice (some ⟨g,0,none⟩) l.length cap):=by have:w.drew.heap[b]?=some (.cells #[p,slice (some ⟨g,0,none⟩) l.length cap] T (0,0)):=I;rw [zc this];rfl
 have bb:(Builtin.unsafeSliceData_ #[(ρ.t 37)] (ρ.t 127) #[slice (some ⟨g,0,none⟩) l.length cap]).run P w.drew=.ok (.pointer (some ⟨g,0,none⟩)) w.drew := Lib.run_unsafeSliceData_row _ _ _ _ _ _ (by omega);have bu:(Builtin.unsafeString_ #[(ρ.t 127),(ρ.t 3)] (ρ.t 9) #[.pointer (some ⟨g,0,none⟩),int i64 l.length]).run P w.drew=.ok (.string ⟨l.toArray⟩) (w.drew.freeze ⟨g,0,none⟩ l.length):=by refine Lib.run_unsafeString_row w.drew (ρ.t 127) (ρ.t 3) (ρ.t 9) (ρ.t 5) L.t127 X.cellsByte g C.size (by have hg':w.drew.heap[g]?=some (.cells C (ρ.t 5) D):=H;simp [World.shape?,hg']) l J (by omega) (by unfold maxLen at N;omega) ?_;intro j x R;have:=F.cells (g:=g) rfl j (.int .u8 x.toNat) (by simp [Lib.byteCells,R]);exact this
 have d:Lib.IsBuilderF T (ρ.t 5) B b (Lib.byteCells l) (w.drew.freeze ⟨g,0,none⟩ l.length):=by
  have O:Lib.BuilderAtF T (ρ.t 5) B b p (Lib.byteCells l) w.drew:=⟨Y,_,I,by rw [Lib.byteCells_length];exact F,Z⟩
  have G:=O.froze (g:=g) (cap:=cap) (by rw [Lib.byteCells_length];exact c1);rw [Lib.byteCells_length] at G;rcases M with rfl | rfl
  · exact .inl G
  · exact .inr G
 have mixed:=L.mixed;have bC:=L.t72;have bn:=L.a72;have bz:=L.z72;have bq:=L.v72;have bs:=zy L.t72;have bv:=L.t70;have bh:=L.a70;have A:=L.z70;have bp:=L.v70;have bd:=zy L.t70;have bt:=L.t37;have be:=L.a37;have br:=L.z37;have bj:=L.v37;have bf:=zy L.t37;have bk:=L.t127;have bm:=L.a127;have ba:=L.z127;have bg:=L.v127;have bc:=zy L.t127;have t3:=L.t3;have a3:=L.a3;have z3:=L.z3;have v3:=L.v3;have u3:=zy L.t3;have t9:=L.t9;have a9:=L.a9;have z9:=L.z9;have v9:=L.v9;have u9:=zy L.t9;have t5:=X.t5;have a5:=X.a5;have z5:=X.z5;have v5:=X.v5;have u5:=zy X.t5;go_enter L.f169,Body.n169_ntmps ρ;go_wp2;go_region_o
 all_goals (go_wp2;go_ret;exact ⟨rfl,d,Lib.below_freeze (Below.drew (zr B w)) (p:=⟨g,0,none⟩) U _,((Lib.OthersKept.refl _ _ w).drew).freeze ⟨g,0,none⟩ _ ⟨C,D,H⟩⟩)
theorem Bw.String_nil_f {T:TypeId}(_hT:Bw.Lies P ρ T)(L:Lays.n169 P ρ)(X:Builder.Extra P ρ)(B b:Nat)(p:Value)(w:World)(D:w.heap[b]?=some (.cells #[p,slice none 0 0] T (0,0)))(C:Lib.BuilderAtF T (ρ.t 5) B b p [] w) : Calls P (ρ.f 169) #[.pointer (some ⟨b,0,none⟩)] w λe w'=>e=.returned (.string ⟨#[]⟩)/\(Lib.BuilderAtF T (ρ.t 5) B b p [] w'/\Below B w w'):=by
 have bd:=Any.unsafeString_none L X;have c1:w.drew.cell? ⟨b,1,none⟩=some (slice none 0 0):=by have:w.drew.heap[b]?=some (.cells #[p,slice none 0 0] T (0,0)):=D;rw [zc this];rfl
 have J:(Builtin.unsafeSliceData_ #[(ρ.t 37)] (ρ.t 127) #[slice none 0 0]).run P w.drew=.ok (.pointer none) w.drew:=rfl;have mixed:=L.mixed;have bg:=L.t72;have l:=L.a72;have bf:=L.z72;have r:=L.v72;have bb:=zy L.t72;have be:=L.t70;have V:=L.a70;have G:=L.z70;have q:=L.v70;have O:=zy L.t70;have bc:=L.t37;have R:=L.a37;have ba:=L.z37;have Z:=L.v37;have S:=zy L.t37;have Y:=L.t127;have j:=L.a127;have I:=L.z127;have M:=L.v127;have N:=zy L.t127;have d:=L.t3;have a3:=L.a3;have y:=L.z3;have v3:=L.v3;have g:=zy L.t3;have F:=L.t9;have a9:=L.a9;have A:=L.z9;have v9:=L.v9;have u9:=zy L.t9;have U:=X.t5;have H:=X.a5;have m:=X.z5;have v5:=X.v5;have u5:=zy X.t5;go_enter L.f169,Body.n169_ntmps ρ;go_wp2;go_region_o
 all_goals (go_wp2;go_ret;exact ⟨rfl,C.drew,Below.drew (zr B w)⟩)
theorem Bw.String_noroom_f {T:TypeId}(_hT:Bw.Lies P ρ T)(L:Lays.n169 P ρ)(X:Builder.Extra P ρ)(B b g:Nat)(p:Value)(D:Array Value)(w:World)(J:B<=w.heap.size)(F:w.heap[b]?=some (.cells #[p,slice (some ⟨g,0,none⟩) 0 0] T (0,0)))(G:Nat × Nat)(H:w.heap[g]?=some (.cells D (ρ.t 5) G))(I:Lib.BuilderAtF T (ρ.t 5) B b p [] w) : Calls P (ρ.f 169) #[.pointer (some ⟨b,0,none⟩)] w λe w'=>e=.returned (.string ⟨#[]⟩)/\(Lib.BuilderAtF T (ρ.t 5) B b p [] w'/\Below B w w'):=by
 have bg:=Any.unsafeString_none L X;have M:b<w.heap.size:=by
  rcases Nat.lt_or_ge b w.heap.size with C | C
  · exact C
  · simp [Array.getElem?_eq_none C] at F
 have c1:w.drew.cell? ⟨b,1,none⟩=some (slice (some ⟨g,0,none⟩) 0 0):=by have:w.drew.heap[b]?=some (.cells #[p,slice (some ⟨g,0,none⟩) 0 0] T (0,0)):=F;rw [zc this];rfl
 have U:(Builtin.unsafeSliceData_ #[(ρ.t 37)] (ρ.t 127) #[slice (some ⟨g,0,none⟩) 0 0]).run P w.drew=.ok (.pointer (some ⟨w.drew.heap.size,0,none⟩)) (w.drew.alloc (.view ⟨g,0,none⟩ (ρ.t 5))) := Lib.run_unsafeSliceData_zero w.drew _ _ (ρ.t 5) L.t127 ⟨g,0,none⟩ 0 ((ρ.t 5),D.size) (by have hg':w.drew.heap[g]?=some (.cells D (ρ.t 5) G):=H;simp [World.shape?,hg']);have c2:(w.drew.alloc (.view ⟨g,0,none⟩ (ρ.t 5))).cell? ⟨b,1,none⟩=some (slice (some ⟨g,0,none⟩) 0 0):=by have:(w.drew.alloc (.view ⟨g,0,none⟩ (ρ.t 5))).heap[b]?=_:=(Lib.alloc_old w.drew _ b M).trans F;rw [zc this];rfl
 have c3:(w.alloc (.view ⟨g,0,none⟩ (ρ.t 5))).drew.cell? ⟨b,1,none⟩=some (slice (some ⟨g,0,none⟩) 0 0):=c2;have c0:w.cell? ⟨b,1,none⟩=some (slice (some ⟨g,0,none⟩) 0 0):=c1;have mixed:=L.mixed;have bk:=L.t72;have ba:=L.a72;have bj:=L.z72;have bc:=L.v72;have be:=zy L.t72;have bh:=L.t70;have m:=L.a70;have O:=L.z70;have bb:=L.v70;have Z:=zy L.t70;have bf:=L.t37;have d:=L.a37;have bd:=L.z37;have r:=L.v37;have j:=zy L.t37;have q:=L.t127;have a127:=L.a127;have S:=L.z127;have V:=L.v127;have Y:=zy L.t127;have y:=L.t3;have a3:=L.a3;have z3:=L.z3;have v3:=L.v3;have A:=zy L.t3;have N:=L.t9;have a9:=L.a9;have z9:=L.z9;have v9:=L.v9;have u9:=zy L.t9;have l:=X.t5;have R:=X.a5;have z5:=X.z5;have v5:=X.v5;have u5:=zy X.t5;go_enter L.f169,Body.n169_ntmps ρ;go_wp2;go_region_o
 all_goals (go_wp2;go_ret;exact ⟨rfl,I.drew.alloc _,(Below.drew (zr B w)).alloc J _⟩)
theorem Bw.String_room_f {T:TypeId}(_hT:Bw.Lies P ρ T)(L:Lays.n169 P ρ)(X:Builder.Extra P ρ)(B b g cap:Nat)(p:Value)(w:World)(C:cap≠0)(F:w.heap[b]?=some (.cells #[p,slice (some ⟨g,0,none⟩) 0 cap] T (0,0)))(D:Lib.BuilderAtF T (ρ.t 5) B b p [] w) : Calls P (ρ.f 169) #[.pointer (some ⟨b,0,none⟩)] w λe w'=>e=.returned (.string ⟨#[]⟩)/\(Lib.BuilderAtF T (ρ.t 5) B b p [] w'/\Below B w w'):=by
 have bd:=Any.unsafeString_none L X;have c1:w.drew.cell? ⟨b,1,none⟩=some (slice (some ⟨g,0,none⟩) 0 cap):=by have:w.drew.heap[b]?=some (.cells #[p,slice (some ⟨g,0,none⟩) 0 cap] T (0,0)):=F;rw [zc this];rfl
 have M:(Builtin.unsafeSliceData_ #[(ρ.t 37)] (ρ.t 127) #[slice (some ⟨g,0,none⟩) 0 cap]).run P w.drew=.ok (.pointer (some ⟨g,0,none⟩)) w.drew := Lib.run_unsafeSliceData_row _ _ _ _ _ _ C;clear C;have mixed:=L.mixed;have bg:=L.t72;have q:=L.a72;have bf:=L.z72;have A:=L.v72;have bb:=zy L.t72;have be:=L.t70;have Y:=L.a70;have H:=L.z70;have y:=L.v70;have R:=zy L.t70;have bc:=L.t37;have S:=L.a37;have ba:=L.z37;have d:=L.v37;have U:=zy L.t37;have Z:=L.t127;have m:=L.a127;have J:=L.z127;have N:=L.v127;have O:=zy L.t127;have j:=L.t3;have a3:=L.a3;have z3:=L.z3;have v3:=L.v3;have l:=zy L.t3;have G:=L.t9;have a9:=L.a9;have z9:=L.z9;have v9:=L.v9;have u9:=zy L.t9;have V:=X.t5;have I:=X.a5;have r:=X.z5;have v5:=X.v5;have u5:=zy X.t5;go_enter L.f169,Body.n169_ntmps ρ;go_wp2;go_region_o
 all_goals (go_wp2;go_ret;exact ⟨rfl,D.drew,Below.drew (zr B w)⟩)
theorem Bw.String_empty_f {T:TypeId}(D:Bw.Lies P ρ T)(L:Lays.n169 P ρ)(X:Builder.Extra P ρ)(B b:Nat)(w:World)(h:Lib.IsBuilderF T (ρ.t 5) B b [] w)(I:B<=w.heap.size) : Calls P (ρ.f 169) #[.pointer (some ⟨b,0,none⟩)] w λe w'=>e=.returned (.string ⟨#[]⟩)/\(Lib.IsBuilderF T (ρ.t 5) B b [] w'/\Below B w w'):=by
 obtain ⟨p,M,G⟩:∃ p,(p=.pointer none\/p=.pointer (some ⟨b,0,none⟩))/\Lib.BuilderAtF T (ρ.t 5) B b p [] w:=by
  rcases h with h | h
  · exact ⟨_,.inl rfl,h⟩
  · exact ⟨_,.inr rfl,h⟩
 have fin:∀ (e:Ending) (w':World),(e=.returned (.string ⟨#[]⟩)/\(Lib.BuilderAtF T (ρ.t 5) B b p [] w'/\Below B w w'))->e=.returned (.string ⟨#[]⟩)/\(Lib.IsBuilderF T (ρ.t 5) B b [] w'/\Below B w w'):=by
  rintro e w' ⟨he,hk,hb⟩;rcases M with rfl | rfl
  · exact ⟨he,.inl hk,hb⟩
  · exact ⟨he,.inr hk,hb⟩
 have C:=G;obtain ⟨U,v,F,O,S⟩:=G;rcases O.2 with ⟨rfl,_⟩ | ⟨g,cap,N,H,rfl,R,J,_,_,_,_,_⟩
 · exact (Bw.String_nil_f D L X B b p w F C).mono fin
 · by_cases hc0:cap=0
   · subst hc0;exact (Bw.String_noroom_f D L X B b g p N w I F H J C).mono fin
   · exact (Bw.String_room_f D L X B b g cap p w hc0 F C).mono fin
theorem Bw.String_any {T:TypeId}(C:Bw.Lies P ρ T)(L:Lays.n169 P ρ)(X:Builder.Extra P ρ)(B b:Nat)(l:List UInt8)(w:World)(h:Lib.IsBuilderF T (ρ.t 5) B b (Lib.byteCells l) w)(D:B<=w.heap.size) : Calls P (ρ.f 169) #[.pointer (some ⟨b,0,none⟩)] w λe w'=>e=.returned (.string ⟨l.toArray⟩)/\(Lib.IsBuilderF T (ρ.t 5) B b (Lib.byteCells l) w'/\Below B w w'):=by
 cases l with
 | nil=>exact Bw.String_empty_f C L X B b w h D
 | cons x r=>exact (Bw.String_k C L X B b (x::r) w h (by simp)).mono λ_ _ h=>⟨h.1,h.2.1,h.2.2.1⟩
end
end
section
open Go.RowKit Lx
def Wd (b:Nat)(l:Bytes)(w:World):Prop:=Lib.IsBuilderF 189 5 b b (Lib.byteCells l) w
def Okp (b:Nat)(w w':World):Prop:=Lib.OthersKept 5 (some b) w w'
theorem wd_new (w:World):Wd w.heap.size [] (w.alloc (.cells #[.pointer none,slice none 0 0] 189)) := .inl ⟨zn _,slice none 0 0,heap_alloc_new w _,World.ownsRowF_nil _ _ _ _,by simp [Value.ownBlock]⟩
theorem Zc7 {T e:TypeId}{B b:Nat}{p:Value}{C:List Value}{w w':World}(h:Lib.BuilderAtF T e B b p C w)(hb:Below w.heap.size w w'):Lib.BuilderAtF T e B b p C w':=by
 obtain ⟨M,v,F,⟨I,L⟩,R⟩:=h;refine ⟨M,v,(hb.block b (zs F)).trans F,⟨I,?_⟩,R⟩;rcases L with O | ⟨g,cap,J,G,N,H,D,rest⟩
 · exact .inl O
 · exact .inr ⟨g,cap,J,G,N,H,(hb.block g (zs D)).trans D,rest⟩
theorem Z3y {b:Nat}{l:Bytes}{w w':World}(h:Wd b l w)(hb:Below w.heap.size w w'):Wd b l w':=by
 rcases h with h | h
 · exact .inl (Zc7 h hb)
 · exact .inr (Zc7 h hb)
theorem Zf8 {b:Nat}{l:Bytes}{w:World}(h:Wd b l w)(o:Obj):Wd b l (w.alloc o):=Z3y h ((zr _ _).alloc (zn _) _)
theorem Z6e {b:Nat}{l:Bytes}{w:World}(h:Wd b l w):b<w.heap.size:=by
 rcases h with h | h <;> exact h.lt
theorem Zdw:Bw.Lies prog Tryz.bRen 189:=⟨by kernel_rfl,by decide⟩
theorem Zqq:Bw.Lies prog Tryz.lays169_ren 189:=⟨by kernel_rfl,by decide⟩
def Zpu (b:Nat)(l:Bytes)(s:ByteArray)(w:World)(e:Ending)(w':World):Prop:=e=.returned (.tuple #[int i64 s.size,.nilIface])/\Wd b (l++bl s) w'/\Below b w w'/\Okp b w w'
theorem Z3z (b:Nat)(l:Bytes)(s:ByteArray)(w:World)(h:Wd b l w)(B:l.length+s.size<=140737488355328) : Calls prog 137 #[.pointer (some ⟨b,0,none⟩),.string s] w λe w'=>Zpu b l s w e w' := (Bw.WriteString_k Zdw Tryz.lays166 Tryz.bExtra b b (Lib.byteCells l) s w h (by rw [Lib.byteCells_length];exact B) (zl (Z6e h))).1.mono λ_ _ ⟨he,h1,h2,h3⟩ =>
  ⟨he,.inr (by rw [Lib.byteCells_append];exact h1),h2,h3⟩
theorem Zn1 (b:Nat)(l:Bytes)(s:ByteArray)(w:World)(u:FrameMode)(h:Wd b l w)(B:l.length+s.size<=140737488355328) : CallsD prog 137 #[.pointer (some ⟨b,0,none⟩),.string s] u w λe u' w'=>u'=u/\Zpu b l s w e w' := ((Bw.WriteString_k Zdw Tryz.lays166 Tryz.bExtra b b (Lib.byteCells l) s w h (by rw [Lib.byteCells_length];exact B) (zl (Z6e h))).2 u).mono λ_ _ _ ⟨hu,he,h1,h2,h3⟩ =>
   ⟨hu,he,.inr (by rw [Lib.byteCells_append];exact h1),h2,h3⟩
theorem Zpv (b:Nat)(l:Bytes)(c:UInt8)(w:World)(h:Wd b l w)(B:l.length+1<=140737488355328) : Calls prog 179 #[.pointer (some ⟨b,0,none⟩),.int .u8 c.toNat] w λe w'=>e=.returned .nilIface/\Wd b (l++[c]) w'/\Below b w w'/\Okp b w w' := (Bw.WriteByte_k Zdw Tryz.lays167 Tryz.bExtra b b (Lib.byteCells l) c.toNat w h (by rw [Lib.byteCells_length];exact B) (zl (Z6e h))).mono λ_ _ ⟨he,h1,h2,h3⟩ =>
  ⟨he,.inr (by rw [Lib.byteCells_append];exact h1),h2,h3⟩
theorem Zn2 (b:Nat)(l:Bytes)(w:World)(h:Wd b l w) : Calls prog 138 #[.pointer (some ⟨b,0,none⟩)] w λe w'=>e=.returned (.string (mk l))/\Below b w w' := (Bw.String_any Zqq Tryz.lays169 Tryz.Builder_Extra_169 b b l w h (zl (Z6e h))).mono λ_ _ ⟨he,hw⟩=>⟨he,hw.2⟩
theorem Zji {b k:Nat}{w w':World}{cs:Array Value}{t:TypeId}{B:Nat × Nat}(h:Okp b w w')(hk:w.heap[k]?=some (.cells cs t B))(hb:k≠b)(C:t≠5):w'.heap[k]?=some (.cells cs t B) := h k _ hk (by simpa using hb) (λc fz' e=>by cases e;exact C rfl)
end
section
open Go.RowKit Lx Px
def Zay (w:World)(op:Int)(A1:Option Addr)(n1 b2:Nat):Prop := ((op=15/\A1=none/\n1=0)\/∃ bs,op≠15/\A1=some ⟨bs,0,none⟩/\n1=Z0p op - 1/\w.heap[bs]?=some (.cells ((sepL op).map λs=>.string (mk s)).toArray 9 (0,0))) /\ w.heap[b2]?=some (.cells ((Z9x op).map (.int .i64)).toArray 3 (0,0))
def Zc8 (op:Int)(w:World)(e:Ending)(w':World):Prop := ∃ (r:Nat) (A1:Option Addr) (n1 c1 b2:Nat),e=.returned (.map (some r)) /\ (∀ W:World,W.heap[r]?=w'.heap[r]?->(Instr.lookup 236 (.map (some r)) (int i64 op) true).run prog W = .ok (.tuple #[.agg #[.string (mk (beginOf op)),slice A1 n1 c1,.string (mk (endOf op)),int i64 (Z04 op),slice (some ⟨b2,0,none⟩) (Z0p op) (Z0p op)],.bool true]) W) /\ r<w'.heap.size/\Zay w' op A1 n1 b2/\Below w.heap.size w w'
def Zjj (op:Int)(w:World)(e:Ending)(w':World):Prop := ∃ r:Nat,e=.returned (.map (some r)) /\ (∀ W:World,W.heap[r]?=w'.heap[r]?->(Instr.lookup 236 (.map (some r)) (int i64 op) true).run prog W = .ok (.tuple #[.agg #[.string ⟨#[]⟩,slice none 0 0,.string ⟨#[]⟩,int i64 0,slice none 0 0],.bool false]) W) /\ r<w'.heap.size/\Below w.heap.size w w'
theorem Z32 {w w':World}{e:Ending}{r:Nat}{op:Int}{v:Value}{L L2:List (Int × Value)}(he:e=.returned (.map (some r)))(h:Z31 w' r (L++(op,v)::L2))(J:∀ p∈L,p.1≠op)(I:Below w.heap.size w w'):Zc8 op w e w':=by
 obtain ⟨G,F,B,D,M,C⟩:=h.2 (op,v) (by simp);have H:=Z79 op v L L2 0 0 J;dsimp only at B D C;by_cases ho:op=15
 · rw [zp ho] at B;refine ⟨r,none,0,0,F,he,λW hW=>?_,h.lt,⟨.inl ⟨ho,rfl,rfl⟩,C⟩,I⟩;rw [<- B];exact Z6d underlying236 underlying3 (hW.trans h.1) H
 · rw [zf ho] at B;refine ⟨r,some ⟨G,0,none⟩,Z0p op - 1,Z0p op - 1,F,he,λW hW=>?_,h.lt,⟨.inr ⟨G,ho,rfl,rfl,(D ho).2⟩,C⟩,I⟩;rw [<- B];exact Z6d underlying236 underlying3 (hW.trans h.1) H
theorem Zgv (op:Int)(w:World)(U:4<=op)(X:op<=15):Calls prog 180 #[] w (Zc8 op w):=by
 refine (Zc6 w).mono ?_;rintro e w' ⟨r,D,F,G,H,I,J,M,N,O,R,T,V,he,Y,B,C⟩;have S:op=4\/op=5\/op=6\/op=7\/op=8\/op=9\/op=10\/op=11\/op=12\/op=13\/op=14\/op=15:=by omega
 rcases S with rfl | rfl | rfl | rfl | rfl | rfl | rfl | rfl | rfl | rfl | rfl | rfl
 · exact Z32 (L:=[(10,D),(14,F),(13,G),(15,H),(11,I),(12,J)]) he B (by simp) C
 · exact Z32 (L:=[(10,D),(14,F),(13,G),(15,H),(11,I),(12,J),(4,M)]) he B (by simp) C
 · exact Z32 (L:=[(10,D),(14,F),(13,G),(15,H),(11,I),(12,J),(4,M),(5,N)]) he B (by simp) C
 · exact Z32 (L:=[(10,D),(14,F),(13,G),(15,H),(11,I),(12,J),(4,M),(5,N),(6,O)]) he B (by simp) C
 · exact Z32 (L:=[(10,D),(14,F),(13,G),(15,H),(11,I),(12,J),(4,M),(5,N),(6,O),(7,R)]) he B (by simp) C
 · exact Z32 (L:=[(10,D),(14,F),(13,G),(15,H),(11,I),(12,J),(4,M),(5,N),(6,O),(7,R),(8,T)]) he B (by simp) C
 · exact Z32 (L:=[]) he B (by simp) C
 · exact Z32 (L:=[(10,D),(14,F),(13,G),(15,H)]) he B (by simp) C
 · exact Z32 (L:=[(10,D),(14,F),(13,G),(15,H),(11,I)]) he B (by simp) C
 · exact Z32 (L:=[(10,D),(14,F)]) he B (by simp) C
 · exact Z32 (L:=[(10,D)]) he B (by simp) C
 · exact Z32 (L:=[(10,D),(14,F),(13,G)]) he B (by simp) C
theorem Zgw (op:Int)(w:World)(H:1<=op)(O:op<=3):Calls prog 180 #[] w (Zjj op w):=by
 refine (Zc6 w).mono ?_;rintro e w' ⟨r,U,X,G,S,F,L,M,T,N,R,J,I,he,V,C,D⟩;refine ⟨r,he,λW hW=>?_,C.lt,D⟩;refine Z8y underlying236 underlying3 (hW.trans C.1) (Z2D op _ 0 0 ?_) (Tryz.zeroValue234 W);intro p B;simp at B;rcases B with rfl | rfl | rfl | rfl | rfl | rfl | rfl | rfl | rfl | rfl | rfl | rfl <;> dsimp only <;> omega
def Tabs (B:Nat)(w:World):Prop := Lib.TabBelow prog B w "internal/strconv.uint64pow10" .u64 Lib.pow10Tab/\0<B/\w.heap.size>=B /\ ∀ k:Nat,1<=k->k<=4->w.cell? ⟨0,k,none⟩=some (.string (mk (Z4n k)))
theorem Tabs.on {B:Nat}{w w':World}(h:Tabs B w)(hb:Below B w w'):Tabs B w' := ⟨h.1.on hb,h.2.1,by have:=hb.size;have:=h.2.2.1;omega,λk h1 h2=>(hb.cell (p:=⟨0,k,none⟩) h.2.1).trans (h.2.2.2 k h1 h2)⟩
namespace Px
def okF:Fo->Bool
 | .nil=>true
 | .node _ _ a l r=>Z05 a.1 a.2 (flen l)&&okF l&&okF r
theorem okF_of:∀ (f:Fo) (C B x:Int),Z1D f C B=(true,x)->okF f=true:=by
 intro f;induction f with
 | nil=>intro C B x h;rfl
 | node b o a l r ihl ihr =>
  intro C B x h;rw [Z1D] at h;split at h
  · simp at h
  · rename_i D;split at h
    · simp at h
    · rename_i y e;have F:=ihl _ _ _ e;have H:=ihr _ _ _ h;have G:Z05 a.1 a.2 (flen l)=true:=by
       cases hf:Z05 a.1 a.2 (flen l) with
       | true=>rfl
       | false=>exact absurd (.inr (.inr hf)) D
      simp [okF,F,H,G]
theorem Zdx:∀ (f:Fo) (k:Nat),okF f=true->k<flen f->Z05 (getF f k).1.1 (getF f k).1.2 (flen (getF f k).2)=true/\okF (getF f k).2=true:=by
 intro f;induction f with
 | nil=>intro k _ h;simp [flen] at h
 | node b o a l r _ ihr =>
  intro k h hk;simp only [okF,zd] at h;cases k with
  | zero=>exact ⟨h.1.1,h.1.2⟩
  | succ k=>exact ihr k h.2 (by simp [flen] at hk;omega)
theorem Z8A {op n:Int}{k:Nat}(h:Z05 op n k=true)(B:4<=op):op<=15/\n=0/\k=Z0p op:=by
 unfold Z05 at h;unfold Z0p
 repeat' split at h
 all_goals simp at h
 all_goals (split <;> (try split) <;> omega)
theorem Zc9 {op n:Int}{k:Nat}(h:Z05 op n k=true):1<=op:=by
 unfold Z05 at h
 repeat' split at h
 all_goals simp at h
 all_goals omega
end Px
end
end Go.Proofs.YtnepkoepbapgeaaGreatDoor
