/-
  DERIVED: THE SHELF's CONTRACTS AT THIS DUMP, IN PLAIN WORDS (tools/lay-plain.mjs out of 'TryzShelf.lean', which tools/lay-shelf.mjs wrote): THE SAME DECLARATIONS UNDER THE SAME NAMES: 'import', 'namespace', 'open', 'def', 'theorem' AND NOTHING ELSE: no command of the shelf's: FOR A HAND-IN. Each laying: the table of numbers ('.._ren') and one theorem, a field a fact of the dump's own or the kernel's comparison; each contract: ONE APPLICATION.
-/
import Derived.Shelf.Strings.Builder1
import Derived.Shelf.Strings.Builder2
import Derived.Shelf.Strings.BuilderF
import Derived.Shelf.Strings.BuilderK
import Derived.Shelf.Utf8.RuneCount
import Derived.Shelf.Strings.Builder2Cap
import Derived.Shelf.Strconv.Atoi
import Derived.Shelf.Strconv.Itoa0
import Derived.Shelf.Strconv.Itoa1
import Derived.Shelf.LaysM
import Derived.Shelf.Strconv.Itoa2
import Derived.Shelf.Strconv.Itoa3
import Derived.Shelf.Strings.Search1
import Derived.Shelf.Strings.Search2
import Derived.Shelf.Strings.Search3
import Derived.Shelf.Strings.Cut
import Derived.Shelf.Strings.Count
import Derived.Shelf.Strings.Shaped
import Derived.Shelf.Strconv.AppendUint10
import Derived.Shelf.Strconv.AppendInt10
import Derived.Shelf.Strconv.AppendIntPublic10
import Derived.Shelf.Strings.Split
import Derived.Shelf.Strings.Replace
import Derived.Shelf.Strings.SplitShaped
import Derived.Shelf.Unicode.Decode
import Derived.Shelf.Strings.RuneCount
import Derived.Shelf.Unicode.DecodeSlow
import Derived.Shelf.Unicode.DecodeAny
import Derived.Shelf.Strings.BuilderCap
import Derived.Shelf.Slices.Turned
import Derived.Shelf.Slices.Equal
import Derived.Ground.Names2Prog
import Derived.Shelf.Slices.SearchI
import Derived.Shelf.Slices.Empties2
import Derived.Test.YtnepkoepbapgeaaGreatDoorProg
namespace Go.Proofs
open Go.Shelf
def Tryz.lays169_ren:Go.Shelf.Ren:=⟨fun | 169=>138 | n=>n,fun | 70=>185 | 9=>9 | 0=>0 | 72=>187 | 37=>98 | 127=>240 | 3=>3 | 5=>5 | n=>n,fun | n=>n⟩
theorem Tryz.lays169:Go.Proofs.Lays.n169 Tryz.prog Tryz.lays169_ren:={
 mixed:=by kernel_rfl
 f169:=Tryz.func138.trans (congrArg some (by kernel_rfl))
 t0:=Tryz.underlying0
 a0:=Tryz.isAgg0
 z0:=Tryz.sizeOf0
 v0:=Tryz.zeroValue0
 t3:=Tryz.underlying3
 a3:=Tryz.isAgg3
 z3:=Tryz.sizeOf3
 v3:=Tryz.zeroValue3
 t9:=Tryz.underlying9
 a9:=Tryz.isAgg9
 z9:=Tryz.sizeOf9
 v9:=Tryz.zeroValue9
 t37:=Tryz.underlying98
 a37:=Tryz.isAgg98
 z37:=Tryz.sizeOf98
 v37:=Tryz.zeroValue98
 t70:=Tryz.underlying185
 a70:=Tryz.isAgg185
 z70:=Tryz.sizeOf185
 v70:=Tryz.zeroValue185
 t72:=Tryz.underlying187
 a72:=Tryz.isAgg187
 z72:=Tryz.sizeOf187
 v72:=Tryz.zeroValue187
 t127:=Tryz.underlying240
 a127:=Tryz.isAgg240
 z127:=Tryz.sizeOf240
 v127:=Tryz.zeroValue240 }
theorem Tryz.Builder_Extra_169:Builder.Extra Tryz.prog Tryz.lays169_ren:={
 sizeBuilder:=by kernel_rfl
 liesBuilder:=by kernel_rfl
 t5:=Tryz.underlying5
 a5:=Tryz.isAgg5
 z5:=Tryz.sizeOf5
 v5:=Tryz.zeroValue5
 infoByte:=by kernel_rfl
 cellsByte:=by kernel_rfl
 sizeByte:=by kernel_rfl
 neB5:=by decide }
open Go.RowKit in
open Go.RowKit in
open Go.RowKit in
open Go.RowKit in
open Go.RowKit in
open Go.RowKit in
open Go.RowKit in
open Go.RowKit in
open Go.RowKit in
open Go.RowKit in
open Go.RowKit in
open Go.RowKit in
open Go.RowKit in
open Go.RowKit in
open Go.RowKit in
def Tryz.lays172_ren:Go.Shelf.Ren:=⟨fun | 172=>255 | 244=>280 | 245=>281 | 247=>291 | 279=>292 | 280=>293 | 281=>294 | 282=>295 | 287=>300 | 316=>301 | 171=>102 | 205=>302 | 321=>308 | 322=>309 | 243=>141 | 246=>183 | 283=>242 | 284=>243 | 285=>244 | 286=>245 | 129=>272 | 317=>271 | 318=>273 | 319=>274 | 320=>275 | 337=>287 | 338=>288 | n=>n,fun | 9=>9 | 3=>3 | 75=>193 | 76=>194 | 4=>4 | 5=>5 | 167=>288 | 37=>98 | 0=>0 | 85=>289 | 2=>2 | 168=>291 | 53=>28 | 175=>299 | 46=>125 | 210=>303 | 127=>240 | 145=>308 | 143=>306 | 21=>21 | 171=>264 | 173=>267 | 212=>277 | 51=>44 | 20=>20 | 213=>278 | 232=>297 | 233=>298 | 80=>196 | n=>n,fun | 15=>5 | 16=>6 | 17=>1 | 18=>3 | 19=>4 | n=>n⟩
theorem Tryz.lays172:Go.Proofs.Lays.n172 Tryz.prog Tryz.lays172_ren:={
 mixed:=by kernel_rfl
 f129:=Tryz.func272.trans (congrArg some (by kernel_rfl))
 f171:=Tryz.func102.trans (congrArg some (by kernel_rfl))
 f172:=Tryz.func255.trans (congrArg some (by kernel_rfl))
 f205:=Tryz.func302.trans (congrArg some (by kernel_rfl))
 f243:=Tryz.func141.trans (congrArg some (by kernel_rfl))
 f244:=Tryz.func280.trans (congrArg some (by kernel_rfl))
 f245:=Tryz.func281.trans (congrArg some (by kernel_rfl))
 f246:=Tryz.func183.trans (congrArg some (by kernel_rfl))
 f247:=Tryz.func291.trans (congrArg some (by kernel_rfl))
 f279:=Tryz.func292.trans (congrArg some (by kernel_rfl))
 f280:=Tryz.func293.trans (congrArg some (by kernel_rfl))
 f281:=Tryz.func294.trans (congrArg some (by kernel_rfl))
 f282:=Tryz.func295.trans (congrArg some (by kernel_rfl))
 f283:=Tryz.func242.trans (congrArg some (by kernel_rfl))
 f284:=Tryz.func243.trans (congrArg some (by kernel_rfl))
 f285:=Tryz.func244.trans (congrArg some (by kernel_rfl))
 f286:=Tryz.func245.trans (congrArg some (by kernel_rfl))
 f287:=Tryz.func300.trans (congrArg some (by kernel_rfl))
 f316:=Tryz.func301.trans (congrArg some (by kernel_rfl))
 f317:=Tryz.func271.trans (congrArg some (by kernel_rfl))
 f318:=Tryz.func273.trans (congrArg some (by kernel_rfl))
 f319:=Tryz.func274.trans (congrArg some (by kernel_rfl))
 f320:=Tryz.func275.trans (congrArg some (by kernel_rfl))
 f321:=Tryz.func308.trans (congrArg some (by kernel_rfl))
 f322:=Tryz.func309.trans (congrArg some (by kernel_rfl))
 f337:=Tryz.func287.trans (congrArg some (by kernel_rfl))
 f338:=Tryz.func288.trans (congrArg some (by kernel_rfl))
 t0:=Tryz.underlying0
 a0:=Tryz.isAgg0
 z0:=Tryz.sizeOf0
 v0:=Tryz.zeroValue0
 t2:=Tryz.underlying2
 a2:=Tryz.isAgg2
 z2:=Tryz.sizeOf2
 v2:=Tryz.zeroValue2
 t3:=Tryz.underlying3
 a3:=Tryz.isAgg3
 z3:=Tryz.sizeOf3
 v3:=Tryz.zeroValue3
 t4:=Tryz.underlying4
 a4:=Tryz.isAgg4
 z4:=Tryz.sizeOf4
 v4:=Tryz.zeroValue4
 t5:=Tryz.underlying5
 a5:=Tryz.isAgg5
 z5:=Tryz.sizeOf5
 v5:=Tryz.zeroValue5
 t9:=Tryz.underlying9
 a9:=Tryz.isAgg9
 z9:=Tryz.sizeOf9
 v9:=Tryz.zeroValue9
 t20:=Tryz.underlying20
 a20:=Tryz.isAgg20
 z20:=Tryz.sizeOf20
 v20:=Tryz.zeroValue20
 t21:=Tryz.underlying21
 a21:=Tryz.isAgg21
 z21:=Tryz.sizeOf21
 v21:=Tryz.zeroValue21
 t37:=Tryz.underlying98
 a37:=Tryz.isAgg98
 z37:=Tryz.sizeOf98
 v37:=Tryz.zeroValue98
 t46:=Tryz.underlying125
 a46:=Tryz.isAgg125
 z46:=Tryz.sizeOf125
 v46:=Tryz.zeroValue125
 t51:=Tryz.underlying44
 a51:=Tryz.isAgg44
 z51:=Tryz.sizeOf44
 v51:=Tryz.zeroValue44
 t53:=Tryz.underlying28
 a53:=Tryz.isAgg28
 z53:=Tryz.sizeOf28
 v53:=Tryz.zeroValue28
 t75:=Tryz.underlying193
 a75:=Tryz.isAgg193
 z75:=Tryz.sizeOf193
 v75:=Tryz.zeroValue193
 t76:=Tryz.underlying194
 a76:=Tryz.isAgg194
 z76:=Tryz.sizeOf194
 v76:=Tryz.zeroValue194
 t85:=Tryz.underlying289
 a85:=Tryz.isAgg289
 z85:=Tryz.sizeOf289
 v85:=Tryz.zeroValue289
 t127:=Tryz.underlying240
 a127:=Tryz.isAgg240
 z127:=Tryz.sizeOf240
 v127:=Tryz.zeroValue240
 t143:=Tryz.underlying306
 a143:=Tryz.isAgg306
 z143:=Tryz.sizeOf306
 v143:=Tryz.zeroValue306
 t145:=Tryz.underlying308
 a145:=Tryz.isAgg308
 z145:=Tryz.sizeOf308
 v145:=Tryz.zeroValue308
 t167:=Tryz.underlying288
 a167:=Tryz.isAgg288
 z167:=Tryz.sizeOf288
 v167:=Tryz.zeroValue288
 t168:=Tryz.underlying291
 a168:=Tryz.isAgg291
 z168:=Tryz.sizeOf291
 v168:=Tryz.zeroValue291
 t171:=Tryz.underlying264
 a171:=Tryz.isAgg264
 z171:=Tryz.sizeOf264
 v171:=Tryz.zeroValue264
 t173:=Tryz.underlying267
 a173:=Tryz.isAgg267
 z173:=Tryz.sizeOf267
 v173:=Tryz.zeroValue267
 t175:=Tryz.underlying299
 a175:=Tryz.isAgg299
 z175:=Tryz.sizeOf299
 v175:=Tryz.zeroValue299
 t210:=Tryz.underlying303
 a210:=Tryz.isAgg303
 z210:=Tryz.sizeOf303
 v210:=Tryz.zeroValue303
 t212:=Tryz.underlying277
 a212:=Tryz.isAgg277
 z212:=Tryz.sizeOf277
 v212:=Tryz.zeroValue277
 t213:=Tryz.underlying278
 a213:=Tryz.isAgg278
 z213:=Tryz.sizeOf278
 t232:=Tryz.underlying297
 a232:=Tryz.isAgg297
 z232:=Tryz.sizeOf297
 v232:=Tryz.zeroValue297
 t233:=Tryz.underlying298
 a233:=Tryz.isAgg298
 z233:=Tryz.sizeOf298
 v233:=Tryz.zeroValue298
 g15:=by kernel_rfl
 g16:=by kernel_rfl
 g17:=by kernel_rfl
 g18:=by kernel_rfl
 g19:=by kernel_rfl }
open Go.RowKit in
theorem Tryz.strconv_Atoi (s:ByteArray)(n:Int)(hl:s.size≤18)(h:Lib.atoi s.data.toList=some n)(w:World) :
 Calls Tryz.prog 255 #[.string s] w fun e w'=>e=.returned (.tuple #[.int .i64 n,.nilIface])∧∃ t,w'=Lib.bytesWorld w 5 t:=Any.strconv_Atoi Tryz.lays172 s n hl h w
open Go.Lib in
open Go.Lib in
open Go.Lib in
open Go.Lib in
open Go.RowKit Go.Sort Go.Lib in
open Go.RowKit Go.Sort Go.Lib in
open Go.RowKit Go.Sort Go.Lib in
open Go.RowKit Go.Sort Go.Lib in
open Go.RowKit Go.Sort Go.Lib in
def Tryz.laysM171_ren:Go.Shelf.Ren:=⟨fun | 171=>102 | 243=>141 | 246=>183 | 283=>242 | 284=>243 | 285=>244 | 286=>245 | 129=>272 | 317=>271 | 318=>273 | 319=>274 | 320=>275 | 337=>287 | 338=>288 | n=>n,fun | 3=>3 | 9=>9 | 2=>2 | 4=>4 | 171=>264 | 0=>0 | 53=>28 | 37=>98 | 5=>5 | 173=>267 | 212=>277 | 51=>44 | 20=>20 | 213=>278 | 46=>125 | 232=>297 | 233=>298 | n=>n,fun | 17=>1 | 18=>3 | 19=>4 | n=>n⟩
theorem Tryz.laysM171:Go.Proofs.LaysM.n171 Tryz.prog Tryz.laysM171_ren:={
 mixed:=by kernel_rfl
 f129:=Tryz.func272.trans (congrArg some (by kernel_rfl))
 f171:=Tryz.func102.trans (congrArg some (by kernel_rfl))
 f243:=Tryz.func141.trans (congrArg some (by kernel_rfl))
 f246:=Tryz.func183.trans (congrArg some (by kernel_rfl))
 f283:=Tryz.func242.trans (congrArg some (by kernel_rfl))
 f284:=Tryz.func243.trans (congrArg some (by kernel_rfl))
 f285:=Tryz.func244.trans (congrArg some (by kernel_rfl))
 f286:=Tryz.func245.trans (congrArg some (by kernel_rfl))
 f317:=Tryz.func271.trans (congrArg some (by kernel_rfl))
 f318:=Tryz.func273.trans (congrArg some (by kernel_rfl))
 f319:=Tryz.func274.trans (congrArg some (by kernel_rfl))
 f320:=Tryz.func275.trans (congrArg some (by kernel_rfl))
 f337:=Tryz.func287.trans (congrArg some (by kernel_rfl))
 f338:=Tryz.func288.trans (congrArg some (by kernel_rfl))
 t0:=Tryz.underlying0
 a0:=Tryz.isAgg0
 z0:=Tryz.sizeOf0
 v0:=Tryz.zeroValue0
 t2:=Tryz.underlying2
 a2:=Tryz.isAgg2
 z2:=Tryz.sizeOf2
 v2:=Tryz.zeroValue2
 t3:=Tryz.underlying3
 a3:=Tryz.isAgg3
 z3:=Tryz.sizeOf3
 v3:=Tryz.zeroValue3
 t4:=Tryz.underlying4
 a4:=Tryz.isAgg4
 z4:=Tryz.sizeOf4
 v4:=Tryz.zeroValue4
 t5:=Tryz.underlying5
 a5:=Tryz.isAgg5
 z5:=Tryz.sizeOf5
 v5:=Tryz.zeroValue5
 t9:=Tryz.underlying9
 a9:=Tryz.isAgg9
 z9:=Tryz.sizeOf9
 v9:=Tryz.zeroValue9
 t20:=Tryz.underlying20
 a20:=Tryz.isAgg20
 z20:=Tryz.sizeOf20
 v20:=Tryz.zeroValue20
 t37:=Tryz.underlying98
 a37:=Tryz.isAgg98
 z37:=Tryz.sizeOf98
 v37:=Tryz.zeroValue98
 t46:=Tryz.underlying125
 a46:=Tryz.isAgg125
 z46:=Tryz.sizeOf125
 v46:=Tryz.zeroValue125
 t51:=Tryz.underlying44
 a51:=Tryz.isAgg44
 z51:=Tryz.sizeOf44
 v51:=Tryz.zeroValue44
 t53:=Tryz.underlying28
 a53:=Tryz.isAgg28
 z53:=Tryz.sizeOf28
 v53:=Tryz.zeroValue28
 t171:=Tryz.underlying264
 a171:=Tryz.isAgg264
 z171:=Tryz.sizeOf264
 v171:=Tryz.zeroValue264
 t173:=Tryz.underlying267
 a173:=Tryz.isAgg267
 z173:=Tryz.sizeOf267
 v173:=Tryz.zeroValue267
 t212:=Tryz.underlying277
 a212:=Tryz.isAgg277
 z212:=Tryz.sizeOf277
 v212:=Tryz.zeroValue277
 t213:=Tryz.underlying278
 a213:=Tryz.isAgg278
 z213:=Tryz.sizeOf278
 t232:=Tryz.underlying297
 a232:=Tryz.isAgg297
 z232:=Tryz.sizeOf297
 v232:=Tryz.zeroValue297
 t233:=Tryz.underlying298
 a233:=Tryz.isAgg298
 z233:=Tryz.sizeOf298
 v233:=Tryz.zeroValue298
 g17:=by kernel_rfl
 g18:=by kernel_rfl
 g19:=by kernel_rfl
 i0:=by kernel_rfl
 i2:=by kernel_rfl
 i3:=by kernel_rfl
 i4:=by kernel_rfl
 i5:=by kernel_rfl
 i9:=by kernel_rfl
 i20:=by kernel_rfl
 i37:=by kernel_rfl
 i46:=by kernel_rfl
 i51:=by kernel_rfl
 i53:=by kernel_rfl
 i171:=by kernel_rfl
 i173:=by kernel_rfl
 i212:=by kernel_rfl
 i232:=by kernel_rfl
 i233:=by kernel_rfl
 m17:=by kernel_rfl
 m18:=by kernel_rfl
 m19:=by kernel_rfl }
open Go.RowKit Go.Sort Go.Lib in
theorem Tryz.strconv_Itoa (n:Int)(h0 : -9223372036854775808≤n)(h1:n≤9223372036854775807)(w:World)(htab:Lib.TabIs Tryz.prog w "internal/strconv.uint64pow10" .u64 Lib.pow10Tab) :
 Calls Tryz.prog 102 #[.int .i64 n] w fun e w'=>e=.returned (.string ⟨(Lib.itoa n).toArray⟩)∧∃ k os,w'=grow (w.drewN k) os:=Any.strconv_Itoa Tryz.laysM171 n h0 h1 w htab
open Go.RowKit Go.Sort Go.Lib in
open Go.RowKit Go.Lib in
open Go.RowKit Go.Lib in
open Go.RowKit Go.Lib in
open Go.RowKit Go.Lib in
def Tryz.lays219_ren:Go.Shelf.Ren:=⟨fun | 219=>253 | 217=>276 | 225=>277 | 224=>278 | 267=>279 | 266=>289 | 314=>290 | n=>n,fun | 9=>9 | 3=>3 | 4=>4 | 5=>5 | 46=>125 | 146=>286 | 51=>44 | n=>n,fun | 1=>2 | n=>n⟩
theorem Tryz.lays219:Go.Proofs.Lays.n219 Tryz.prog Tryz.lays219_ren:={
 mixed:=by kernel_rfl
 f217:=Tryz.func276.trans (congrArg some (by kernel_rfl))
 f219:=Tryz.func253.trans (congrArg some (by kernel_rfl))
 f224:=Tryz.func278.trans (congrArg some (by kernel_rfl))
 f225:=Tryz.func277.trans (congrArg some (by kernel_rfl))
 f266:=Tryz.func289.trans (congrArg some (by kernel_rfl))
 f267:=Tryz.func279.trans (congrArg some (by kernel_rfl))
 f314:=Tryz.func290.trans (congrArg some (by kernel_rfl))
 t3:=Tryz.underlying3
 a3:=Tryz.isAgg3
 z3:=Tryz.sizeOf3
 v3:=Tryz.zeroValue3
 t4:=Tryz.underlying4
 a4:=Tryz.isAgg4
 z4:=Tryz.sizeOf4
 v4:=Tryz.zeroValue4
 t5:=Tryz.underlying5
 a5:=Tryz.isAgg5
 z5:=Tryz.sizeOf5
 v5:=Tryz.zeroValue5
 t9:=Tryz.underlying9
 a9:=Tryz.isAgg9
 z9:=Tryz.sizeOf9
 v9:=Tryz.zeroValue9
 t46:=Tryz.underlying125
 a46:=Tryz.isAgg125
 z46:=Tryz.sizeOf125
 v46:=Tryz.zeroValue125
 t51:=Tryz.underlying44
 a51:=Tryz.isAgg44
 z51:=Tryz.sizeOf44
 v51:=Tryz.zeroValue44
 t146:=Tryz.underlying286
 a146:=Tryz.isAgg286
 z146:=Tryz.sizeOf286
 v146:=Tryz.zeroValue286
 g1:=by kernel_rfl }
open Go.RowKit Go.Lib in
theorem Tryz.stringslite_Index_one (s:ByteArray)(c:UInt8)(w:World) :
 Calls Tryz.prog 253 #[.string s,.string ⟨#[c]⟩] w fun e w'=>e=.returned (.int .i64 (Lib.indexByte s.data.toList c))∧w'=w:=Any.stringslite_Index_one Tryz.lays219 s c w
open Go.RowKit Go.Lib in
open Go.RowKit Go.Lib in
open Go.RowKit Go.Lib in
def Tryz.lays144_ren:Go.Shelf.Ren:=⟨fun | 144=>212 | 143=>254 | 219=>253 | 217=>276 | 225=>277 | 224=>278 | 267=>279 | 266=>289 | 314=>290 | n=>n,fun | 9=>9 | 4=>4 | 3=>3 | 5=>5 | 46=>125 | 146=>286 | 51=>44 | n=>n,fun | 1=>2 | n=>n⟩
theorem Tryz.lays144:Go.Proofs.Lays.n144 Tryz.prog Tryz.lays144_ren:={
 mixed:=by kernel_rfl
 f143:=Tryz.func254.trans (congrArg some (by kernel_rfl))
 f144:=Tryz.func212.trans (congrArg some (by kernel_rfl))
 f217:=Tryz.func276.trans (congrArg some (by kernel_rfl))
 f219:=Tryz.func253.trans (congrArg some (by kernel_rfl))
 f224:=Tryz.func278.trans (congrArg some (by kernel_rfl))
 f225:=Tryz.func277.trans (congrArg some (by kernel_rfl))
 f266:=Tryz.func289.trans (congrArg some (by kernel_rfl))
 f267:=Tryz.func279.trans (congrArg some (by kernel_rfl))
 f314:=Tryz.func290.trans (congrArg some (by kernel_rfl))
 t3:=Tryz.underlying3
 a3:=Tryz.isAgg3
 z3:=Tryz.sizeOf3
 v3:=Tryz.zeroValue3
 t4:=Tryz.underlying4
 a4:=Tryz.isAgg4
 z4:=Tryz.sizeOf4
 v4:=Tryz.zeroValue4
 t5:=Tryz.underlying5
 a5:=Tryz.isAgg5
 z5:=Tryz.sizeOf5
 v5:=Tryz.zeroValue5
 t9:=Tryz.underlying9
 a9:=Tryz.isAgg9
 z9:=Tryz.sizeOf9
 v9:=Tryz.zeroValue9
 t46:=Tryz.underlying125
 a46:=Tryz.isAgg125
 z46:=Tryz.sizeOf125
 v46:=Tryz.zeroValue125
 t51:=Tryz.underlying44
 a51:=Tryz.isAgg44
 z51:=Tryz.sizeOf44
 v51:=Tryz.zeroValue44
 t146:=Tryz.underlying286
 a146:=Tryz.isAgg286
 z146:=Tryz.sizeOf286
 v146:=Tryz.zeroValue286
 g1:=by kernel_rfl }
open Go.RowKit Go.Lib in
theorem Tryz.strings_Contains_one (s:ByteArray)(c:UInt8)(w:World) :
 Calls Tryz.prog 212 #[.string s,.string ⟨#[c]⟩] w fun e w'=>e=.returned (.bool (decide (0≤Lib.indexByte s.data.toList c)))∧w'=w:=Any.strings_Contains_one Tryz.lays144 s c w
open Go.RowKit Go.Lib in
open Go.RowKit Go.Lib in
open Go.RowKit Go.Lib in
open Go.RowKit Go.Lib in
open Go.RowKit Go.Lib in
open Go.RowKit Go.Lib in
open Go.RowKit Go.Lib in
open Go.RowKit Go.Lib in
open Go.RowKit Go.Lib in
open Go.RowKit Go.Lib in
open Go.RowKit Go.Lib in
open Go.RowKit Go.Sort Go.Lib in
open Go.RowKit Go.Sort Go.Lib in
open Go.RowKit Go.Sort Go.Lib in
open Go.RowKit Go.Sort Go.Lib in
def Tryz.laysM176_ren:Go.Shelf.Ren:=⟨fun | 176=>240 | 249=>270 | 288=>286 | 283=>242 | 284=>243 | 285=>244 | 286=>245 | 129=>272 | 317=>271 | 318=>273 | 319=>274 | 320=>275 | 337=>287 | 338=>288 | n=>n,fun | 37=>98 | 2=>2 | 3=>3 | 53=>28 | 4=>4 | 9=>9 | 171=>264 | 0=>0 | 173=>267 | 212=>277 | 51=>44 | 5=>5 | 20=>20 | 213=>278 | 46=>125 | 232=>297 | 233=>298 | n=>n,fun | 17=>1 | 18=>3 | 19=>4 | n=>n⟩
theorem Tryz.laysM176:Go.Proofs.LaysM.n176 Tryz.prog Tryz.laysM176_ren:={
 mixed:=by kernel_rfl
 f129:=Tryz.func272.trans (congrArg some (by kernel_rfl))
 f176:=Tryz.func240.trans (congrArg some (by kernel_rfl))
 f249:=Tryz.func270.trans (congrArg some (by kernel_rfl))
 f283:=Tryz.func242.trans (congrArg some (by kernel_rfl))
 f284:=Tryz.func243.trans (congrArg some (by kernel_rfl))
 f285:=Tryz.func244.trans (congrArg some (by kernel_rfl))
 f286:=Tryz.func245.trans (congrArg some (by kernel_rfl))
 f288:=Tryz.func286.trans (congrArg some (by kernel_rfl))
 f317:=Tryz.func271.trans (congrArg some (by kernel_rfl))
 f318:=Tryz.func273.trans (congrArg some (by kernel_rfl))
 f319:=Tryz.func274.trans (congrArg some (by kernel_rfl))
 f320:=Tryz.func275.trans (congrArg some (by kernel_rfl))
 f337:=Tryz.func287.trans (congrArg some (by kernel_rfl))
 f338:=Tryz.func288.trans (congrArg some (by kernel_rfl))
 t0:=Tryz.underlying0
 a0:=Tryz.isAgg0
 z0:=Tryz.sizeOf0
 v0:=Tryz.zeroValue0
 t2:=Tryz.underlying2
 a2:=Tryz.isAgg2
 z2:=Tryz.sizeOf2
 v2:=Tryz.zeroValue2
 t3:=Tryz.underlying3
 a3:=Tryz.isAgg3
 z3:=Tryz.sizeOf3
 v3:=Tryz.zeroValue3
 t4:=Tryz.underlying4
 a4:=Tryz.isAgg4
 z4:=Tryz.sizeOf4
 v4:=Tryz.zeroValue4
 t5:=Tryz.underlying5
 a5:=Tryz.isAgg5
 z5:=Tryz.sizeOf5
 v5:=Tryz.zeroValue5
 t9:=Tryz.underlying9
 a9:=Tryz.isAgg9
 z9:=Tryz.sizeOf9
 v9:=Tryz.zeroValue9
 t20:=Tryz.underlying20
 a20:=Tryz.isAgg20
 z20:=Tryz.sizeOf20
 v20:=Tryz.zeroValue20
 t37:=Tryz.underlying98
 a37:=Tryz.isAgg98
 z37:=Tryz.sizeOf98
 v37:=Tryz.zeroValue98
 t46:=Tryz.underlying125
 a46:=Tryz.isAgg125
 z46:=Tryz.sizeOf125
 v46:=Tryz.zeroValue125
 t51:=Tryz.underlying44
 a51:=Tryz.isAgg44
 z51:=Tryz.sizeOf44
 v51:=Tryz.zeroValue44
 t53:=Tryz.underlying28
 a53:=Tryz.isAgg28
 z53:=Tryz.sizeOf28
 v53:=Tryz.zeroValue28
 t171:=Tryz.underlying264
 a171:=Tryz.isAgg264
 z171:=Tryz.sizeOf264
 v171:=Tryz.zeroValue264
 t173:=Tryz.underlying267
 a173:=Tryz.isAgg267
 z173:=Tryz.sizeOf267
 v173:=Tryz.zeroValue267
 t212:=Tryz.underlying277
 a212:=Tryz.isAgg277
 z212:=Tryz.sizeOf277
 v212:=Tryz.zeroValue277
 t213:=Tryz.underlying278
 a213:=Tryz.isAgg278
 z213:=Tryz.sizeOf278
 t232:=Tryz.underlying297
 a232:=Tryz.isAgg297
 z232:=Tryz.sizeOf297
 v232:=Tryz.zeroValue297
 t233:=Tryz.underlying298
 a233:=Tryz.isAgg298
 z233:=Tryz.sizeOf298
 v233:=Tryz.zeroValue298
 g17:=by kernel_rfl
 g18:=by kernel_rfl
 g19:=by kernel_rfl
 i0:=by kernel_rfl
 i2:=by kernel_rfl
 i3:=by kernel_rfl
 i4:=by kernel_rfl
 i5:=by kernel_rfl
 i9:=by kernel_rfl
 i20:=by kernel_rfl
 i37:=by kernel_rfl
 i46:=by kernel_rfl
 i51:=by kernel_rfl
 i53:=by kernel_rfl
 i171:=by kernel_rfl
 i173:=by kernel_rfl
 i212:=by kernel_rfl
 i232:=by kernel_rfl
 i233:=by kernel_rfl
 m17:=by kernel_rfl
 m18:=by kernel_rfl
 m19:=by kernel_rfl }
open Go.RowKit Go.Sort Go.Lib in
theorem Tryz.strconv_AppendInt_10 (B n:Nat)(i:Int)(h0 : -9223372036854775808≤i)(h1:i≤9223372036854775807)(sv:Value)(xs:List Value)(w:World)(hown:w.ownsRow B 5 1 sv n xs)(hBw:B≤w.heap.size)(hlim:n+21≤140737488355328)(htab:Lib.TabBelow Tryz.prog B w "internal/strconv.uint64pow10" .u64 Lib.pow10Tab) :
 Calls Tryz.prog 240 #[sv,.int .i64 i,.int .i64 10] w fun e w'=>∃ v',e=.returned v'∧w'.ownsRow B 5 1 v' (n+(Lib.itoa i).length) (xs++Lib.byteCells (Lib.itoa i))∧Below B w w'∧Lib.OthersKept 5 none w w':=Any.strconv_AppendInt_10 Tryz.laysM176 B n i h0 h1 sv xs w hown hBw hlim htab
open Go.RowKit Go.Lib in
open Go.RowKit Go.Lib in
open Go.RowKit Go.Lib in
open Go.RowKit Go.Lib in
open Go.RowKit Go.Lib in
def Tryz.lays155_ren:Go.Shelf.Ren:=⟨fun | 155=>256 | 154=>282 | 138=>296 | 165=>297 | 143=>254 | 166=>137 | 197=>298 | 169=>138 | 195=>303 | 218=>304 | 240=>182 | 241=>305 | 219=>253 | 260=>306 | 276=>241 | 277=>310 | 217=>276 | 225=>277 | 224=>278 | 267=>279 | 266=>289 | 314=>290 | n=>n,fun | 9=>9 | 3=>3 | 4=>4 | 72=>187 | 0=>0 | 76=>194 | 105=>295 | 21=>21 | 5=>5 | 70=>185 | 20=>20 | 37=>98 | 75=>193 | 127=>240 | 164=>262 | 46=>125 | 119=>310 | 139=>313 | 138=>312 | 146=>286 | 51=>44 | 80=>196 | n=>n,fun | 1=>2 | 3=>7 | 4=>8 | n=>n⟩
theorem Tryz.lays155:Go.Proofs.Lays.n155 Tryz.prog Tryz.lays155_ren:={
 mixed:=by kernel_rfl
 f138:=Tryz.func296.trans (congrArg some (by kernel_rfl))
 f143:=Tryz.func254.trans (congrArg some (by kernel_rfl))
 f154:=Tryz.func282.trans (congrArg some (by kernel_rfl))
 f155:=Tryz.func256.trans (congrArg some (by kernel_rfl))
 f165:=Tryz.func297.trans (congrArg some (by kernel_rfl))
 f166:=Tryz.func137.trans (congrArg some (by kernel_rfl))
 f169:=Tryz.func138.trans (congrArg some (by kernel_rfl))
 f195:=Tryz.func303.trans (congrArg some (by kernel_rfl))
 f197:=Tryz.func298.trans (congrArg some (by kernel_rfl))
 f217:=Tryz.func276.trans (congrArg some (by kernel_rfl))
 f218:=Tryz.func304.trans (congrArg some (by kernel_rfl))
 f219:=Tryz.func253.trans (congrArg some (by kernel_rfl))
 f224:=Tryz.func278.trans (congrArg some (by kernel_rfl))
 f225:=Tryz.func277.trans (congrArg some (by kernel_rfl))
 f240:=Tryz.func182.trans (congrArg some (by kernel_rfl))
 f241:=Tryz.func305.trans (congrArg some (by kernel_rfl))
 f260:=Tryz.func306.trans (congrArg some (by kernel_rfl))
 f266:=Tryz.func289.trans (congrArg some (by kernel_rfl))
 f267:=Tryz.func279.trans (congrArg some (by kernel_rfl))
 f276:=Tryz.func241.trans (congrArg some (by kernel_rfl))
 f277:=Tryz.func310.trans (congrArg some (by kernel_rfl))
 f314:=Tryz.func290.trans (congrArg some (by kernel_rfl))
 t0:=Tryz.underlying0
 a0:=Tryz.isAgg0
 z0:=Tryz.sizeOf0
 v0:=Tryz.zeroValue0
 t3:=Tryz.underlying3
 a3:=Tryz.isAgg3
 z3:=Tryz.sizeOf3
 v3:=Tryz.zeroValue3
 t4:=Tryz.underlying4
 a4:=Tryz.isAgg4
 z4:=Tryz.sizeOf4
 v4:=Tryz.zeroValue4
 t5:=Tryz.underlying5
 a5:=Tryz.isAgg5
 z5:=Tryz.sizeOf5
 v5:=Tryz.zeroValue5
 t9:=Tryz.underlying9
 a9:=Tryz.isAgg9
 z9:=Tryz.sizeOf9
 v9:=Tryz.zeroValue9
 t20:=Tryz.underlying20
 a20:=Tryz.isAgg20
 z20:=Tryz.sizeOf20
 v20:=Tryz.zeroValue20
 t21:=Tryz.underlying21
 a21:=Tryz.isAgg21
 z21:=Tryz.sizeOf21
 v21:=Tryz.zeroValue21
 t37:=Tryz.underlying98
 a37:=Tryz.isAgg98
 z37:=Tryz.sizeOf98
 v37:=Tryz.zeroValue98
 t46:=Tryz.underlying125
 a46:=Tryz.isAgg125
 z46:=Tryz.sizeOf125
 v46:=Tryz.zeroValue125
 t51:=Tryz.underlying44
 a51:=Tryz.isAgg44
 z51:=Tryz.sizeOf44
 v51:=Tryz.zeroValue44
 t70:=Tryz.underlying185
 a70:=Tryz.isAgg185
 z70:=Tryz.sizeOf185
 v70:=Tryz.zeroValue185
 t72:=Tryz.underlying187
 a72:=Tryz.isAgg187
 z72:=Tryz.sizeOf187
 v72:=Tryz.zeroValue187
 t75:=Tryz.underlying193
 a75:=Tryz.isAgg193
 z75:=Tryz.sizeOf193
 v75:=Tryz.zeroValue193
 t76:=Tryz.underlying194
 a76:=Tryz.isAgg194
 z76:=Tryz.sizeOf194
 v76:=Tryz.zeroValue194
 t105:=Tryz.underlying295
 a105:=Tryz.isAgg295
 z105:=Tryz.sizeOf295
 v105:=Tryz.zeroValue295
 t119:=Tryz.underlying310
 a119:=Tryz.isAgg310
 z119:=Tryz.sizeOf310
 t127:=Tryz.underlying240
 a127:=Tryz.isAgg240
 z127:=Tryz.sizeOf240
 v127:=Tryz.zeroValue240
 t138:=Tryz.underlying312
 a138:=Tryz.isAgg312
 z138:=Tryz.sizeOf312
 v138:=Tryz.zeroValue312
 t139:=Tryz.underlying313
 a139:=Tryz.isAgg313
 z139:=Tryz.sizeOf313
 v139:=Tryz.zeroValue313
 t146:=Tryz.underlying286
 a146:=Tryz.isAgg286
 z146:=Tryz.sizeOf286
 v146:=Tryz.zeroValue286
 t164:=Tryz.underlying262
 a164:=Tryz.isAgg262
 z164:=Tryz.sizeOf262
 v164:=Tryz.zeroValue262
 g1:=by kernel_rfl
 g3:=by kernel_rfl
 g4:=by kernel_rfl }
theorem Tryz.Builder_Extra_155:Builder.Extra Tryz.prog Tryz.lays155_ren:={
 sizeBuilder:=by kernel_rfl
 liesBuilder:=by kernel_rfl
 t5:=Tryz.underlying5
 a5:=Tryz.isAgg5
 z5:=Tryz.sizeOf5
 v5:=Tryz.zeroValue5
 infoByte:=by kernel_rfl
 cellsByte:=by kernel_rfl
 sizeByte:=by kernel_rfl
 neB5:=by decide }
open Go.RowKit Go.Lib in
theorem Tryz.strings_ReplaceAll (s old new:ByteArray)(m:Int)(w:World)(hs:s.size<4294967281)(hm:w.cell? ⟨2,0,none⟩=some (.int .i64 m))(h1:1≤old.size)(hlen:s.size+Lib.countB s old*new.size≤140737488355328) :
 Calls Tryz.prog 256 #[.string s,.string old,.string new] w fun e w' =>
  e=.returned (.string ⟨(Lib.replaceAll s.data.toList old.data.toList new.data.toList).toArray⟩)∧Below w.heap.size w w':=Any.strings_ReplaceAll Tryz.lays155 Tryz.Builder_Extra_155 s old new m w hs hm h1 hlen
open Go.RowKit Go.Lib in
def Tryz.laysM155_ren:Go.Shelf.Ren:=⟨fun | 155=>256 | 154=>282 | 138=>296 | 165=>297 | 143=>254 | 166=>137 | 197=>298 | 169=>138 | 195=>303 | 218=>304 | 240=>182 | 241=>305 | 219=>253 | 260=>306 | 276=>241 | 277=>310 | 217=>276 | 225=>277 | 224=>278 | 267=>279 | 266=>289 | 314=>290 | n=>n,fun | 9=>9 | 3=>3 | 4=>4 | 72=>187 | 0=>0 | 76=>194 | 105=>295 | 21=>21 | 5=>5 | 70=>185 | 20=>20 | 37=>98 | 75=>193 | 127=>240 | 164=>262 | 46=>125 | 119=>310 | 139=>313 | 138=>312 | 146=>286 | 51=>44 | 80=>196 | n=>n,fun | 1=>2 | 3=>7 | 4=>8 | n=>n⟩
theorem Tryz.laysM155:Go.Proofs.LaysM.n155 Tryz.prog Tryz.laysM155_ren:={
 mixed:=by kernel_rfl
 f138:=Tryz.func296.trans (congrArg some (by kernel_rfl))
 f143:=Tryz.func254.trans (congrArg some (by kernel_rfl))
 f154:=Tryz.func282.trans (congrArg some (by kernel_rfl))
 f155:=Tryz.func256.trans (congrArg some (by kernel_rfl))
 f165:=Tryz.func297.trans (congrArg some (by kernel_rfl))
 f166:=Tryz.func137.trans (congrArg some (by kernel_rfl))
 f169:=Tryz.func138.trans (congrArg some (by kernel_rfl))
 f195:=Tryz.func303.trans (congrArg some (by kernel_rfl))
 f197:=Tryz.func298.trans (congrArg some (by kernel_rfl))
 f217:=Tryz.func276.trans (congrArg some (by kernel_rfl))
 f218:=Tryz.func304.trans (congrArg some (by kernel_rfl))
 f219:=Tryz.func253.trans (congrArg some (by kernel_rfl))
 f224:=Tryz.func278.trans (congrArg some (by kernel_rfl))
 f225:=Tryz.func277.trans (congrArg some (by kernel_rfl))
 f240:=Tryz.func182.trans (congrArg some (by kernel_rfl))
 f241:=Tryz.func305.trans (congrArg some (by kernel_rfl))
 f260:=Tryz.func306.trans (congrArg some (by kernel_rfl))
 f266:=Tryz.func289.trans (congrArg some (by kernel_rfl))
 f267:=Tryz.func279.trans (congrArg some (by kernel_rfl))
 f276:=Tryz.func241.trans (congrArg some (by kernel_rfl))
 f277:=Tryz.func310.trans (congrArg some (by kernel_rfl))
 f314:=Tryz.func290.trans (congrArg some (by kernel_rfl))
 t0:=Tryz.underlying0
 a0:=Tryz.isAgg0
 z0:=Tryz.sizeOf0
 v0:=Tryz.zeroValue0
 t3:=Tryz.underlying3
 a3:=Tryz.isAgg3
 z3:=Tryz.sizeOf3
 v3:=Tryz.zeroValue3
 t4:=Tryz.underlying4
 a4:=Tryz.isAgg4
 z4:=Tryz.sizeOf4
 v4:=Tryz.zeroValue4
 t5:=Tryz.underlying5
 a5:=Tryz.isAgg5
 z5:=Tryz.sizeOf5
 v5:=Tryz.zeroValue5
 t9:=Tryz.underlying9
 a9:=Tryz.isAgg9
 z9:=Tryz.sizeOf9
 v9:=Tryz.zeroValue9
 t20:=Tryz.underlying20
 a20:=Tryz.isAgg20
 z20:=Tryz.sizeOf20
 v20:=Tryz.zeroValue20
 t21:=Tryz.underlying21
 a21:=Tryz.isAgg21
 z21:=Tryz.sizeOf21
 v21:=Tryz.zeroValue21
 t37:=Tryz.underlying98
 a37:=Tryz.isAgg98
 z37:=Tryz.sizeOf98
 v37:=Tryz.zeroValue98
 t46:=Tryz.underlying125
 a46:=Tryz.isAgg125
 z46:=Tryz.sizeOf125
 v46:=Tryz.zeroValue125
 t51:=Tryz.underlying44
 a51:=Tryz.isAgg44
 z51:=Tryz.sizeOf44
 v51:=Tryz.zeroValue44
 t70:=Tryz.underlying185
 a70:=Tryz.isAgg185
 z70:=Tryz.sizeOf185
 v70:=Tryz.zeroValue185
 t72:=Tryz.underlying187
 a72:=Tryz.isAgg187
 z72:=Tryz.sizeOf187
 v72:=Tryz.zeroValue187
 t75:=Tryz.underlying193
 a75:=Tryz.isAgg193
 z75:=Tryz.sizeOf193
 v75:=Tryz.zeroValue193
 t76:=Tryz.underlying194
 a76:=Tryz.isAgg194
 z76:=Tryz.sizeOf194
 v76:=Tryz.zeroValue194
 t105:=Tryz.underlying295
 a105:=Tryz.isAgg295
 z105:=Tryz.sizeOf295
 v105:=Tryz.zeroValue295
 t119:=Tryz.underlying310
 a119:=Tryz.isAgg310
 z119:=Tryz.sizeOf310
 t127:=Tryz.underlying240
 a127:=Tryz.isAgg240
 z127:=Tryz.sizeOf240
 v127:=Tryz.zeroValue240
 t138:=Tryz.underlying312
 a138:=Tryz.isAgg312
 z138:=Tryz.sizeOf312
 v138:=Tryz.zeroValue312
 t139:=Tryz.underlying313
 a139:=Tryz.isAgg313
 z139:=Tryz.sizeOf313
 v139:=Tryz.zeroValue313
 t146:=Tryz.underlying286
 a146:=Tryz.isAgg286
 z146:=Tryz.sizeOf286
 v146:=Tryz.zeroValue286
 t164:=Tryz.underlying262
 a164:=Tryz.isAgg262
 z164:=Tryz.sizeOf262
 v164:=Tryz.zeroValue262
 g1:=by kernel_rfl
 g3:=by kernel_rfl
 g4:=by kernel_rfl
 t80:=Tryz.underlying196
 a80:=Tryz.isAgg196
 z80:=Tryz.sizeOf196
 v80:=Tryz.zeroValue196
 i0:=by kernel_rfl
 i3:=by kernel_rfl
 i4:=by kernel_rfl
 i5:=by kernel_rfl
 i9:=by kernel_rfl
 i20:=by kernel_rfl
 i21:=by kernel_rfl
 i37:=by kernel_rfl
 i46:=by kernel_rfl
 i51:=by kernel_rfl
 i70:=by kernel_rfl
 i72:=by kernel_rfl
 i75:=by kernel_rfl
 i76:=by kernel_rfl
 i80:=by kernel_rfl
 i105:=by kernel_rfl
 i127:=by kernel_rfl
 i138:=by kernel_rfl
 i139:=by kernel_rfl
 i146:=by kernel_rfl
 i164:=by kernel_rfl
 m1:=by kernel_rfl
 s1_3:=fun w h=>Go.Proofs.cell_of_shapedOpen_int (zero:=#[.int .i64 0]) (t:=3) h (of_decide_eq_true (by kernel_rfl)) (by kernel_rfl) rfl (by kernel_rfl) (by kernel_rfl) Tryz.underlying3
 m3:=by kernel_rfl
 m4:=by kernel_rfl }
open Go.RowKit Go.Lib in
open Go.RowKit Go.Lib in
open Go.RowKit Go.Lib in
open Go.RowKit Go.Lib in
open Go.RowKit Go.Lib in
open Go.Lib in
open Go.Lib in
def Tryz.lays107_ren:Go.Shelf.Ren:=⟨fun | 107=>235 | 108=>267 | n=>n,fun | 28=>27 | 3=>3 | 4=>4 | 0=>0 | n=>n,fun | n=>n⟩
theorem Tryz.lays107:Go.Proofs.Lays.n107 Tryz.prog Tryz.lays107_ren:={
 mixed:=by kernel_rfl
 f107:=Tryz.func235.trans (congrArg some (by kernel_rfl))
 f108:=Tryz.func267.trans (congrArg some (by kernel_rfl))
 t0:=Tryz.underlying0
 a0:=Tryz.isAgg0
 z0:=Tryz.sizeOf0
 v0:=Tryz.zeroValue0
 t3:=Tryz.underlying3
 a3:=Tryz.isAgg3
 z3:=Tryz.sizeOf3
 v3:=Tryz.zeroValue3
 t4:=Tryz.underlying4
 a4:=Tryz.isAgg4
 z4:=Tryz.sizeOf4
 v4:=Tryz.zeroValue4
 t28:=Tryz.underlying27
 a28:=Tryz.isAgg27
 z28:=Tryz.sizeOf27
 v28:=Tryz.zeroValue27 }
open Go.Lib in
theorem Tryz.slices_Contains_int (b off n c:Nat)(zs:List Int)(x:Int)(w:World)(hz:n≤zs.length)(hbig:n≤9223372036854775807)(hc:∀ j,j<zs.length→w.cell? ⟨b,off+j,none⟩=some (.int .i64 (zs.getD j 0))) :
 Calls Tryz.prog 235 #[.slice (some ⟨b,off,none⟩) n c,.int .i64 x] w fun e w'=>e=.returned (.bool ((zs.take n).contains x))∧w'=w:=Any.slices_Contains_int Tryz.lays107 b off n c zs x w hz hbig hc
open Go.Lib in
def Tryz.lays111_ren:Go.Shelf.Ren:=⟨fun | 111=>94 | n=>n,fun | 28=>27 | 3=>3 | 4=>4 | 0=>0 | n=>n,fun | n=>n⟩
theorem Tryz.lays111:Go.Proofs.Lays.n111 Tryz.prog Tryz.lays111_ren:={
 mixed:=by kernel_rfl
 f111:=Tryz.func94.trans (congrArg some (by kernel_rfl))
 t0:=Tryz.underlying0
 a0:=Tryz.isAgg0
 z0:=Tryz.sizeOf0
 v0:=Tryz.zeroValue0
 t3:=Tryz.underlying3
 a3:=Tryz.isAgg3
 z3:=Tryz.sizeOf3
 v3:=Tryz.zeroValue3
 t4:=Tryz.underlying4
 a4:=Tryz.isAgg4
 z4:=Tryz.sizeOf4
 v4:=Tryz.zeroValue4
 t28:=Tryz.underlying27
 a28:=Tryz.isAgg27
 z28:=Tryz.sizeOf27
 v28:=Tryz.zeroValue27 }
open Go.RowKit Go.Lib in
theorem Tryz.slices_Equal_int (b1 o1 n c b2 o2 m d:Nat)(xs ys:List Int)(w:World)(hx:n≤xs.length)(hy:m≤ys.length)(hbig:n≤9223372036854775807)(hbig2:m≤9223372036854775807)(hc1:∀ j,j<xs.length→w.cell? ⟨b1,o1+j,none⟩=some (.int .i64 (xs.getD j 0)))(hc2:∀ j,j<ys.length→w.cell? ⟨b2,o2+j,none⟩=some (.int .i64 (ys.getD j 0))) :
 Calls Tryz.prog 94 #[.slice (some ⟨b1,o1,none⟩) n c,.slice (some ⟨b2,o2,none⟩) m d] w fun e w'=>e=.returned (.bool (xs.take n==ys.take m))∧∃ q,w'=w.drewN q:=Any.slices_Equal_int Tryz.lays111 b1 o1 n c b2 o2 m d xs ys w hx hy hbig hbig2 hc1 hc2
open Go.RowKit Go.Lib in
theorem Tryz.slices_Equal_int_empty (a1 a2:Option Addr)(c m d:Nat)(w:World)(hbig2:m≤9223372036854775807) :
 Calls Tryz.prog 94 #[.slice a1 0 c,.slice a2 m d] w fun e w'=>e=.returned (.bool (decide (m=0)))∧w'=w:=Any.slices_Equal_int_empty Tryz.lays111 a1 a2 c m d w hbig2
open Go.RowKit Go.Lib in
def Tryz.laysNm231_ren:Go.Shelf.Ren:=⟨fun | 31=>265 | 37=>285 | n=>n,fun | 3=>3 | 4=>4 | n=>n,fun | n=>n⟩
theorem Tryz.laysNm231:Go.Proofs.Lays2.n31 Tryz.prog Tryz.laysNm231_ren:={
 mixed:=by kernel_rfl
 f31:=Tryz.func265.trans (congrArg some (by kernel_rfl))
 f37:=Tryz.func285.trans (congrArg some (by kernel_rfl))
 t3:=Tryz.underlying3
 a3:=Tryz.isAgg3
 z3:=Tryz.sizeOf3
 v3:=Tryz.zeroValue3
 t4:=Tryz.underlying4
 a4:=Tryz.isAgg4
 z4:=Tryz.sizeOf4
 v4:=Tryz.zeroValue4 }
open Go.RowKit Go.Lib in
theorem Tryz.cmp_Less_int2 (x y:Int)(w:World) :
 Calls Tryz.prog 265 #[.int .i64 x,.int .i64 y] w fun e w'=>e=.returned (.bool (decide (x<y)))∧w'=w:=Any.cmp_Less_int2 Tryz.laysNm231 x y w
open Go.RowKit Go.Lib in
theorem Tryz.slices_Equal_int_lens (a1 a2:Option Addr)(n c m d:Nat)(w:World)(hnm:n≠m) :
 Calls Tryz.prog 94 #[.slice a1 n c,.slice a2 m d] w fun e w'=>e=.returned (.bool false)∧w'=w:=Any.slices_Equal_int_lens Tryz.lays111 a1 a2 n c m d w hnm
end Go.Proofs
