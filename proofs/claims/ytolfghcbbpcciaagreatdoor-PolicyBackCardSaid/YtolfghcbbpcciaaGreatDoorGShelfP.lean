/- Joined texts of the walk, made small by a program. -/
import Derived.Shelf.Strings.Builder1
import Derived.Shelf.Strings.Builder2
import Derived.Shelf.Strings.OnBuilder
import Derived.Shelf.Small.Bits
import Derived.Shelf.Small.Strs
import Derived.Shelf.Strconv.Itoa0
import Derived.Shelf.Strconv.Itoa1
import Derived.Shelf.LaysM
import Derived.Shelf.Strconv.Itoa2
import Derived.Shelf.Strconv.Itoa3
import Derived.Shelf.Strconv.Itoa4
import Derived.Shelf.Strconv.ParseIntEmpty
import Derived.Shelf.Strconv.Clone
import Derived.Shelf.Strconv.SyntaxError
import Derived.Shelf.LaysC
import Derived.Shelf.Strconv.ToError
import Derived.Shelf.Strconv.Lower
import Derived.Shelf.Strconv.ParseUint10
import Derived.Shelf.Strconv.ParseUint10Empty
import Derived.Shelf.Strconv.ParseUint10Any
import Derived.Shelf.Strconv.ParseInt10
import Derived.Shelf.Strconv.RangeError
import Derived.Shelf.Strconv.ToErrorRange
import Derived.Shelf.Strconv.ParseUintEmpty
import Derived.Shelf.Strconv.ParseUint10b64
import Derived.Shelf.Strconv.ParseUint10b32
import Derived.Shelf.Strconv.ParseUint10b16
import Derived.Shelf.Strconv.ParseUint10b8
import Derived.Shelf.Strconv.ParseUint10At
import Derived.Shelf.Strconv.ParseInt10At64
import Derived.Shelf.Strconv.ParseInt10At32
import Derived.Shelf.Strconv.ParseInt10At16
import Derived.Shelf.Strconv.ParseInt10At8
import Derived.Shelf.Strconv.ParseInt10All
import Derived.Shelf.Strconv.ParseIntPublic10
import Derived.Shelf.Strconv.ErrVarParseInt
import Derived.Shelf.Strings.Search1
import Derived.Shelf.Strings.Search2
import Derived.Shelf.Strings.Cut
import Derived.Shelf.Strings.Shaped
import Derived.Shelf.Sort.Plain
import Derived.Shelf.GgClosure.StringsIndexFunc
import Derived.Ground.GgwProg
import Derived.Shelf.GgClosure.StringsIndexFuncTop
import Derived.Shelf.GgClosure.StringsRunes
import Derived.Shelf.Slices.In.SortNone
import Derived.Ground.SlgmProg
import Derived.Shelf.SortM.Plain
import Derived.Shelf.SortM.SortNone
import Derived.Shelf.Unicode.ValidAny
import Derived.Shelf.SlLaysM
import Derived.Test.YtolfghcbbpcciaaGreatDoorProg
set_option linter.unusedSimpArgs false
set_option linter.unusedVariables false
namespace Go.Proofs
open Go.Shelf
def Tryz.lays156_ren:Go.Shelf.Ren:=⟨fun|156=>159|165=>163|166=>164|169=>165|240=>175|241=>176|276=>181|277=>182|n=>n,fun|31=>44|9=>9|3=>3|4=>4|0=>0|20=>20|72=>205|76=>207|70=>203|37=>96|75=>103|127=>195|164=>218|5=>5|80=>209|n=>n,fun|n=>n⟩
theorem Tryz.lays156:Go.Proofs.Lays.n156 Tryz.prog Tryz.lays156_ren:={
 mixed:=by kernel_rfl
 f156:=Tryz.func159.trans (congrArg some (by kernel_rfl))
 f165:=Tryz.func163.trans (congrArg some (by kernel_rfl))
 f166:=Tryz.func164.trans (congrArg some (by kernel_rfl))
 f169:=Tryz.func165.trans (congrArg some (by kernel_rfl))
 f240:=Tryz.func175.trans (congrArg some (by kernel_rfl))
 f241:=Tryz.func176.trans (congrArg some (by kernel_rfl))
 f276:=Tryz.func181.trans (congrArg some (by kernel_rfl))
 f277:=Tryz.func182.trans (congrArg some (by kernel_rfl))
 t0:=Tryz.underlying0
 a0:=Tryz.isAgg0
 z0:=Tryz.sizeOf0
 v0:=Tryz.zeroValue0
 t3:=Tryz.underlying3
 a3:=Tryz.isAgg3
 z3:=Tryz.sizeOf3
 v3:=Tryz.zeroValue3
 t4:=Tryz.underlying4
 a4:=Tryz.isAgg4
 z4:=Tryz.sizeOf4
 v4:=Tryz.zeroValue4
 t9:=Tryz.underlying9
 a9:=Tryz.isAgg9
 z9:=Tryz.sizeOf9
 v9:=Tryz.zeroValue9
 t20:=Tryz.underlying20
 a20:=Tryz.isAgg20
 z20:=Tryz.sizeOf20
 v20:=Tryz.zeroValue20
 t31:=Tryz.underlying44
 a31:=Tryz.isAgg44
 z31:=Tryz.sizeOf44
 v31:=Tryz.zeroValue44
 t37:=Tryz.underlying96
 a37:=Tryz.isAgg96
 z37:=Tryz.sizeOf96
 v37:=Tryz.zeroValue96
 t70:=Tryz.underlying203
 a70:=Tryz.isAgg203
 z70:=Tryz.sizeOf203
 v70:=Tryz.zeroValue203
 t72:=Tryz.underlying205
 a72:=Tryz.isAgg205
 z72:=Tryz.sizeOf205
 v72:=Tryz.zeroValue205
 t75:=Tryz.underlying103
 a75:=Tryz.isAgg103
 z75:=Tryz.sizeOf103
 v75:=Tryz.zeroValue103
 t76:=Tryz.underlying207
 a76:=Tryz.isAgg207
 z76:=Tryz.sizeOf207
 v76:=Tryz.zeroValue207
 t127:=Tryz.underlying195
 a127:=Tryz.isAgg195
 z127:=Tryz.sizeOf195
 v127:=Tryz.zeroValue195
 t164:=Tryz.underlying218
 a164:=Tryz.isAgg218
 z164:=Tryz.sizeOf218
 v164:=Tryz.zeroValue218 }
theorem Tryz.Builder_Extra_156:Builder.Extra Tryz.prog Tryz.lays156_ren:={
 sizeBuilder:=by kernel_rfl
 liesBuilder:=by kernel_rfl
 t5:=Tryz.underlying5
 a5:=Tryz.isAgg5
 z5:=Tryz.sizeOf5
 v5:=Tryz.zeroValue5
 infoByte:=by kernel_rfl
 cellsByte:=by kernel_rfl
 sizeByte:=by kernel_rfl
 neB5:=by decide }
open Go.RowKit in
theorem Tryz.strings_Join_none (a:Option Addr) (c:Nat) (sep:ByteArray) (w:World) :
   Calls Tryz.prog 159 #[.slice a 0 c,.string sep] w fun e w'=>e=.returned (.string ⟨#[]⟩)∧w'=w:=Any.strings_Join_none Tryz.lays156 Tryz.Builder_Extra_156 a c sep w
open Go.RowKit in
theorem Tryz.strings_Join (bk o c:Nat) (xs:List ByteArray) (sep:ByteArray) (w:World) (hcells:∀ (j:Nat) x,xs[j]?=some x→w.cell? ⟨bk,o+j,none⟩=some (.string x)) (hbk:bk<w.heap.size) (hN:xs.length≤140737488355328) (hcap:xs.length≤c) (hlen:(Lib.join (xs.map (·.data.toList)) sep.data.toList).length≤140737488355328) :
   Calls Tryz.prog 159 #[.slice (some ⟨bk,o,none⟩) xs.length c,.string sep] w fun e w'=>e=.returned (.string ⟨(Lib.join (xs.map (·.data.toList)) sep.data.toList).toArray⟩)∧Below w.heap.size w w':=Any.strings_Join Tryz.lays156 Tryz.Builder_Extra_156 bk o c xs sep w hcells hbk hN hcap hlen
def Tryz.lays106_ren:Go.Shelf.Ren:=⟨fun|106=>80|213=>112|265=>137|n=>n,fun|9=>9|3=>3|n=>n,fun|n=>n⟩
theorem Tryz.lays106:Go.Proofs.Lays.n106 Tryz.prog Tryz.lays106_ren:={
 mixed:=by kernel_rfl
 f106:=Tryz.func80.trans (congrArg some (by kernel_rfl))
 f213:=Tryz.func112.trans (congrArg some (by kernel_rfl))
 f265:=Tryz.func137.trans (congrArg some (by kernel_rfl))
 t3:=Tryz.underlying3
 a3:=Tryz.isAgg3
 z3:=Tryz.sizeOf3
 v3:=Tryz.zeroValue3
 t9:=Tryz.underlying9
 a9:=Tryz.isAgg9
 z9:=Tryz.sizeOf9
 v9:=Tryz.zeroValue9 }
open Go.RowKit in
theorem Tryz.strings_Compare (a b:ByteArray) (w:World) :
   Calls Tryz.prog 80 #[.string a,.string b] w fun e w'=>e=.returned (.int .i64 (Lib.compareBytes a.data.toList b.data.toList))∧w'=w:=Any.strings_Compare Tryz.lays106 a b w
def Tryz.lays137_ren:Go.Shelf.Ren:=⟨fun|137=>154|217=>113|266=>138|n=>n,fun|9=>9|5=>5|3=>3|n=>n,fun|n=>n⟩
theorem Tryz.lays137:Go.Proofs.Lays.n137 Tryz.prog Tryz.lays137_ren:={
 mixed:=by kernel_rfl
 f137:=Tryz.func154.trans (congrArg some (by kernel_rfl))
 f217:=Tryz.func113.trans (congrArg some (by kernel_rfl))
 f266:=Tryz.func138.trans (congrArg some (by kernel_rfl))
 t3:=Tryz.underlying3
 a3:=Tryz.isAgg3
 z3:=Tryz.sizeOf3
 v3:=Tryz.zeroValue3
 t5:=Tryz.underlying5
 a5:=Tryz.isAgg5
 z5:=Tryz.sizeOf5
 v5:=Tryz.zeroValue5
 t9:=Tryz.underlying9
 a9:=Tryz.isAgg9
 z9:=Tryz.sizeOf9
 v9:=Tryz.zeroValue9 }
open Go.RowKit in
theorem Tryz.strings_IndexByte (s:ByteArray) (c:Int) (w:World) :
   Calls Tryz.prog 154 #[.string s,.int .u8 c] w fun e w'=>e=.returned (.int .i64 (Lib.indexByte s.data.toList c.toNat.toUInt8))∧w'=w:=Any.strings_IndexByte Tryz.lays137 s c w
def Tryz.laysM173_ren:Go.Shelf.Ren:=⟨fun|173=>30|246=>48|283=>67|284=>68|285=>69|286=>70|129=>100|317=>101|318=>102|319=>103|320=>104|337=>132|338=>133|n=>n,fun|2=>2|3=>3|9=>9|4=>4|171=>108|0=>0|53=>109|37=>96|5=>5|173=>112|212=>140|51=>137|20=>20|213=>141|46=>92|232=>188|233=>189|n=>n,fun|17=>0|18=>7|19=>8|n=>n⟩
theorem Tryz.laysM173:Go.Proofs.LaysM.n173 Tryz.prog Tryz.laysM173_ren:={
 mixed:=by kernel_rfl
 f129:=Tryz.func100.trans (congrArg some (by kernel_rfl))
 f173:=Tryz.func30.trans (congrArg some (by kernel_rfl))
 f246:=Tryz.func48.trans (congrArg some (by kernel_rfl))
 f283:=Tryz.func67.trans (congrArg some (by kernel_rfl))
 f284:=Tryz.func68.trans (congrArg some (by kernel_rfl))
 f285:=Tryz.func69.trans (congrArg some (by kernel_rfl))
 f286:=Tryz.func70.trans (congrArg some (by kernel_rfl))
 f317:=Tryz.func101.trans (congrArg some (by kernel_rfl))
 f318:=Tryz.func102.trans (congrArg some (by kernel_rfl))
 f319:=Tryz.func103.trans (congrArg some (by kernel_rfl))
 f320:=Tryz.func104.trans (congrArg some (by kernel_rfl))
 f337:=Tryz.func132.trans (congrArg some (by kernel_rfl))
 f338:=Tryz.func133.trans (congrArg some (by kernel_rfl))
 t0:=Tryz.underlying0
 a0:=Tryz.isAgg0
 z0:=Tryz.sizeOf0
 v0:=Tryz.zeroValue0
 t2:=Tryz.underlying2
 a2:=Tryz.isAgg2
 z2:=Tryz.sizeOf2
 v2:=Tryz.zeroValue2
 t3:=Tryz.underlying3
 a3:=Tryz.isAgg3
 z3:=Tryz.sizeOf3
 v3:=Tryz.zeroValue3
 t4:=Tryz.underlying4
 a4:=Tryz.isAgg4
 z4:=Tryz.sizeOf4
 v4:=Tryz.zeroValue4
 t5:=Tryz.underlying5
 a5:=Tryz.isAgg5
 z5:=Tryz.sizeOf5
 v5:=Tryz.zeroValue5
 t9:=Tryz.underlying9
 a9:=Tryz.isAgg9
 z9:=Tryz.sizeOf9
 v9:=Tryz.zeroValue9
 t20:=Tryz.underlying20
 a20:=Tryz.isAgg20
 z20:=Tryz.sizeOf20
 v20:=Tryz.zeroValue20
 t37:=Tryz.underlying96
 a37:=Tryz.isAgg96
 z37:=Tryz.sizeOf96
 v37:=Tryz.zeroValue96
 t46:=Tryz.underlying92
 a46:=Tryz.isAgg92
 z46:=Tryz.sizeOf92
 v46:=Tryz.zeroValue92
 t51:=Tryz.underlying137
 a51:=Tryz.isAgg137
 z51:=Tryz.sizeOf137
 v51:=Tryz.zeroValue137
 t53:=Tryz.underlying109
 a53:=Tryz.isAgg109
 z53:=Tryz.sizeOf109
 v53:=Tryz.zeroValue109
 t171:=Tryz.underlying108
 a171:=Tryz.isAgg108
 z171:=Tryz.sizeOf108
 v171:=Tryz.zeroValue108
 t173:=Tryz.underlying112
 a173:=Tryz.isAgg112
 z173:=Tryz.sizeOf112
 v173:=Tryz.zeroValue112
 t212:=Tryz.underlying140
 a212:=Tryz.isAgg140
 z212:=Tryz.sizeOf140
 v212:=Tryz.zeroValue140
 t213:=Tryz.underlying141
 a213:=Tryz.isAgg141
 z213:=Tryz.sizeOf141
 t232:=Tryz.underlying188
 a232:=Tryz.isAgg188
 z232:=Tryz.sizeOf188
 v232:=Tryz.zeroValue188
 t233:=Tryz.underlying189
 a233:=Tryz.isAgg189
 z233:=Tryz.sizeOf189
 v233:=Tryz.zeroValue189
 g17:=by kernel_rfl
 g18:=by kernel_rfl
 g19:=by kernel_rfl
 i0:=by kernel_rfl
 i2:=by kernel_rfl
 i3:=by kernel_rfl
 i4:=by kernel_rfl
 i5:=by kernel_rfl
 i9:=by kernel_rfl
 i20:=by kernel_rfl
 i37:=by kernel_rfl
 i46:=by kernel_rfl
 i51:=by kernel_rfl
 i53:=by kernel_rfl
 i171:=by kernel_rfl
 i173:=by kernel_rfl
 i212:=by kernel_rfl
 i232:=by kernel_rfl
 i233:=by kernel_rfl
 m17:=by kernel_rfl
 m18:=by kernel_rfl
 m19:=by kernel_rfl }
open Go.RowKit Go.Sort Go.Lib in
theorem Tryz.strconv_FormatInt_10 (n:Int) (h0 : -9223372036854775808≤n) (h1:n≤9223372036854775807) (w:World) (htab:Lib.TabIs Tryz.prog w "internal/strconv.uint64pow10" .u64 Lib.pow10Tab) :
   Calls Tryz.prog 30 #[.int .i64 n,.int .i64 10] w fun e w'=>e=.returned (.string ⟨(Lib.itoa n).toArray⟩)∧∃ k os,w'=grow (w.drewN k) os:=Any.strconv_FormatInt_10 Tryz.laysM173 n h0 h1 w htab
def Tryz.laysC174_ren:Go.Shelf.Ren:=⟨fun|174=>64|247=>89|245=>90|287=>122|279=>123|280=>124|281=>125|282=>126|321=>145|322=>146|316=>147|171=>31|205=>148|243=>49|246=>48|283=>67|284=>68|285=>69|286=>70|129=>100|317=>101|318=>102|319=>103|320=>104|337=>132|338=>133|n=>n,fun|9=>9|3=>3|2=>2|75=>103|85=>104|4=>4|167=>163|5=>5|53=>109|175=>164|46=>92|168=>166|37=>96|0=>0|210=>183|21=>21|127=>195|145=>198|143=>196|171=>108|173=>112|212=>140|51=>137|20=>20|213=>141|232=>188|233=>189|80=>209|n=>n,fun|15=>5|16=>6|17=>0|18=>7|19=>8|n=>n⟩
theorem Tryz.laysC174:Go.Proofs.LaysC.n174 Tryz.prog Tryz.laysC174_ren:={
 mixed:=by kernel_rfl
 f129:=Tryz.func100.trans (congrArg some (by kernel_rfl))
 f171:=Tryz.func31.trans (congrArg some (by kernel_rfl))
 f174:=Tryz.func64.trans (congrArg some (by kernel_rfl))
 f205:=Tryz.func148.trans (congrArg some (by kernel_rfl))
 f243:=Tryz.func49.trans (congrArg some (by kernel_rfl))
 f245:=Tryz.func90.trans (congrArg some (by kernel_rfl))
 f246:=Tryz.func48.trans (congrArg some (by kernel_rfl))
 f247:=Tryz.func89.trans (congrArg some (by kernel_rfl))
 f279:=Tryz.func123.trans (congrArg some (by kernel_rfl))
 f280:=Tryz.func124.trans (congrArg some (by kernel_rfl))
 f281:=Tryz.func125.trans (congrArg some (by kernel_rfl))
 f282:=Tryz.func126.trans (congrArg some (by kernel_rfl))
 f283:=Tryz.func67.trans (congrArg some (by kernel_rfl))
 f284:=Tryz.func68.trans (congrArg some (by kernel_rfl))
 f285:=Tryz.func69.trans (congrArg some (by kernel_rfl))
 f286:=Tryz.func70.trans (congrArg some (by kernel_rfl))
 f287:=Tryz.func122.trans (congrArg some (by kernel_rfl))
 f316:=Tryz.func147.trans (congrArg some (by kernel_rfl))
 f317:=Tryz.func101.trans (congrArg some (by kernel_rfl))
 f318:=Tryz.func102.trans (congrArg some (by kernel_rfl))
 f319:=Tryz.func103.trans (congrArg some (by kernel_rfl))
 f320:=Tryz.func104.trans (congrArg some (by kernel_rfl))
 f321:=Tryz.func145.trans (congrArg some (by kernel_rfl))
 f322:=Tryz.func146.trans (congrArg some (by kernel_rfl))
 f337:=Tryz.func132.trans (congrArg some (by kernel_rfl))
 f338:=Tryz.func133.trans (congrArg some (by kernel_rfl))
 t0:=Tryz.underlying0
 a0:=Tryz.isAgg0
 z0:=Tryz.sizeOf0
 v0:=Tryz.zeroValue0
 t2:=Tryz.underlying2
 a2:=Tryz.isAgg2
 z2:=Tryz.sizeOf2
 v2:=Tryz.zeroValue2
 t3:=Tryz.underlying3
 a3:=Tryz.isAgg3
 z3:=Tryz.sizeOf3
 v3:=Tryz.zeroValue3
 t4:=Tryz.underlying4
 a4:=Tryz.isAgg4
 z4:=Tryz.sizeOf4
 v4:=Tryz.zeroValue4
 t5:=Tryz.underlying5
 a5:=Tryz.isAgg5
 z5:=Tryz.sizeOf5
 v5:=Tryz.zeroValue5
 t9:=Tryz.underlying9
 a9:=Tryz.isAgg9
 z9:=Tryz.sizeOf9
 v9:=Tryz.zeroValue9
 t20:=Tryz.underlying20
 a20:=Tryz.isAgg20
 z20:=Tryz.sizeOf20
 v20:=Tryz.zeroValue20
 t21:=Tryz.underlying21
 a21:=Tryz.isAgg21
 z21:=Tryz.sizeOf21
 v21:=Tryz.zeroValue21
 t37:=Tryz.underlying96
 a37:=Tryz.isAgg96
 z37:=Tryz.sizeOf96
 v37:=Tryz.zeroValue96
 t46:=Tryz.underlying92
 a46:=Tryz.isAgg92
 z46:=Tryz.sizeOf92
 v46:=Tryz.zeroValue92
 t51:=Tryz.underlying137
 a51:=Tryz.isAgg137
 z51:=Tryz.sizeOf137
 v51:=Tryz.zeroValue137
 t53:=Tryz.underlying109
 a53:=Tryz.isAgg109
 z53:=Tryz.sizeOf109
 v53:=Tryz.zeroValue109
 t75:=Tryz.underlying103
 a75:=Tryz.isAgg103
 z75:=Tryz.sizeOf103
 v75:=Tryz.zeroValue103
 t85:=Tryz.underlying104
 a85:=Tryz.isAgg104
 z85:=Tryz.sizeOf104
 v85:=Tryz.zeroValue104
 t127:=Tryz.underlying195
 a127:=Tryz.isAgg195
 z127:=Tryz.sizeOf195
 v127:=Tryz.zeroValue195
 t143:=Tryz.underlying196
 a143:=Tryz.isAgg196
 z143:=Tryz.sizeOf196
 v143:=Tryz.zeroValue196
 t145:=Tryz.underlying198
 a145:=Tryz.isAgg198
 z145:=Tryz.sizeOf198
 v145:=Tryz.zeroValue198
 t167:=Tryz.underlying163
 a167:=Tryz.isAgg163
 z167:=Tryz.sizeOf163
 v167:=Tryz.zeroValue163
 t168:=Tryz.underlying166
 a168:=Tryz.isAgg166
 z168:=Tryz.sizeOf166
 v168:=Tryz.zeroValue166
 t171:=Tryz.underlying108
 a171:=Tryz.isAgg108
 z171:=Tryz.sizeOf108
 v171:=Tryz.zeroValue108
 t173:=Tryz.underlying112
 a173:=Tryz.isAgg112
 z173:=Tryz.sizeOf112
 v173:=Tryz.zeroValue112
 t175:=Tryz.underlying164
 a175:=Tryz.isAgg164
 z175:=Tryz.sizeOf164
 v175:=Tryz.zeroValue164
 t210:=Tryz.underlying183
 a210:=Tryz.isAgg183
 z210:=Tryz.sizeOf183
 v210:=Tryz.zeroValue183
 t212:=Tryz.underlying140
 a212:=Tryz.isAgg140
 z212:=Tryz.sizeOf140
 v212:=Tryz.zeroValue140
 t213:=Tryz.underlying141
 a213:=Tryz.isAgg141
 z213:=Tryz.sizeOf141
 t232:=Tryz.underlying188
 a232:=Tryz.isAgg188
 z232:=Tryz.sizeOf188
 v232:=Tryz.zeroValue188
 t233:=Tryz.underlying189
 a233:=Tryz.isAgg189
 z233:=Tryz.sizeOf189
 v233:=Tryz.zeroValue189
 g15:=by kernel_rfl
 g16:=by kernel_rfl
 g17:=by kernel_rfl
 g18:=by kernel_rfl
 g19:=by kernel_rfl
 t80:=Tryz.underlying209
 a80:=Tryz.isAgg209
 z80:=Tryz.sizeOf209
 v80:=Tryz.zeroValue209
 i0:=by kernel_rfl
 i2:=by kernel_rfl
 i3:=by kernel_rfl
 i4:=by kernel_rfl
 i5:=by kernel_rfl
 i9:=by kernel_rfl
 i20:=by kernel_rfl
 i21:=by kernel_rfl
 i37:=by kernel_rfl
 i46:=by kernel_rfl
 i51:=by kernel_rfl
 i53:=by kernel_rfl
 i75:=by kernel_rfl
 i80:=by kernel_rfl
 i85:=by kernel_rfl
 i127:=by kernel_rfl
 i143:=by kernel_rfl
 i145:=by kernel_rfl
 i167:=by kernel_rfl
 i168:=by kernel_rfl
 i171:=by kernel_rfl
 i173:=by kernel_rfl
 i175:=by kernel_rfl
 i210:=by kernel_rfl
 i212:=by kernel_rfl
 i232:=by kernel_rfl
 i233:=by kernel_rfl
 m15:=by kernel_rfl
 m16:=by kernel_rfl
 m17:=by kernel_rfl
 m18:=by kernel_rfl
 m19:=by kernel_rfl
 c0:=by kernel_rfl
 c2:=by kernel_rfl
 c3:=by kernel_rfl
 c4:=by kernel_rfl
 c5:=by kernel_rfl
 c9:=by kernel_rfl
 c20:=by kernel_rfl
 c21:=by kernel_rfl
 c37:=by kernel_rfl
 c46:=by kernel_rfl
 c51:=by kernel_rfl
 c53:=by kernel_rfl
 c75:=by kernel_rfl
 c80:=by kernel_rfl
 c85:=by kernel_rfl
 c127:=by kernel_rfl
 c143:=by kernel_rfl
 c145:=by kernel_rfl
 c167:=by kernel_rfl
 c168:=by kernel_rfl
 c171:=by kernel_rfl
 c173:=by kernel_rfl
 c175:=by kernel_rfl
 c210:=by kernel_rfl
 c212:=by kernel_rfl
 c213:=by kernel_rfl
 c232:=by kernel_rfl
 c233:=by kernel_rfl }
open Go.RowKit in
open Go.RowKit in
open Go.RowKit in
open Go.RowKit in
theorem Tryz.strconv_ParseInt_10_at64_ok (s:ByteArray) (hmax:s.size≤9223372036854775806) (v:Int) (h:Lib.parseIntB 64 s.data.toList=.ok v) (w:World) :
   Calls Tryz.prog 64 #[.string s,.int .i64 10,.int .i64 64] w fun e w'=>e=.returned (.tuple #[.int .i64 v,.nilIface])∧(w'=w∨∃ t,w'=Lib.bytesWorld w 5 t):=Any.strconv_ParseInt_10_at64_ok Tryz.laysC174 s hmax v h w
open Go.RowKit in
theorem Tryz.strconv_ParseInt_10_at64_syntax (s:ByteArray) (hlim:s.size≤281474976710656) (h:Lib.parseIntB 64 s.data.toList=.syntax) (ev:Value) (w:World) (hv:w.cell? ⟨5,0,none⟩=some ev) (hev:ev=.nilIface∨∃ te pe,ev=.iface te pe) :
   Calls Tryz.prog 64 #[.string s,.int .i64 10,.int .i64 64] w fun e w'=>∃ N,e=.returned (.tuple #[.int .i64 (0),.iface 166 (.pointer (some ⟨N,0,none⟩))])∧w.heap.size≤N∧w'.heap[N]?=some (.cells #[.string ⟨#[80,97,114,115,101,73,110,116]⟩,.string s,ev] 183 (0,0))∧Below w.heap.size w w':=Any.strconv_ParseInt_10_at64_syntax Tryz.laysC174 s hlim h ev w hv hev
open Go.RowKit in
theorem Tryz.strconv_ParseInt_10_at64_range (s:ByteArray) (hlim:s.size≤281474976710656) (h:Lib.parseIntB 64 s.data.toList=.range) (ev:Value) (w:World) (hv:w.cell? ⟨6,0,none⟩=some ev) (hev:ev=.nilIface∨∃ te pe,ev=.iface te pe) :
   Calls Tryz.prog 64 #[.string s,.int .i64 10,.int .i64 64] w fun e w'=>∃ N,e=.returned (.tuple #[.int .i64 (Lib.intSat 64 s.data.toList),.iface 166 (.pointer (some ⟨N,0,none⟩))])∧w.heap.size≤N∧w'.heap[N]?=some (.cells #[.string ⟨#[80,97,114,115,101,73,110,116]⟩,.string s,ev] 183 (0,0))∧Below w.heap.size w w':=Any.strconv_ParseInt_10_at64_range Tryz.laysC174 s hlim h ev w hv hev
open Go.RowKit in
open Go.RowKit in
open Go.RowKit in
open Go.RowKit in
open Go.RowKit in
open Go.RowKit in
open Go.RowKit in
open Go.RowKit in
open Go.RowKit in
open Go.RowKit in
open Go.RowKit in
open Go.RowKit in
open Go.RowKit in
open Go.RowKit in
open Go.RowKit in
open Go.RowKit in
open Go.RowKit in
open Go.RowKit in
open Go.RowKit in
open Go.RowKit Go.Lib in
def Tryz.lays219_ren:Go.Shelf.Ren:=⟨fun|219=>81|217=>113|225=>114|224=>115|267=>116|266=>138|314=>139|n=>n,fun|9=>9|3=>3|4=>4|5=>5|46=>92|146=>177|51=>137|n=>n,fun|1=>1|n=>n⟩
theorem Tryz.lays219:Go.Proofs.Lays.n219 Tryz.prog Tryz.lays219_ren:={
 mixed:=by kernel_rfl
 f217:=Tryz.func113.trans (congrArg some (by kernel_rfl))
 f219:=Tryz.func81.trans (congrArg some (by kernel_rfl))
 f224:=Tryz.func115.trans (congrArg some (by kernel_rfl))
 f225:=Tryz.func114.trans (congrArg some (by kernel_rfl))
 f266:=Tryz.func138.trans (congrArg some (by kernel_rfl))
 f267:=Tryz.func116.trans (congrArg some (by kernel_rfl))
 f314:=Tryz.func139.trans (congrArg some (by kernel_rfl))
 t3:=Tryz.underlying3
 a3:=Tryz.isAgg3
 z3:=Tryz.sizeOf3
 v3:=Tryz.zeroValue3
 t4:=Tryz.underlying4
 a4:=Tryz.isAgg4
 z4:=Tryz.sizeOf4
 v4:=Tryz.zeroValue4
 t5:=Tryz.underlying5
 a5:=Tryz.isAgg5
 z5:=Tryz.sizeOf5
 v5:=Tryz.zeroValue5
 t9:=Tryz.underlying9
 a9:=Tryz.isAgg9
 z9:=Tryz.sizeOf9
 v9:=Tryz.zeroValue9
 t46:=Tryz.underlying92
 a46:=Tryz.isAgg92
 z46:=Tryz.sizeOf92
 v46:=Tryz.zeroValue92
 t51:=Tryz.underlying137
 a51:=Tryz.isAgg137
 z51:=Tryz.sizeOf137
 v51:=Tryz.zeroValue137
 t146:=Tryz.underlying177
 a146:=Tryz.isAgg177
 z146:=Tryz.sizeOf177
 v146:=Tryz.zeroValue177
 g1:=by kernel_rfl }
open Go.RowKit Go.Lib in
theorem Tryz.stringslite_Index_one (s:ByteArray) (c:UInt8) (w:World) :
   Calls Tryz.prog 81 #[.string s,.string ⟨#[c]⟩] w fun e w'=>e=.returned (.int .i64 (Lib.indexByte s.data.toList c))∧w'=w:=Any.stringslite_Index_one Tryz.lays219 s c w
open Go.RowKit Go.Lib in
def Tryz.lays190_ren:Go.Shelf.Ren:=⟨fun|190=>158|125=>66|258=>162|128=>99|129=>100|302=>166|303=>167|304=>168|305=>169|306=>170|307=>171|308=>172|309=>173|310=>174|333=>177|329=>128|330=>129|334=>178|335=>179|336=>180|344=>183|n=>n,fun|31=>44|9=>9|3=>3|46=>92|0=>0|51=>137|53=>109|4=>4|183=>131|182=>130|131=>76|5=>5|218=>169|222=>173|228=>185|229=>186|n=>n,fun|n=>n⟩
theorem Tryz.lays190:Go.Proofs.Lays.n190 Tryz.prog Tryz.lays190_ren:={
 mixed:=by kernel_rfl
 f125:=Tryz.func66.trans (congrArg some (by kernel_rfl))
 f128:=Tryz.func99.trans (congrArg some (by kernel_rfl))
 f129:=Tryz.func100.trans (congrArg some (by kernel_rfl))
 f190:=Tryz.func158.trans (congrArg some (by kernel_rfl))
 f258:=Tryz.func162.trans (congrArg some (by kernel_rfl))
 f302:=Tryz.func166.trans (congrArg some (by kernel_rfl))
 f303:=Tryz.func167.trans (congrArg some (by kernel_rfl))
 f304:=Tryz.func168.trans (congrArg some (by kernel_rfl))
 f305:=Tryz.func169.trans (congrArg some (by kernel_rfl))
 f306:=Tryz.func170.trans (congrArg some (by kernel_rfl))
 f307:=Tryz.func171.trans (congrArg some (by kernel_rfl))
 f308:=Tryz.func172.trans (congrArg some (by kernel_rfl))
 f309:=Tryz.func173.trans (congrArg some (by kernel_rfl))
 f310:=Tryz.func174.trans (congrArg some (by kernel_rfl))
 f329:=Tryz.func128.trans (congrArg some (by kernel_rfl))
 f330:=Tryz.func129.trans (congrArg some (by kernel_rfl))
 f333:=Tryz.func177.trans (congrArg some (by kernel_rfl))
 f334:=Tryz.func178.trans (congrArg some (by kernel_rfl))
 f335:=Tryz.func179.trans (congrArg some (by kernel_rfl))
 f336:=Tryz.func180.trans (congrArg some (by kernel_rfl))
 f344:=Tryz.func183.trans (congrArg some (by kernel_rfl))
 t0:=Tryz.underlying0
 a0:=Tryz.isAgg0
 z0:=Tryz.sizeOf0
 v0:=Tryz.zeroValue0
 t3:=Tryz.underlying3
 a3:=Tryz.isAgg3
 z3:=Tryz.sizeOf3
 v3:=Tryz.zeroValue3
 t4:=Tryz.underlying4
 a4:=Tryz.isAgg4
 z4:=Tryz.sizeOf4
 v4:=Tryz.zeroValue4
 t5:=Tryz.underlying5
 a5:=Tryz.isAgg5
 z5:=Tryz.sizeOf5
 v5:=Tryz.zeroValue5
 t9:=Tryz.underlying9
 a9:=Tryz.isAgg9
 z9:=Tryz.sizeOf9
 v9:=Tryz.zeroValue9
 t31:=Tryz.underlying44
 a31:=Tryz.isAgg44
 z31:=Tryz.sizeOf44
 v31:=Tryz.zeroValue44
 t46:=Tryz.underlying92
 a46:=Tryz.isAgg92
 z46:=Tryz.sizeOf92
 v46:=Tryz.zeroValue92
 t51:=Tryz.underlying137
 a51:=Tryz.isAgg137
 z51:=Tryz.sizeOf137
 v51:=Tryz.zeroValue137
 t53:=Tryz.underlying109
 a53:=Tryz.isAgg109
 z53:=Tryz.sizeOf109
 v53:=Tryz.zeroValue109
 t131:=Tryz.underlying76
 a131:=Tryz.isAgg76
 z131:=Tryz.sizeOf76
 v131:=Tryz.zeroValue76
 t182:=Tryz.underlying130
 a182:=Tryz.isAgg130
 z182:=Tryz.sizeOf130
 v182:=Tryz.zeroValue130
 t183:=Tryz.underlying131
 a183:=Tryz.isAgg131
 z183:=Tryz.sizeOf131
 v183:=Tryz.zeroValue131
 t218:=Tryz.underlying169
 a218:=Tryz.isAgg169
 z218:=Tryz.sizeOf169
 v218:=Tryz.zeroValue169
 t222:=Tryz.underlying173
 a222:=Tryz.isAgg173
 z222:=Tryz.sizeOf173
 v222:=Tryz.zeroValue173
 t228:=Tryz.underlying185
 a228:=Tryz.isAgg185
 z228:=Tryz.sizeOf185
 v228:=Tryz.zeroValue185
 t229:=Tryz.underlying186
 a229:=Tryz.isAgg186
 z229:=Tryz.sizeOf186
 v229:=Tryz.zeroValue186 }
open Go.Sort Go.RowKit in
theorem Tryz.slices_Sort_string (blk off cap:Nat) (ss:List (List UInt8)) (w:World) (hH:Holds encStr w blk off ss.toArray) (hblk:blk<w.heap.size) (hsz:ss.length<4611686018427387904) :
   Calls Tryz.prog 158 #[.slice (some ⟨blk,off,none⟩) ss.length cap] w fun e w' =>
     e=.returned (.tuple #[])∧∃ n os,w'=grow (putRow encStr (Sort.ahead w n) blk off (ss.mergeSort fun x y=>decide (x≤y)).toArray) os:=Any.slices_Sort_string Tryz.lays190 blk off cap ss w hH hblk hsz
open Go.RowKit Go.Sort in
theorem Tryz.slices_Sort_string_none (p:Option Addr) (cap:Nat) (w:World) :
   Calls Tryz.prog 158 #[.slice p 0 cap] w fun e w'=>e=.returned (.tuple #[])∧w'=w:=Any.slices_Sort_string_none Tryz.lays190 p cap w
def Tryz.lays196_ren:Go.Shelf.Ren:=⟨fun|196=>83|259=>117|n=>n,fun|9=>9|4=>4|3=>3|5=>5|12=>12|119=>154|0=>0|46=>92|139=>157|138=>156|53=>109|n=>n,fun|3=>2|4=>3|n=>n⟩
theorem Tryz.lays196:Go.Proofs.Lays.n196 Tryz.prog Tryz.lays196_ren:={
 mixed:=by kernel_rfl
 f196:=Tryz.func83.trans (congrArg some (by kernel_rfl))
 f259:=Tryz.func117.trans (congrArg some (by kernel_rfl))
 t0:=Tryz.underlying0
 a0:=Tryz.isAgg0
 z0:=Tryz.sizeOf0
 v0:=Tryz.zeroValue0
 t3:=Tryz.underlying3
 a3:=Tryz.isAgg3
 z3:=Tryz.sizeOf3
 v3:=Tryz.zeroValue3
 t4:=Tryz.underlying4
 a4:=Tryz.isAgg4
 z4:=Tryz.sizeOf4
 v4:=Tryz.zeroValue4
 t5:=Tryz.underlying5
 a5:=Tryz.isAgg5
 z5:=Tryz.sizeOf5
 v5:=Tryz.zeroValue5
 t9:=Tryz.underlying9
 a9:=Tryz.isAgg9
 z9:=Tryz.sizeOf9
 v9:=Tryz.zeroValue9
 t12:=Tryz.underlying12
 a12:=Tryz.isAgg12
 z12:=Tryz.sizeOf12
 v12:=Tryz.zeroValue12
 t46:=Tryz.underlying92
 a46:=Tryz.isAgg92
 z46:=Tryz.sizeOf92
 v46:=Tryz.zeroValue92
 t53:=Tryz.underlying109
 a53:=Tryz.isAgg109
 z53:=Tryz.sizeOf109
 v53:=Tryz.zeroValue109
 t119:=Tryz.underlying154
 a119:=Tryz.isAgg154
 z119:=Tryz.sizeOf154
 t138:=Tryz.underlying156
 a138:=Tryz.isAgg156
 z138:=Tryz.sizeOf156
 v138:=Tryz.zeroValue156
 t139:=Tryz.underlying157
 a139:=Tryz.isAgg157
 z139:=Tryz.sizeOf157
 v139:=Tryz.zeroValue157
 g3:=by kernel_rfl
 g4:=by kernel_rfl }
def Tryz.sort64L_ren:Go.Shelf.Ren:=⟨fun|5=>44|8=>66|7=>65|19=>99|20=>100|10=>91|11=>92|12=>93|13=>94|14=>95|15=>96|16=>51|17=>97|18=>98|30=>127|31=>128|32=>129|33=>130|34=>131|35=>71|40=>149|n=>n,fun|23=>33|25=>2|3=>3|32=>92|22=>33|0=>0|44=>137|46=>109|4=>4|36=>131|35=>130|41=>76|5=>5|9=>9|53=>169|57=>173|63=>185|64=>186|n=>n,fun|n=>n⟩
theorem Tryz.sort64L:Go.Proofs.SlLaysM.n5 Tryz.prog Tryz.sort64L_ren:={
 mixed:=by kernel_rfl
 f5:=⟨Tryz.f44.name,by decide,Tryz.func44.trans (congrArg some (by kernel_rfl))⟩
 f7:=⟨Tryz.f65.name,by decide,Tryz.func65.trans (congrArg some (by kernel_rfl))⟩
 f8:=Tryz.func66.trans (congrArg some (by kernel_rfl))
 f10:=⟨Tryz.f91.name,by decide,Tryz.func91.trans (congrArg some (by kernel_rfl))⟩
 f11:=⟨Tryz.f92.name,by decide,Tryz.func92.trans (congrArg some (by kernel_rfl))⟩
 f12:=⟨Tryz.f93.name,by decide,Tryz.func93.trans (congrArg some (by kernel_rfl))⟩
 f13:=⟨Tryz.f94.name,by decide,Tryz.func94.trans (congrArg some (by kernel_rfl))⟩
 f14:=⟨Tryz.f95.name,by decide,Tryz.func95.trans (congrArg some (by kernel_rfl))⟩
 f15:=⟨Tryz.f96.name,by decide,Tryz.func96.trans (congrArg some (by kernel_rfl))⟩
 f16:=⟨Tryz.f51.name,by decide,Tryz.func51.trans (congrArg some (by kernel_rfl))⟩
 f17:=⟨Tryz.f97.name,by decide,Tryz.func97.trans (congrArg some (by kernel_rfl))⟩
 f18:=⟨Tryz.f98.name,by decide,Tryz.func98.trans (congrArg some (by kernel_rfl))⟩
 f19:=Tryz.func99.trans (congrArg some (by kernel_rfl))
 f20:=Tryz.func100.trans (congrArg some (by kernel_rfl))
 f30:=⟨Tryz.f127.name,by decide,Tryz.func127.trans (congrArg some (by kernel_rfl))⟩
 f31:=Tryz.func128.trans (congrArg some (by kernel_rfl))
 f32:=Tryz.func129.trans (congrArg some (by kernel_rfl))
 f33:=⟨Tryz.f130.name,by decide,Tryz.func130.trans (congrArg some (by kernel_rfl))⟩
 f34:=⟨Tryz.f131.name,by decide,Tryz.func131.trans (congrArg some (by kernel_rfl))⟩
 f35:=⟨Tryz.f71.name,by decide,Tryz.func71.trans (congrArg some (by kernel_rfl))⟩
 f40:=⟨Tryz.f149.name,by decide,Tryz.func149.trans (congrArg some (by kernel_rfl))⟩
 t0:=Tryz.underlying0
 a0:=Tryz.isAgg0
 z0:=Tryz.sizeOf0
 v0:=Tryz.zeroValue0
 t3:=Tryz.underlying3
 a3:=Tryz.isAgg3
 z3:=Tryz.sizeOf3
 v3:=Tryz.zeroValue3
 t4:=Tryz.underlying4
 a4:=Tryz.isAgg4
 z4:=Tryz.sizeOf4
 v4:=Tryz.zeroValue4
 t5:=Tryz.underlying5
 a5:=Tryz.isAgg5
 z5:=Tryz.sizeOf5
 v5:=Tryz.zeroValue5
 t9:=Tryz.underlying9
 a9:=Tryz.isAgg9
 z9:=Tryz.sizeOf9
 v9:=Tryz.zeroValue9
 t22:=Tryz.underlying33
 a22:=Tryz.isAgg33
 z22:=Tryz.sizeOf33
 v22:=Tryz.zeroValue33
 t23:=Tryz.underlying33
 a23:=Tryz.isAgg33
 z23:=Tryz.sizeOf33
 v23:=Tryz.zeroValue33
 t25:=Tryz.underlying2
 a25:=Tryz.isAgg2
 z25:=Tryz.sizeOf2
 v25:=Tryz.zeroValue2
 t32:=Tryz.underlying92
 a32:=Tryz.isAgg92
 z32:=Tryz.sizeOf92
 v32:=Tryz.zeroValue92
 t35:=Tryz.underlying130
 a35:=Tryz.isAgg130
 z35:=Tryz.sizeOf130
 v35:=Tryz.zeroValue130
 t36:=Tryz.underlying131
 a36:=Tryz.isAgg131
 z36:=Tryz.sizeOf131
 v36:=Tryz.zeroValue131
 t41:=Tryz.underlying76
 a41:=Tryz.isAgg76
 z41:=Tryz.sizeOf76
 v41:=Tryz.zeroValue76
 t44:=Tryz.underlying137
 a44:=Tryz.isAgg137
 z44:=Tryz.sizeOf137
 v44:=Tryz.zeroValue137
 t46:=Tryz.underlying109
 a46:=Tryz.isAgg109
 z46:=Tryz.sizeOf109
 v46:=Tryz.zeroValue109
 t53:=Tryz.underlying169
 a53:=Tryz.isAgg169
 z53:=Tryz.sizeOf169
 v53:=Tryz.zeroValue169
 t57:=Tryz.underlying173
 a57:=Tryz.isAgg173
 z57:=Tryz.sizeOf173
 v57:=Tryz.zeroValue173
 t63:=Tryz.underlying185
 a63:=Tryz.isAgg185
 z63:=Tryz.sizeOf185
 v63:=Tryz.zeroValue185
 t64:=Tryz.underlying186
 a64:=Tryz.isAgg186
 z64:=Tryz.sizeOf186
 v64:=Tryz.zeroValue186 }
end Go.Proofs
