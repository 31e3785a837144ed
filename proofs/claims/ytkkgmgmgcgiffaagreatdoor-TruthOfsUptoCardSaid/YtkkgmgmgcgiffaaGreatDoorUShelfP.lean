/- Joined texts of the walk, made small by a program. -/
import Derived.Shelf.Strings.Builder1
import Derived.Shelf.Strings.Builder2
import Derived.Shelf.Strings.OnBuilder
import Derived.Shelf.Small.Strs
import Derived.Shelf.Strconv.Itoa0
import Derived.Shelf.Strconv.Itoa1
import Derived.Shelf.LaysM
import Derived.Shelf.Strconv.Itoa2
import Derived.Shelf.Strconv.Itoa3
import Derived.Shelf.Strconv.Itoa4
import Derived.Shelf.Strconv.ParseIntEmpty
import Derived.Shelf.Strconv.Clone
import Derived.Shelf.Strconv.SyntaxError
import Derived.Shelf.LaysC
import Derived.Shelf.Strconv.ToError
import Derived.Shelf.Strconv.Lower
import Derived.Shelf.Strconv.ParseUint10
import Derived.Shelf.Strconv.ParseUint10Empty
import Derived.Shelf.Strconv.ParseUint10Any
import Derived.Shelf.Strconv.ParseInt10
import Derived.Shelf.Strconv.RangeError
import Derived.Shelf.Strconv.ToErrorRange
import Derived.Shelf.Strconv.ParseUintEmpty
import Derived.Shelf.Strconv.ParseUint10b64
import Derived.Shelf.Strconv.ParseUint10b32
import Derived.Shelf.Strconv.ParseUint10b16
import Derived.Shelf.Strconv.ParseUint10b8
import Derived.Shelf.Strconv.ParseUint10At
import Derived.Shelf.Strconv.ParseInt10At64
import Derived.Shelf.Strconv.ParseInt10At32
import Derived.Shelf.Strconv.ParseInt10At16
import Derived.Shelf.Strconv.ParseInt10At8
import Derived.Shelf.Strconv.ParseInt10All
import Derived.Shelf.Strconv.ParseIntPublic10
import Derived.Shelf.Strconv.ErrVarParseInt
import Derived.Shelf.Strings.Search1
import Derived.Shelf.Strings.Search2
import Derived.Shelf.Strings.Search3
import Derived.Shelf.Strings.Cut
import Derived.Shelf.Strings.Shaped
import Derived.Shelf.Sort.Plain
import Derived.Shelf.Strings.Prefix
import Derived.Shelf.Slices.In.SortNone
import Derived.Shelf.Unicode.ValidAny
import Derived.Test.YtkkgmgmgcgiffaaGreatDoorProg
set_option linter.unusedSimpArgs false
set_option linter.unusedVariables false
namespace Go.Proofs
open Go.Shelf
def Tryz.lays156_ren:Go.Shelf.Ren:=⟨fun|156=>197|165=>227|166=>228|169=>229|240=>241|241=>242|276=>246|277=>247|n=>n,fun|31=>44|9=>9|3=>3|4=>4|0=>0|20=>20|72=>265|76=>267|70=>263|37=>155|75=>182|127=>275|164=>284|5=>5|80=>269|n=>n,fun|n=>n⟩
theorem Tryz.lays156:Go.Proofs.Lays.n156 Tryz.prog Tryz.lays156_ren:={
 mixed:=by kernel_rfl
 f156:=Tryz.func197.trans (congrArg some (by kernel_rfl))
 f165:=Tryz.func227.trans (congrArg some (by kernel_rfl))
 f166:=Tryz.func228.trans (congrArg some (by kernel_rfl))
 f169:=Tryz.func229.trans (congrArg some (by kernel_rfl))
 f240:=Tryz.func241.trans (congrArg some (by kernel_rfl))
 f241:=Tryz.func242.trans (congrArg some (by kernel_rfl))
 f276:=Tryz.func246.trans (congrArg some (by kernel_rfl))
 f277:=Tryz.func247.trans (congrArg some (by kernel_rfl))
 t0:=Tryz.underlying0
 a0:=Tryz.isAgg0
 z0:=Tryz.sizeOf0
 v0:=Tryz.zeroValue0
 t3:=Tryz.underlying3
 a3:=Tryz.isAgg3
 z3:=Tryz.sizeOf3
 v3:=Tryz.zeroValue3
 t4:=Tryz.underlying4
 a4:=Tryz.isAgg4
 z4:=Tryz.sizeOf4
 v4:=Tryz.zeroValue4
 t9:=Tryz.underlying9
 a9:=Tryz.isAgg9
 z9:=Tryz.sizeOf9
 v9:=Tryz.zeroValue9
 t20:=Tryz.underlying20
 a20:=Tryz.isAgg20
 z20:=Tryz.sizeOf20
 v20:=Tryz.zeroValue20
 t31:=Tryz.underlying44
 a31:=Tryz.isAgg44
 z31:=Tryz.sizeOf44
 v31:=Tryz.zeroValue44
 t37:=Tryz.underlying155
 a37:=Tryz.isAgg155
 z37:=Tryz.sizeOf155
 v37:=Tryz.zeroValue155
 t70:=Tryz.underlying263
 a70:=Tryz.isAgg263
 z70:=Tryz.sizeOf263
 v70:=Tryz.zeroValue263
 t72:=Tryz.underlying265
 a72:=Tryz.isAgg265
 z72:=Tryz.sizeOf265
 v72:=Tryz.zeroValue265
 t75:=Tryz.underlying182
 a75:=Tryz.isAgg182
 z75:=Tryz.sizeOf182
 v75:=Tryz.zeroValue182
 t76:=Tryz.underlying267
 a76:=Tryz.isAgg267
 z76:=Tryz.sizeOf267
 v76:=Tryz.zeroValue267
 t127:=Tryz.underlying275
 a127:=Tryz.isAgg275
 z127:=Tryz.sizeOf275
 v127:=Tryz.zeroValue275
 t164:=Tryz.underlying284
 a164:=Tryz.isAgg284
 z164:=Tryz.sizeOf284
 v164:=Tryz.zeroValue284 }
theorem Tryz.Builder_Extra_156:Builder.Extra Tryz.prog Tryz.lays156_ren:={
 sizeBuilder:=by kernel_rfl
 liesBuilder:=by kernel_rfl
 t5:=Tryz.underlying5
 a5:=Tryz.isAgg5
 z5:=Tryz.sizeOf5
 v5:=Tryz.zeroValue5
 infoByte:=by kernel_rfl
 cellsByte:=by kernel_rfl
 sizeByte:=by kernel_rfl
 neB5:=by decide }
open Go.RowKit in
theorem Tryz.strings_Join_none (a:Option Addr) (c:Nat) (sep:ByteArray) (w:World) :
   Calls Tryz.prog 197 #[.slice a 0 c,.string sep] w fun e w'=>e=.returned (.string ⟨#[]⟩)∧w'=w:=Any.strings_Join_none Tryz.lays156 Tryz.Builder_Extra_156 a c sep w
open Go.RowKit in
theorem Tryz.strings_Join (bk o c:Nat) (xs:List ByteArray) (sep:ByteArray) (w:World) (hcells:∀ (j:Nat) x,xs[j]?=some x→w.cell? ⟨bk,o+j,none⟩=some (.string x)) (hbk:bk<w.heap.size) (hN:xs.length≤140737488355328) (hcap:xs.length≤c) (hlen:(Lib.join (xs.map (·.data.toList)) sep.data.toList).length≤140737488355328) :
   Calls Tryz.prog 197 #[.slice (some ⟨bk,o,none⟩) xs.length c,.string sep] w fun e w'=>e=.returned (.string ⟨(Lib.join (xs.map (·.data.toList)) sep.data.toList).toArray⟩)∧Below w.heap.size w w':=Any.strings_Join Tryz.lays156 Tryz.Builder_Extra_156 bk o c xs sep w hcells hbk hN hcap hlen
def Tryz.lays106_ren:Go.Shelf.Ren:=⟨fun|106=>94|213=>139|265=>170|n=>n,fun|9=>9|3=>3|n=>n,fun|n=>n⟩
theorem Tryz.lays106:Go.Proofs.Lays.n106 Tryz.prog Tryz.lays106_ren:={
 mixed:=by kernel_rfl
 f106:=Tryz.func94.trans (congrArg some (by kernel_rfl))
 f213:=Tryz.func139.trans (congrArg some (by kernel_rfl))
 f265:=Tryz.func170.trans (congrArg some (by kernel_rfl))
 t3:=Tryz.underlying3
 a3:=Tryz.isAgg3
 z3:=Tryz.sizeOf3
 v3:=Tryz.zeroValue3
 t9:=Tryz.underlying9
 a9:=Tryz.isAgg9
 z9:=Tryz.sizeOf9
 v9:=Tryz.zeroValue9 }
open Go.RowKit in
theorem Tryz.strings_Compare (a b:ByteArray) (w:World) :
   Calls Tryz.prog 94 #[.string a,.string b] w fun e w'=>e=.returned (.int .i64 (Lib.compareBytes a.data.toList b.data.toList))∧w'=w:=Any.strings_Compare Tryz.lays106 a b w
def Tryz.lays137_ren:Go.Shelf.Ren:=⟨fun|137=>193|217=>166|266=>198|n=>n,fun|9=>9|5=>5|3=>3|n=>n,fun|n=>n⟩
theorem Tryz.lays137:Go.Proofs.Lays.n137 Tryz.prog Tryz.lays137_ren:={
 mixed:=by kernel_rfl
 f137:=Tryz.func193.trans (congrArg some (by kernel_rfl))
 f217:=Tryz.func166.trans (congrArg some (by kernel_rfl))
 f266:=Tryz.func198.trans (congrArg some (by kernel_rfl))
 t3:=Tryz.underlying3
 a3:=Tryz.isAgg3
 z3:=Tryz.sizeOf3
 v3:=Tryz.zeroValue3
 t5:=Tryz.underlying5
 a5:=Tryz.isAgg5
 z5:=Tryz.sizeOf5
 v5:=Tryz.zeroValue5
 t9:=Tryz.underlying9
 a9:=Tryz.isAgg9
 z9:=Tryz.sizeOf9
 v9:=Tryz.zeroValue9 }
open Go.RowKit in
theorem Tryz.strings_IndexByte (s:ByteArray) (c:Int) (w:World) :
   Calls Tryz.prog 193 #[.string s,.int .u8 c] w fun e w'=>e=.returned (.int .i64 (Lib.indexByte s.data.toList c.toNat.toUInt8))∧w'=w:=Any.strings_IndexByte Tryz.lays137 s c w
def Tryz.laysM173_ren:Go.Shelf.Ren:=⟨fun|173=>127|246=>159|283=>187|284=>188|285=>189|286=>190|129=>211|317=>222|318=>223|319=>224|320=>225|337=>239|338=>240|n=>n,fun|2=>2|3=>3|9=>9|4=>4|171=>233|0=>0|53=>208|37=>155|5=>5|173=>236|212=>258|51=>240|20=>20|213=>259|46=>179|232=>282|233=>283|n=>n,fun|17=>6|18=>7|19=>8|n=>n⟩
theorem Tryz.laysM173:Go.Proofs.LaysM.n173 Tryz.prog Tryz.laysM173_ren:={
 mixed:=by kernel_rfl
 f129:=Tryz.func211.trans (congrArg some (by kernel_rfl))
 f173:=Tryz.func127.trans (congrArg some (by kernel_rfl))
 f246:=Tryz.func159.trans (congrArg some (by kernel_rfl))
 f283:=Tryz.func187.trans (congrArg some (by kernel_rfl))
 f284:=Tryz.func188.trans (congrArg some (by kernel_rfl))
 f285:=Tryz.func189.trans (congrArg some (by kernel_rfl))
 f286:=Tryz.func190.trans (congrArg some (by kernel_rfl))
 f317:=Tryz.func222.trans (congrArg some (by kernel_rfl))
 f318:=Tryz.func223.trans (congrArg some (by kernel_rfl))
 f319:=Tryz.func224.trans (congrArg some (by kernel_rfl))
 f320:=Tryz.func225.trans (congrArg some (by kernel_rfl))
 f337:=Tryz.func239.trans (congrArg some (by kernel_rfl))
 f338:=Tryz.func240.trans (congrArg some (by kernel_rfl))
 t0:=Tryz.underlying0
 a0:=Tryz.isAgg0
 z0:=Tryz.sizeOf0
 v0:=Tryz.zeroValue0
 t2:=Tryz.underlying2
 a2:=Tryz.isAgg2
 z2:=Tryz.sizeOf2
 v2:=Tryz.zeroValue2
 t3:=Tryz.underlying3
 a3:=Tryz.isAgg3
 z3:=Tryz.sizeOf3
 v3:=Tryz.zeroValue3
 t4:=Tryz.underlying4
 a4:=Tryz.isAgg4
 z4:=Tryz.sizeOf4
 v4:=Tryz.zeroValue4
 t5:=Tryz.underlying5
 a5:=Tryz.isAgg5
 z5:=Tryz.sizeOf5
 v5:=Tryz.zeroValue5
 t9:=Tryz.underlying9
 a9:=Tryz.isAgg9
 z9:=Tryz.sizeOf9
 v9:=Tryz.zeroValue9
 t20:=Tryz.underlying20
 a20:=Tryz.isAgg20
 z20:=Tryz.sizeOf20
 v20:=Tryz.zeroValue20
 t37:=Tryz.underlying155
 a37:=Tryz.isAgg155
 z37:=Tryz.sizeOf155
 v37:=Tryz.zeroValue155
 t46:=Tryz.underlying179
 a46:=Tryz.isAgg179
 z46:=Tryz.sizeOf179
 v46:=Tryz.zeroValue179
 t51:=Tryz.underlying240
 a51:=Tryz.isAgg240
 z51:=Tryz.sizeOf240
 v51:=Tryz.zeroValue240
 t53:=Tryz.underlying208
 a53:=Tryz.isAgg208
 z53:=Tryz.sizeOf208
 v53:=Tryz.zeroValue208
 t171:=Tryz.underlying233
 a171:=Tryz.isAgg233
 z171:=Tryz.sizeOf233
 v171:=Tryz.zeroValue233
 t173:=Tryz.underlying236
 a173:=Tryz.isAgg236
 z173:=Tryz.sizeOf236
 v173:=Tryz.zeroValue236
 t212:=Tryz.underlying258
 a212:=Tryz.isAgg258
 z212:=Tryz.sizeOf258
 v212:=Tryz.zeroValue258
 t213:=Tryz.underlying259
 a213:=Tryz.isAgg259
 z213:=Tryz.sizeOf259
 t232:=Tryz.underlying282
 a232:=Tryz.isAgg282
 z232:=Tryz.sizeOf282
 v232:=Tryz.zeroValue282
 t233:=Tryz.underlying283
 a233:=Tryz.isAgg283
 z233:=Tryz.sizeOf283
 v233:=Tryz.zeroValue283
 g17:=by kernel_rfl
 g18:=by kernel_rfl
 g19:=by kernel_rfl
 i0:=by kernel_rfl
 i2:=by kernel_rfl
 i3:=by kernel_rfl
 i4:=by kernel_rfl
 i5:=by kernel_rfl
 i9:=by kernel_rfl
 i20:=by kernel_rfl
 i37:=by kernel_rfl
 i46:=by kernel_rfl
 i51:=by kernel_rfl
 i53:=by kernel_rfl
 i171:=by kernel_rfl
 i173:=by kernel_rfl
 i212:=by kernel_rfl
 i232:=by kernel_rfl
 i233:=by kernel_rfl
 m17:=by kernel_rfl
 m18:=by kernel_rfl
 m19:=by kernel_rfl }
open Go.RowKit Go.Sort Go.Lib in
theorem Tryz.strconv_FormatInt_10 (n:Int) (h0 : -9223372036854775808≤n) (h1:n≤9223372036854775807) (w:World) (htab:Lib.TabIs Tryz.prog w "internal/strconv.uint64pow10" .u64 Lib.pow10Tab) :
   Calls Tryz.prog 127 #[.int .i64 n,.int .i64 10] w fun e w'=>e=.returned (.string ⟨(Lib.itoa n).toArray⟩)∧∃ k os,w'=grow (w.drewN k) os:=Any.strconv_FormatInt_10 Tryz.laysM173 n h0 h1 w htab
def Tryz.laysC174_ren:Go.Shelf.Ren:=⟨fun|174=>126|247=>157|245=>158|287=>182|279=>183|280=>184|281=>185|282=>186|321=>217|322=>218|316=>219|171=>221|205=>220|243=>238|246=>159|283=>187|284=>188|285=>189|286=>190|129=>211|317=>222|318=>223|319=>224|320=>225|337=>239|338=>240|n=>n,fun|9=>9|3=>3|2=>2|75=>182|85=>183|4=>4|167=>226|5=>5|53=>208|175=>227|46=>179|168=>229|37=>155|0=>0|210=>256|21=>21|127=>275|145=>278|143=>276|171=>233|173=>236|212=>258|51=>240|20=>20|213=>259|232=>282|233=>283|80=>269|n=>n,fun|15=>4|16=>5|17=>6|18=>7|19=>8|n=>n⟩
theorem Tryz.laysC174:Go.Proofs.LaysC.n174 Tryz.prog Tryz.laysC174_ren:={
 mixed:=by kernel_rfl
 f129:=Tryz.func211.trans (congrArg some (by kernel_rfl))
 f171:=Tryz.func221.trans (congrArg some (by kernel_rfl))
 f174:=Tryz.func126.trans (congrArg some (by kernel_rfl))
 f205:=Tryz.func220.trans (congrArg some (by kernel_rfl))
 f243:=Tryz.func238.trans (congrArg some (by kernel_rfl))
 f245:=Tryz.func158.trans (congrArg some (by kernel_rfl))
 f246:=Tryz.func159.trans (congrArg some (by kernel_rfl))
 f247:=Tryz.func157.trans (congrArg some (by kernel_rfl))
 f279:=Tryz.func183.trans (congrArg some (by kernel_rfl))
 f280:=Tryz.func184.trans (congrArg some (by kernel_rfl))
 f281:=Tryz.func185.trans (congrArg some (by kernel_rfl))
 f282:=Tryz.func186.trans (congrArg some (by kernel_rfl))
 f283:=Tryz.func187.trans (congrArg some (by kernel_rfl))
 f284:=Tryz.func188.trans (congrArg some (by kernel_rfl))
 f285:=Tryz.func189.trans (congrArg some (by kernel_rfl))
 f286:=Tryz.func190.trans (congrArg some (by kernel_rfl))
 f287:=Tryz.func182.trans (congrArg some (by kernel_rfl))
 f316:=Tryz.func219.trans (congrArg some (by kernel_rfl))
 f317:=Tryz.func222.trans (congrArg some (by kernel_rfl))
 f318:=Tryz.func223.trans (congrArg some (by kernel_rfl))
 f319:=Tryz.func224.trans (congrArg some (by kernel_rfl))
 f320:=Tryz.func225.trans (congrArg some (by kernel_rfl))
 f321:=Tryz.func217.trans (congrArg some (by kernel_rfl))
 f322:=Tryz.func218.trans (congrArg some (by kernel_rfl))
 f337:=Tryz.func239.trans (congrArg some (by kernel_rfl))
 f338:=Tryz.func240.trans (congrArg some (by kernel_rfl))
 t0:=Tryz.underlying0
 a0:=Tryz.isAgg0
 z0:=Tryz.sizeOf0
 v0:=Tryz.zeroValue0
 t2:=Tryz.underlying2
 a2:=Tryz.isAgg2
 z2:=Tryz.sizeOf2
 v2:=Tryz.zeroValue2
 t3:=Tryz.underlying3
 a3:=Tryz.isAgg3
 z3:=Tryz.sizeOf3
 v3:=Tryz.zeroValue3
 t4:=Tryz.underlying4
 a4:=Tryz.isAgg4
 z4:=Tryz.sizeOf4
 v4:=Tryz.zeroValue4
 t5:=Tryz.underlying5
 a5:=Tryz.isAgg5
 z5:=Tryz.sizeOf5
 v5:=Tryz.zeroValue5
 t9:=Tryz.underlying9
 a9:=Tryz.isAgg9
 z9:=Tryz.sizeOf9
 v9:=Tryz.zeroValue9
 t20:=Tryz.underlying20
 a20:=Tryz.isAgg20
 z20:=Tryz.sizeOf20
 v20:=Tryz.zeroValue20
 t21:=Tryz.underlying21
 a21:=Tryz.isAgg21
 z21:=Tryz.sizeOf21
 v21:=Tryz.zeroValue21
 t37:=Tryz.underlying155
 a37:=Tryz.isAgg155
 z37:=Tryz.sizeOf155
 v37:=Tryz.zeroValue155
 t46:=Tryz.underlying179
 a46:=Tryz.isAgg179
 z46:=Tryz.sizeOf179
 v46:=Tryz.zeroValue179
 t51:=Tryz.underlying240
 a51:=Tryz.isAgg240
 z51:=Tryz.sizeOf240
 v51:=Tryz.zeroValue240
 t53:=Tryz.underlying208
 a53:=Tryz.isAgg208
 z53:=Tryz.sizeOf208
 v53:=Tryz.zeroValue208
 t75:=Tryz.underlying182
 a75:=Tryz.isAgg182
 z75:=Tryz.sizeOf182
 v75:=Tryz.zeroValue182
 t85:=Tryz.underlying183
 a85:=Tryz.isAgg183
 z85:=Tryz.sizeOf183
 v85:=Tryz.zeroValue183
 t127:=Tryz.underlying275
 a127:=Tryz.isAgg275
 z127:=Tryz.sizeOf275
 v127:=Tryz.zeroValue275
 t143:=Tryz.underlying276
 a143:=Tryz.isAgg276
 z143:=Tryz.sizeOf276
 v143:=Tryz.zeroValue276
 t145:=Tryz.underlying278
 a145:=Tryz.isAgg278
 z145:=Tryz.sizeOf278
 v145:=Tryz.zeroValue278
 t167:=Tryz.underlying226
 a167:=Tryz.isAgg226
 z167:=Tryz.sizeOf226
 v167:=Tryz.zeroValue226
 t168:=Tryz.underlying229
 a168:=Tryz.isAgg229
 z168:=Tryz.sizeOf229
 v168:=Tryz.zeroValue229
 t171:=Tryz.underlying233
 a171:=Tryz.isAgg233
 z171:=Tryz.sizeOf233
 v171:=Tryz.zeroValue233
 t173:=Tryz.underlying236
 a173:=Tryz.isAgg236
 z173:=Tryz.sizeOf236
 v173:=Tryz.zeroValue236
 t175:=Tryz.underlying227
 a175:=Tryz.isAgg227
 z175:=Tryz.sizeOf227
 v175:=Tryz.zeroValue227
 t210:=Tryz.underlying256
 a210:=Tryz.isAgg256
 z210:=Tryz.sizeOf256
 v210:=Tryz.zeroValue256
 t212:=Tryz.underlying258
 a212:=Tryz.isAgg258
 z212:=Tryz.sizeOf258
 v212:=Tryz.zeroValue258
 t213:=Tryz.underlying259
 a213:=Tryz.isAgg259
 z213:=Tryz.sizeOf259
 t232:=Tryz.underlying282
 a232:=Tryz.isAgg282
 z232:=Tryz.sizeOf282
 v232:=Tryz.zeroValue282
 t233:=Tryz.underlying283
 a233:=Tryz.isAgg283
 z233:=Tryz.sizeOf283
 v233:=Tryz.zeroValue283
 g15:=by kernel_rfl
 g16:=by kernel_rfl
 g17:=by kernel_rfl
 g18:=by kernel_rfl
 g19:=by kernel_rfl
 t80:=Tryz.underlying269
 a80:=Tryz.isAgg269
 z80:=Tryz.sizeOf269
 v80:=Tryz.zeroValue269
 i0:=by kernel_rfl
 i2:=by kernel_rfl
 i3:=by kernel_rfl
 i4:=by kernel_rfl
 i5:=by kernel_rfl
 i9:=by kernel_rfl
 i20:=by kernel_rfl
 i21:=by kernel_rfl
 i37:=by kernel_rfl
 i46:=by kernel_rfl
 i51:=by kernel_rfl
 i53:=by kernel_rfl
 i75:=by kernel_rfl
 i80:=by kernel_rfl
 i85:=by kernel_rfl
 i127:=by kernel_rfl
 i143:=by kernel_rfl
 i145:=by kernel_rfl
 i167:=by kernel_rfl
 i168:=by kernel_rfl
 i171:=by kernel_rfl
 i173:=by kernel_rfl
 i175:=by kernel_rfl
 i210:=by kernel_rfl
 i212:=by kernel_rfl
 i232:=by kernel_rfl
 i233:=by kernel_rfl
 m15:=by kernel_rfl
 m16:=by kernel_rfl
 m17:=by kernel_rfl
 m18:=by kernel_rfl
 m19:=by kernel_rfl
 c0:=by kernel_rfl
 c2:=by kernel_rfl
 c3:=by kernel_rfl
 c4:=by kernel_rfl
 c5:=by kernel_rfl
 c9:=by kernel_rfl
 c20:=by kernel_rfl
 c21:=by kernel_rfl
 c37:=by kernel_rfl
 c46:=by kernel_rfl
 c51:=by kernel_rfl
 c53:=by kernel_rfl
 c75:=by kernel_rfl
 c80:=by kernel_rfl
 c85:=by kernel_rfl
 c127:=by kernel_rfl
 c143:=by kernel_rfl
 c145:=by kernel_rfl
 c167:=by kernel_rfl
 c168:=by kernel_rfl
 c171:=by kernel_rfl
 c173:=by kernel_rfl
 c175:=by kernel_rfl
 c210:=by kernel_rfl
 c212:=by kernel_rfl
 c213:=by kernel_rfl
 c232:=by kernel_rfl
 c233:=by kernel_rfl }
open Go.RowKit in
open Go.RowKit in
open Go.RowKit in
open Go.RowKit in
theorem Tryz.strconv_ParseInt_10_at64_ok (s:ByteArray) (hmax:s.size≤9223372036854775806) (v:Int) (h:Lib.parseIntB 64 s.data.toList=.ok v) (w:World) :
   Calls Tryz.prog 126 #[.string s,.int .i64 10,.int .i64 64] w fun e w'=>e=.returned (.tuple #[.int .i64 v,.nilIface])∧(w'=w∨∃ t,w'=Lib.bytesWorld w 5 t):=Any.strconv_ParseInt_10_at64_ok Tryz.laysC174 s hmax v h w
open Go.RowKit in
theorem Tryz.strconv_ParseInt_10_at64_syntax (s:ByteArray) (hlim:s.size≤281474976710656) (h:Lib.parseIntB 64 s.data.toList=.syntax) (ev:Value) (w:World) (hv:w.cell? ⟨4,0,none⟩=some ev) (hev:ev=.nilIface∨∃ te pe,ev=.iface te pe) :
   Calls Tryz.prog 126 #[.string s,.int .i64 10,.int .i64 64] w fun e w'=>∃ N,e=.returned (.tuple #[.int .i64 (0),.iface 229 (.pointer (some ⟨N,0,none⟩))])∧w.heap.size≤N∧w'.heap[N]?=some (.cells #[.string ⟨#[80,97,114,115,101,73,110,116]⟩,.string s,ev] 256 (0,0))∧Below w.heap.size w w':=Any.strconv_ParseInt_10_at64_syntax Tryz.laysC174 s hlim h ev w hv hev
open Go.RowKit in
theorem Tryz.strconv_ParseInt_10_at64_range (s:ByteArray) (hlim:s.size≤281474976710656) (h:Lib.parseIntB 64 s.data.toList=.range) (ev:Value) (w:World) (hv:w.cell? ⟨5,0,none⟩=some ev) (hev:ev=.nilIface∨∃ te pe,ev=.iface te pe) :
   Calls Tryz.prog 126 #[.string s,.int .i64 10,.int .i64 64] w fun e w'=>∃ N,e=.returned (.tuple #[.int .i64 (Lib.intSat 64 s.data.toList),.iface 229 (.pointer (some ⟨N,0,none⟩))])∧w.heap.size≤N∧w'.heap[N]?=some (.cells #[.string ⟨#[80,97,114,115,101,73,110,116]⟩,.string s,ev] 256 (0,0))∧Below w.heap.size w w':=Any.strconv_ParseInt_10_at64_range Tryz.laysC174 s hlim h ev w hv hev
open Go.RowKit in
open Go.RowKit in
open Go.RowKit in
open Go.RowKit in
open Go.RowKit in
open Go.RowKit in
open Go.RowKit in
open Go.RowKit in
open Go.RowKit in
open Go.RowKit in
open Go.RowKit in
open Go.RowKit in
open Go.RowKit in
open Go.RowKit in
open Go.RowKit in
open Go.RowKit in
open Go.RowKit in
open Go.RowKit in
open Go.RowKit in
open Go.RowKit Go.Lib in
def Tryz.lays219_ren:Go.Shelf.Ren:=⟨fun|219=>135|217=>166|225=>167|224=>168|267=>169|266=>198|314=>199|n=>n,fun|9=>9|3=>3|4=>4|5=>5|46=>179|146=>241|51=>240|n=>n,fun|1=>3|n=>n⟩
theorem Tryz.lays219:Go.Proofs.Lays.n219 Tryz.prog Tryz.lays219_ren:={
 mixed:=by kernel_rfl
 f217:=Tryz.func166.trans (congrArg some (by kernel_rfl))
 f219:=Tryz.func135.trans (congrArg some (by kernel_rfl))
 f224:=Tryz.func168.trans (congrArg some (by kernel_rfl))
 f225:=Tryz.func167.trans (congrArg some (by kernel_rfl))
 f266:=Tryz.func198.trans (congrArg some (by kernel_rfl))
 f267:=Tryz.func169.trans (congrArg some (by kernel_rfl))
 f314:=Tryz.func199.trans (congrArg some (by kernel_rfl))
 t3:=Tryz.underlying3
 a3:=Tryz.isAgg3
 z3:=Tryz.sizeOf3
 v3:=Tryz.zeroValue3
 t4:=Tryz.underlying4
 a4:=Tryz.isAgg4
 z4:=Tryz.sizeOf4
 v4:=Tryz.zeroValue4
 t5:=Tryz.underlying5
 a5:=Tryz.isAgg5
 z5:=Tryz.sizeOf5
 v5:=Tryz.zeroValue5
 t9:=Tryz.underlying9
 a9:=Tryz.isAgg9
 z9:=Tryz.sizeOf9
 v9:=Tryz.zeroValue9
 t46:=Tryz.underlying179
 a46:=Tryz.isAgg179
 z46:=Tryz.sizeOf179
 v46:=Tryz.zeroValue179
 t51:=Tryz.underlying240
 a51:=Tryz.isAgg240
 z51:=Tryz.sizeOf240
 v51:=Tryz.zeroValue240
 t146:=Tryz.underlying241
 a146:=Tryz.isAgg241
 z146:=Tryz.sizeOf241
 v146:=Tryz.zeroValue241
 g1:=by kernel_rfl }
open Go.RowKit Go.Lib in
theorem Tryz.stringslite_Index_one (s:ByteArray) (c:UInt8) (w:World) :
   Calls Tryz.prog 135 #[.string s,.string ⟨#[c]⟩] w fun e w'=>e=.returned (.int .i64 (Lib.indexByte s.data.toList c))∧w'=w:=Any.stringslite_Index_one Tryz.lays219 s c w
open Go.RowKit Go.Lib in
def Tryz.lays143_ren:Go.Shelf.Ren:=⟨fun|143=>90|219=>135|217=>166|225=>167|224=>168|267=>169|266=>198|314=>199|n=>n,fun|9=>9|3=>3|4=>4|5=>5|46=>179|146=>241|51=>240|n=>n,fun|1=>3|n=>n⟩
theorem Tryz.lays143:Go.Proofs.Lays.n143 Tryz.prog Tryz.lays143_ren:={
 mixed:=by kernel_rfl
 f143:=Tryz.func90.trans (congrArg some (by kernel_rfl))
 f217:=Tryz.func166.trans (congrArg some (by kernel_rfl))
 f219:=Tryz.func135.trans (congrArg some (by kernel_rfl))
 f224:=Tryz.func168.trans (congrArg some (by kernel_rfl))
 f225:=Tryz.func167.trans (congrArg some (by kernel_rfl))
 f266:=Tryz.func198.trans (congrArg some (by kernel_rfl))
 f267:=Tryz.func169.trans (congrArg some (by kernel_rfl))
 f314:=Tryz.func199.trans (congrArg some (by kernel_rfl))
 t3:=Tryz.underlying3
 a3:=Tryz.isAgg3
 z3:=Tryz.sizeOf3
 v3:=Tryz.zeroValue3
 t4:=Tryz.underlying4
 a4:=Tryz.isAgg4
 z4:=Tryz.sizeOf4
 v4:=Tryz.zeroValue4
 t5:=Tryz.underlying5
 a5:=Tryz.isAgg5
 z5:=Tryz.sizeOf5
 v5:=Tryz.zeroValue5
 t9:=Tryz.underlying9
 a9:=Tryz.isAgg9
 z9:=Tryz.sizeOf9
 v9:=Tryz.zeroValue9
 t46:=Tryz.underlying179
 a46:=Tryz.isAgg179
 z46:=Tryz.sizeOf179
 v46:=Tryz.zeroValue179
 t51:=Tryz.underlying240
 a51:=Tryz.isAgg240
 z51:=Tryz.sizeOf240
 v51:=Tryz.zeroValue240
 t146:=Tryz.underlying241
 a146:=Tryz.isAgg241
 z146:=Tryz.sizeOf241
 v146:=Tryz.zeroValue241
 g1:=by kernel_rfl }
open Go.RowKit Go.Lib in
open Go.RowKit Go.Lib in
theorem Tryz.strings_Index (s sub:ByteArray) (m:Int) (w:World) (hs:s.size<4294967281) (hm:w.cell? ⟨3,0,none⟩=some (.int .i64 m)) :
   Calls Tryz.prog 90 #[.string s,.string sub] w fun e w'=>e=.returned (.int .i64 (Lib.index s.data.toList sub.data.toList))∧w'=w:=Any.strings_Index Tryz.lays143 s sub m w hs hm
def Tryz.lays190_ren:Go.Shelf.Ren:=⟨fun|190=>148|125=>177|258=>176|128=>210|129=>211|302=>201|303=>202|304=>203|305=>204|306=>205|307=>206|308=>207|309=>208|310=>209|333=>230|329=>231|330=>232|334=>233|335=>234|336=>235|344=>243|n=>n,fun|31=>44|9=>9|3=>3|46=>179|0=>0|51=>240|53=>208|4=>4|183=>245|182=>244|131=>89|5=>5|218=>270|222=>96|228=>279|229=>144|n=>n,fun|n=>n⟩
theorem Tryz.lays190:Go.Proofs.Lays.n190 Tryz.prog Tryz.lays190_ren:={
 mixed:=by kernel_rfl
 f125:=Tryz.func177.trans (congrArg some (by kernel_rfl))
 f128:=Tryz.func210.trans (congrArg some (by kernel_rfl))
 f129:=Tryz.func211.trans (congrArg some (by kernel_rfl))
 f190:=Tryz.func148.trans (congrArg some (by kernel_rfl))
 f258:=Tryz.func176.trans (congrArg some (by kernel_rfl))
 f302:=Tryz.func201.trans (congrArg some (by kernel_rfl))
 f303:=Tryz.func202.trans (congrArg some (by kernel_rfl))
 f304:=Tryz.func203.trans (congrArg some (by kernel_rfl))
 f305:=Tryz.func204.trans (congrArg some (by kernel_rfl))
 f306:=Tryz.func205.trans (congrArg some (by kernel_rfl))
 f307:=Tryz.func206.trans (congrArg some (by kernel_rfl))
 f308:=Tryz.func207.trans (congrArg some (by kernel_rfl))
 f309:=Tryz.func208.trans (congrArg some (by kernel_rfl))
 f310:=Tryz.func209.trans (congrArg some (by kernel_rfl))
 f329:=Tryz.func231.trans (congrArg some (by kernel_rfl))
 f330:=Tryz.func232.trans (congrArg some (by kernel_rfl))
 f333:=Tryz.func230.trans (congrArg some (by kernel_rfl))
 f334:=Tryz.func233.trans (congrArg some (by kernel_rfl))
 f335:=Tryz.func234.trans (congrArg some (by kernel_rfl))
 f336:=Tryz.func235.trans (congrArg some (by kernel_rfl))
 f344:=Tryz.func243.trans (congrArg some (by kernel_rfl))
 t0:=Tryz.underlying0
 a0:=Tryz.isAgg0
 z0:=Tryz.sizeOf0
 v0:=Tryz.zeroValue0
 t3:=Tryz.underlying3
 a3:=Tryz.isAgg3
 z3:=Tryz.sizeOf3
 v3:=Tryz.zeroValue3
 t4:=Tryz.underlying4
 a4:=Tryz.isAgg4
 z4:=Tryz.sizeOf4
 v4:=Tryz.zeroValue4
 t5:=Tryz.underlying5
 a5:=Tryz.isAgg5
 z5:=Tryz.sizeOf5
 v5:=Tryz.zeroValue5
 t9:=Tryz.underlying9
 a9:=Tryz.isAgg9
 z9:=Tryz.sizeOf9
 v9:=Tryz.zeroValue9
 t31:=Tryz.underlying44
 a31:=Tryz.isAgg44
 z31:=Tryz.sizeOf44
 v31:=Tryz.zeroValue44
 t46:=Tryz.underlying179
 a46:=Tryz.isAgg179
 z46:=Tryz.sizeOf179
 v46:=Tryz.zeroValue179
 t51:=Tryz.underlying240
 a51:=Tryz.isAgg240
 z51:=Tryz.sizeOf240
 v51:=Tryz.zeroValue240
 t53:=Tryz.underlying208
 a53:=Tryz.isAgg208
 z53:=Tryz.sizeOf208
 v53:=Tryz.zeroValue208
 t131:=Tryz.underlying89
 a131:=Tryz.isAgg89
 z131:=Tryz.sizeOf89
 v131:=Tryz.zeroValue89
 t182:=Tryz.underlying244
 a182:=Tryz.isAgg244
 z182:=Tryz.sizeOf244
 v182:=Tryz.zeroValue244
 t183:=Tryz.underlying245
 a183:=Tryz.isAgg245
 z183:=Tryz.sizeOf245
 v183:=Tryz.zeroValue245
 t218:=Tryz.underlying270
 a218:=Tryz.isAgg270
 z218:=Tryz.sizeOf270
 v218:=Tryz.zeroValue270
 t222:=Tryz.underlying96
 a222:=Tryz.isAgg96
 z222:=Tryz.sizeOf96
 v222:=Tryz.zeroValue96
 t228:=Tryz.underlying279
 a228:=Tryz.isAgg279
 z228:=Tryz.sizeOf279
 v228:=Tryz.zeroValue279
 t229:=Tryz.underlying144
 a229:=Tryz.isAgg144
 z229:=Tryz.sizeOf144
 v229:=Tryz.zeroValue144 }
open Go.Sort Go.RowKit in
theorem Tryz.slices_Sort_string (blk off cap:Nat) (ss:List (List UInt8)) (w:World) (hH:Holds encStr w blk off ss.toArray) (hblk:blk<w.heap.size) (hsz:ss.length<4611686018427387904) :
   Calls Tryz.prog 148 #[.slice (some ⟨blk,off,none⟩) ss.length cap] w fun e w' =>
     e=.returned (.tuple #[])∧∃ n os,w'=grow (putRow encStr (Sort.ahead w n) blk off (ss.mergeSort fun x y=>decide (x≤y)).toArray) os:=Any.slices_Sort_string Tryz.lays190 blk off cap ss w hH hblk hsz
def Tryz.lays99_ren:Go.Shelf.Ren:=⟨fun|99=>91|206=>136|n=>n,fun|9=>9|4=>4|3=>3|n=>n,fun|n=>n⟩
theorem Tryz.lays99:Go.Proofs.Lays.n99 Tryz.prog Tryz.lays99_ren:={
 mixed:=by kernel_rfl
 f99:=Tryz.func91.trans (congrArg some (by kernel_rfl))
 f206:=Tryz.func136.trans (congrArg some (by kernel_rfl))
 t3:=Tryz.underlying3
 a3:=Tryz.isAgg3
 z3:=Tryz.sizeOf3
 v3:=Tryz.zeroValue3
 t4:=Tryz.underlying4
 a4:=Tryz.isAgg4
 z4:=Tryz.sizeOf4
 v4:=Tryz.zeroValue4
 t9:=Tryz.underlying9
 a9:=Tryz.isAgg9
 z9:=Tryz.sizeOf9
 v9:=Tryz.zeroValue9 }
open Go.RowKit Go.Lib in
theorem Tryz.strings_HasPrefix (s p:ByteArray) (w:World) :
   Calls Tryz.prog 91 #[.string s,.string p] w fun e w'=>e=.returned (.bool (Lib.hasPrefix s.data.toList p.data.toList))∧w'=w:=Any.strings_HasPrefix Tryz.lays99 s p w
def Tryz.lays100_ren:Go.Shelf.Ren:=⟨fun|100=>92|207=>137|n=>n,fun|9=>9|4=>4|3=>3|n=>n,fun|n=>n⟩
theorem Tryz.lays100:Go.Proofs.Lays.n100 Tryz.prog Tryz.lays100_ren:={
 mixed:=by kernel_rfl
 f100:=Tryz.func92.trans (congrArg some (by kernel_rfl))
 f207:=Tryz.func137.trans (congrArg some (by kernel_rfl))
 t3:=Tryz.underlying3
 a3:=Tryz.isAgg3
 z3:=Tryz.sizeOf3
 v3:=Tryz.zeroValue3
 t4:=Tryz.underlying4
 a4:=Tryz.isAgg4
 z4:=Tryz.sizeOf4
 v4:=Tryz.zeroValue4
 t9:=Tryz.underlying9
 a9:=Tryz.isAgg9
 z9:=Tryz.sizeOf9
 v9:=Tryz.zeroValue9 }
open Go.RowKit Go.Lib in
theorem Tryz.strings_HasSuffix (s p:ByteArray) (w:World) (hs:s.size≤9223372036854775807) :
   Calls Tryz.prog 92 #[.string s,.string p] w fun e w'=>e=.returned (.bool (Lib.hasSuffix s.data.toList p.data.toList))∧w'=w:=Any.strings_HasSuffix Tryz.lays100 s p w hs
open Go.RowKit Go.Sort in
theorem Tryz.slices_Sort_string_none (p:Option Addr) (cap:Nat) (w:World) :
   Calls Tryz.prog 148 #[.slice p 0 cap] w fun e w'=>e=.returned (.tuple #[])∧w'=w:=Any.slices_Sort_string_none Tryz.lays190 p cap w
def Tryz.lays196_ren:Go.Shelf.Ren:=⟨fun|196=>81|259=>124|n=>n,fun|9=>9|4=>4|3=>3|5=>5|12=>12|119=>175|0=>0|46=>179|139=>178|138=>177|53=>208|n=>n,fun|3=>0|4=>1|n=>n⟩
theorem Tryz.lays196:Go.Proofs.Lays.n196 Tryz.prog Tryz.lays196_ren:={
 mixed:=by kernel_rfl
 f196:=Tryz.func81.trans (congrArg some (by kernel_rfl))
 f259:=Tryz.func124.trans (congrArg some (by kernel_rfl))
 t0:=Tryz.underlying0
 a0:=Tryz.isAgg0
 z0:=Tryz.sizeOf0
 v0:=Tryz.zeroValue0
 t3:=Tryz.underlying3
 a3:=Tryz.isAgg3
 z3:=Tryz.sizeOf3
 v3:=Tryz.zeroValue3
 t4:=Tryz.underlying4
 a4:=Tryz.isAgg4
 z4:=Tryz.sizeOf4
 v4:=Tryz.zeroValue4
 t5:=Tryz.underlying5
 a5:=Tryz.isAgg5
 z5:=Tryz.sizeOf5
 v5:=Tryz.zeroValue5
 t9:=Tryz.underlying9
 a9:=Tryz.isAgg9
 z9:=Tryz.sizeOf9
 v9:=Tryz.zeroValue9
 t12:=Tryz.underlying12
 a12:=Tryz.isAgg12
 z12:=Tryz.sizeOf12
 v12:=Tryz.zeroValue12
 t46:=Tryz.underlying179
 a46:=Tryz.isAgg179
 z46:=Tryz.sizeOf179
 v46:=Tryz.zeroValue179
 t53:=Tryz.underlying208
 a53:=Tryz.isAgg208
 z53:=Tryz.sizeOf208
 v53:=Tryz.zeroValue208
 t119:=Tryz.underlying175
 a119:=Tryz.isAgg175
 z119:=Tryz.sizeOf175
 t138:=Tryz.underlying177
 a138:=Tryz.isAgg177
 z138:=Tryz.sizeOf177
 v138:=Tryz.zeroValue177
 t139:=Tryz.underlying178
 a139:=Tryz.isAgg178
 z139:=Tryz.sizeOf178
 v139:=Tryz.zeroValue178
 g3:=by kernel_rfl
 g4:=by kernel_rfl }
end Go.Proofs
