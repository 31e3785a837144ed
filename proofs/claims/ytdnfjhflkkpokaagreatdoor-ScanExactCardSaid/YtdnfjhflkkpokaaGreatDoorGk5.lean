/- Joined texts of the walk, made small by a program. -/
import Derived.Shelf.Strings.Builder1
import Derived.Shelf.Strings.Builder2
import Derived.Shelf.Strings.OnBuilder
import Derived.Shelf.Small.Bits
import Derived.Shelf.Small.Strs
import Derived.Shelf.Strconv.Itoa0
import Derived.Shelf.Strconv.Itoa1
import Derived.Shelf.LaysM
import Derived.Shelf.Strconv.Itoa2
import Derived.Shelf.Strconv.Itoa3
import Derived.Shelf.Strconv.Itoa4
import Derived.Shelf.Strconv.ParseIntEmpty
import Derived.Shelf.Strconv.Clone
import Derived.Shelf.Strconv.SyntaxError
import Derived.Shelf.LaysC
import Derived.Shelf.Strconv.ToError
import Derived.Shelf.Strconv.Lower
import Derived.Shelf.Strconv.ParseUint10
import Derived.Shelf.Strconv.ParseUint10Empty
import Derived.Shelf.Strconv.ParseUint10Any
import Derived.Shelf.Strconv.ParseInt10
import Derived.Shelf.Strconv.RangeError
import Derived.Shelf.Strconv.ToErrorRange
import Derived.Shelf.Strconv.ParseUintEmpty
import Derived.Shelf.Strconv.ParseUint10b64
import Derived.Shelf.Strconv.ParseUint10b32
import Derived.Shelf.Strconv.ParseUint10b16
import Derived.Shelf.Strconv.ParseUint10b8
import Derived.Shelf.Strconv.ParseUint10At
import Derived.Shelf.Strconv.ParseInt10At64
import Derived.Shelf.Strconv.ParseInt10At32
import Derived.Shelf.Strconv.ParseInt10At16
import Derived.Shelf.Strconv.ParseInt10At8
import Derived.Shelf.Strconv.ParseInt10All
import Derived.Shelf.Strconv.ParseIntPublic10
import Derived.Shelf.Strconv.ErrVarParseInt
import Derived.Shelf.Strings.Search1
import Derived.Shelf.Strings.Search2
import Derived.Shelf.Strings.Search3
import Derived.Shelf.Strings.Cut
import Derived.Shelf.Strings.Shaped
import Derived.Shelf.Sort.Plain
import Derived.Shelf.GgClosure.StringsIndexFunc
import Derived.Ground.GgwProg
import Derived.Shelf.GgClosure.StringsIndexFuncTop
import Derived.Shelf.GgClosure.StringsRunes
import Derived.Shelf.Strings.Prefix
import Derived.Shelf.Slices.Equal
import Derived.Ground.Names2Prog
import Derived.Shelf.Slices.Clone
import Derived.Shelf.Slices.In.SortNone
import Derived.Ground.SlsfProg
import Derived.Shelf.SlSortCmp.Insertion
import Derived.Shelf.SlSortCmp.SiftDown1
import Derived.Shelf.SlSortCmp.HeapSort1
import Derived.Shelf.SlSortCmp.Insertion1
import Derived.Shelf.SlSortCmp.Median1
import Derived.Shelf.SlSortCmp.Pivot1
import Derived.Shelf.SlSortCmp.ReverseRange1
import Derived.Shelf.SlSortCmp.PartialInsertion1
import Derived.Shelf.SlSortCmp.PartitionEqual1
import Derived.Shelf.SlSortCmp.Partition1
import Derived.Shelf.SlSortCmp.Pdq1
import Derived.Shelf.SlSortCmp.Whole1
import Derived.Shelf.Unicode.ValidAny
import Derived.Test.YtdnfjhflkkpokaaGreatDoorProg
import Derived.Test.YtdnfjhflkkpokaaGreatDoorGk4
import Derived.WalkKit
import Derived.ProofKit
import Derived.OpenShut
import Derived.JoinedCond
import Derived.SizedLaws
import Derived.Sort.Grow
import Derived.Deep.Draws
import Derived.Lib.LaidTab
import Derived.Lib.ItoaNum
import Derived.Lib.ParseIntB
import Derived.Stop.LaidErr
import Derived.Lib.LaidU8T
import Derived.Shelf.Vars
set_option linter.unusedSimpArgs false
set_option linter.unusedVariables false
namespace Go.Proofs
open Go.Shelf
def Tryz.lays156_ren:Go.Shelf.Ren:=⟨λ|156=>126|165=>180|166=>181|169=>182|240=>207|241=>208|276=>232|277=>233|n=>n,λ|31=>50|9=>9|3=>3|4=>4|0=>0|20=>20|72=>259|76=>261|70=>257|37=>178|75=>242|127=>283|164=>308|5=>5|80=>263|n=>n,λ|n=>n⟩
theorem Tryz.lays156:Go.Proofs.Lays.n156 Tryz.prog Tryz.lays156_ren:={
 mixed:=by kernel_rfl
 f156:=Tryz.func126.trans (congrArg some (by kernel_rfl))
 f165:=Tryz.func180.trans (congrArg some (by kernel_rfl))
 f166:=Tryz.func181.trans (congrArg some (by kernel_rfl))
 f169:=Tryz.func182.trans (congrArg some (by kernel_rfl))
 f240:=Tryz.func207.trans (congrArg some (by kernel_rfl))
 f241:=Tryz.func208.trans (congrArg some (by kernel_rfl))
 f276:=Tryz.func232.trans (congrArg some (by kernel_rfl))
 f277:=Tryz.func233.trans (congrArg some (by kernel_rfl))
 t0:=Tryz.underlying0
 a0:=Tryz.isAgg0
 z0:=Tryz.sizeOf0
 v0:=Tryz.zeroValue0
 t3:=Tryz.underlying3
 a3:=Tryz.isAgg3
 z3:=Tryz.sizeOf3
 v3:=Tryz.zeroValue3
 t4:=Tryz.underlying4
 a4:=Tryz.isAgg4
 z4:=Tryz.sizeOf4
 v4:=Tryz.zeroValue4
 t9:=Tryz.underlying9
 a9:=Tryz.isAgg9
 z9:=Tryz.sizeOf9
 v9:=Tryz.zeroValue9
 t20:=Tryz.underlying20
 a20:=Tryz.isAgg20
 z20:=Tryz.sizeOf20
 v20:=Tryz.zeroValue20
 t31:=Tryz.underlying50
 a31:=Tryz.isAgg50
 z31:=Tryz.sizeOf50
 v31:=Tryz.zeroValue50
 t37:=Tryz.underlying178
 a37:=Tryz.isAgg178
 z37:=Tryz.sizeOf178
 v37:=Tryz.zeroValue178
 t70:=Tryz.underlying257
 a70:=Tryz.isAgg257
 z70:=Tryz.sizeOf257
 v70:=Tryz.zeroValue257
 t72:=Tryz.underlying259
 a72:=Tryz.isAgg259
 z72:=Tryz.sizeOf259
 v72:=Tryz.zeroValue259
 t75:=Tryz.underlying242
 a75:=Tryz.isAgg242
 z75:=Tryz.sizeOf242
 v75:=Tryz.zeroValue242
 t76:=Tryz.underlying261
 a76:=Tryz.isAgg261
 z76:=Tryz.sizeOf261
 v76:=Tryz.zeroValue261
 t127:=Tryz.underlying283
 a127:=Tryz.isAgg283
 z127:=Tryz.sizeOf283
 v127:=Tryz.zeroValue283
 t164:=Tryz.underlying308
 a164:=Tryz.isAgg308
 z164:=Tryz.sizeOf308
 v164:=Tryz.zeroValue308}
theorem Tryz.Builder_Extra_156:Builder.Extra Tryz.prog Tryz.lays156_ren:={
 sizeBuilder:=by kernel_rfl
 liesBuilder:=by kernel_rfl
 t5:=Tryz.underlying5
 a5:=Tryz.isAgg5
 z5:=Tryz.sizeOf5
 v5:=Tryz.zeroValue5
 infoByte:=by kernel_rfl
 cellsByte:=by kernel_rfl
 sizeByte:=by kernel_rfl
 neB5:=by decide}
open Go.RowKit in
theorem Tryz.strings_Join_none(a:Option Addr)(c:Nat)(sep:ByteArray)(w:World):
 Calls Tryz.prog 126 #[.slice a 0 c,.string sep] w λe w'=>e=.returned (.string ⟨#[]⟩)/\w'=w:=Any.strings_Join_none Tryz.lays156 Tryz.Builder_Extra_156 a c sep w
open Go.RowKit in
theorem Tryz.strings_Join(f o c:Nat)(xs:List ByteArray)(sep:ByteArray)(w:World)(a:∀(j:Nat) x,xs[j]?=some x->w.cell? ⟨f,o+j,none⟩=some (.string x))(g:f<w.heap.size)(h:xs.length<=140737488355328)(b:xs.length<=c)(d:(Lib.join (xs.map (·.data.toList)) sep.data.toList).length<=140737488355328):
 Calls Tryz.prog 126 #[.slice (some ⟨f,o,none⟩) xs.length c,.string sep] w λe w'=>e=.returned (.string ⟨(Lib.join (xs.map (·.data.toList)) sep.data.toList).toArray⟩)/\Below w.heap.size w w':=Any.strings_Join Tryz.lays156 Tryz.Builder_Extra_156 f o c xs sep w a g h b d
def Tryz.lays106_ren:Go.Shelf.Ren:=⟨λ|106=>118|213=>172|265=>203|n=>n,λ|9=>9|3=>3|n=>n,λ|n=>n⟩
theorem Tryz.lays106:Go.Proofs.Lays.n106 Tryz.prog Tryz.lays106_ren:={
 mixed:=by kernel_rfl
 f106:=Tryz.func118.trans (congrArg some (by kernel_rfl))
 f213:=Tryz.func172.trans (congrArg some (by kernel_rfl))
 f265:=Tryz.func203.trans (congrArg some (by kernel_rfl))
 t3:=Tryz.underlying3
 a3:=Tryz.isAgg3
 z3:=Tryz.sizeOf3
 v3:=Tryz.zeroValue3
 t9:=Tryz.underlying9
 a9:=Tryz.isAgg9
 z9:=Tryz.sizeOf9
 v9:=Tryz.zeroValue9}
open Go.RowKit in
theorem Tryz.strings_Compare(a b:ByteArray)(w:World):
 Calls Tryz.prog 118 #[.string a,.string b] w λe w'=>e=.returned (.int .i64 (Lib.compareBytes a.data.toList b.data.toList))/\w'=w:=Any.strings_Compare Tryz.lays106 a b w
def Tryz.lays137_ren:Go.Shelf.Ren:=⟨λ|137=>177|217=>199|266=>230|n=>n,λ|9=>9|5=>5|3=>3|n=>n,λ|n=>n⟩
theorem Tryz.lays137:Go.Proofs.Lays.n137 Tryz.prog Tryz.lays137_ren:={
 mixed:=by kernel_rfl
 f137:=Tryz.func177.trans (congrArg some (by kernel_rfl))
 f217:=Tryz.func199.trans (congrArg some (by kernel_rfl))
 f266:=Tryz.func230.trans (congrArg some (by kernel_rfl))
 t3:=Tryz.underlying3
 a3:=Tryz.isAgg3
 z3:=Tryz.sizeOf3
 v3:=Tryz.zeroValue3
 t5:=Tryz.underlying5
 a5:=Tryz.isAgg5
 z5:=Tryz.sizeOf5
 v5:=Tryz.zeroValue5
 t9:=Tryz.underlying9
 a9:=Tryz.isAgg9
 z9:=Tryz.sizeOf9
 v9:=Tryz.zeroValue9}
open Go.RowKit in
theorem Tryz.strings_IndexByte(s:ByteArray)(c:Int)(w:World):
 Calls Tryz.prog 177 #[.string s,.int .u8 c] w λe w'=>e=.returned (.int .i64 (Lib.indexByte s.data.toList c.toNat.toUInt8))/\w'=w:=Any.strings_IndexByte Tryz.lays137 s c w
def Tryz.laysM173_ren:Go.Shelf.Ren:=⟨λ|173=>163|246=>198|283=>226|284=>227|285=>228|286=>229|129=>155|317=>243|318=>244|319=>245|320=>246|337=>250|338=>251|n=>n,λ|2=>2|3=>3|9=>9|4=>4|171=>302|0=>0|53=>231|37=>178|5=>5|173=>304|212=>317|51=>229|20=>20|213=>318|46=>185|232=>324|233=>325|n=>n,λ|17=>6|18=>7|19=>8|n=>n⟩
theorem Tryz.laysM173:Go.Proofs.LaysM.n173 Tryz.prog Tryz.laysM173_ren:={
 mixed:=by kernel_rfl
 f129:=Tryz.func155.trans (congrArg some (by kernel_rfl))
 f173:=Tryz.func163.trans (congrArg some (by kernel_rfl))
 f246:=Tryz.func198.trans (congrArg some (by kernel_rfl))
 f283:=Tryz.func226.trans (congrArg some (by kernel_rfl))
 f284:=Tryz.func227.trans (congrArg some (by kernel_rfl))
 f285:=Tryz.func228.trans (congrArg some (by kernel_rfl))
 f286:=Tryz.func229.trans (congrArg some (by kernel_rfl))
 f317:=Tryz.func243.trans (congrArg some (by kernel_rfl))
 f318:=Tryz.func244.trans (congrArg some (by kernel_rfl))
 f319:=Tryz.func245.trans (congrArg some (by kernel_rfl))
 f320:=Tryz.func246.trans (congrArg some (by kernel_rfl))
 f337:=Tryz.func250.trans (congrArg some (by kernel_rfl))
 f338:=Tryz.func251.trans (congrArg some (by kernel_rfl))
 t0:=Tryz.underlying0
 a0:=Tryz.isAgg0
 z0:=Tryz.sizeOf0
 v0:=Tryz.zeroValue0
 t2:=Tryz.underlying2
 a2:=Tryz.isAgg2
 z2:=Tryz.sizeOf2
 v2:=Tryz.zeroValue2
 t3:=Tryz.underlying3
 a3:=Tryz.isAgg3
 z3:=Tryz.sizeOf3
 v3:=Tryz.zeroValue3
 t4:=Tryz.underlying4
 a4:=Tryz.isAgg4
 z4:=Tryz.sizeOf4
 v4:=Tryz.zeroValue4
 t5:=Tryz.underlying5
 a5:=Tryz.isAgg5
 z5:=Tryz.sizeOf5
 v5:=Tryz.zeroValue5
 t9:=Tryz.underlying9
 a9:=Tryz.isAgg9
 z9:=Tryz.sizeOf9
 v9:=Tryz.zeroValue9
 t20:=Tryz.underlying20
 a20:=Tryz.isAgg20
 z20:=Tryz.sizeOf20
 v20:=Tryz.zeroValue20
 t37:=Tryz.underlying178
 a37:=Tryz.isAgg178
 z37:=Tryz.sizeOf178
 v37:=Tryz.zeroValue178
 t46:=Tryz.underlying185
 a46:=Tryz.isAgg185
 z46:=Tryz.sizeOf185
 v46:=Tryz.zeroValue185
 t51:=Tryz.underlying229
 a51:=Tryz.isAgg229
 z51:=Tryz.sizeOf229
 v51:=Tryz.zeroValue229
 t53:=Tryz.underlying231
 a53:=Tryz.isAgg231
 z53:=Tryz.sizeOf231
 v53:=Tryz.zeroValue231
 t171:=Tryz.underlying302
 a171:=Tryz.isAgg302
 z171:=Tryz.sizeOf302
 v171:=Tryz.zeroValue302
 t173:=Tryz.underlying304
 a173:=Tryz.isAgg304
 z173:=Tryz.sizeOf304
 v173:=Tryz.zeroValue304
 t212:=Tryz.underlying317
 a212:=Tryz.isAgg317
 z212:=Tryz.sizeOf317
 v212:=Tryz.zeroValue317
 t213:=Tryz.underlying318
 a213:=Tryz.isAgg318
 z213:=Tryz.sizeOf318
 t232:=Tryz.underlying324
 a232:=Tryz.isAgg324
 z232:=Tryz.sizeOf324
 v232:=Tryz.zeroValue324
 t233:=Tryz.underlying325
 a233:=Tryz.isAgg325
 z233:=Tryz.sizeOf325
 v233:=Tryz.zeroValue325
 g17:=by kernel_rfl
 g18:=by kernel_rfl
 g19:=by kernel_rfl
 i0:=by kernel_rfl
 i2:=by kernel_rfl
 i3:=by kernel_rfl
 i4:=by kernel_rfl
 i5:=by kernel_rfl
 i9:=by kernel_rfl
 i20:=by kernel_rfl
 i37:=by kernel_rfl
 i46:=by kernel_rfl
 i51:=by kernel_rfl
 i53:=by kernel_rfl
 i171:=by kernel_rfl
 i173:=by kernel_rfl
 i212:=by kernel_rfl
 i232:=by kernel_rfl
 i233:=by kernel_rfl
 m17:=by kernel_rfl
 m18:=by kernel_rfl
 m19:=by kernel_rfl}
open Go.RowKit Go.Sort Go.Lib in
theorem Tryz.strconv_FormatInt_10(n:Int)(b : -9223372036854775808<=n)(c:n<=9223372036854775807)(w:World)(a:Lib.TabIs Tryz.prog w "internal/strconv.uint64pow10" .u64 Lib.pow10Tab):
 Calls Tryz.prog 163 #[.int .i64 n,.int .i64 10] w λe w'=>e=.returned (.string ⟨(Lib.itoa n).toArray⟩)/\∃k os,w'=grow (w.drewN k) os:=Any.strconv_FormatInt_10 Tryz.laysM173 n b c w a
def Tryz.laysC174_ren:Go.Shelf.Ren:=⟨λ|174=>162|247=>196|245=>197|287=>221|279=>222|280=>223|281=>224|282=>225|321=>238|322=>239|316=>240|171=>242|205=>241|243=>249|246=>198|283=>226|284=>227|285=>228|286=>229|129=>155|317=>243|318=>244|319=>245|320=>246|337=>250|338=>251|n=>n,λ|9=>9|3=>3|2=>2|75=>242|85=>243|4=>4|167=>295|5=>5|53=>231|175=>296|46=>185|168=>298|37=>178|0=>0|210=>315|21=>21|127=>283|145=>323|143=>321|171=>302|173=>304|212=>317|51=>229|20=>20|213=>318|232=>324|233=>325|80=>263|n=>n,λ|15=>4|16=>5|17=>6|18=>7|19=>8|n=>n⟩
theorem Tryz.laysC174:Go.Proofs.LaysC.n174 Tryz.prog Tryz.laysC174_ren:={
 mixed:=by kernel_rfl
 f129:=Tryz.func155.trans (congrArg some (by kernel_rfl))
 f171:=Tryz.func242.trans (congrArg some (by kernel_rfl))
 f174:=Tryz.func162.trans (congrArg some (by kernel_rfl))
 f205:=Tryz.func241.trans (congrArg some (by kernel_rfl))
 f243:=Tryz.func249.trans (congrArg some (by kernel_rfl))
 f245:=Tryz.func197.trans (congrArg some (by kernel_rfl))
 f246:=Tryz.func198.trans (congrArg some (by kernel_rfl))
 f247:=Tryz.func196.trans (congrArg some (by kernel_rfl))
 f279:=Tryz.func222.trans (congrArg some (by kernel_rfl))
 f280:=Tryz.func223.trans (congrArg some (by kernel_rfl))
 f281:=Tryz.func224.trans (congrArg some (by kernel_rfl))
 f282:=Tryz.func225.trans (congrArg some (by kernel_rfl))
 f283:=Tryz.func226.trans (congrArg some (by kernel_rfl))
 f284:=Tryz.func227.trans (congrArg some (by kernel_rfl))
 f285:=Tryz.func228.trans (congrArg some (by kernel_rfl))
 f286:=Tryz.func229.trans (congrArg some (by kernel_rfl))
 f287:=Tryz.func221.trans (congrArg some (by kernel_rfl))
 f316:=Tryz.func240.trans (congrArg some (by kernel_rfl))
 f317:=Tryz.func243.trans (congrArg some (by kernel_rfl))
 f318:=Tryz.func244.trans (congrArg some (by kernel_rfl))
 f319:=Tryz.func245.trans (congrArg some (by kernel_rfl))
 f320:=Tryz.func246.trans (congrArg some (by kernel_rfl))
 f321:=Tryz.func238.trans (congrArg some (by kernel_rfl))
 f322:=Tryz.func239.trans (congrArg some (by kernel_rfl))
 f337:=Tryz.func250.trans (congrArg some (by kernel_rfl))
 f338:=Tryz.func251.trans (congrArg some (by kernel_rfl))
 t0:=Tryz.underlying0
 a0:=Tryz.isAgg0
 z0:=Tryz.sizeOf0
 v0:=Tryz.zeroValue0
 t2:=Tryz.underlying2
 a2:=Tryz.isAgg2
 z2:=Tryz.sizeOf2
 v2:=Tryz.zeroValue2
 t3:=Tryz.underlying3
 a3:=Tryz.isAgg3
 z3:=Tryz.sizeOf3
 v3:=Tryz.zeroValue3
 t4:=Tryz.underlying4
 a4:=Tryz.isAgg4
 z4:=Tryz.sizeOf4
 v4:=Tryz.zeroValue4
 t5:=Tryz.underlying5
 a5:=Tryz.isAgg5
 z5:=Tryz.sizeOf5
 v5:=Tryz.zeroValue5
 t9:=Tryz.underlying9
 a9:=Tryz.isAgg9
 z9:=Tryz.sizeOf9
 v9:=Tryz.zeroValue9
 t20:=Tryz.underlying20
 a20:=Tryz.isAgg20
 z20:=Tryz.sizeOf20
 v20:=Tryz.zeroValue20
 t21:=Tryz.underlying21
 a21:=Tryz.isAgg21
 z21:=Tryz.sizeOf21
 v21:=Tryz.zeroValue21
 t37:=Tryz.underlying178
 a37:=Tryz.isAgg178
 z37:=Tryz.sizeOf178
 v37:=Tryz.zeroValue178
 t46:=Tryz.underlying185
 a46:=Tryz.isAgg185
 z46:=Tryz.sizeOf185
 v46:=Tryz.zeroValue185
 t51:=Tryz.underlying229
 a51:=Tryz.isAgg229
 z51:=Tryz.sizeOf229
 v51:=Tryz.zeroValue229
 t53:=Tryz.underlying231
 a53:=Tryz.isAgg231
 z53:=Tryz.sizeOf231
 v53:=Tryz.zeroValue231
 t75:=Tryz.underlying242
 a75:=Tryz.isAgg242
 z75:=Tryz.sizeOf242
 v75:=Tryz.zeroValue242
 t85:=Tryz.underlying243
 a85:=Tryz.isAgg243
 z85:=Tryz.sizeOf243
 v85:=Tryz.zeroValue243
 t127:=Tryz.underlying283
 a127:=Tryz.isAgg283
 z127:=Tryz.sizeOf283
 v127:=Tryz.zeroValue283
 t143:=Tryz.underlying321
 a143:=Tryz.isAgg321
 z143:=Tryz.sizeOf321
 v143:=Tryz.zeroValue321
 t145:=Tryz.underlying323
 a145:=Tryz.isAgg323
 z145:=Tryz.sizeOf323
 v145:=Tryz.zeroValue323
 t167:=Tryz.underlying295
 a167:=Tryz.isAgg295
 z167:=Tryz.sizeOf295
 v167:=Tryz.zeroValue295
 t168:=Tryz.underlying298
 a168:=Tryz.isAgg298
 z168:=Tryz.sizeOf298
 v168:=Tryz.zeroValue298
 t171:=Tryz.underlying302
 a171:=Tryz.isAgg302
 z171:=Tryz.sizeOf302
 v171:=Tryz.zeroValue302
 t173:=Tryz.underlying304
 a173:=Tryz.isAgg304
 z173:=Tryz.sizeOf304
 v173:=Tryz.zeroValue304
 t175:=Tryz.underlying296
 a175:=Tryz.isAgg296
 z175:=Tryz.sizeOf296
 v175:=Tryz.zeroValue296
 t210:=Tryz.underlying315
 a210:=Tryz.isAgg315
 z210:=Tryz.sizeOf315
 v210:=Tryz.zeroValue315
 t212:=Tryz.underlying317
 a212:=Tryz.isAgg317
 z212:=Tryz.sizeOf317
 v212:=Tryz.zeroValue317
 t213:=Tryz.underlying318
 a213:=Tryz.isAgg318
 z213:=Tryz.sizeOf318
 t232:=Tryz.underlying324
 a232:=Tryz.isAgg324
 z232:=Tryz.sizeOf324
 v232:=Tryz.zeroValue324
 t233:=Tryz.underlying325
 a233:=Tryz.isAgg325
 z233:=Tryz.sizeOf325
 v233:=Tryz.zeroValue325
 g15:=by kernel_rfl
 g16:=by kernel_rfl
 g17:=by kernel_rfl
 g18:=by kernel_rfl
 g19:=by kernel_rfl
 t80:=Tryz.underlying263
 a80:=Tryz.isAgg263
 z80:=Tryz.sizeOf263
 v80:=Tryz.zeroValue263
 i0:=by kernel_rfl
 i2:=by kernel_rfl
 i3:=by kernel_rfl
 i4:=by kernel_rfl
 i5:=by kernel_rfl
 i9:=by kernel_rfl
 i20:=by kernel_rfl
 i21:=by kernel_rfl
 i37:=by kernel_rfl
 i46:=by kernel_rfl
 i51:=by kernel_rfl
 i53:=by kernel_rfl
 i75:=by kernel_rfl
 i80:=by kernel_rfl
 i85:=by kernel_rfl
 i127:=by kernel_rfl
 i143:=by kernel_rfl
 i145:=by kernel_rfl
 i167:=by kernel_rfl
 i168:=by kernel_rfl
 i171:=by kernel_rfl
 i173:=by kernel_rfl
 i175:=by kernel_rfl
 i210:=by kernel_rfl
 i212:=by kernel_rfl
 i232:=by kernel_rfl
 i233:=by kernel_rfl
 m15:=by kernel_rfl
 m16:=by kernel_rfl
 m17:=by kernel_rfl
 m18:=by kernel_rfl
 m19:=by kernel_rfl
 c0:=by kernel_rfl
 c2:=by kernel_rfl
 c3:=by kernel_rfl
 c4:=by kernel_rfl
 c5:=by kernel_rfl
 c9:=by kernel_rfl
 c20:=by kernel_rfl
 c21:=by kernel_rfl
 c37:=by kernel_rfl
 c46:=by kernel_rfl
 c51:=by kernel_rfl
 c53:=by kernel_rfl
 c75:=by kernel_rfl
 c80:=by kernel_rfl
 c85:=by kernel_rfl
 c127:=by kernel_rfl
 c143:=by kernel_rfl
 c145:=by kernel_rfl
 c167:=by kernel_rfl
 c168:=by kernel_rfl
 c171:=by kernel_rfl
 c173:=by kernel_rfl
 c175:=by kernel_rfl
 c210:=by kernel_rfl
 c212:=by kernel_rfl
 c213:=by kernel_rfl
 c232:=by kernel_rfl
 c233:=by kernel_rfl}
open Go.RowKit in
theorem Tryz.strconv_ParseInt_10_at64_ok(s:ByteArray)(a:s.size<=9223372036854775806)(v:Int)(h:Lib.parseIntB 64 s.data.toList=.ok v)(w:World):
 Calls Tryz.prog 162 #[.string s,.int .i64 10,.int .i64 64] w λe w'=>e=.returned (.tuple #[.int .i64 v,.nilIface])/\(w'=w\/∃t,w'=Lib.bytesWorld w 5 t):=Any.strconv_ParseInt_10_at64_ok Tryz.laysC174 s a v h w
open Go.RowKit in
theorem Tryz.strconv_ParseInt_10_at64_syntax(s:ByteArray)(b:s.size<=281474976710656)(h:Lib.parseIntB 64 s.data.toList=.syntax)(a:Value)(w:World)(f:w.cell? ⟨4,0,none⟩=some a)(c:a=.nilIface\/∃d g,a=.iface d g):
 Calls Tryz.prog 162 #[.string s,.int .i64 10,.int .i64 64] w λe w'=>∃N,e=.returned (.tuple #[.int .i64 (0),.iface 298 (.pointer (some ⟨N,0,none⟩))])/\w.heap.size<=N/\w'.heap[N]?=some (.cells #[.string ⟨#[80,97,114,115,101,73,110,116]⟩,.string s,a] 315 (0,0))/\Below w.heap.size w w':=Any.strconv_ParseInt_10_at64_syntax Tryz.laysC174 s b h a w f c
open Go.RowKit in
theorem Tryz.strconv_ParseInt_10_at64_range(s:ByteArray)(b:s.size<=281474976710656)(h:Lib.parseIntB 64 s.data.toList=.range)(a:Value)(w:World)(f:w.cell? ⟨5,0,none⟩=some a)(c:a=.nilIface\/∃d g,a=.iface d g):
 Calls Tryz.prog 162 #[.string s,.int .i64 10,.int .i64 64] w λe w'=>∃N,e=.returned (.tuple #[.int .i64 (Lib.intSat 64 s.data.toList),.iface 298 (.pointer (some ⟨N,0,none⟩))])/\w.heap.size<=N/\w'.heap[N]?=some (.cells #[.string ⟨#[80,97,114,115,101,73,110,116]⟩,.string s,a] 315 (0,0))/\Below w.heap.size w w':=Any.strconv_ParseInt_10_at64_range Tryz.laysC174 s b h a w f c
def Tryz.lays219_ren:Go.Shelf.Ren:=⟨λ|219=>168|217=>199|225=>200|224=>201|267=>202|266=>230|314=>231|n=>n,λ|9=>9|3=>3|4=>4|5=>5|46=>185|146=>306|51=>229|n=>n,λ|1=>3|n=>n⟩
theorem Tryz.lays219:Go.Proofs.Lays.n219 Tryz.prog Tryz.lays219_ren:={
 mixed:=by kernel_rfl
 f217:=Tryz.func199.trans (congrArg some (by kernel_rfl))
 f219:=Tryz.func168.trans (congrArg some (by kernel_rfl))
 f224:=Tryz.func201.trans (congrArg some (by kernel_rfl))
 f225:=Tryz.func200.trans (congrArg some (by kernel_rfl))
 f266:=Tryz.func230.trans (congrArg some (by kernel_rfl))
 f267:=Tryz.func202.trans (congrArg some (by kernel_rfl))
 f314:=Tryz.func231.trans (congrArg some (by kernel_rfl))
 t3:=Tryz.underlying3
 a3:=Tryz.isAgg3
 z3:=Tryz.sizeOf3
 v3:=Tryz.zeroValue3
 t4:=Tryz.underlying4
 a4:=Tryz.isAgg4
 z4:=Tryz.sizeOf4
 v4:=Tryz.zeroValue4
 t5:=Tryz.underlying5
 a5:=Tryz.isAgg5
 z5:=Tryz.sizeOf5
 v5:=Tryz.zeroValue5
 t9:=Tryz.underlying9
 a9:=Tryz.isAgg9
 z9:=Tryz.sizeOf9
 v9:=Tryz.zeroValue9
 t46:=Tryz.underlying185
 a46:=Tryz.isAgg185
 z46:=Tryz.sizeOf185
 v46:=Tryz.zeroValue185
 t51:=Tryz.underlying229
 a51:=Tryz.isAgg229
 z51:=Tryz.sizeOf229
 v51:=Tryz.zeroValue229
 t146:=Tryz.underlying306
 a146:=Tryz.isAgg306
 z146:=Tryz.sizeOf306
 v146:=Tryz.zeroValue306
 g1:=by kernel_rfl}
open Go.RowKit Go.Lib in
theorem Tryz.stringslite_Index_one(s:ByteArray)(c:UInt8)(w:World):
 Calls Tryz.prog 168 #[.string s,.string ⟨#[c]⟩] w λe w'=>e=.returned (.int .i64 (Lib.indexByte s.data.toList c))/\w'=w:=Any.stringslite_Index_one Tryz.lays219 s c w
def Tryz.lays143_ren:Go.Shelf.Ren:=⟨λ|143=>114|219=>168|217=>199|225=>200|224=>201|267=>202|266=>230|314=>231|n=>n,λ|9=>9|3=>3|4=>4|5=>5|46=>185|146=>306|51=>229|n=>n,λ|1=>3|n=>n⟩
theorem Tryz.lays143:Go.Proofs.Lays.n143 Tryz.prog Tryz.lays143_ren:={
 mixed:=by kernel_rfl
 f143:=Tryz.func114.trans (congrArg some (by kernel_rfl))
 f217:=Tryz.func199.trans (congrArg some (by kernel_rfl))
 f219:=Tryz.func168.trans (congrArg some (by kernel_rfl))
 f224:=Tryz.func201.trans (congrArg some (by kernel_rfl))
 f225:=Tryz.func200.trans (congrArg some (by kernel_rfl))
 f266:=Tryz.func230.trans (congrArg some (by kernel_rfl))
 f267:=Tryz.func202.trans (congrArg some (by kernel_rfl))
 f314:=Tryz.func231.trans (congrArg some (by kernel_rfl))
 t3:=Tryz.underlying3
 a3:=Tryz.isAgg3
 z3:=Tryz.sizeOf3
 v3:=Tryz.zeroValue3
 t4:=Tryz.underlying4
 a4:=Tryz.isAgg4
 z4:=Tryz.sizeOf4
 v4:=Tryz.zeroValue4
 t5:=Tryz.underlying5
 a5:=Tryz.isAgg5
 z5:=Tryz.sizeOf5
 v5:=Tryz.zeroValue5
 t9:=Tryz.underlying9
 a9:=Tryz.isAgg9
 z9:=Tryz.sizeOf9
 v9:=Tryz.zeroValue9
 t46:=Tryz.underlying185
 a46:=Tryz.isAgg185
 z46:=Tryz.sizeOf185
 v46:=Tryz.zeroValue185
 t51:=Tryz.underlying229
 a51:=Tryz.isAgg229
 z51:=Tryz.sizeOf229
 v51:=Tryz.zeroValue229
 t146:=Tryz.underlying306
 a146:=Tryz.isAgg306
 z146:=Tryz.sizeOf306
 v146:=Tryz.zeroValue306
 g1:=by kernel_rfl}
open Go.RowKit Go.Lib in
theorem Tryz.strings_Index(s sub:ByteArray)(m:Int)(w:World)(b:s.size<4294967281)(a:w.cell? ⟨3,0,none⟩=some (.int .i64 m)):
 Calls Tryz.prog 114 #[.string s,.string sub] w λe w'=>e=.returned (.int .i64 (Lib.index s.data.toList sub.data.toList))/\w'=w:=Any.strings_Index Tryz.lays143 s sub m w b a
def Tryz.lays99_ren:Go.Shelf.Ren:=⟨λ|99=>115|206=>169|n=>n,λ|9=>9|4=>4|3=>3|n=>n,λ|n=>n⟩
theorem Tryz.lays99:Go.Proofs.Lays.n99 Tryz.prog Tryz.lays99_ren:={
 mixed:=by kernel_rfl
 f99:=Tryz.func115.trans (congrArg some (by kernel_rfl))
 f206:=Tryz.func169.trans (congrArg some (by kernel_rfl))
 t3:=Tryz.underlying3
 a3:=Tryz.isAgg3
 z3:=Tryz.sizeOf3
 v3:=Tryz.zeroValue3
 t4:=Tryz.underlying4
 a4:=Tryz.isAgg4
 z4:=Tryz.sizeOf4
 v4:=Tryz.zeroValue4
 t9:=Tryz.underlying9
 a9:=Tryz.isAgg9
 z9:=Tryz.sizeOf9
 v9:=Tryz.zeroValue9}
open Go.RowKit Go.Lib in
theorem Tryz.strings_HasPrefix(s p:ByteArray)(w:World):
 Calls Tryz.prog 115 #[.string s,.string p] w λe w'=>e=.returned (.bool (Lib.hasPrefix s.data.toList p.data.toList))/\w'=w:=Any.strings_HasPrefix Tryz.lays99 s p w
def Tryz.lays100_ren:Go.Shelf.Ren:=⟨λ|100=>116|207=>170|n=>n,λ|9=>9|4=>4|3=>3|n=>n,λ|n=>n⟩
theorem Tryz.lays100:Go.Proofs.Lays.n100 Tryz.prog Tryz.lays100_ren:={
 mixed:=by kernel_rfl
 f100:=Tryz.func116.trans (congrArg some (by kernel_rfl))
 f207:=Tryz.func170.trans (congrArg some (by kernel_rfl))
 t3:=Tryz.underlying3
 a3:=Tryz.isAgg3
 z3:=Tryz.sizeOf3
 v3:=Tryz.zeroValue3
 t4:=Tryz.underlying4
 a4:=Tryz.isAgg4
 z4:=Tryz.sizeOf4
 v4:=Tryz.zeroValue4
 t9:=Tryz.underlying9
 a9:=Tryz.isAgg9
 z9:=Tryz.sizeOf9
 v9:=Tryz.zeroValue9}
open Go.RowKit Go.Lib in
theorem Tryz.strings_HasSuffix(s p:ByteArray)(w:World)(a:s.size<=9223372036854775807):
 Calls Tryz.prog 116 #[.string s,.string p] w λe w'=>e=.returned (.bool (Lib.hasSuffix s.data.toList p.data.toList))/\w'=w:=Any.strings_HasSuffix Tryz.lays100 s p w a
def Tryz.lays196_ren:Go.Shelf.Ren:=⟨λ|196=>105|259=>160|n=>n,λ|9=>9|4=>4|3=>3|5=>5|12=>12|119=>236|0=>0|46=>185|139=>239|138=>238|53=>231|n=>n,λ|3=>0|4=>1|n=>n⟩
theorem Tryz.lays196:Go.Proofs.Lays.n196 Tryz.prog Tryz.lays196_ren:={
 mixed:=by kernel_rfl
 f196:=Tryz.func105.trans (congrArg some (by kernel_rfl))
 f259:=Tryz.func160.trans (congrArg some (by kernel_rfl))
 t0:=Tryz.underlying0
 a0:=Tryz.isAgg0
 z0:=Tryz.sizeOf0
 v0:=Tryz.zeroValue0
 t3:=Tryz.underlying3
 a3:=Tryz.isAgg3
 z3:=Tryz.sizeOf3
 v3:=Tryz.zeroValue3
 t4:=Tryz.underlying4
 a4:=Tryz.isAgg4
 z4:=Tryz.sizeOf4
 v4:=Tryz.zeroValue4
 t5:=Tryz.underlying5
 a5:=Tryz.isAgg5
 z5:=Tryz.sizeOf5
 v5:=Tryz.zeroValue5
 t9:=Tryz.underlying9
 a9:=Tryz.isAgg9
 z9:=Tryz.sizeOf9
 v9:=Tryz.zeroValue9
 t12:=Tryz.underlying12
 a12:=Tryz.isAgg12
 z12:=Tryz.sizeOf12
 v12:=Tryz.zeroValue12
 t46:=Tryz.underlying185
 a46:=Tryz.isAgg185
 z46:=Tryz.sizeOf185
 v46:=Tryz.zeroValue185
 t53:=Tryz.underlying231
 a53:=Tryz.isAgg231
 z53:=Tryz.sizeOf231
 v53:=Tryz.zeroValue231
 t119:=Tryz.underlying236
 a119:=Tryz.isAgg236
 z119:=Tryz.sizeOf236
 t138:=Tryz.underlying238
 a138:=Tryz.isAgg238
 z138:=Tryz.sizeOf238
 v138:=Tryz.zeroValue238
 t139:=Tryz.underlying239
 a139:=Tryz.isAgg239
 z139:=Tryz.sizeOf239
 v139:=Tryz.zeroValue239
 g3:=by kernel_rfl
 g4:=by kernel_rfl}
end Go.Proofs
namespace Go.Proofs.YtdnfjhflkkpokaaGreatDoor.Av
open Go Go.ChangeShapes Go.WideShapes Go.ChangeAt Go.RowKit
variable {P:Program}{t e:TypeId}{X Y H:Type}{k:IntKind}{w W w0:World}{n N g:Nat}{v:Value}{f:FuncId}{A B:Prop}{L:List Blk}{S0:SB}{E:Env}{name:String}{l:List AV}
def ni(w:World):Env:={mem:=λb o=>w.cell? ⟨b,o,none⟩,loc:=λ_=>none,tok:=λ_=>none}
theorem Rel.start(w:World)(a:tS (ni w).mem/\wn w):Rel w ⟨λ_=>False,0⟩ (ni w) [] w where
 mem _ _ _ h:=h
 blk _ _ h:=by simp at h
 fresh _ _:=rfl
 own _ _ _ h:=by simp at h
 inj _ _ _ _ _ _ h:=by simp at h
 tkfresh _ _:=rfl
 tkown _ _ _ _ _ h:=by simp at h
 tkloc _ _ _ _ _ _ _ _ h:=by simp at h
 tkinj _ _ _ _ _ _ _ _ _ _ h:=by simp at h
 frame _ _ _:=rfl
 size:=ao0 _
 os:=rfl
 tape:=rfl
 output:=rfl
 glob:=a.1
 gsz:=a.2
def Rd(P:Program)(t:TypeId){X:Type}(ec:X->List AV)(ok:X->Prop):Prop :=
 ∀(H:Type) (enc:TypeId×Value->H) (w:World) (fuel:Nat) (cs:List Value) (x:DataW H×List MemPlace),
  DataW.trod enc P w 0 (λ_=>true) true fuel t cs=some x->∃y,ok y/\VRL (ni w) (ec y) cs
theorem Rd.map{d:X->List AV}{ok:X->Prop}{a:Y->List AV}{b:Y->Prop}(h:Rd P t d ok)(m:∀y,ok y->∃z,b z/\a z=d y):Rd P t a b:=λH enc w c cs x e=>by obtain⟨y,i,g⟩:=h H enc w c cs x e;obtain⟨z,f,h4⟩:=m y i;exact⟨z,f,by rw[h4];exact g⟩
theorem afZ(d:P.underlying t=some .bool):Rd P t (λb:Bool=>[.bool b]) (λ_=>True):=λH enc w a cs x c=>by obtain⟨b,rfl,_⟩:=DataW.trod_bool d c;exact⟨b,trivial,by simp[VRL,VR]⟩
theorem JV(d:P.underlying t=some (.int k)):Rd P t (λn:Int=>[.int k n]) (λn=>k.min<=n/\n<=k.max):=λH enc w b cs x c=>by obtain⟨n,rfl,_,a⟩:=DataW.trod_int d c;simp only[Lit.wf,ao3,decide_eq_true_eq]at a;exact⟨n,a,by simp[VRL,VR]⟩
theorem agq{E:Env}:∀{l m:List AV}{b o:Nat},VRC E l b o->VRC E m b (o+l.length)->VRC E (l++m) b o
 |[],_,_,_,_,h=>by simpa using h
 |a::l,m,b,o,h,k=>by simp only[apH,VRC]at h⊢;exact⟨h.1,agq h.2 (by rw[show o+1+l.length=o+(l.length+1)by omega];exact k)⟩
theorem V9{X:Type}(Q:Nat->X->Prop):∀n,(∀i,i<n->∃y,Q i y)->∃b:List X,b.length=n/\∀i y,b[i]?=some y->Q i y
 |0,_=>⟨[],rfl,asp⟩
 | n+1,h=>by
   obtain⟨b,g,f⟩:=V9 Q n λi c=>h i aso
   obtain⟨y,d⟩:=h n aso;refine⟨b++[y],by simp[g],λi z a=>?_⟩;rw[aqn]at a;split at a
   .exact f i z a
   .have c:i-b.length=0:=by
     rcases aqp (i-b.length)with e|e
     .exact e
     .rw[aqM (by simp;omega)]at a;cases a
    rw[c]at a;simp at a;subst a;rw[show i=n by omega];exact d
theorem aal{E:Env}{X:Type}{a:X->List AV}{b sz:Nat}:∀{c:List X}{o:Nat},(∀i y,c[i]?=some y->(a y).length=sz/\VRC E (a y) b (o+i*sz))->VRC E (c.flatMap a) b o
 |[],_,_=>by simp[VRC]
 |y::c,o,h=>by rw[apD];have d:=h 0 y rfl;refine agq (by simpa using d.2) (aal (sz:=sz) λi z e=>?_);have:=h (i+1) z e;refine⟨this.1,?_⟩;rw[d.1,show o+sz+i*sz=o+(i+1)*sz by rw[ap8];omega];exact this.2
theorem EU{a:Addr}{cs:List Value}(h:w.cells? 0 a n=some cs):cs.length=n/\∀i,i<n->w.cell? (a.add i)=cs[i]?:=by simp only[World.cells?,ao2,if_true]at h;refine⟨by simpa using mapM_some_length h,λi b=>?_⟩;exact mapM_some_get h i i (by simp[b])
theorem abA{a:Addr}(h:w.cell? a=some v):a.spot=none:=by rcases hs:a.spot with _|s;rfl;simp only[World.cell?,hs,arU,if_true]at h;split at h<;>cases h
theorem ada{enc:TypeId×Value->H}{f:Func}{s:ChangeSpec}{d fresh g q:Bool}{m:World}{args:Array Value}{ds x:List (DataW H)}{a pa pv:List MemPlace}(z:DataW.Whole enc P f.params.toList s.vars d W args.toList ds x a)(k:∀(b:Nat) (n:Nat->Bool) (D:Bool),DataW.TrodAll enc P m b n D f.resultTypes.toList (v.resultList f.resultTypes.size) (s.fn H (ds++x)).results [])(c:∀n:Nat->Bool,(∀p∈a,n p.block=true)->DataW.TrodAll enc P m 0 n true f.params.toList args.toList (s.fn H (ds++x)).args pa)(e:∀n:Nat->Bool,(∀p∈a,n p.block=true)->DataW.TrodVars enc P m n s.vars (s.fn H (ds++x)).vars pv)(h:a=pa++pv)(B:W.keptBut m (·∈a))(A:∀b o,b<W.heap.size->m.frozen? ⟨b,o,none⟩=W.frozen? ⟨b,o,none⟩)(y:∀(j:Nat) (t:TypeId) (r:Value),f.resultTypes[j]?=some t->(v.resultList f.resultTypes.size)[j]?=some r->Value.okWide P m .any 0 t r):
  s.post enc P f d fresh g q W args v m:=by
 have u:=z.lt;have l:∀p∈a,(λb=>decide (b<W.heap.size)) p.block=true:=λp i=>by simpa using u p i
 refine⟨ds,x,a,[],pa,pv,z,k _ _ _,c _ l,e _ l,World.keptBut_mono (λp i=>⟨i,?_⟩) B,λ_=>?_⟩;rw[h,ao5]at i;exact Or.inr i;obtain⟨_,_,_,_,_,E,C⟩:=z;refine⟨y,_,_,([]++pa)++pv,⟨[]++pa,pv,trodAll_append (c _ (λ_ _=>rfl)) (k _ _ _),e _ (λ_ _=>rfl),rfl,?_,?_⟩,?_⟩;intro b off i;have w:MemPlace.cell b off∈a:=by rw[h];simpa using i
 rw[A b off (u _ w)];exact E b off w;intro F;have:=C F;rw[h]at this;simpa using this;intro p i _;rw[h];simpa using i
def R4(P:Program):Bool:=(List.range P.types.size).all λt=>match P.underlying t with|some (.slice e)=>decide (0<P.cellsOf e)|_=>true
theorem OA{H:Type}{enc:TypeId×Value->H}{P:Program}{W l:World}(b:laidOutB P=true)(c:mapsRowed P=true)(a:R4 P=true):
  ∀{ts:List TypeId}{vs:List Value}{ds:List (DataW H)}{ps:List MemPlace},(∀t∈ts,t<P.types.size)->DataW.TrodAll enc P W 0 (λ_=>true) true ts vs ds ps->(∀p∈ps,W.sameAt l p) ->
  ∀i:Nat->Bool,(∀p∈ps,i p.block=true)->DataW.TrodAll enc P l 0 i true ts vs ds ps
 |[],_,_,_,_,h,_,_,_=>by obtain⟨rfl,rfl,rfl⟩:=trodAll_nil h;exact trodAll_mk0
 | t::ts,_,_,_,hts,h,hs,i,hsp=>by
   obtain⟨v,s,d,o,p,q,rfl,rfl,rfl,k,n⟩:=trodAll_cons h;obtain⟨g,k⟩:=k;refine trodAll_cons_mk ⟨g,DataW.trod_stays (kids_rows b c) (λ{t e} m j=>?_) (λe=>by cases e) (hts t asp) k (λr f=>hs r (aqh _ f)) (λr f=>hsp r (aqh _ f))⟩
    (OA b c a (λu j=>hts u (by simp[j])) n (λr f=>hs r (aqP _ f)) i (λr f=>hsp r (aqP _ f)))
   have:=apa.1 a t (List.mem_range.2 m);rw[j]at this;simpa using this
theorem YI{H:Type}{enc:TypeId×Value->H}{P:Program}{w:World}{base:Nat}{a:Nat->Bool}{b:Bool}:∀{ts:List TypeId}{vs:List Value}{ds:List (DataW H)}{ps:List MemPlace},DataW.TrodAll enc P w base a b ts vs ds ps->ds.length=ts.length
 |[],_,_,_,h=>by obtain⟨_,rfl,_⟩:=trodAll_nil h;rfl
 |t::ts,_,_,_,h=>by obtain⟨v,f,d,e,p,q,rfl,rfl,rfl,_,c⟩:=trodAll_cons h;simp[YI c]
theorem aaz{fn:Func}{s:ChangeSpec}{d fresh k B:Bool}{tb:TypeId}(O:P.funcs[f]?=some fn)(x:fn.body.isSome=true)(A:(fn.name == "runtime.NumGoroutine")=false)(C:laidOutB P=true)(E:mapsRowed P=true)(u:R4 P=true)(U:fn.params.toList.all (fun t=>decide (t<P.types.size))=true)(n:fn.resultTypes=#[tb])(m:P.underlying tb=some .bool)(g:s.vars=[])(hs:∀ (H:Type) (ds:List (DataW H)),ds.length=fn.params.toList.length->(s.fn H ds).results=[.lit (.bool true)]/\(s.fn H ds).args=ds/\(s.fn H ds).vars=[]){Z:X->List AV}{ok:X->Prop}(F:∀ y,ok y->af P f (Z y) [] fun av _=>av=.bool true)(enc:TypeId×Value->H)(W:World)(args:Array Value)(ds gs:List (DataW H))(l:List MemPlace)(hA:∀ p,DataW.TrodAll enc P W 0 (fun _=>true) true fn.params.toList args.toList ds p->∃ y,ok y/\VRL (ni W) (Z y) args.toList)(Q:DataW.Whole enc P fn.params.toList s.vars d W args.toList ds gs l)(z:tS (ni W).mem/\wn W):
  Calls P f args W λe I=>∃v,e=.returned v/\s.post enc P fn d fresh k B W args v I:=by
 have K:=Q;have L:=Q.lt;obtain⟨p,q,w,Y,rfl,ad,ai⟩:=Q;rw[g]at Y;obtain⟨rfl,rfl⟩:=trodVars_none Y;obtain⟨y,hy,R⟩:=hA p w;have D:=YI w;obtain⟨e1,e2,e3⟩:=hs H ds D;have G:(callFunc f args).run P W=.ok (.enter f args) W:=by
  simp only[callFunc,ao7,run_program,ao9,O,A];cases m:fn.body with
  |none=>simp[m]at x
  |some c=>simp
 rcases F y hy W ⟨λ_=>False,0⟩ (ni W) W args.toList (Rel.start W z) R with⟨_,h⟩|⟨_,_,_,_,_,h,_⟩;refine h.mono λe I ⟨E',v,av,L',he,_,T,V,S⟩=>?_
 subst T;simp only[VR]at V;subst V;refine⟨_,he,?_⟩;have a:∀b,b<W.heap.size->I.heap[b]?=W.heap[b]?:=λb m=>S.frame b m (λh=>h)
 have N:∀r∈p,W.sameAt I r:=λr J=>by have:=L r (by simpa using J);cases r<;>simp only[World.sameAt,MemPlace.block]at this⊢;simp only[World.cell?];rw[a _ this];exact a _ this
 refine ada (pa:=p) (pv:=[]) K (λb sp hd=>?_) (λsp M=>?_) (λ_ _=>?_) rfl ⟨S.os,S.output,λi hi=>?_⟩ (λb o m=>?_) (λj t r h1 h2=>?_);rw[apG,e1,n];exact trodAll_cons_mk (shut_bool m _) trodAll_mk0;rw[apG,e2];exact OA C E u (λt ht=>by simpa using apa.1 U t ht) w N sp (λr J=>M r (by simpa using J));rw[g,apG,e3];rfl;rw[a i hi];rcases hc:W.heap[i]? with _|o;trivial;cases o<;>simp;simp only[World.frozen?];rw[a b m];exact ok_one n rfl (okWide_bool_mk m _) j t r h1 h2;rw[show(⟨args.toList⟩:Array Value)=args from rfl,G]at h;cases h
open Go Go.ChangeShapes Go.WideShapes Go.ChangeAt
set_option maxHeartbeats 8000000
set_option maxRecDepth 100000
def RdZ(P:Program)(t:TypeId){X:Type}(ec:X->List AV)(ok:X->Prop):Prop :=
 ∀(H:Type) (enc:TypeId×Value->H) (w:World) (fuel:Nat) (cs:List Value) (x:DataW H×List MemPlace),
  DataW.trod enc P w 0 (λ_=>true) true fuel t cs=some x->(∀n∈x.1.weights P t,n<=reachBytes)->∃y,ok y/\VRL (ni w) (ec y) cs
theorem Rd.z{b:X->List AV}{ok:X->Prop}(h:Rd P t b ok):RdZ P t b ok:=λH enc w a cs x c _=>h H enc w a cs x c
theorem kG(c:P.underlying t=some .string):RdZ P t (λs:List UInt8=>[.str s]) (λs=>s.length<=reachBytes):=λH enc w a cs x b d=>by obtain⟨s,rfl,rfl,e⟩:=DataW.trod_string c b;exact⟨s.data.toList,d _ (by simp[DataW.weights]),by simp[VRL,VR]⟩
theorem rR{H:Type}{P:Program}{e:TypeId}:∀{l:List (DataW H)}{d:DataW H},d∈l->∀n∈d.weights P e,n∈DataW.weightsAll P e l
 | a::l,d,h,n,hn=>by
   rw[DataW.weightsAll];rcases apn.1 h with rfl|h
   .exact aqh _ hn
   .exact aqP _ (rR h n hn)
theorem jT{E:X->List AV}{ok:X->Prop}(T:P.underlying t=some (.slice e))(he:RdZ P e E ok)(J:decide (0<P.cellsOf e)=true):
  RdZ P t (λl:List X=>[.sl (l.flatMap E) l.length none]) (λl=>l.length<=maxLen/\∀y∈l,ok y):=λH enc w Q cs x hx K=>by
 have hz:0<P.cellsOf e:=of_decide_eq_true J;rcases DataW.trod_slice T hx with⟨rfl,_⟩|⟨a,len,cap,elems,rest,n,_,rfl,rfl,_,ad,W,Z,p,f,_⟩;exact⟨[],⟨asp,asp⟩,by simp only[VRL,VR];exact⟨_,_,rfl,⟨none,0,rfl,ao0 _,asp,.inl ⟨rfl,rfl,rfl⟩⟩,rfl⟩⟩;have c:cap≠0->a.spot=none:=λL=>by
  have g:∀r:Option (DataW H×List MemPlace),r≠none->(w.cells? 0 (a.add (0*P.cellsOf e)) (P.cellsOf e)).bind (DataW.trod enc P w 0 (λ_=>true) true n e)=r->a.spot=none:=λr Y A=>by obtain⟨q,rfl⟩:=Option.ne_none_iff_exists'.1 Y;rw[aqC]at A;obtain⟨h,z,_⟩:=A;obtain⟨h6,M⟩:=EU z;have F:=M 0 hz;obtain⟨v,hv⟩:∃v,h[0]?=some v:=⟨h[0]'aso,ao8 _⟩;rw[hv]at F;have:=abA F;simpa[Addr.add]using this
  by_cases U:len=0;obtain⟨r1,r2⟩:=f rfl;exact g rest[0]? (by rw[ao8 aso];simp) (by simpa[U]using r2 0 aso)
  exact g elems[0]? (by rw[ao8 aso];simp) (p 0 aso)
 have C:∀i,i<len->∃y,ok y/\(E y).length=P.cellsOf e/\a.spot=none/\VRC (ni w) (E y) a.block (a.off+i*P.cellsOf e):=λi I=>by
  have A:=p i I;obtain⟨q,O⟩:∃q,elems[i]?=some q:=⟨elems[i]'aso,ao8 _⟩;rw[O,aqC]at A;obtain⟨h,z,h3⟩:=A;obtain⟨y,h4,S⟩:=he H enc w n h q h3 (λm hm=>K m (by simp only[DataW.weights,T];refine aqu _ (aqh _ (rR (d:=q.1) ?_ m hm));exact ao6.2 ⟨q,apR O,rfl⟩))
  obtain⟨h6,M⟩:=EU z;have U:=S.length;have f:a.spot=none:=c aso;refine⟨y,h4,aso,f,VRC.of_get λj u V=>?_⟩;obtain⟨v,F,h9⟩:=S.get V;refine⟨v,?_,h9⟩;have hj:j<P.cellsOf e:=by have:=(aoZ.1 V).1;omega
  have D:=M j hj;rw[F]at D;rw[<- D];have B:∀k,a.add k=⟨a.block,a.off+k,none⟩:=λk=>by obtain⟨b,o,s⟩:=a;simp only at f;subst f;exact Addr.add_mk b o k
  rw[B,Addr.add_mk];rfl
 obtain⟨N,A,z⟩:=V9 _ len C;refine⟨N,⟨aso,λy G=>?_⟩,?_⟩;obtain⟨i,I⟩:=arV G;exact(z i y I).1;simp only[VRL];refine⟨_,[],rfl,?_,rfl⟩;simp only[VR];refine⟨_,_,by rw[A],aso,asp,?_⟩;by_cases L:cap=0;have:N=[]:=by have:N.length=0:=aso;simpa using this
 subst this;exact .inl ⟨rfl,L,rfl⟩;refine .inr ⟨a.block,a.off,?_,aal λi y G=>⟨(z i y G).2.1,(z i y G).2.2.2⟩⟩;have R:a.spot=none:=c L;cases a;simp only at R⊢;rw[R]
theorem wR{H:Type}{P:Program}{us:List TypeId}{a:List (DataW H)}{n:Nat}:∀{ts:List TypeId}{ds:List (DataW H)},n∈DataW.weightsEach P ts ds->n∈DataW.weightsEach P (ts++us) (ds++a)
 |[],_,h=>by simp[DataW.weightsEach]at h
 |_::_,[],h=>by simp[DataW.weightsEach]at h
 | t::ts,d::ds,h=>by
   simp only[apH,DataW.weightsEach,ao5]at h⊢;rcases h with h|h
   .exact .inl h
   .exact .inr (wR h)
def al8(P:Program)(N o:Nat)(fs:List Field){X:Type}(ec:X->List AV)(ok:X->Prop):Prop :=
 ∀(H:Type) (enc:TypeId×Value->H) (w:World) (n:Nat) (cs:List Value),cs.length=N ->
  (∀f∈fs,∃x,DataW.trod enc P w 0 (λ_=>true) true n f.type ((cs.drop f.offset).take (P.cellsOf f.type))=some x/\∀m∈x.1.weights P f.type,m<=reachBytes)->∃y,ok y/\VRL (ni w) (ec y) (cs.drop o)
theorem rX{o:Nat}(h:o=N):al8 P N o [] (λ_:Unit=>[]) (λ_=>True):=λH enc w n cs a _ =>
 ⟨(),trivial,by simp[VRL,h,<- a]⟩
theorem bF{o sz:Nat}{f:Field}{d:List Field}{e:X->List AV}{ok:X->Prop}{a:Y->List AV}{b:Y->Prop}(p:f.offset=o)(t:P.cellsOf f.type=sz)(h:RdZ P f.type e ok)(r:al8 P N (o+sz) d a b):
  al8 P N o (f::d) (λy:X×Y=>e y.1++a y.2) (λy=>ok y.1/\b y.2):=λH enc w n cs m c=>by
 obtain⟨x,s,j⟩:=c f asp;obtain⟨y,l,k⟩:=h H enc w n _ x s j;obtain⟨z,h4,i⟩:=r H enc w n cs m λg q=>c g (by simp[q])
 refine⟨(y,z),⟨l,h4⟩,?_⟩;have:cs.drop o=(cs.drop f.offset).take (P.cellsOf f.type)++cs.drop (o+sz):=by rw[p,t,<- arP,aqy]
 rw[this];exact k.append i
theorem jF{e:Array Field}{p:X->List AV}{ok:X->Prop}(l:P.underlying t=some (.struct e))(v:P.cellsOf t=N)(r:al8 P N 0 e.toList p ok):RdZ P t p ok:=λH enc w o cs x q h=>by
 subst v;obtain⟨xs,n,_,rfl,z,b,A⟩:=DataW.trod_struct l q;obtain⟨y,B,u⟩:=r H enc w n cs z λf k=>by
  obtain⟨i,c⟩:=arV k;have g:e[i]?=some f:=(by simpa using c);rw[A i f g];have a:i<xs.length:=by rw[b];have:=(aoZ.1 c).1;simpa using this
  refine⟨xs[i],ao8 a,λm s=>h m ?_⟩;simp only[DataW.weights,l];refine DataW.weights_mem_each (j:=i) (t:=f.type) (d:=xs[i].1) ?_ ?_ m s;rw[apS,c];rfl;rw[apS,ao8 a];rfl
 exact⟨y,B,by simpa using u⟩
def ama(P:Program)(ts:List TypeId){X:Type}(ec:X->List AV)(ok:X->Prop):Prop :=
 ∀(H:Type) (enc:TypeId×Value->H) (w:World) (base:Nat) (vs:List Value) (ds:List (DataW H)) (ps:List MemPlace),
  (∀(j:Nat) t v,ts[j]?=some t->vs[j]?=some v->Value.okWide P w .any base t v) ->
  DataW.TrodAll enc P w 0 (λ_=>true) true ts vs ds ps->(∀n∈DataW.weightsEach P ts ds,n<=reachBytes)->∃y,ok y/\VRL (ni w) (ec y) vs
theorem aiS :ama P [] (λ_:Unit=>[]) (λ_=>True):=λH enc w base vs ds ps _ h _=>by obtain⟨rfl,_,_⟩:=trodAll_nil h;exact⟨(),trivial,by simp[VRL]⟩
open Go Go.ChangeShapes Go.WideShapes Go.ChangeAt
theorem RdZ.map{d:X->List AV}{ok:X->Prop}{a:Y->List AV}{b:Y->Prop}(h:RdZ P t d ok)(m:∀y,ok y->∃z,b z/\a z=d y):RdZ P t a b:=λH enc w c cs x e i=>by obtain⟨y,j,g⟩:=h H enc w c cs x e i;obtain⟨z,f,h4⟩:=m y j;exact⟨z,f,by rw[h4];exact g⟩
theorem ac6{ts:List TypeId}{x:X->List AV}{ok:X->Prop}{c:Y->List AV}{e:Y->Prop}(m:m9 P t=some true)(h:RdZ P t x ok)(r:ama P ts c e):
  ama P (t::ts) (λy:X×Y=>.agg (x y.1)::c y.2) (λy=>ok y.1/\e y.2):=λH enc w base vs ds ps f D i=>by
 obtain⟨v,k,d,s,p,q,rfl,rfl,rfl,u,B⟩:=trodAll_cons D;obtain⟨g,u⟩:=u;obtain⟨y,E,h4⟩:=h H enc w g _ _ u (λn o=>i n (by rw[DataW.weightsEach];exact aqh _ o));obtain⟨z,C,A⟩:=r H enc w base k s q (λj t v a b=>f (j+1) t v a b) B (λn o=>i n (by rw[DataW.weightsEach];exact aqP _ o));refine⟨(y,z),⟨E,C⟩,?_⟩;have l:=f 0 t v rfl rfl;unfold m9 at m;have:∃cs,v=.agg cs:=by
  unfold Value.okWide at l;split at m
  all_goals rename_i F;rw[F]at l
  obtain⟨cs,h,_⟩:=l;exact⟨cs,h⟩;obtain⟨cs,h,_⟩:=l;exact⟨cs,h⟩;cases m;cases m
 obtain⟨cs,rfl⟩:=this;simp only[VRL];refine⟨_,k,rfl,?_,A⟩;simp only[VR];exact⟨cs.toList,rfl,by simpa[Value.cells]using h4⟩
theorem sk(h:B)(e:Hid B->A:=by intro hB_;simp only[Kon,push_cast,reduceIte,Nat.reduceEqDiff,Nat.reduceAdd,Nat.reduceMul,Nat.reduceSub,Nat.reduceLT,Nat.reduceLeDiff,Int.reduceLT,Int.reduceLE,Int.reduceAdd,Int.reduceSub,Int.reduceNeg,Int.reduceToNat,Int.reduceEq,reduceCtorEq, *];exact hB_.o):A:=e (hid h)
theorem sm(h:B)(e:Hid B->A:=by intro hB_;simp(config:={maxSteps:=2000000}) only[Kon,push_cast,reduceIte,Nat.reduceEqDiff,Nat.reduceAdd,Nat.reduceMul,Nat.reduceSub,Nat.reduceLT,Nat.reduceLeDiff,Int.reduceLT,Int.reduceLE,Int.reduceAdd,Int.reduceSub,Int.reduceNeg,Int.reduceToNat,Int.reduceEq,reduceCtorEq, *];exact hB_.o):A:=e (hid h)
theorem sl(h:B)(e:Hid B->A:=by intro hB_;simp only[push_cast,reduceIte,Nat.reduceEqDiff,Nat.reduceAdd,Nat.reduceMul,Nat.reduceSub,Nat.reduceLT,Nat.reduceLeDiff,Int.reduceLT,Int.reduceLE,Int.reduceAdd,Int.reduceSub,Int.reduceNeg,Int.reduceToNat,Int.reduceEq,reduceCtorEq, *];exact hB_.o):A:=e (hid h)
theorem wk(h:B)(e:Hid B->A:=by
 intro hB_
 repeat' first
  |refine bH ?_
  | (first|refine bv asq ?_|refine aP asq ?_|refine aS ?_|refine cT ?_|refine bJ (fun _=>?_)|refine aH ?_|refine bz ?_|refine kk1.o _ _ ?_|refine kk1.o ?_|refine kk2.o _ _ ?_|refine kk2.o ?_|refine kk3.o _ _ ?_|refine kk3.o ?_|refine kk4.o _ _ ?_|refine kk4.o ?_|refine kk5.o _ _ ?_|refine kk5.o ?_|refine kk6.o _ _ ?_|refine kk6.o ?_|refine kk7.o _ _ ?_|refine kk7.o ?_|refine bg (kk1.o _ _ ⟨rfl,rfl⟩) (kk1.o _ _ ⟨rfl,rfl⟩) ?_|refine bg (kk1.o ⟨rfl,rfl⟩) (kk1.o ⟨rfl,rfl⟩) ?_|refine bg (kk2.o _ _ ⟨rfl,rfl⟩) (kk2.o _ _ ⟨rfl,rfl⟩) ?_|refine bg (kk2.o ⟨rfl,rfl⟩) (kk2.o ⟨rfl,rfl⟩) ?_|refine aM (kk1.o _ _ ⟨rfl,rfl⟩) ?_|refine aM (kk1.o ⟨rfl,rfl⟩) ?_|refine aM (kk2.o _ _ ⟨rfl,rfl⟩) ?_|refine aM (kk2.o ⟨rfl,rfl⟩) ?_|refine aM (kk3.o _ _ ⟨rfl,rfl⟩) ?_|refine aM (kk3.o ⟨rfl,rfl⟩) ?_|refine aM (kk4.o _ _ ⟨rfl,rfl⟩) ?_|refine aM (kk4.o ⟨rfl,rfl⟩) ?_|refine aM (kk5.o _ _ ⟨rfl,rfl⟩) ?_|refine aM (kk5.o ⟨rfl,rfl⟩) ?_|refine aM (kk6.o _ _ ⟨rfl,rfl⟩) ?_|refine aM (kk6.o ⟨rfl,rfl⟩) ?_|refine aM (kk7.o _ _ ⟨rfl,rfl⟩) ?_|refine aM (kk7.o ⟨rfl,rfl⟩) ?_)
    simp(config:={maxSteps:=2000000}) only[Kon,push_cast,reduceIte,Nat.reduceEqDiff,Nat.reduceAdd,Nat.reduceMul,Nat.reduceSub,Nat.reduceLT,Nat.reduceLeDiff,Int.reduceLT,Int.reduceLE,Int.reduceAdd,Int.reduceSub,Int.reduceNeg,Int.reduceToNat,Int.reduceEq,reduceCtorEq, *]
  | (first|refine bp asq ?_|refine bm ?_|refine aR ?_|refine bw ?_|refine bP (aG ?_))
    simp only[push_cast,reduceIte,Nat.reduceEqDiff,Nat.reduceAdd,Nat.reduceMul,Nat.reduceSub,Nat.reduceLT,Nat.reduceLeDiff,Int.reduceLT,Int.reduceLE,Int.reduceAdd,Int.reduceSub,Int.reduceNeg,Int.reduceToNat,Int.reduceEq,reduceCtorEq, *]
  |exact bL
  |first|apply bM|apply bq|apply bN|apply br|apply bO|apply bu
  |refine aV ?_
  |refine aQ ?_
  |first|refine aT rfl ?_|refine aU rfl ?_|refine aB rfl ?_ ?_
  |((first|refine aA (λ_=>?_) (λ_=>?_)|refine aE (λ_=>?_) (λ_=>?_))<;>try simp(config:={maxSteps:=2000000}) only[Kon,push_cast,reduceIte,Nat.reduceEqDiff,Nat.reduceAdd,Nat.reduceMul,Nat.reduceSub,Nat.reduceLT,Nat.reduceLeDiff,Int.reduceLT,Int.reduceLE,Int.reduceAdd,Int.reduceSub,Int.reduceNeg,Int.reduceToNat,Int.reduceEq,reduceCtorEq, *])
  |refine And.intro trivial ?_
  |refine And.intro aso ?_
  |refine be rfl (λ_=>?_) (λ_=>?_)
 exact hB_.o):A:=e (hid h)
theorem asw(h:B)(e:Hid B->A:=by intro hB_;refine sk ?_;refine wk ?_;exact hB_.o):A:=e (hid h)
theorem aoW{P:Program}{own:Nat->Nat->Nat}{f:FuncId}{a:aK}(h:aL P own f=some a.raw){args:List AV}{L:List Blk}{Q:AV->List Blk->Prop}{B:Prop}(b:B)(c:Nat.ble args.length a.ntmps=true:=by rfl)(e:Hid B->AW P a.ntmps own a.code (anG a.res L Q) (ag 0 args) L:=by
 intro hB_;simp only[push_cast]
 repeat' first
  |refine bH ?_
  | (first|refine bv asq ?_|refine aP asq ?_|refine aS ?_|refine cT ?_|refine bJ (fun _=>?_)|refine aH ?_|refine bz ?_|refine kk1.o _ _ ?_|refine kk1.o ?_|refine kk2.o _ _ ?_|refine kk2.o ?_|refine kk3.o _ _ ?_|refine kk3.o ?_|refine kk4.o _ _ ?_|refine kk4.o ?_|refine kk5.o _ _ ?_|refine kk5.o ?_|refine kk6.o _ _ ?_|refine kk6.o ?_|refine kk7.o _ _ ?_|refine kk7.o ?_|refine bg (kk1.o _ _ ⟨rfl,rfl⟩) (kk1.o _ _ ⟨rfl,rfl⟩) ?_|refine bg (kk1.o ⟨rfl,rfl⟩) (kk1.o ⟨rfl,rfl⟩) ?_|refine bg (kk2.o _ _ ⟨rfl,rfl⟩) (kk2.o _ _ ⟨rfl,rfl⟩) ?_|refine bg (kk2.o ⟨rfl,rfl⟩) (kk2.o ⟨rfl,rfl⟩) ?_|refine aM (kk1.o _ _ ⟨rfl,rfl⟩) ?_|refine aM (kk1.o ⟨rfl,rfl⟩) ?_|refine aM (kk2.o _ _ ⟨rfl,rfl⟩) ?_|refine aM (kk2.o ⟨rfl,rfl⟩) ?_|refine aM (kk3.o _ _ ⟨rfl,rfl⟩) ?_|refine aM (kk3.o ⟨rfl,rfl⟩) ?_|refine aM (kk4.o _ _ ⟨rfl,rfl⟩) ?_|refine aM (kk4.o ⟨rfl,rfl⟩) ?_|refine aM (kk5.o _ _ ⟨rfl,rfl⟩) ?_|refine aM (kk5.o ⟨rfl,rfl⟩) ?_|refine aM (kk6.o _ _ ⟨rfl,rfl⟩) ?_|refine aM (kk6.o ⟨rfl,rfl⟩) ?_|refine aM (kk7.o _ _ ⟨rfl,rfl⟩) ?_|refine aM (kk7.o ⟨rfl,rfl⟩) ?_)
    simp(config:={maxSteps:=2000000}) only[Kon,push_cast,reduceIte,Nat.reduceEqDiff,Nat.reduceAdd,Nat.reduceMul,Nat.reduceSub,Nat.reduceLT,Nat.reduceLeDiff,Int.reduceLT,Int.reduceLE,Int.reduceAdd,Int.reduceSub,Int.reduceNeg,Int.reduceToNat,Int.reduceEq,reduceCtorEq, *]
  | (first|refine bp asq ?_|refine bm ?_|refine aR ?_|refine bw ?_|refine bP (aG ?_))
    simp only[push_cast,reduceIte,Nat.reduceEqDiff,Nat.reduceAdd,Nat.reduceMul,Nat.reduceSub,Nat.reduceLT,Nat.reduceLeDiff,Int.reduceLT,Int.reduceLE,Int.reduceAdd,Int.reduceSub,Int.reduceNeg,Int.reduceToNat,Int.reduceEq,reduceCtorEq, *]
  |exact bL
  |first|apply bM|apply bq|apply bN|apply br|apply bO|apply bu
  |refine aV ?_
  |refine aQ ?_
  |first|refine aT rfl ?_|refine aU rfl ?_|refine aB rfl ?_ ?_
  |((first|refine aA (λ_=>?_) (λ_=>?_)|refine aE (λ_=>?_) (λ_=>?_))<;>try simp(config:={maxSteps:=2000000}) only[Kon,push_cast,reduceIte,Nat.reduceEqDiff,Nat.reduceAdd,Nat.reduceMul,Nat.reduceSub,Nat.reduceLT,Nat.reduceLeDiff,Int.reduceLT,Int.reduceLE,Int.reduceAdd,Int.reduceSub,Int.reduceNeg,Int.reduceToNat,Int.reduceEq,reduceCtorEq, *])
  |refine And.intro trivial ?_
  |refine And.intro aso ?_
  |refine be rfl (λ_=>?_) (λ_=>?_)
 exact hB_.o):af P f args L Q:=ab h (Nat.le_of_ble_eq_true c) (e (hid b))
attribute [push_cast] ag
structure EA(w w':World):Prop where
 heap:∀b,b<w.heap.size->w'.heap[b]?=w.heap[b]?
 size:w.heap.size<=w'.heap.size
 os:w'.os=w.os
 tape:w'.tape=w.tape
 output:w'.output=w.output
theorem EA.refl(w:World):EA w w:=⟨λ_ _=>rfl,ao0 _,rfl,rfl,rfl⟩
theorem EA.of_grow(w:World)(k:Nat)(os:Array Obj):EA w (Sort.grow (w.drewN k) os):=by
 refine⟨λb a=>?_,?_,rfl,rfl,rfl⟩;show(w.heap++os)[b]?=_
 grind
 simp
theorem Rel.grown{w':World}(h:Rel w0 S0 E L w)(g:EA w w'):Rel w0 S0 E L w':=by
 refine⟨λb o v f=>?_,λi k a=>?_,h.fresh,h.own,h.inj,h.tkfresh,h.tkown,h.tkloc,h.tkinj,λk a m=>?_,apk h.size g.size,g.os.trans h.os,g.tape.trans h.tape,g.output.trans h.output,h.glob,
  h.gsz.mod λb cs ty fr j=>⟨cs,ty,fr,by rw[g.heap b (apP.1 j).1];exact j,rfl⟩⟩
 have:=h.mem b o v f;simp only[World.cell?]at this⊢;rw[g.heap b (h.mem_lt f)];exact this;cases hl:k.live;refine bZ.still hl rfl (λt c n sz e l d=>?_) (h.blk i k a);subst e;exact g.heap _ (h.tok_lt a l d);exact bZ.worldL hl (λc d=>g.heap _ (h.loc_lt a hl d)) (h.blk i k a);rw[g.heap k (aqc a h.size)];exact h.frame k a m
theorem dD{fn:Func}(k:P.funcs[f]?=some fn)(j:fn.body.isSome=true)(g:(fn.name == "runtime.NumGoroutine")=false){args:List AV}{K:AV->List Blk->Prop}{r:AV}(a:∀ (w0:World) (S0:SB) (E:Env) (w:World) (vs:List Value),Rel w0 S0 E L w->VRL E args vs->Calls P f ⟨vs⟩ w fun e w'=>∃ v,e=.returned v/\VR E r v/\EA w w')(b:K r L):af P f args L K:=fun w0 S0 E w vs hR hv=>by
 refine .inl ⟨?_,(a w0 S0 E w vs hR hv).mono λe w' ⟨v,l,i,d⟩=>⟨E,v,r,L,l,.refl E,b,i,hR.grown d⟩⟩;simp only[callFunc,ao7,run_program,ao9,k,g];cases h:fn.body with
 |none=>simp[h]at j
 |some c=>simp
theorem Rel.table(h:Rel w0 S0 E L w){zs:List Int}(o:P.globalNamed name=some g)(m:gb g=some (zs.map (AV.int k)))(c:zs≠[]):
  Lib.TabIs P w name k zs:=by
 have d:=ER m;obtain⟨cs,ty,fr,e,j⟩:=h.gsz _ d (by simpa using c);simp only[apm]at j;simp only[Lib.TabIs,World.var?,o,aqf,e,ao1];apply Array.ext;simp[*];intro i p l;have f:=h.glob.env d;have b:i<zs.length:=aso;obtain⟨v,n,h4⟩:=f.get (i:=i) (a:=.int k zs[i]) (by simp[b]);subst h4;have:=h.mem _ _ _ n;simp only[World.cell?,e]at this;simp_all
theorem Rel.reblk(h:Rel w0 S0 E L w){i:Nat}{c c':List AV}(A:L[i]?=some (.cells c))(p:c'.length=c.length)(P:∀(j:Nat) (D:AV),c'[j]?=some D->∃a,c[j]?=some a/\∀v,VR E a v->VR E D v):Rel w0 S0 E (L.set i (.cells c')) w:=by
 have f:i<L.length:=(aoZ.1 A).1;have l:∀(j:Nat) (k:Blk),(L.set i (.cells c'))[j]?=some k->k.live=true->∃k',L[j]?=some k'/\k'.live=true:=λj k g r=>by rw[apB]at g;split at g;rename_i e;subst e;exact⟨_,A,rfl⟩;simp[*]
 have b:∀(j n sz:Nat),(L.set i (.cells c'))[j]?=some (.spare n sz)->L[j]?=some (.spare n sz):=λj n sz g=>by grind
 refine⟨h.mem,λj k g=>?_,λi f=>h.fresh i (by simpa using f),λi k c g r I=>?_,λi j k k' c c' f N x M=>?_,
  λi f=>h.tkfresh i (by simpa using f),λi n sz t d f=>h.tkown i n sz t d (b i n sz f),λi n sz t d j k' c' f y s x r=>?_,
  λi n sz t d B C o t' O f y s u=>h.tkinj i n sz t d B C o t' O (b i n sz f) y s (b B C o u),h.frame,h.size,h.os,h.tape,h.output,h.glob,h.gsz⟩
 rw[apB]at g;split at g;rename_i e;subst e;cases g;obtain⟨G,cs,ty,fr,g1,K,g3,g4,R,H⟩:=h.blk _ _ A;refine⟨G,cs,ty,fr,g1,K,g3,by rw[p];exact g4,λj a Q=>?_,H⟩
 grind
 exact h.blk j k g;obtain⟨k',q,m⟩:=l i k g r;exact h.own i k' c q m I;obtain⟨z,q,m⟩:=l i k f N;obtain⟨F,J,h4⟩:=l j k' x M;exact h.inj i j z F c c' q m J h4;obtain⟨z,q,m⟩:=l j k' x r;exact h.tkloc i n sz t d j z c' (b i n sz f) y s q m
theorem VR.grow{i sz:Nat}(c:E.tok i=some ⟨n,sz,none⟩)(e:l.length=n*sz)(h:VR E (.sl l n (some n)) v):VR E (.gsl l n i sz) v:=by obtain⟨p,c',d,a,b,f⟩:=h;exact⟨p,c',d,a,e,f,⟨n,sz,none⟩,c,ao0 _,λ_=>⟨rfl,λ_=>b n rfl,asp⟩⟩
theorem aas{own:Nat->Nat->Nat}{Q:Exit->Tm->List Blk->Prop}{T:Tm}{lc:bK}(i j sz:Nat){c:List AV}(q:L[i]?=some (.cells c))(C:c[j]?=some (.sl l n (some n)))(A:l.length=n*sz)(h:AW P N own lc Q T (L.set i (.cells (c.set j (.gsl l n L.length sz)))++[.spare n sz])):AW P N own lc Q T L:=λu B r s w0 S0 E a w d=>by
 obtain⟨p,G⟩:=d.1.addtok (n:=n) (sz:=sz) (lc:=none) WP;have o:i<L.length:=(aoZ.1 q).1;have g:(L++[Blk.spare n sz])[i]?=some (.cells c):=by rw[ao4 o];exact q
 have m:=G.reblk g (c':=c.set j (.gsl l n L.length sz)) asp λk H f=>by rw[apB]at f;split at f;rename_i e;subst e;split at f;cases f;exact⟨_,C,λv x=>VR.grow asp A x⟩;simp[*];simp[*]
 rw[ap3 _ _ o]at m;exact wpIn_mono (h u B r s w0 S0 _ a w ⟨m,d.2.1.mono p,d.2.2⟩) λe H w' ⟨t,z,E',T1,L1,b,F,y,D⟩=>⟨t,z,E',T1,L1,b,p.trans F,y,D⟩
theorem u8n(h:n<256):(UInt8.ofNat n).toNat=n:=by simp only[UInt8.toNat_ofNat'];exact Nat.mod_eq_of_lt h
theorem Ep:∀(u:Nat),∃c r,Lib.decDigits u=c::r/\48<=c.toNat/\c.toNat<=57/\(c.toNat=48->u=0):=by
 intro u;induction u using Nat.strongRecOn with
 | _ u ih =>
   by_cases a:u<10
   .refine⟨UInt8.ofNat (48+u),[],by rw[Lib.decDigits,dif_pos a],?_⟩;rw[u8n aso];omega
   .obtain⟨c,r,e,h1,h2,h3⟩:=ih (u/10) aso;exact⟨c,r++[UInt8.ofNat (48+u%10)],by rw[Lib.decDigits,dif_neg a,e];rfl,h1,h2,λh=>by have:=h3 h;omega⟩
theorem ag6(t:List UInt8):∀(u:Nat),u<=18446744073709551615->Lib.parseUintM 18446744073709551615 0 (Lib.decDigits u++t)=Lib.parseUintM 18446744073709551615 u t:=by
 intro u;induction u using Nat.strongRecOn generalizing t with
 | _ u ih =>
   intro b;by_cases a:u<10
   .rw[Lib.decDigits,dif_pos a];simp only[apH,apx];rw[Lib.parseUintM,u8n aso,if_pos aso,if_neg aso,if_neg aso];congr 1;omega
   .rw[Lib.decDigits,dif_neg a,apc,ih (u/10) aso _ aso];simp only[apH,apx];rw[Lib.parseUintM,u8n aso,if_pos aso,if_neg aso,if_neg aso];congr 1;omega
theorem Za{u:Nat}(a:u<=18446744073709551615):Lib.parseUintB 64 (Lib.decDigits u)=.ok u:=by obtain⟨c,r,e,_⟩:=Ep u;unfold Lib.parseUintB;rw[if_neg (by rw[e];simp)];have:=ag6 [] u a;rw[apG]at this;exact this
def I64(m:Int):Prop:=-9223372036854775808<=m/\m<=9223372036854775807
theorem aeM{m:Int}(f:I64 m):Lib.parseIntB 64 (Lib.itoa m)=.ok m:=by obtain⟨i,j⟩:=f;unfold Lib.itoa;by_cases d:m<0;rw[if_pos d];simp only[Lib.parseIntB];have a:(45:UInt8).toNat=45:=rfl;rw[if_pos (.inr a),Za aso];simp only[a];simp only[not_true_eq_false,false_and,if_false,true_and,if_true];rw[if_neg aso];congr 1;omega;rw[if_neg d];obtain⟨c,r,e,h,g,_⟩:=Ep m.toNat;have b:=Za (u:=m.toNat) aso;rw[e]at b⊢;simp only[Lib.parseIntB];rw[if_neg aso,b];simp only;rw[if_neg aso,if_neg aso,if_neg aso];congr 1;omega
theorem ahh(m:Int):∃c r,Lib.itoa m=c::r/\(c.toNat=45\/48<=c.toNat/\c.toNat<=57)/\(c.toNat=48->r=[]):=by unfold Lib.itoa;by_cases a:m<0;rw[if_pos a];exact⟨45,_,rfl,.inl rfl,λh=>by simp at h⟩;rw[if_neg a];obtain⟨c,r,e,d,b,h4⟩:=Ep m.toNat;refine⟨c,r,e,.inr ⟨d,b⟩,λh=>?_⟩;rw[h4 h,Lib.decDigits,dif_pos aso]at e;cases e;rfl
theorem XB{l:List UInt8}{v:Int}(h:Lib.parseIntB 64 l=.ok v):I64 v:=by unfold Lib.parseIntB at h;split at h;cases h;simp only at h;split at h;cases h;cases h;rename_i u _;split at h;cases h;rename_i h1;split at h;cases h;rename_i h2;cases h;unfold I64;by_cases e:(‹UInt8›).toNat=45;simp only[e,true_and,if_true]at h2⊢;omega;simp only[e,not_false_eq_true,true_and,if_false]at h1⊢;omega
def XQ(l:List UInt8):Int:=match Lib.parseIntB 64 l with
 |.ok n=>n
 |.syntax=>0
 |.range=>Lib.intSat 64 l
def tz(l:List UInt8):Bool:=match Lib.parseIntB 64 l with
 |.ok n=>decide (Lib.itoa n=l)
 |_=>false
theorem ai3{m:Int}(a:I64 m):tz (Lib.itoa m)=true/\XQ (Lib.itoa m)=m:=by simp[tz,XQ,aeM a]
theorem aik{zs:List Int}(h:Lib.TabIs P W name k zs)(b:P.globalNamed name=some g):
  VRC ⟨(ni W).mem,λ_=>none,λ_=>none⟩ (zs.map (AV.int k)) g 0/\∃cs ty fr,W.heap[g]?=some (.cells cs ty fr)/\cs.size=(zs.map (AV.int k)).length:=by
 refine⟨VRC.of_get λi a d=>?_,?_⟩;obtain⟨z,c,rfl⟩:=apS ..▸d |> apE.1;have f:=(aoZ.1 c).1;refine⟨.int k z,?_,by simp[VR]⟩;have:=h.cell b i f;rw[apo,c]at this;simpa[ni]using this;simp only[Lib.TabIs,World.var?,b,aqf]at h;split at h;rename_i cs ty fr e;refine⟨cs,ty,fr,e,?_⟩;rw[Option.some.inj h];simp;cases h
theorem afT{b:TypeId}{x:Value}(h:W.var? P name=some #[.iface b x])(d:P.globalNamed name=some g):
  VRC ⟨(ni W).mem,λ_=>none,λ_=>none⟩ [.iface b .undef] g 0/\∃cs ty fr,W.heap[g]?=some (.cells cs ty fr)/\cs.size=[AV.iface b .undef].length:=by
 refine⟨VRC.of_get λi a c=>?_,?_⟩;cases i with
 | zero =>
   simp only[apU,ao1]at c;subst c;have:=World.var?_cell d h 0;exact⟨.iface b x,by simpa[ni]using this,by simp[VR]⟩
 |succ i=>simp at c
 simp only[World.var?,d,aqf]at h;split at h;rename_i cs ty fr e;exact⟨cs,ty,fr,e,by rw[Option.some.inj h];rfl⟩;cases h
theorem ajJ{m:Nat->Nat->Option Value}:(∀p∈([]:List (Nat×List AV)),VRC ⟨m,λ_=>none,λ_=>none⟩ p.2 p.1 0/\∃cs ty fr,w.heap[p.1]?=some (.cells cs ty fr)/\cs.size=p.2.length):=λ_ h=>by cases h
theorem rP{m:Nat->Nat->Option Value}{r:List (Nat×List AV)}(h:VRC ⟨m,λ_=>none,λ_=>none⟩ l g 0/\∃cs ty fr,w.heap[g]?=some (.cells cs ty fr)/\cs.size=l.length)(b:∀p∈r,VRC ⟨m,λ_=>none,λ_=>none⟩ p.2 p.1 0/\∃cs ty fr,w.heap[p.1]?=some (.cells cs ty fr)/\cs.size=p.2.length):
  ∀p∈(g,l)::r,VRC ⟨m,λ_=>none,λ_=>none⟩ p.2 p.1 0/\∃cs ty fr,w.heap[p.1]?=some (.cells cs ty fr)/\cs.size=p.2.length:=λp a=>by
 rcases apn.1 a with rfl|a;exact h;exact b p a
theorem ahx(b:∀g∈Vs,∃z,(ni w).mem g 0=some (.int .i64 z))(h:∀p∈Oi,VRC ⟨(ni w).mem,λ_=>none,λ_=>none⟩ p.2 p.1 0/\∃cs ty fr,w.heap[p.1]?=some (.cells cs ty fr)/\cs.size=p.2.length):tS (ni w).mem/\wn w :=
 ⟨⟨λp a=>(h p a).1,b⟩,λp a _=>(h p a).2⟩
open Go Go.Lib
theorem adu(h:W.ShapedOpen Tryz.prog):∀g∈Vs,∃z,(ni W).mem g 0=some (.int .i64 z):=λg a=>by simp only[Vs,apr]at a;subst a;obtain⟨m,b⟩:=cell_of_shapedOpen_int (zero:=#[.int .i64 0]) (t:=3) h (of_decide_eq_true asq) asq asq asq asq Tryz.underlying3;exact⟨m,by simpa[ni]using b⟩
theorem al5{enc:TypeId×Value->H}{base:Nat}{c:Nat->Bool}{b:Bool}{a:Nat}{cs:List Value}{x:DataW H×List MemPlace}(d:P.underlying t=some (.array n e))(h:DataW.trod enc P w base c b a t cs=some x):cs.length=P.cellsOf t:=by
 cases a with
 |zero=>simp[DataW.trod]at h
 | succ a =>
   simp only[DataW.trod,d]at h;split at h
   .assumption
   .cases h
theorem YR{d:DataW Unit}(h:VarReads P W name d)(k:P.globalNamed name=some g)(i:(P.globals[g]?).map (·.type)=some t)(l:P.underlying t=some (.array n e)):
  ∃cs ty fr,W.heap[g]?=some (.cells cs ty fr)/\cs.size=P.cellsOf t:=by
 obtain⟨r,t',cs,j,p,c,b,a,m⟩:=h;obtain rfl:=Option.some.inj (k.symm.trans c);obtain rfl:=Option.some.inj (i.symm.trans b);have o:=al5 l m;simp only[World.var?,k,aqf]at a;split at a;rename_i f ty fr q;exact⟨f,ty,fr,q,by rw[Option.some.inj a];simpa using o⟩;cases a
theorem rT:U8Extra Tryz.prog Tryz.lays196_ren:={n3:=asq,n4:=asq,y3:=asq,y4:=asq,c5:=asq,c119:=asq,c138:=by kernel_rfl}
theorem SW:U8Types Tryz.prog Tryz.lays196_ren:=U8Types.of196 Tryz.lays196
theorem acN(h:∀i a,l[i]?=some a->∃k z,a=.int k z/\W.cell? ⟨g,i,none⟩=some (.int k z)):VRC ⟨(ni W).mem,λ_=>none,λ_=>none⟩ l g 0 :=
 VRC.of_get λi a b=>by obtain⟨k,z,rfl,c⟩:=h i a b;exact⟨.int k z,by simpa[ni]using c,by simp[VR]⟩
theorem ajU(g:VarReads Tryz.prog W "unicode/utf8.first" firstData)(h4:VarReads Tryz.prog W "unicode/utf8.acceptRanges" acceptData)(l:List AV)(h:gb 0=some l):
  VRC ⟨(ni W).mem,λ_=>none,λ_=>none⟩ l 0 0/\∃cs ty fr,W.heap[0]?=some (.cells cs ty fr)/\cs.size=l.length:=by
 have j:=utf8Tabs_of_readsT SW rT g h4;have e:gb 0=some ((List.range 256).map λc=>AV.int .u8 (Lib.firstT c:Int)):=asq;rw[e]at h;obtain rfl:=Option.some.inj h;refine⟨acN λi a d=>?_,?_⟩;simp only[apS,apE]at d;obtain⟨c,f,rfl⟩:=d;have k:i<256:=by have:=(aoZ.1 f).1;simpa using this
 have b:c=i:=by have:=(aoZ.1 f).2;simpa using this.symm
 subst b;exact⟨_,_,rfl,j.1 c k⟩;obtain⟨cs,ty,fr,n,m⟩:=YR g rT.n3 rT.y3 SW.t119;exact⟨cs,ty,fr,n,by rw[m,rT.c119];simp⟩
theorem akh:∀(n:Nat) (i:Nat) (a:AV),((List.range n).flatMap λi=>[AV.int .u8 (Lib.accLo i:Int),AV.int .u8 (Lib.accHi i:Int)])[i]?=some a->∃j,j<n/\((i=2*j/\a=.int .u8 (Lib.accLo j:Int))\/(i=2*j+1/\a=.int .u8 (Lib.accHi j:Int)))
 |0,i,a,h=>by simp at h
 | n+1,i,a,h=>by
   have b:∀n:Nat,((List.range n).flatMap λi=>[AV.int .u8 (Lib.accLo i:Int),AV.int .u8 (Lib.accHi i:Int)]).length=2*n:=λn=>by
    induction n with
    |zero=>simp
    |succ n ih=>rw[List.range_succ,arr,apd,ih];simp;omega
   rw[List.range_succ,arr]at h;rcases apt i (2*n)with c|c
   .rw[ao4 (by rw[b];exact c)]at h;obtain⟨j,e,d⟩:=akh n i a h;exact⟨j,aso,d⟩
   .rw[ape (by rw[b];exact c),b]at h;refine⟨n,aso,?_⟩;rcases hk:i-2*n with _|_|k
    .rw[hk]at h;simp at h;exact .inl ⟨aso,h.symm⟩
    .rw[hk]at h;simp at h;exact .inr ⟨aso,h.symm⟩
    .rw[hk]at h;simp at h
theorem ans(g:VarReads Tryz.prog W "unicode/utf8.first" firstData)(h4:VarReads Tryz.prog W "unicode/utf8.acceptRanges" acceptData)(l:List AV)(d:gb 1=some l):
  VRC ⟨(ni W).mem,λ_=>none,λ_=>none⟩ l 1 0/\∃cs ty fr,W.heap[1]?=some (.cells cs ty fr)/\cs.size=l.length:=by
 have c:=utf8Tabs_of_readsT SW rT g h4;have e:gb 1=some ((List.range 16).flatMap λi=>[AV.int .u8 (Lib.accLo i:Int),AV.int .u8 (Lib.accHi i:Int)]):=asq;rw[e]at d;obtain rfl:=Option.some.inj d;refine⟨acN λi a f=>?_,?_⟩;obtain⟨j,b,⟨rfl,rfl⟩|⟨rfl,rfl⟩⟩:=akh 16 i a f;exact⟨_,_,rfl,(c.2 j b).1⟩;exact⟨_,_,rfl,(c.2 j b).2⟩;obtain⟨cs,ty,fr,k,h⟩:=YR h4 rT.n4 rT.y4 SW.t139;exact⟨cs,ty,fr,k,by rw[h,show Tryz.prog.cellsOf (Tryz.lays196_ren.t 139)=32 by kernel_rfl];rfl⟩
end Go.Proofs.YtdnfjhflkkpokaaGreatDoor.Av
