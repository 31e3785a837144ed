/- Joined texts of the walk, made small by a program. -/
import Derived.Shelf.Strings.Builder1
import Derived.Shelf.Strings.Builder2
import Derived.Shelf.Strings.OnBuilder
import Derived.Shelf.Small.Bits
import Derived.Shelf.Small.Strs
import Derived.Shelf.Strconv.Itoa0
import Derived.Shelf.Strconv.Itoa1
import Derived.Shelf.LaysM
import Derived.Shelf.Strconv.Itoa2
import Derived.Shelf.Strconv.Itoa3
import Derived.Shelf.Strconv.Itoa4
import Derived.Shelf.Strconv.ParseIntEmpty
import Derived.Shelf.Strconv.Clone
import Derived.Shelf.Strconv.SyntaxError
import Derived.Shelf.LaysC
import Derived.Shelf.Strconv.ToError
import Derived.Shelf.Strconv.Lower
import Derived.Shelf.Strconv.ParseUint10
import Derived.Shelf.Strconv.ParseUint10Empty
import Derived.Shelf.Strconv.ParseUint10Any
import Derived.Shelf.Strconv.ParseInt10
import Derived.Shelf.Strconv.RangeError
import Derived.Shelf.Strconv.ToErrorRange
import Derived.Shelf.Strconv.ParseUintEmpty
import Derived.Shelf.Strconv.ParseUint10b64
import Derived.Shelf.Strconv.ParseUint10b32
import Derived.Shelf.Strconv.ParseUint10b16
import Derived.Shelf.Strconv.ParseUint10b8
import Derived.Shelf.Strconv.ParseUint10At
import Derived.Shelf.Strconv.ParseInt10At64
import Derived.Shelf.Strconv.ParseInt10At32
import Derived.Shelf.Strconv.ParseInt10At16
import Derived.Shelf.Strconv.ParseInt10At8
import Derived.Shelf.Strconv.ParseInt10All
import Derived.Shelf.Strconv.ParseIntPublic10
import Derived.Shelf.Strconv.ErrVarParseInt
import Derived.Shelf.Strings.Search1
import Derived.Shelf.Strings.Search2
import Derived.Shelf.Strings.Search3
import Derived.Shelf.Strings.Cut
import Derived.Shelf.Strings.Shaped
import Derived.Shelf.Sort.Plain
import Derived.Shelf.GgClosure.StringsIndexFunc
import Derived.Ground.GgwProg
import Derived.Shelf.GgClosure.StringsIndexFuncTop
import Derived.Shelf.GgClosure.StringsRunes
import Derived.Shelf.Strings.Prefix
import Derived.Shelf.Slices.Equal
import Derived.Ground.Names2Prog
import Derived.Shelf.Slices.Clone
import Derived.Shelf.Slices.In.SortNone
import Derived.Ground.SlsfProg
import Derived.Shelf.SlSortCmp.Insertion
import Derived.Shelf.SlSortCmp.SiftDown1
import Derived.Shelf.SlSortCmp.HeapSort1
import Derived.Shelf.SlSortCmp.Insertion1
import Derived.Shelf.SlSortCmp.Median1
import Derived.Shelf.SlSortCmp.Pivot1
import Derived.Shelf.SlSortCmp.ReverseRange1
import Derived.Shelf.SlSortCmp.PartialInsertion1
import Derived.Shelf.SlSortCmp.PartitionEqual1
import Derived.Shelf.SlSortCmp.Partition1
import Derived.Shelf.SlSortCmp.Pdq1
import Derived.Shelf.SlSortCmp.Whole1
import Derived.Shelf.Unicode.ValidAny
import Derived.Test.YtdnfjhflkkpokaaGreatDoorProg
import Derived.Test.YtdnfjhflkkpokaaGreatDoorFk4
import Derived.WalkKit
import Derived.ProofKit
import Derived.OpenShut
import Derived.JoinedCond
import Derived.SizedLaws
import Derived.Sort.Grow
import Derived.Deep.Draws
import Derived.Lib.LaidTab
import Derived.Lib.ItoaNum
import Derived.Lib.ParseIntB
import Derived.Stop.LaidErr
import Derived.Lib.LaidU8T
import Derived.Shelf.Vars
import Derived.Test.YtdnfjhflkkpokaaGreatDoorRows
import Derived.KernelRfl
set_option linter.unusedSimpArgs false
set_option linter.unusedVariables false
namespace Go.Proofs
open Go.Shelf
def Tryz.lays156_ren:Go.Shelf.Ren:=⟨λ|156=>126|165=>180|166=>181|169=>182|240=>207|241=>208|276=>232|277=>233|n=>n,λ|31=>50|9=>9|3=>3|4=>4|0=>0|20=>20|72=>259|76=>261|70=>257|37=>178|75=>242|127=>283|164=>308|5=>5|80=>263|n=>n,λ|n=>n⟩
theorem Tryz.lays156:Go.Proofs.Lays.n156 Tryz.prog Tryz.lays156_ren:={
 mixed:=by kernel_rfl
 f156:=Tryz.func126.trans (congrArg some (by kernel_rfl))
 f165:=Tryz.func180.trans (congrArg some (by kernel_rfl))
 f166:=Tryz.func181.trans (congrArg some (by kernel_rfl))
 f169:=Tryz.func182.trans (congrArg some (by kernel_rfl))
 f240:=Tryz.func207.trans (congrArg some (by kernel_rfl))
 f241:=Tryz.func208.trans (congrArg some (by kernel_rfl))
 f276:=Tryz.func232.trans (congrArg some (by kernel_rfl))
 f277:=Tryz.func233.trans (congrArg some (by kernel_rfl))
 t0:=Tryz.underlying0
 a0:=Tryz.isAgg0
 z0:=Tryz.sizeOf0
 v0:=Tryz.zeroValue0
 t3:=Tryz.underlying3
 a3:=Tryz.isAgg3
 z3:=Tryz.sizeOf3
 v3:=Tryz.zeroValue3
 t4:=Tryz.underlying4
 a4:=Tryz.isAgg4
 z4:=Tryz.sizeOf4
 v4:=Tryz.zeroValue4
 t9:=Tryz.underlying9
 a9:=Tryz.isAgg9
 z9:=Tryz.sizeOf9
 v9:=Tryz.zeroValue9
 t20:=Tryz.underlying20
 a20:=Tryz.isAgg20
 z20:=Tryz.sizeOf20
 v20:=Tryz.zeroValue20
 t31:=Tryz.underlying50
 a31:=Tryz.isAgg50
 z31:=Tryz.sizeOf50
 v31:=Tryz.zeroValue50
 t37:=Tryz.underlying178
 a37:=Tryz.isAgg178
 z37:=Tryz.sizeOf178
 v37:=Tryz.zeroValue178
 t70:=Tryz.underlying257
 a70:=Tryz.isAgg257
 z70:=Tryz.sizeOf257
 v70:=Tryz.zeroValue257
 t72:=Tryz.underlying259
 a72:=Tryz.isAgg259
 z72:=Tryz.sizeOf259
 v72:=Tryz.zeroValue259
 t75:=Tryz.underlying242
 a75:=Tryz.isAgg242
 z75:=Tryz.sizeOf242
 v75:=Tryz.zeroValue242
 t76:=Tryz.underlying261
 a76:=Tryz.isAgg261
 z76:=Tryz.sizeOf261
 v76:=Tryz.zeroValue261
 t127:=Tryz.underlying283
 a127:=Tryz.isAgg283
 z127:=Tryz.sizeOf283
 v127:=Tryz.zeroValue283
 t164:=Tryz.underlying308
 a164:=Tryz.isAgg308
 z164:=Tryz.sizeOf308
 v164:=Tryz.zeroValue308}
theorem Tryz.Builder_Extra_156:Builder.Extra Tryz.prog Tryz.lays156_ren:={
 sizeBuilder:=by kernel_rfl
 liesBuilder:=by kernel_rfl
 t5:=Tryz.underlying5
 a5:=Tryz.isAgg5
 z5:=Tryz.sizeOf5
 v5:=Tryz.zeroValue5
 infoByte:=by kernel_rfl
 cellsByte:=by kernel_rfl
 sizeByte:=by kernel_rfl
 neB5:=by decide}
open Go.RowKit in
theorem Tryz.strings_Join_none(a:Option Addr)(c:Nat)(sep:ByteArray)(w:World):
 Calls Tryz.prog 126 #[.slice a 0 c,.string sep] w λe w'=>e=.returned (.string ⟨#[]⟩)/\w'=w:=Any.strings_Join_none Tryz.lays156 Tryz.Builder_Extra_156 a c sep w
open Go.RowKit in
theorem Tryz.strings_Join(f o c:Nat)(xs:List ByteArray)(sep:ByteArray)(w:World)(a:∀(j:Nat) x,xs[j]?=some x->w.cell? ⟨f,o+j,none⟩=some (.string x))(g:f<w.heap.size)(h:xs.length<=140737488355328)(b:xs.length<=c)(d:(Lib.join (xs.map (·.data.toList)) sep.data.toList).length<=140737488355328):
 Calls Tryz.prog 126 #[.slice (some ⟨f,o,none⟩) xs.length c,.string sep] w λe w'=>e=.returned (.string ⟨(Lib.join (xs.map (·.data.toList)) sep.data.toList).toArray⟩)/\Below w.heap.size w w':=Any.strings_Join Tryz.lays156 Tryz.Builder_Extra_156 f o c xs sep w a g h b d
def Tryz.lays106_ren:Go.Shelf.Ren:=⟨λ|106=>118|213=>172|265=>203|n=>n,λ|9=>9|3=>3|n=>n,λ|n=>n⟩
theorem Tryz.lays106:Go.Proofs.Lays.n106 Tryz.prog Tryz.lays106_ren:={
 mixed:=by kernel_rfl
 f106:=Tryz.func118.trans (congrArg some (by kernel_rfl))
 f213:=Tryz.func172.trans (congrArg some (by kernel_rfl))
 f265:=Tryz.func203.trans (congrArg some (by kernel_rfl))
 t3:=Tryz.underlying3
 a3:=Tryz.isAgg3
 z3:=Tryz.sizeOf3
 v3:=Tryz.zeroValue3
 t9:=Tryz.underlying9
 a9:=Tryz.isAgg9
 z9:=Tryz.sizeOf9
 v9:=Tryz.zeroValue9}
open Go.RowKit in
theorem Tryz.strings_Compare(a b:ByteArray)(w:World):
 Calls Tryz.prog 118 #[.string a,.string b] w λe w'=>e=.returned (.int .i64 (Lib.compareBytes a.data.toList b.data.toList))/\w'=w:=Any.strings_Compare Tryz.lays106 a b w
def Tryz.lays137_ren:Go.Shelf.Ren:=⟨λ|137=>177|217=>199|266=>230|n=>n,λ|9=>9|5=>5|3=>3|n=>n,λ|n=>n⟩
theorem Tryz.lays137:Go.Proofs.Lays.n137 Tryz.prog Tryz.lays137_ren:={
 mixed:=by kernel_rfl
 f137:=Tryz.func177.trans (congrArg some (by kernel_rfl))
 f217:=Tryz.func199.trans (congrArg some (by kernel_rfl))
 f266:=Tryz.func230.trans (congrArg some (by kernel_rfl))
 t3:=Tryz.underlying3
 a3:=Tryz.isAgg3
 z3:=Tryz.sizeOf3
 v3:=Tryz.zeroValue3
 t5:=Tryz.underlying5
 a5:=Tryz.isAgg5
 z5:=Tryz.sizeOf5
 v5:=Tryz.zeroValue5
 t9:=Tryz.underlying9
 a9:=Tryz.isAgg9
 z9:=Tryz.sizeOf9
 v9:=Tryz.zeroValue9}
open Go.RowKit in
theorem Tryz.strings_IndexByte(s:ByteArray)(c:Int)(w:World):
 Calls Tryz.prog 177 #[.string s,.int .u8 c] w λe w'=>e=.returned (.int .i64 (Lib.indexByte s.data.toList c.toNat.toUInt8))/\w'=w:=Any.strings_IndexByte Tryz.lays137 s c w
def Tryz.laysM173_ren:Go.Shelf.Ren:=⟨λ|173=>163|246=>198|283=>226|284=>227|285=>228|286=>229|129=>155|317=>243|318=>244|319=>245|320=>246|337=>250|338=>251|n=>n,λ|2=>2|3=>3|9=>9|4=>4|171=>302|0=>0|53=>231|37=>178|5=>5|173=>304|212=>317|51=>229|20=>20|213=>318|46=>185|232=>324|233=>325|n=>n,λ|17=>6|18=>7|19=>8|n=>n⟩
theorem Tryz.laysM173:Go.Proofs.LaysM.n173 Tryz.prog Tryz.laysM173_ren:={
 mixed:=by kernel_rfl
 f129:=Tryz.func155.trans (congrArg some (by kernel_rfl))
 f173:=Tryz.func163.trans (congrArg some (by kernel_rfl))
 f246:=Tryz.func198.trans (congrArg some (by kernel_rfl))
 f283:=Tryz.func226.trans (congrArg some (by kernel_rfl))
 f284:=Tryz.func227.trans (congrArg some (by kernel_rfl))
 f285:=Tryz.func228.trans (congrArg some (by kernel_rfl))
 f286:=Tryz.func229.trans (congrArg some (by kernel_rfl))
 f317:=Tryz.func243.trans (congrArg some (by kernel_rfl))
 f318:=Tryz.func244.trans (congrArg some (by kernel_rfl))
 f319:=Tryz.func245.trans (congrArg some (by kernel_rfl))
 f320:=Tryz.func246.trans (congrArg some (by kernel_rfl))
 f337:=Tryz.func250.trans (congrArg some (by kernel_rfl))
 f338:=Tryz.func251.trans (congrArg some (by kernel_rfl))
 t0:=Tryz.underlying0
 a0:=Tryz.isAgg0
 z0:=Tryz.sizeOf0
 v0:=Tryz.zeroValue0
 t2:=Tryz.underlying2
 a2:=Tryz.isAgg2
 z2:=Tryz.sizeOf2
 v2:=Tryz.zeroValue2
 t3:=Tryz.underlying3
 a3:=Tryz.isAgg3
 z3:=Tryz.sizeOf3
 v3:=Tryz.zeroValue3
 t4:=Tryz.underlying4
 a4:=Tryz.isAgg4
 z4:=Tryz.sizeOf4
 v4:=Tryz.zeroValue4
 t5:=Tryz.underlying5
 a5:=Tryz.isAgg5
 z5:=Tryz.sizeOf5
 v5:=Tryz.zeroValue5
 t9:=Tryz.underlying9
 a9:=Tryz.isAgg9
 z9:=Tryz.sizeOf9
 v9:=Tryz.zeroValue9
 t20:=Tryz.underlying20
 a20:=Tryz.isAgg20
 z20:=Tryz.sizeOf20
 v20:=Tryz.zeroValue20
 t37:=Tryz.underlying178
 a37:=Tryz.isAgg178
 z37:=Tryz.sizeOf178
 v37:=Tryz.zeroValue178
 t46:=Tryz.underlying185
 a46:=Tryz.isAgg185
 z46:=Tryz.sizeOf185
 v46:=Tryz.zeroValue185
 t51:=Tryz.underlying229
 a51:=Tryz.isAgg229
 z51:=Tryz.sizeOf229
 v51:=Tryz.zeroValue229
 t53:=Tryz.underlying231
 a53:=Tryz.isAgg231
 z53:=Tryz.sizeOf231
 v53:=Tryz.zeroValue231
 t171:=Tryz.underlying302
 a171:=Tryz.isAgg302
 z171:=Tryz.sizeOf302
 v171:=Tryz.zeroValue302
 t173:=Tryz.underlying304
 a173:=Tryz.isAgg304
 z173:=Tryz.sizeOf304
 v173:=Tryz.zeroValue304
 t212:=Tryz.underlying317
 a212:=Tryz.isAgg317
 z212:=Tryz.sizeOf317
 v212:=Tryz.zeroValue317
 t213:=Tryz.underlying318
 a213:=Tryz.isAgg318
 z213:=Tryz.sizeOf318
 t232:=Tryz.underlying324
 a232:=Tryz.isAgg324
 z232:=Tryz.sizeOf324
 v232:=Tryz.zeroValue324
 t233:=Tryz.underlying325
 a233:=Tryz.isAgg325
 z233:=Tryz.sizeOf325
 v233:=Tryz.zeroValue325
 g17:=by kernel_rfl
 g18:=by kernel_rfl
 g19:=by kernel_rfl
 i0:=by kernel_rfl
 i2:=by kernel_rfl
 i3:=by kernel_rfl
 i4:=by kernel_rfl
 i5:=by kernel_rfl
 i9:=by kernel_rfl
 i20:=by kernel_rfl
 i37:=by kernel_rfl
 i46:=by kernel_rfl
 i51:=by kernel_rfl
 i53:=by kernel_rfl
 i171:=by kernel_rfl
 i173:=by kernel_rfl
 i212:=by kernel_rfl
 i232:=by kernel_rfl
 i233:=by kernel_rfl
 m17:=by kernel_rfl
 m18:=by kernel_rfl
 m19:=by kernel_rfl}
open Go.RowKit Go.Sort Go.Lib in
theorem Tryz.strconv_FormatInt_10(n:Int)(b : -9223372036854775808<=n)(c:n<=9223372036854775807)(w:World)(a:Lib.TabIs Tryz.prog w "internal/strconv.uint64pow10" .u64 Lib.pow10Tab):
 Calls Tryz.prog 163 #[.int .i64 n,.int .i64 10] w λe w'=>e=.returned (.string ⟨(Lib.itoa n).toArray⟩)/\∃k os,w'=grow (w.drewN k) os:=Any.strconv_FormatInt_10 Tryz.laysM173 n b c w a
def Tryz.laysC174_ren:Go.Shelf.Ren:=⟨λ|174=>162|247=>196|245=>197|287=>221|279=>222|280=>223|281=>224|282=>225|321=>238|322=>239|316=>240|171=>242|205=>241|243=>249|246=>198|283=>226|284=>227|285=>228|286=>229|129=>155|317=>243|318=>244|319=>245|320=>246|337=>250|338=>251|n=>n,λ|9=>9|3=>3|2=>2|75=>242|85=>243|4=>4|167=>295|5=>5|53=>231|175=>296|46=>185|168=>298|37=>178|0=>0|210=>315|21=>21|127=>283|145=>323|143=>321|171=>302|173=>304|212=>317|51=>229|20=>20|213=>318|232=>324|233=>325|80=>263|n=>n,λ|15=>4|16=>5|17=>6|18=>7|19=>8|n=>n⟩
theorem Tryz.laysC174:Go.Proofs.LaysC.n174 Tryz.prog Tryz.laysC174_ren:={
 mixed:=by kernel_rfl
 f129:=Tryz.func155.trans (congrArg some (by kernel_rfl))
 f171:=Tryz.func242.trans (congrArg some (by kernel_rfl))
 f174:=Tryz.func162.trans (congrArg some (by kernel_rfl))
 f205:=Tryz.func241.trans (congrArg some (by kernel_rfl))
 f243:=Tryz.func249.trans (congrArg some (by kernel_rfl))
 f245:=Tryz.func197.trans (congrArg some (by kernel_rfl))
 f246:=Tryz.func198.trans (congrArg some (by kernel_rfl))
 f247:=Tryz.func196.trans (congrArg some (by kernel_rfl))
 f279:=Tryz.func222.trans (congrArg some (by kernel_rfl))
 f280:=Tryz.func223.trans (congrArg some (by kernel_rfl))
 f281:=Tryz.func224.trans (congrArg some (by kernel_rfl))
 f282:=Tryz.func225.trans (congrArg some (by kernel_rfl))
 f283:=Tryz.func226.trans (congrArg some (by kernel_rfl))
 f284:=Tryz.func227.trans (congrArg some (by kernel_rfl))
 f285:=Tryz.func228.trans (congrArg some (by kernel_rfl))
 f286:=Tryz.func229.trans (congrArg some (by kernel_rfl))
 f287:=Tryz.func221.trans (congrArg some (by kernel_rfl))
 f316:=Tryz.func240.trans (congrArg some (by kernel_rfl))
 f317:=Tryz.func243.trans (congrArg some (by kernel_rfl))
 f318:=Tryz.func244.trans (congrArg some (by kernel_rfl))
 f319:=Tryz.func245.trans (congrArg some (by kernel_rfl))
 f320:=Tryz.func246.trans (congrArg some (by kernel_rfl))
 f321:=Tryz.func238.trans (congrArg some (by kernel_rfl))
 f322:=Tryz.func239.trans (congrArg some (by kernel_rfl))
 f337:=Tryz.func250.trans (congrArg some (by kernel_rfl))
 f338:=Tryz.func251.trans (congrArg some (by kernel_rfl))
 t0:=Tryz.underlying0
 a0:=Tryz.isAgg0
 z0:=Tryz.sizeOf0
 v0:=Tryz.zeroValue0
 t2:=Tryz.underlying2
 a2:=Tryz.isAgg2
 z2:=Tryz.sizeOf2
 v2:=Tryz.zeroValue2
 t3:=Tryz.underlying3
 a3:=Tryz.isAgg3
 z3:=Tryz.sizeOf3
 v3:=Tryz.zeroValue3
 t4:=Tryz.underlying4
 a4:=Tryz.isAgg4
 z4:=Tryz.sizeOf4
 v4:=Tryz.zeroValue4
 t5:=Tryz.underlying5
 a5:=Tryz.isAgg5
 z5:=Tryz.sizeOf5
 v5:=Tryz.zeroValue5
 t9:=Tryz.underlying9
 a9:=Tryz.isAgg9
 z9:=Tryz.sizeOf9
 v9:=Tryz.zeroValue9
 t20:=Tryz.underlying20
 a20:=Tryz.isAgg20
 z20:=Tryz.sizeOf20
 v20:=Tryz.zeroValue20
 t21:=Tryz.underlying21
 a21:=Tryz.isAgg21
 z21:=Tryz.sizeOf21
 v21:=Tryz.zeroValue21
 t37:=Tryz.underlying178
 a37:=Tryz.isAgg178
 z37:=Tryz.sizeOf178
 v37:=Tryz.zeroValue178
 t46:=Tryz.underlying185
 a46:=Tryz.isAgg185
 z46:=Tryz.sizeOf185
 v46:=Tryz.zeroValue185
 t51:=Tryz.underlying229
 a51:=Tryz.isAgg229
 z51:=Tryz.sizeOf229
 v51:=Tryz.zeroValue229
 t53:=Tryz.underlying231
 a53:=Tryz.isAgg231
 z53:=Tryz.sizeOf231
 v53:=Tryz.zeroValue231
 t75:=Tryz.underlying242
 a75:=Tryz.isAgg242
 z75:=Tryz.sizeOf242
 v75:=Tryz.zeroValue242
 t85:=Tryz.underlying243
 a85:=Tryz.isAgg243
 z85:=Tryz.sizeOf243
 v85:=Tryz.zeroValue243
 t127:=Tryz.underlying283
 a127:=Tryz.isAgg283
 z127:=Tryz.sizeOf283
 v127:=Tryz.zeroValue283
 t143:=Tryz.underlying321
 a143:=Tryz.isAgg321
 z143:=Tryz.sizeOf321
 v143:=Tryz.zeroValue321
 t145:=Tryz.underlying323
 a145:=Tryz.isAgg323
 z145:=Tryz.sizeOf323
 v145:=Tryz.zeroValue323
 t167:=Tryz.underlying295
 a167:=Tryz.isAgg295
 z167:=Tryz.sizeOf295
 v167:=Tryz.zeroValue295
 t168:=Tryz.underlying298
 a168:=Tryz.isAgg298
 z168:=Tryz.sizeOf298
 v168:=Tryz.zeroValue298
 t171:=Tryz.underlying302
 a171:=Tryz.isAgg302
 z171:=Tryz.sizeOf302
 v171:=Tryz.zeroValue302
 t173:=Tryz.underlying304
 a173:=Tryz.isAgg304
 z173:=Tryz.sizeOf304
 v173:=Tryz.zeroValue304
 t175:=Tryz.underlying296
 a175:=Tryz.isAgg296
 z175:=Tryz.sizeOf296
 v175:=Tryz.zeroValue296
 t210:=Tryz.underlying315
 a210:=Tryz.isAgg315
 z210:=Tryz.sizeOf315
 v210:=Tryz.zeroValue315
 t212:=Tryz.underlying317
 a212:=Tryz.isAgg317
 z212:=Tryz.sizeOf317
 v212:=Tryz.zeroValue317
 t213:=Tryz.underlying318
 a213:=Tryz.isAgg318
 z213:=Tryz.sizeOf318
 t232:=Tryz.underlying324
 a232:=Tryz.isAgg324
 z232:=Tryz.sizeOf324
 v232:=Tryz.zeroValue324
 t233:=Tryz.underlying325
 a233:=Tryz.isAgg325
 z233:=Tryz.sizeOf325
 v233:=Tryz.zeroValue325
 g15:=by kernel_rfl
 g16:=by kernel_rfl
 g17:=by kernel_rfl
 g18:=by kernel_rfl
 g19:=by kernel_rfl
 t80:=Tryz.underlying263
 a80:=Tryz.isAgg263
 z80:=Tryz.sizeOf263
 v80:=Tryz.zeroValue263
 i0:=by kernel_rfl
 i2:=by kernel_rfl
 i3:=by kernel_rfl
 i4:=by kernel_rfl
 i5:=by kernel_rfl
 i9:=by kernel_rfl
 i20:=by kernel_rfl
 i21:=by kernel_rfl
 i37:=by kernel_rfl
 i46:=by kernel_rfl
 i51:=by kernel_rfl
 i53:=by kernel_rfl
 i75:=by kernel_rfl
 i80:=by kernel_rfl
 i85:=by kernel_rfl
 i127:=by kernel_rfl
 i143:=by kernel_rfl
 i145:=by kernel_rfl
 i167:=by kernel_rfl
 i168:=by kernel_rfl
 i171:=by kernel_rfl
 i173:=by kernel_rfl
 i175:=by kernel_rfl
 i210:=by kernel_rfl
 i212:=by kernel_rfl
 i232:=by kernel_rfl
 i233:=by kernel_rfl
 m15:=by kernel_rfl
 m16:=by kernel_rfl
 m17:=by kernel_rfl
 m18:=by kernel_rfl
 m19:=by kernel_rfl
 c0:=by kernel_rfl
 c2:=by kernel_rfl
 c3:=by kernel_rfl
 c4:=by kernel_rfl
 c5:=by kernel_rfl
 c9:=by kernel_rfl
 c20:=by kernel_rfl
 c21:=by kernel_rfl
 c37:=by kernel_rfl
 c46:=by kernel_rfl
 c51:=by kernel_rfl
 c53:=by kernel_rfl
 c75:=by kernel_rfl
 c80:=by kernel_rfl
 c85:=by kernel_rfl
 c127:=by kernel_rfl
 c143:=by kernel_rfl
 c145:=by kernel_rfl
 c167:=by kernel_rfl
 c168:=by kernel_rfl
 c171:=by kernel_rfl
 c173:=by kernel_rfl
 c175:=by kernel_rfl
 c210:=by kernel_rfl
 c212:=by kernel_rfl
 c213:=by kernel_rfl
 c232:=by kernel_rfl
 c233:=by kernel_rfl}
open Go.RowKit in
theorem Tryz.strconv_ParseInt_10_at64_ok(s:ByteArray)(a:s.size<=9223372036854775806)(v:Int)(h:Lib.parseIntB 64 s.data.toList=.ok v)(w:World):
 Calls Tryz.prog 162 #[.string s,.int .i64 10,.int .i64 64] w λe w'=>e=.returned (.tuple #[.int .i64 v,.nilIface])/\(w'=w\/∃t,w'=Lib.bytesWorld w 5 t):=Any.strconv_ParseInt_10_at64_ok Tryz.laysC174 s a v h w
open Go.RowKit in
theorem Tryz.strconv_ParseInt_10_at64_syntax(s:ByteArray)(a:s.size<=281474976710656)(h:Lib.parseIntB 64 s.data.toList=.syntax)(b:Value)(w:World)(d:w.cell? ⟨4,0,none⟩=some b)(c:b=.nilIface\/∃g f,b=.iface g f):
 Calls Tryz.prog 162 #[.string s,.int .i64 10,.int .i64 64] w λe w'=>∃N,e=.returned (.tuple #[.int .i64 (0),.iface 298 (.pointer (some ⟨N,0,none⟩))])/\w.heap.size<=N/\w'.heap[N]?=some (.cells #[.string ⟨#[80,97,114,115,101,73,110,116]⟩,.string s,b] 315 (0,0))/\Below w.heap.size w w':=Any.strconv_ParseInt_10_at64_syntax Tryz.laysC174 s a h b w d c
open Go.RowKit in
theorem Tryz.strconv_ParseInt_10_at64_range(s:ByteArray)(a:s.size<=281474976710656)(h:Lib.parseIntB 64 s.data.toList=.range)(b:Value)(w:World)(d:w.cell? ⟨5,0,none⟩=some b)(c:b=.nilIface\/∃g f,b=.iface g f):
 Calls Tryz.prog 162 #[.string s,.int .i64 10,.int .i64 64] w λe w'=>∃N,e=.returned (.tuple #[.int .i64 (Lib.intSat 64 s.data.toList),.iface 298 (.pointer (some ⟨N,0,none⟩))])/\w.heap.size<=N/\w'.heap[N]?=some (.cells #[.string ⟨#[80,97,114,115,101,73,110,116]⟩,.string s,b] 315 (0,0))/\Below w.heap.size w w':=Any.strconv_ParseInt_10_at64_range Tryz.laysC174 s a h b w d c
def Tryz.lays219_ren:Go.Shelf.Ren:=⟨λ|219=>168|217=>199|225=>200|224=>201|267=>202|266=>230|314=>231|n=>n,λ|9=>9|3=>3|4=>4|5=>5|46=>185|146=>306|51=>229|n=>n,λ|1=>3|n=>n⟩
theorem Tryz.lays219:Go.Proofs.Lays.n219 Tryz.prog Tryz.lays219_ren:={
 mixed:=by kernel_rfl
 f217:=Tryz.func199.trans (congrArg some (by kernel_rfl))
 f219:=Tryz.func168.trans (congrArg some (by kernel_rfl))
 f224:=Tryz.func201.trans (congrArg some (by kernel_rfl))
 f225:=Tryz.func200.trans (congrArg some (by kernel_rfl))
 f266:=Tryz.func230.trans (congrArg some (by kernel_rfl))
 f267:=Tryz.func202.trans (congrArg some (by kernel_rfl))
 f314:=Tryz.func231.trans (congrArg some (by kernel_rfl))
 t3:=Tryz.underlying3
 a3:=Tryz.isAgg3
 z3:=Tryz.sizeOf3
 v3:=Tryz.zeroValue3
 t4:=Tryz.underlying4
 a4:=Tryz.isAgg4
 z4:=Tryz.sizeOf4
 v4:=Tryz.zeroValue4
 t5:=Tryz.underlying5
 a5:=Tryz.isAgg5
 z5:=Tryz.sizeOf5
 v5:=Tryz.zeroValue5
 t9:=Tryz.underlying9
 a9:=Tryz.isAgg9
 z9:=Tryz.sizeOf9
 v9:=Tryz.zeroValue9
 t46:=Tryz.underlying185
 a46:=Tryz.isAgg185
 z46:=Tryz.sizeOf185
 v46:=Tryz.zeroValue185
 t51:=Tryz.underlying229
 a51:=Tryz.isAgg229
 z51:=Tryz.sizeOf229
 v51:=Tryz.zeroValue229
 t146:=Tryz.underlying306
 a146:=Tryz.isAgg306
 z146:=Tryz.sizeOf306
 v146:=Tryz.zeroValue306
 g1:=by kernel_rfl}
open Go.RowKit Go.Lib in
theorem Tryz.stringslite_Index_one(s:ByteArray)(c:UInt8)(w:World):
 Calls Tryz.prog 168 #[.string s,.string ⟨#[c]⟩] w λe w'=>e=.returned (.int .i64 (Lib.indexByte s.data.toList c))/\w'=w:=Any.stringslite_Index_one Tryz.lays219 s c w
def Tryz.lays143_ren:Go.Shelf.Ren:=⟨λ|143=>114|219=>168|217=>199|225=>200|224=>201|267=>202|266=>230|314=>231|n=>n,λ|9=>9|3=>3|4=>4|5=>5|46=>185|146=>306|51=>229|n=>n,λ|1=>3|n=>n⟩
theorem Tryz.lays143:Go.Proofs.Lays.n143 Tryz.prog Tryz.lays143_ren:={
 mixed:=by kernel_rfl
 f143:=Tryz.func114.trans (congrArg some (by kernel_rfl))
 f217:=Tryz.func199.trans (congrArg some (by kernel_rfl))
 f219:=Tryz.func168.trans (congrArg some (by kernel_rfl))
 f224:=Tryz.func201.trans (congrArg some (by kernel_rfl))
 f225:=Tryz.func200.trans (congrArg some (by kernel_rfl))
 f266:=Tryz.func230.trans (congrArg some (by kernel_rfl))
 f267:=Tryz.func202.trans (congrArg some (by kernel_rfl))
 f314:=Tryz.func231.trans (congrArg some (by kernel_rfl))
 t3:=Tryz.underlying3
 a3:=Tryz.isAgg3
 z3:=Tryz.sizeOf3
 v3:=Tryz.zeroValue3
 t4:=Tryz.underlying4
 a4:=Tryz.isAgg4
 z4:=Tryz.sizeOf4
 v4:=Tryz.zeroValue4
 t5:=Tryz.underlying5
 a5:=Tryz.isAgg5
 z5:=Tryz.sizeOf5
 v5:=Tryz.zeroValue5
 t9:=Tryz.underlying9
 a9:=Tryz.isAgg9
 z9:=Tryz.sizeOf9
 v9:=Tryz.zeroValue9
 t46:=Tryz.underlying185
 a46:=Tryz.isAgg185
 z46:=Tryz.sizeOf185
 v46:=Tryz.zeroValue185
 t51:=Tryz.underlying229
 a51:=Tryz.isAgg229
 z51:=Tryz.sizeOf229
 v51:=Tryz.zeroValue229
 t146:=Tryz.underlying306
 a146:=Tryz.isAgg306
 z146:=Tryz.sizeOf306
 v146:=Tryz.zeroValue306
 g1:=by kernel_rfl}
open Go.RowKit Go.Lib in
theorem Tryz.strings_Index(s sub:ByteArray)(m:Int)(w:World)(b:s.size<4294967281)(a:w.cell? ⟨3,0,none⟩=some (.int .i64 m)):
 Calls Tryz.prog 114 #[.string s,.string sub] w λe w'=>e=.returned (.int .i64 (Lib.index s.data.toList sub.data.toList))/\w'=w:=Any.strings_Index Tryz.lays143 s sub m w b a
def Tryz.lays99_ren:Go.Shelf.Ren:=⟨λ|99=>115|206=>169|n=>n,λ|9=>9|4=>4|3=>3|n=>n,λ|n=>n⟩
theorem Tryz.lays99:Go.Proofs.Lays.n99 Tryz.prog Tryz.lays99_ren:={
 mixed:=by kernel_rfl
 f99:=Tryz.func115.trans (congrArg some (by kernel_rfl))
 f206:=Tryz.func169.trans (congrArg some (by kernel_rfl))
 t3:=Tryz.underlying3
 a3:=Tryz.isAgg3
 z3:=Tryz.sizeOf3
 v3:=Tryz.zeroValue3
 t4:=Tryz.underlying4
 a4:=Tryz.isAgg4
 z4:=Tryz.sizeOf4
 v4:=Tryz.zeroValue4
 t9:=Tryz.underlying9
 a9:=Tryz.isAgg9
 z9:=Tryz.sizeOf9
 v9:=Tryz.zeroValue9}
open Go.RowKit Go.Lib in
theorem Tryz.strings_HasPrefix(s p:ByteArray)(w:World):
 Calls Tryz.prog 115 #[.string s,.string p] w λe w'=>e=.returned (.bool (Lib.hasPrefix s.data.toList p.data.toList))/\w'=w:=Any.strings_HasPrefix Tryz.lays99 s p w
def Tryz.lays100_ren:Go.Shelf.Ren:=⟨λ|100=>116|207=>170|n=>n,λ|9=>9|4=>4|3=>3|n=>n,λ|n=>n⟩
theorem Tryz.lays100:Go.Proofs.Lays.n100 Tryz.prog Tryz.lays100_ren:={
 mixed:=by kernel_rfl
 f100:=Tryz.func116.trans (congrArg some (by kernel_rfl))
 f207:=Tryz.func170.trans (congrArg some (by kernel_rfl))
 t3:=Tryz.underlying3
 a3:=Tryz.isAgg3
 z3:=Tryz.sizeOf3
 v3:=Tryz.zeroValue3
 t4:=Tryz.underlying4
 a4:=Tryz.isAgg4
 z4:=Tryz.sizeOf4
 v4:=Tryz.zeroValue4
 t9:=Tryz.underlying9
 a9:=Tryz.isAgg9
 z9:=Tryz.sizeOf9
 v9:=Tryz.zeroValue9}
open Go.RowKit Go.Lib in
theorem Tryz.strings_HasSuffix(s p:ByteArray)(w:World)(a:s.size<=9223372036854775807):
 Calls Tryz.prog 116 #[.string s,.string p] w λe w'=>e=.returned (.bool (Lib.hasSuffix s.data.toList p.data.toList))/\w'=w:=Any.strings_HasSuffix Tryz.lays100 s p w a
def Tryz.lays196_ren:Go.Shelf.Ren:=⟨λ|196=>105|259=>160|n=>n,λ|9=>9|4=>4|3=>3|5=>5|12=>12|119=>236|0=>0|46=>185|139=>239|138=>238|53=>231|n=>n,λ|3=>0|4=>1|n=>n⟩
theorem Tryz.lays196:Go.Proofs.Lays.n196 Tryz.prog Tryz.lays196_ren:={
 mixed:=by kernel_rfl
 f196:=Tryz.func105.trans (congrArg some (by kernel_rfl))
 f259:=Tryz.func160.trans (congrArg some (by kernel_rfl))
 t0:=Tryz.underlying0
 a0:=Tryz.isAgg0
 z0:=Tryz.sizeOf0
 v0:=Tryz.zeroValue0
 t3:=Tryz.underlying3
 a3:=Tryz.isAgg3
 z3:=Tryz.sizeOf3
 v3:=Tryz.zeroValue3
 t4:=Tryz.underlying4
 a4:=Tryz.isAgg4
 z4:=Tryz.sizeOf4
 v4:=Tryz.zeroValue4
 t5:=Tryz.underlying5
 a5:=Tryz.isAgg5
 z5:=Tryz.sizeOf5
 v5:=Tryz.zeroValue5
 t9:=Tryz.underlying9
 a9:=Tryz.isAgg9
 z9:=Tryz.sizeOf9
 v9:=Tryz.zeroValue9
 t12:=Tryz.underlying12
 a12:=Tryz.isAgg12
 z12:=Tryz.sizeOf12
 v12:=Tryz.zeroValue12
 t46:=Tryz.underlying185
 a46:=Tryz.isAgg185
 z46:=Tryz.sizeOf185
 v46:=Tryz.zeroValue185
 t53:=Tryz.underlying231
 a53:=Tryz.isAgg231
 z53:=Tryz.sizeOf231
 v53:=Tryz.zeroValue231
 t119:=Tryz.underlying236
 a119:=Tryz.isAgg236
 z119:=Tryz.sizeOf236
 t138:=Tryz.underlying238
 a138:=Tryz.isAgg238
 z138:=Tryz.sizeOf238
 v138:=Tryz.zeroValue238
 t139:=Tryz.underlying239
 a139:=Tryz.isAgg239
 z139:=Tryz.sizeOf239
 v139:=Tryz.zeroValue239
 g3:=by kernel_rfl
 g4:=by kernel_rfl}
end Go.Proofs
namespace Go.Proofs.YtdnfjhflkkpokaaGreatDoor.Av
open Go Go.ChangeShapes Go.WideShapes Go.ChangeAt Go.RowKit
variable {P:Program}{t e:TypeId}{X Y H:Type}{k:IntKind}{w W w0:World}{n N g:Nat}{v:Value}{f:FuncId}{A B:Prop}{S0:SB}{E:Env}{name:String}{l:List AV}
def nF(w:World):Env:={mem:=λb o=>w.cell? ⟨b,o,none⟩,loc:=λ_=>none,tok:=λ_=>none}
theorem Rel.start(w:World)(a:tN (nF w).mem/\wj w):Rel w ⟨λ_=>False,0⟩ (nF w) [] w where
 mem _ _ _ h:=h
 blk _ _ h:=by simp at h
 fresh _ _:=rfl
 own _ _ _ h:=by simp at h
 inj _ _ _ _ _ _ h:=by simp at h
 tkfresh _ _:=rfl
 tkown _ _ _ _ _ h:=by simp at h
 tkloc _ _ _ _ _ _ _ _ h:=by simp at h
 tkinj _ _ _ _ _ _ _ _ _ _ h:=by simp at h
 frame _ _ _:=rfl
 size:=apt _
 os:=rfl
 tape:=rfl
 output:=rfl
 glob:=a.1
 gsz:=a.2
def Rd(P:Program)(t:TypeId){X:Type}(ec:X->List AV)(ok:X->Prop):Prop :=
 ∀(H:Type) (enc:TypeId×Value->H) (w:World) (fuel:Nat) (cs:List Value) (x:DataW H×List MemPlace),
  DataW.trod enc P w 0 (λ_=>true) true fuel t cs=some x->∃y,ok y/\VRL (nF w) (ec y) cs
theorem Rd.map{d:X->List AV}{ok:X->Prop}{a:Y->List AV}{b:Y->Prop}(h:Rd P t d ok)(m:∀y,ok y->∃z,b z/\a z=d y):Rd P t a b:=λH enc w c cs x f=>by obtain⟨y,g,i⟩:=h H enc w c cs x f;obtain⟨z,e,h4⟩:=m y g;exact⟨z,e,by rw[h4];exact i⟩
theorem agr(d:P.underlying t=some .bool):Rd P t (λb:Bool=>[.bool b]) (λ_=>True):=λH enc w a cs x c=>by obtain⟨b,rfl,_⟩:=DataW.trod_bool d c;exact⟨b,trivial,by simp[VRL,VR]⟩
theorem Ki(d:P.underlying t=some (.int k)):Rd P t (λn:Int=>[.int k n]) (λn=>k.min<=n/\n<=k.max):=λH enc w b cs x c=>by obtain⟨n,rfl,_,a⟩:=DataW.trod_int d c;simp only[Lit.wf,apw,decide_eq_true_eq]at a;exact⟨n,a,by simp[VRL,VR]⟩
theorem agQ{E:Env}:∀{l m:List AV}{b o:Nat},VRC E l b o->VRC E m b (o+l.length)->VRC E (l++m) b o
 |[],_,_,_,_,h=>by simpa using h
 |a::l,m,b,o,h,k=>by simp only[aqa,VRC]at h⊢;exact⟨h.1,agQ h.2 (by rw[show o+1+l.length=o+(l.length+1)by omega];exact k)⟩
theorem Wz{X:Type}(Q:Nat->X->Prop):∀n,(∀i,i<n->∃y,Q i y)->∃b:List X,b.length=n/\∀i y,b[i]?=some y->Q i y
 |0,_=>⟨[],rfl,asQ⟩
 | n+1,h=>by
   obtain⟨b,g,d⟩:=Wz Q n λi c=>h i asP
   obtain⟨y,f⟩:=h n asP;refine⟨b++[y],by simp[g],λi z a=>?_⟩;rw[aqO]at a;split at a
   .exact d i z a
   .have c:i-b.length=0:=by
     rcases aqQ (i-b.length)with e|e
     .exact e
     .rw[ard (by simp;omega)]at a;cases a
    rw[c]at a;simp at a;subst a;rw[show i=n by omega];exact f
theorem aaO{E:Env}{X:Type}{c:X->List AV}{b sz:Nat}:∀{a:List X}{o:Nat},(∀i y,a[i]?=some y->(c y).length=sz/\VRC E (c y) b (o+i*sz))->VRC E (a.flatMap c) b o
 |[],_,_=>by simp[VRC]
 |y::a,o,h=>by rw[ap5];have d:=h 0 y rfl;refine agQ (by simpa using d.2) (aaO (sz:=sz) λi z e=>?_);have:=h (i+1) z e;refine⟨this.1,?_⟩;rw[d.1,show o+sz+i*sz=o+(i+1)*sz by rw[aqy];omega];exact this.2
theorem EW{a:Addr}{cs:List Value}(h:w.cells? 0 a n=some cs):cs.length=n/\∀i,i<n->w.cell? (a.add i)=cs[i]?:=by simp only[World.cells?,apv,if_true]at h;refine⟨by simpa using mapM_some_length h,λi b=>?_⟩;exact mapM_some_get h i i (by simp[b])
theorem ab8{a:Addr}(h:w.cell? a=some v):a.spot=none:=by rcases hs:a.spot with _|s;rfl;simp only[World.cell?,hs,asl,if_true]at h;split at h<;>cases h
theorem adH{enc:TypeId×Value->H}{f:Func}{s:ChangeSpec}{e fresh d n:Bool}{m:World}{args:Array Value}{ds w:List (DataW H)}{a pa pv:List MemPlace}(y:DataW.Whole enc P f.params.toList s.vars e W args.toList ds w a)(l:∀(b:Nat) (q:Nat->Bool) (F:Bool),DataW.TrodAll enc P m b q F f.resultTypes.toList (v.resultList f.resultTypes.size) (s.fn H (ds++w)).results [])(g:∀q:Nat->Bool,(∀p∈a,q p.block=true)->DataW.TrodAll enc P m 0 q true f.params.toList args.toList (s.fn H (ds++w)).args pa)(c:∀q:Nat->Bool,(∀p∈a,q p.block=true)->DataW.TrodVars enc P m q s.vars (s.fn H (ds++w)).vars pv)(h:a=pa++pv)(B:W.keptBut m (·∈a))(A:∀b o,b<W.heap.size->m.frozen? ⟨b,o,none⟩=W.frozen? ⟨b,o,none⟩)(z:∀(j:Nat) (t:TypeId) (r:Value),f.resultTypes[j]?=some t->(v.resultList f.resultTypes.size)[j]?=some r->Value.okWide P m .any 0 t r):
  s.post enc P f e fresh d n W args v m:=by
 have x:=y.lt;have k:∀p∈a,(λb=>decide (b<W.heap.size)) p.block=true:=λp i=>by simpa using x p i
 refine⟨ds,w,a,[],pa,pv,y,l _ _ _,g _ k,c _ k,World.keptBut_mono (λp i=>⟨i,?_⟩) B,λ_=>?_⟩;rw[h,apy]at i;exact Or.inr i;obtain⟨_,_,_,_,_,D,E⟩:=y;refine⟨z,_,_,([]++pa)++pv,⟨[]++pa,pv,trodAll_append (g _ (λ_ _=>rfl)) (l _ _ _),c _ (λ_ _=>rfl),rfl,?_,?_⟩,?_⟩;intro b off i;have u:MemPlace.cell b off∈a:=by rw[h];simpa using i
 rw[A b off (x _ u)];exact D b off u;intro C;have:=E C;rw[h]at this;simpa using this;intro p i _;rw[h];simpa using i
def Sw(P:Program):Bool:=(List.range P.types.size).all λt=>match P.underlying t with|some (.slice e)=>decide (0<P.cellsOf e)|_=>true
theorem O2{H:Type}{enc:TypeId×Value->H}{P:Program}{W l:World}(a:laidOutB P=true)(c:mapsRowed P=true)(b:Sw P=true):
  ∀{ts:List TypeId}{vs:List Value}{ds:List (DataW H)}{ps:List MemPlace},(∀t∈ts,t<P.types.size)->DataW.TrodAll enc P W 0 (λ_=>true) true ts vs ds ps->(∀p∈ps,W.sameAt l p) ->
  ∀i:Nat->Bool,(∀p∈ps,i p.block=true)->DataW.TrodAll enc P l 0 i true ts vs ds ps
 |[],_,_,_,_,h,_,_,_=>by obtain⟨rfl,rfl,rfl⟩:=trodAll_nil h;exact trodAll_mk0
 | t::ts,_,_,_,hts,h,hs,i,hsp=>by
   obtain⟨v,n,d,m,p,q,rfl,rfl,rfl,j,o⟩:=trodAll_cons h;obtain⟨g,j⟩:=j;refine trodAll_cons_mk ⟨g,DataW.trod_stays (kids_rows a c) (λ{t e} s k=>?_) (λe=>by cases e) (hts t asQ) j (λr f=>hs r (aqH _ f)) (λr f=>hsp r (aqH _ f))⟩
    (O2 a c b (λu k=>hts u (by simp[k])) o (λr f=>hs r (arh _ f)) i (λr f=>hsp r (arh _ f)))
   have:=apF.1 b t (List.mem_range.2 s);rw[k]at this;simpa using this
theorem Zc{H:Type}{enc:TypeId×Value->H}{P:Program}{w:World}{base:Nat}{a:Nat->Bool}{b:Bool}:∀{ts:List TypeId}{vs:List Value}{ds:List (DataW H)}{ps:List MemPlace},DataW.TrodAll enc P w base a b ts vs ds ps->ds.length=ts.length
 |[],_,_,_,h=>by obtain⟨_,rfl,_⟩:=trodAll_nil h;rfl
 |t::ts,_,_,_,h=>by obtain⟨v,e,d,c,p,q,rfl,rfl,rfl,_,f⟩:=trodAll_cons h;simp[Zc f]
theorem aa3{fn:Func}{s:ChangeSpec}{k fresh g z:Bool}{tb:TypeId}(L:P.funcs[f]?=some fn)(w:fn.body.isSome=true)(u:(fn.name == "runtime.NumGoroutine")=false)(A:laidOutB P=true)(G:mapsRowed P=true)(B:Sw P=true)(S:fn.params.toList.all (fun t=>decide (t<P.types.size))=true)(n:fn.resultTypes=#[tb])(m:P.underlying tb=some .bool)(d:s.vars=[])(hs:∀ (H:Type) (ds:List (DataW H)),ds.length=fn.params.toList.length->(s.fn H ds).results=[.lit (.bool true)]/\(s.fn H ds).args=ds/\(s.fn H ds).vars=[]){Z:X->List AV}{ok:X->Prop}(F:∀ y,ok y->af P f (Z y) [] fun av _=>av=.bool true)(enc:TypeId×Value->H)(W:World)(args:Array Value)(ds gs:List (DataW H))(l:List MemPlace)(hA:∀ p,DataW.TrodAll enc P W 0 (fun _=>true) true fn.params.toList args.toList ds p->∃ y,ok y/\VRL (nF W) (Z y) args.toList)(K:DataW.Whole enc P fn.params.toList s.vars k W args.toList ds gs l)(C:tN (nF W).mem/\wj W):
  Calls P f args W λe I=>∃v,e=.returned v/\s.post enc P fn k fresh g z W args v I:=by
 have O:=K;have T:=K.lt;obtain⟨p,q,x,V,rfl,ai,ad⟩:=K;rw[d]at V;obtain⟨rfl,rfl⟩:=trodVars_none V;obtain⟨y,hy,N⟩:=hA p x;have E:=Zc x;obtain⟨e1,e2,e3⟩:=hs H ds E;have D:(callFunc f args).run P W=.ok (.enter f args) W:=by
  simp only[callFunc,apA,run_program,apE,L,u];cases m:fn.body with
  |none=>simp[m]at w
  |some c=>simp
 rcases F y hy W ⟨λ_=>False,0⟩ (nF W) W args.toList (Rel.start W C) N with⟨_,h⟩|⟨_,_,_,_,_,h,_⟩;refine h.mono λe I ⟨E',v,av,L',he,_,Q,Y,M⟩=>?_
 subst Q;simp only[VR]at Y;subst Y;refine⟨_,he,?_⟩;have a:∀b,b<W.heap.size->I.heap[b]?=W.heap[b]?:=λb m=>M.frame b m (λh=>h)
 have R:∀r∈p,W.sameAt I r:=λr U=>by have:=T r (by simpa using U);cases r<;>simp only[World.sameAt,MemPlace.block]at this⊢;simp only[World.cell?];rw[a _ this];exact a _ this
 refine adH (pa:=p) (pv:=[]) O (λb sp hd=>?_) (λsp J=>?_) (λ_ _=>?_) rfl ⟨M.os,M.output,λi hi=>?_⟩ (λb o m=>?_) (λj t r h1 h2=>?_);rw[ap4,e1,n];exact trodAll_cons_mk (shut_bool m _) trodAll_mk0;rw[ap4,e2];exact O2 A G B (λt ht=>by simpa using apF.1 S t ht) x R sp (λr U=>J r (by simpa using U));rw[d,ap4,e3];rfl;rw[a i hi];rcases hc:W.heap[i]? with _|o;trivial;cases o<;>simp;simp only[World.frozen?];rw[a b m];exact ok_one n rfl (okWide_bool_mk m _) j t r h1 h2;rw[show(⟨args.toList⟩:Array Value)=args from rfl,D]at h;cases h
open Go Go.ChangeShapes Go.WideShapes Go.ChangeAt
set_option maxHeartbeats 8000000
set_option maxRecDepth 100000
def RdZ(P:Program)(t:TypeId){X:Type}(ec:X->List AV)(ok:X->Prop):Prop :=
 ∀(H:Type) (enc:TypeId×Value->H) (w:World) (fuel:Nat) (cs:List Value) (x:DataW H×List MemPlace),
  DataW.trod enc P w 0 (λ_=>true) true fuel t cs=some x->(∀n∈x.1.weights P t,n<=reachBytes)->∃y,ok y/\VRL (nF w) (ec y) cs
theorem Rd.z{b:X->List AV}{ok:X->Prop}(h:Rd P t b ok):RdZ P t b ok:=λH enc w a cs x c _=>h H enc w a cs x c
theorem kJ(d:P.underlying t=some .string):RdZ P t (λs:List UInt8=>[.str s]) (λs=>s.length<=reachBytes):=λH enc w a cs x b c=>by obtain⟨s,rfl,rfl,e⟩:=DataW.trod_string d b;exact⟨s.data.toList,c _ (by simp[DataW.weights]),by simp[VRL,VR]⟩
theorem rL{H:Type}{P:Program}{e:TypeId}:∀{l:List (DataW H)}{d:DataW H},d∈l->∀n∈d.weights P e,n∈DataW.weightsAll P e l
 | a::l,d,h,n,hn=>by
   rw[DataW.weightsAll];rcases apP.1 h with rfl|h
   .exact aqH _ hn
   .exact arh _ (rL h n hn)
theorem jV{F:X->List AV}{ok:X->Prop}(S:P.underlying t=some (.slice e))(he:RdZ P e F ok)(I:decide (0<P.cellsOf e)=true):
  RdZ P t (λl:List X=>[.sl (l.flatMap F) l.length none]) (λl=>l.length<=maxLen/\∀y∈l,ok y):=λH enc w Q cs x hx J=>by
 have hz:0<P.cellsOf e:=of_decide_eq_true I;rcases DataW.trod_slice S hx with⟨rfl,_⟩|⟨a,len,cap,elems,rest,n,_,rfl,rfl,_,Y,O,ad,p,c,_⟩;exact⟨[],⟨asQ,asQ⟩,by simp only[VRL,VR];exact⟨_,_,rfl,⟨none,0,rfl,apt _,asQ,.inl ⟨rfl,rfl,rfl⟩⟩,rfl⟩⟩;have f:cap≠0->a.spot=none:=λK=>by
  have g:∀r:Option (DataW H×List MemPlace),r≠none->(w.cells? 0 (a.add (0*P.cellsOf e)) (P.cellsOf e)).bind (DataW.trod enc P w 0 (λ_=>true) true n e)=r->a.spot=none:=λr hr z=>by obtain⟨q,rfl⟩:=Option.ne_none_iff_exists'.1 hr;rw[aq3]at z;obtain⟨h,A,_⟩:=z;obtain⟨Z,M⟩:=EW A;have G:=M 0 hz;obtain⟨v,hv⟩:∃v,h[0]?=some v:=⟨h[0]'asP,apD _⟩;rw[hv]at G;have:=ab8 G;simpa[Addr.add]using this
  by_cases T:len=0;obtain⟨r1,r2⟩:=c rfl;exact g rest[0]? (by rw[apD asP];simp) (by simpa[T]using r2 0 asP)
  exact g elems[0]? (by rw[apD asP];simp) (p 0 asP)
 have C:∀i,i<len->∃y,ok y/\(F y).length=P.cellsOf e/\a.spot=none/\VRC (nF w) (F y) a.block (a.off+i*P.cellsOf e):=λi L=>by
  have z:=p i L;obtain⟨q,V⟩:∃q,elems[i]?=some q:=⟨elems[i]'asP,apD _⟩;rw[V,aq3]at z;obtain⟨h,A,h3⟩:=z;obtain⟨y,h4,W⟩:=he H enc w n h q h3 (λm hm=>J m (by simp only[DataW.weights,S];refine aqU _ (aqH _ (rL (d:=q.1) ?_ m hm));exact apz.2 ⟨q,aqj V,rfl⟩))
  obtain⟨Z,M⟩:=EW A;have T:=W.length;have c:a.spot=none:=f asP;refine⟨y,h4,asP,c,VRC.of_get λj u U=>?_⟩;obtain⟨v,G,h9⟩:=W.get U;refine⟨v,?_,h9⟩;have hj:j<P.cellsOf e:=by have:=(aps.1 U).1;omega
  have D:=M j hj;rw[G]at D;rw[<- D];have B:∀k,a.add k=⟨a.block,a.off+k,none⟩:=λk=>by obtain⟨b,o,s⟩:=a;simp only at c;subst c;exact Addr.add_mk b o k
  rw[B,Addr.add_mk];rfl
 obtain⟨N,z,A⟩:=Wz _ len C;refine⟨N,⟨asP,λy E=>?_⟩,?_⟩;obtain⟨i,L⟩:=asm E;exact(A i y L).1;simp only[VRL];refine⟨_,[],rfl,?_,rfl⟩;simp only[VR];refine⟨_,_,by rw[z],asP,asQ,?_⟩;by_cases K:cap=0;have:N=[]:=by have:N.length=0:=asP;simpa using this
 subst this;exact .inl ⟨rfl,K,rfl⟩;refine .inr ⟨a.block,a.off,?_,aaO λi y E=>⟨(A i y E).2.1,(A i y E).2.2.2⟩⟩;have R:a.spot=none:=f K;cases a;simp only at R⊢;rw[R]
theorem wP{H:Type}{P:Program}{us:List TypeId}{a:List (DataW H)}{n:Nat}:∀{ts:List TypeId}{ds:List (DataW H)},n∈DataW.weightsEach P ts ds->n∈DataW.weightsEach P (ts++us) (ds++a)
 |[],_,h=>by simp[DataW.weightsEach]at h
 |_::_,[],h=>by simp[DataW.weightsEach]at h
 | t::ts,d::ds,h=>by
   simp only[aqa,DataW.weightsEach,apy]at h⊢;rcases h with h|h
   .exact .inl h
   .exact .inr (wP h)
def amw(P:Program)(N o:Nat)(fs:List Field){X:Type}(ec:X->List AV)(ok:X->Prop):Prop :=
 ∀(H:Type) (enc:TypeId×Value->H) (w:World) (n:Nat) (cs:List Value),cs.length=N ->
  (∀f∈fs,∃x,DataW.trod enc P w 0 (λ_=>true) true n f.type ((cs.drop f.offset).take (P.cellsOf f.type))=some x/\∀m∈x.1.weights P f.type,m<=reachBytes)->∃y,ok y/\VRL (nF w) (ec y) (cs.drop o)
theorem rS{o:Nat}(h:o=N):amw P N o [] (λ_:Unit=>[]) (λ_=>True):=λH enc w n cs a _ =>
 ⟨(),trivial,by simp[VRL,h,<- a]⟩
theorem bH{o sz:Nat}{f:Field}{e:List Field}{d:X->List AV}{ok:X->Prop}{a:Y->List AV}{b:Y->Prop}(s:f.offset=o)(q:P.cellsOf f.type=sz)(h:RdZ P f.type d ok)(r:amw P N (o+sz) e a b):
  amw P N o (f::e) (λy:X×Y=>d y.1++a y.2) (λy=>ok y.1/\b y.2):=λH enc w n cs l c=>by
 obtain⟨x,k,j⟩:=c f asQ;obtain⟨y,p,i⟩:=h H enc w n _ x k j;obtain⟨z,h4,t⟩:=r H enc w n cs l λg m=>c g (by simp[m])
 refine⟨(y,z),⟨p,h4⟩,?_⟩;have:cs.drop o=(cs.drop f.offset).take (P.cellsOf f.type)++cs.drop (o+sz):=by rw[s,q,<- ash,aq5]
 rw[this];exact i.append t
theorem jH{h:Array Field}{o:X->List AV}{ok:X->Prop}(l:P.underlying t=some (.struct h))(q:P.cellsOf t=N)(r:amw P N 0 h.toList o ok):RdZ P t o ok:=λH enc w p cs x s k=>by
 subst q;obtain⟨xs,n,_,rfl,v,b,B⟩:=DataW.trod_struct l s;obtain⟨y,u,A⟩:=r H enc w n cs v λf c=>by
  obtain⟨i,e⟩:=asm c;have g:h[i]?=some f:=(by simpa using e);rw[B i f g];have a:i<xs.length:=by rw[b];have:=(aps.1 e).1;simpa using this
  refine⟨xs[i],apD a,λm z=>k m ?_⟩;simp only[DataW.weights,l];refine DataW.weights_mem_each (j:=i) (t:=f.type) (d:=xs[i].1) ?_ ?_ m z;rw[aqk,e];rfl;rw[aqk,apD a];rfl
 exact⟨y,u,by simpa using A⟩
def amy(P:Program)(ts:List TypeId){X:Type}(ec:X->List AV)(ok:X->Prop):Prop :=
 ∀(H:Type) (enc:TypeId×Value->H) (w:World) (base:Nat) (vs:List Value) (ds:List (DataW H)) (ps:List MemPlace),
  (∀(j:Nat) t v,ts[j]?=some t->vs[j]?=some v->Value.okWide P w .any base t v) ->
  DataW.TrodAll enc P w 0 (λ_=>true) true ts vs ds ps->(∀n∈DataW.weightsEach P ts ds,n<=reachBytes)->∃y,ok y/\VRL (nF w) (ec y) vs
theorem ajg :amy P [] (λ_:Unit=>[]) (λ_=>True):=λH enc w base vs ds ps _ h _=>by obtain⟨rfl,_,_⟩:=trodAll_nil h;exact⟨(),trivial,by simp[VRL]⟩
open Go Go.ChangeShapes Go.WideShapes Go.ChangeAt
theorem RdZ.map{d:X->List AV}{ok:X->Prop}{a:Y->List AV}{b:Y->Prop}(h:RdZ P t d ok)(m:∀y,ok y->∃z,b z/\a z=d y):RdZ P t a b:=λH enc w c cs x f i=>by obtain⟨y,g,j⟩:=h H enc w c cs x f i;obtain⟨z,e,h4⟩:=m y g;exact⟨z,e,by rw[h4];exact j⟩
theorem adE{ts:List TypeId}{x:X->List AV}{ok:X->Prop}{c:Y->List AV}{f:Y->Prop}(m:nB P t=some true)(h:RdZ P t x ok)(r:amy P ts c f):
  amy P (t::ts) (λy:X×Y=>.agg (x y.1)::c y.2) (λy=>ok y.1/\f y.2):=λH enc w base vs ds ps g B k=>by
 obtain⟨v,e,d,o,p,q,rfl,rfl,rfl,s,D⟩:=trodAll_cons B;obtain⟨i,s⟩:=s;obtain⟨y,C,h4⟩:=h H enc w i _ _ s (λn u=>k n (by rw[DataW.weightsEach];exact aqH _ u));obtain⟨z,F,A⟩:=r H enc w base e o q (λj t v a b=>g (j+1) t v a b) D (λn u=>k n (by rw[DataW.weightsEach];exact arh _ u));refine⟨(y,z),⟨C,F⟩,?_⟩;have l:=g 0 t v rfl rfl;unfold nB at m;have:∃cs,v=.agg cs:=by
  unfold Value.okWide at l;split at m
  all_goals rename_i E;rw[E]at l
  obtain⟨cs,h,_⟩:=l;exact⟨cs,h⟩;obtain⟨cs,h,_⟩:=l;exact⟨cs,h⟩;cases m;cases m
 obtain⟨cs,rfl⟩:=this;simp only[VRL];refine⟨_,e,rfl,?_,A⟩;simp only[VR];exact⟨cs.toList,rfl,by simpa[Value.cells]using h4⟩
theorem sk(h:B)(e:Hid B->A:=by intro hB_;simp only[Kon,push_cast,reduceIte,Nat.reduceEqDiff,Nat.reduceAdd,Nat.reduceMul,Nat.reduceSub,Nat.reduceLT,Nat.reduceLeDiff,Int.reduceLT,Int.reduceLE,Int.reduceAdd,Int.reduceSub,Int.reduceNeg,Int.reduceToNat,Int.reduceEq,reduceCtorEq, *];exact hB_.o):A:=e (hid h)
theorem sm(h:B)(e:Hid B->A:=by intro hB_;simp(config:={maxSteps:=2000000}) only[Kon,push_cast,reduceIte,Nat.reduceEqDiff,Nat.reduceAdd,Nat.reduceMul,Nat.reduceSub,Nat.reduceLT,Nat.reduceLeDiff,Int.reduceLT,Int.reduceLE,Int.reduceAdd,Int.reduceSub,Int.reduceNeg,Int.reduceToNat,Int.reduceEq,reduceCtorEq, *];exact hB_.o):A:=e (hid h)
theorem sl(h:B)(e:Hid B->A:=by intro hB_;simp only[push_cast,reduceIte,Nat.reduceEqDiff,Nat.reduceAdd,Nat.reduceMul,Nat.reduceSub,Nat.reduceLT,Nat.reduceLeDiff,Int.reduceLT,Int.reduceLE,Int.reduceAdd,Int.reduceSub,Int.reduceNeg,Int.reduceToNat,Int.reduceEq,reduceCtorEq, *];exact hB_.o):A:=e (hid h)
theorem wk(h:B)(e:Hid B->A:=by
 intro hB_
 repeat' first
  |refine bG ?_
  | (first|refine bw asR ?_|refine aN asR ?_|refine aQ ?_|refine cS ?_|refine bJ (fun _=>?_)|refine aF ?_|refine bA ?_|refine kk1.o _ _ ?_|refine kk1.o ?_|refine kk2.o _ _ ?_|refine kk2.o ?_|refine kk3.o _ _ ?_|refine kk3.o ?_|refine kk4.o _ _ ?_|refine kk4.o ?_|refine kk5.o _ _ ?_|refine kk5.o ?_|refine kk6.o _ _ ?_|refine kk6.o ?_|refine kk7.o _ _ ?_|refine kk7.o ?_|refine bf (kk1.o _ _ ⟨rfl,rfl⟩) (kk1.o _ _ ⟨rfl,rfl⟩) ?_|refine bf (kk1.o ⟨rfl,rfl⟩) (kk1.o ⟨rfl,rfl⟩) ?_|refine bf (kk2.o _ _ ⟨rfl,rfl⟩) (kk2.o _ _ ⟨rfl,rfl⟩) ?_|refine bf (kk2.o ⟨rfl,rfl⟩) (kk2.o ⟨rfl,rfl⟩) ?_|refine aM (kk1.o _ _ ⟨rfl,rfl⟩) ?_|refine aM (kk1.o ⟨rfl,rfl⟩) ?_|refine aM (kk2.o _ _ ⟨rfl,rfl⟩) ?_|refine aM (kk2.o ⟨rfl,rfl⟩) ?_|refine aM (kk3.o _ _ ⟨rfl,rfl⟩) ?_|refine aM (kk3.o ⟨rfl,rfl⟩) ?_|refine aM (kk4.o _ _ ⟨rfl,rfl⟩) ?_|refine aM (kk4.o ⟨rfl,rfl⟩) ?_|refine aM (kk5.o _ _ ⟨rfl,rfl⟩) ?_|refine aM (kk5.o ⟨rfl,rfl⟩) ?_|refine aM (kk6.o _ _ ⟨rfl,rfl⟩) ?_|refine aM (kk6.o ⟨rfl,rfl⟩) ?_|refine aM (kk7.o _ _ ⟨rfl,rfl⟩) ?_|refine aM (kk7.o ⟨rfl,rfl⟩) ?_)
    simp(config:={maxSteps:=2000000}) only[Kon,push_cast,reduceIte,Nat.reduceEqDiff,Nat.reduceAdd,Nat.reduceMul,Nat.reduceSub,Nat.reduceLT,Nat.reduceLeDiff,Int.reduceLT,Int.reduceLE,Int.reduceAdd,Int.reduceSub,Int.reduceNeg,Int.reduceToNat,Int.reduceEq,reduceCtorEq, *]
  | (first|refine bq asR ?_|refine bm ?_|refine aP ?_|refine bz ?_|refine bO (aE ?_))
    simp only[push_cast,reduceIte,Nat.reduceEqDiff,Nat.reduceAdd,Nat.reduceMul,Nat.reduceSub,Nat.reduceLT,Nat.reduceLeDiff,Int.reduceLT,Int.reduceLE,Int.reduceAdd,Int.reduceSub,Int.reduceNeg,Int.reduceToNat,Int.reduceEq,reduceCtorEq, *]
  |exact bK
  |first|apply bL|apply br|apply bM|apply bu|apply bN|apply bv
  |refine aT ?_
  |refine aO ?_
  |first|refine aR rfl ?_|refine aS rfl ?_|refine aB rfl ?_ ?_
  |((first|refine aA (λ_=>?_) (λ_=>?_)|refine aD (λ_=>?_) (λ_=>?_))<;>try simp(config:={maxSteps:=2000000}) only[Kon,push_cast,reduceIte,Nat.reduceEqDiff,Nat.reduceAdd,Nat.reduceMul,Nat.reduceSub,Nat.reduceLT,Nat.reduceLeDiff,Int.reduceLT,Int.reduceLE,Int.reduceAdd,Int.reduceSub,Int.reduceNeg,Int.reduceToNat,Int.reduceEq,reduceCtorEq, *])
  |refine And.intro trivial ?_
  |refine And.intro asP ?_
  |refine bd rfl (λ_=>?_) (λ_=>?_)
 exact hB_.o):A:=e (hid h)
theorem asX(h:B)(e:Hid B->A:=by intro hB_;refine sk ?_;refine wk ?_;exact hB_.o):A:=e (hid h)
theorem apo{own:Nat->Nat->Nat}{a:aK}(h:aL P own f=some a.raw){args:List AV}{L:List Blk}{Q:AV->List Blk->Prop}(b:B)(c:Nat.ble args.length a.ntmps=true:=by rfl)(e:Hid B->AW P a.ntmps own a.code (an9 a.res L Q) (ag 0 args) L:=by
 intro hB_;simp only[push_cast]
 repeat' first
  |refine bG ?_
  | (first|refine bw asR ?_|refine aN asR ?_|refine aQ ?_|refine cS ?_|refine bJ (fun _=>?_)|refine aF ?_|refine bA ?_|refine kk1.o _ _ ?_|refine kk1.o ?_|refine kk2.o _ _ ?_|refine kk2.o ?_|refine kk3.o _ _ ?_|refine kk3.o ?_|refine kk4.o _ _ ?_|refine kk4.o ?_|refine kk5.o _ _ ?_|refine kk5.o ?_|refine kk6.o _ _ ?_|refine kk6.o ?_|refine kk7.o _ _ ?_|refine kk7.o ?_|refine bf (kk1.o _ _ ⟨rfl,rfl⟩) (kk1.o _ _ ⟨rfl,rfl⟩) ?_|refine bf (kk1.o ⟨rfl,rfl⟩) (kk1.o ⟨rfl,rfl⟩) ?_|refine bf (kk2.o _ _ ⟨rfl,rfl⟩) (kk2.o _ _ ⟨rfl,rfl⟩) ?_|refine bf (kk2.o ⟨rfl,rfl⟩) (kk2.o ⟨rfl,rfl⟩) ?_|refine aM (kk1.o _ _ ⟨rfl,rfl⟩) ?_|refine aM (kk1.o ⟨rfl,rfl⟩) ?_|refine aM (kk2.o _ _ ⟨rfl,rfl⟩) ?_|refine aM (kk2.o ⟨rfl,rfl⟩) ?_|refine aM (kk3.o _ _ ⟨rfl,rfl⟩) ?_|refine aM (kk3.o ⟨rfl,rfl⟩) ?_|refine aM (kk4.o _ _ ⟨rfl,rfl⟩) ?_|refine aM (kk4.o ⟨rfl,rfl⟩) ?_|refine aM (kk5.o _ _ ⟨rfl,rfl⟩) ?_|refine aM (kk5.o ⟨rfl,rfl⟩) ?_|refine aM (kk6.o _ _ ⟨rfl,rfl⟩) ?_|refine aM (kk6.o ⟨rfl,rfl⟩) ?_|refine aM (kk7.o _ _ ⟨rfl,rfl⟩) ?_|refine aM (kk7.o ⟨rfl,rfl⟩) ?_)
    simp(config:={maxSteps:=2000000}) only[Kon,push_cast,reduceIte,Nat.reduceEqDiff,Nat.reduceAdd,Nat.reduceMul,Nat.reduceSub,Nat.reduceLT,Nat.reduceLeDiff,Int.reduceLT,Int.reduceLE,Int.reduceAdd,Int.reduceSub,Int.reduceNeg,Int.reduceToNat,Int.reduceEq,reduceCtorEq, *]
  | (first|refine bq asR ?_|refine bm ?_|refine aP ?_|refine bz ?_|refine bO (aE ?_))
    simp only[push_cast,reduceIte,Nat.reduceEqDiff,Nat.reduceAdd,Nat.reduceMul,Nat.reduceSub,Nat.reduceLT,Nat.reduceLeDiff,Int.reduceLT,Int.reduceLE,Int.reduceAdd,Int.reduceSub,Int.reduceNeg,Int.reduceToNat,Int.reduceEq,reduceCtorEq, *]
  |exact bK
  |first|apply bL|apply br|apply bM|apply bu|apply bN|apply bv
  |refine aT ?_
  |refine aO ?_
  |first|refine aR rfl ?_|refine aS rfl ?_|refine aB rfl ?_ ?_
  |((first|refine aA (λ_=>?_) (λ_=>?_)|refine aD (λ_=>?_) (λ_=>?_))<;>try simp(config:={maxSteps:=2000000}) only[Kon,push_cast,reduceIte,Nat.reduceEqDiff,Nat.reduceAdd,Nat.reduceMul,Nat.reduceSub,Nat.reduceLT,Nat.reduceLeDiff,Int.reduceLT,Int.reduceLE,Int.reduceAdd,Int.reduceSub,Int.reduceNeg,Int.reduceToNat,Int.reduceEq,reduceCtorEq, *])
  |refine And.intro trivial ?_
  |refine And.intro asP ?_
  |refine bd rfl (λ_=>?_) (λ_=>?_)
 exact hB_.o):af P f args L Q:=ab h (Nat.le_of_ble_eq_true c) (e (hid b))
attribute [push_cast] ag
structure EC(w w':World):Prop where
 heap:∀b,b<w.heap.size->w'.heap[b]?=w.heap[b]?
 size:w.heap.size<=w'.heap.size
 os:w'.os=w.os
 tape:w'.tape=w.tape
 output:w'.output=w.output
theorem EC.refl(w:World):EC w w:=⟨λ_ _=>rfl,apt _,rfl,rfl,rfl⟩
theorem EC.of_grow(w:World)(k:Nat)(os:Array Obj):EC w (Sort.grow (w.drewN k) os):=by
 refine⟨λb a=>?_,?_,rfl,rfl,rfl⟩;show(w.heap++os)[b]?=_
 grind
 simp
theorem Rel.grown{L:List Blk}{w':World}(h:Rel w0 S0 E L w)(g:EC w w'):Rel w0 S0 E L w':=by
 refine⟨λb o v j=>?_,λi k a=>?_,h.fresh,h.own,h.inj,h.tkfresh,h.tkown,h.tkloc,h.tkinj,λk a m=>?_,apR h.size g.size,g.os.trans h.os,g.tape.trans h.tape,g.output.trans h.output,h.glob,
  h.gsz.mod λb cs ty fr f=>⟨cs,ty,fr,by rw[g.heap b (aqh.1 f).1];exact f,rfl⟩⟩
 have:=h.mem b o v j;simp only[World.cell?]at this⊢;rw[g.heap b (h.mem_lt j)];exact this;cases hl:k.live;refine bZ.still hl rfl (λt c n sz e l d=>?_) (h.blk i k a);subst e;exact g.heap _ (h.tok_lt a l d);exact bZ.worldL hl (λc d=>g.heap _ (h.loc_lt a hl d)) (h.blk i k a);rw[g.heap k (aqD a h.size)];exact h.frame k a m
theorem dE{fn:Func}(g:P.funcs[f]?=some fn)(j:fn.body.isSome=true)(l:(fn.name == "runtime.NumGoroutine")=false){args:List AV}{L:List Blk}{K:AV->List Blk->Prop}{r:AV}(b:∀ (w0:World) (S0:SB) (E:Env) (w:World) (vs:List Value),Rel w0 S0 E L w->VRL E args vs->Calls P f ⟨vs⟩ w fun e w'=>∃ v,e=.returned v/\VR E r v/\EC w w')(d:K r L):af P f args L K:=fun w0 S0 E w vs hR hv=>by
 refine .inl ⟨?_,(b w0 S0 E w vs hR hv).mono λe w' ⟨v,i,k,a⟩=>⟨E,v,r,L,i,.refl E,d,k,hR.grown a⟩⟩;simp only[callFunc,apA,run_program,apE,g,l];cases h:fn.body with
 |none=>simp[h]at j
 |some c=>simp
theorem Rel.table{L:List Blk}(h:Rel w0 S0 E L w){zs:List Int}(j:P.globalNamed name=some g)(n:gb g=some (zs.map (AV.int k)))(c:zs≠[]):
  Lib.TabIs P w name k zs:=by
 have e:=ET n;obtain⟨cs,ty,fr,d,m⟩:=h.gsz _ e (by simpa using c);simp only[apQ]at m;simp only[Lib.TabIs,World.var?,j,aqF,d,apu];apply Array.ext;simp[*];intro i p l;have o:=h.glob.env e;have b:i<zs.length:=asP;obtain⟨v,f,h4⟩:=o.get (i:=i) (a:=.int k zs[i]) (by simp[b]);subst h4;have:=h.mem _ _ _ f;simp only[World.cell?,d]at this;simp_all
theorem Rel.reblk{L:List Blk}(h:Rel w0 S0 E L w){i:Nat}{c c':List AV}(u:L[i]?=some (.cells c))(q:c'.length=c.length)(P:∀(j:Nat) (C:AV),c'[j]?=some C->∃a,c[j]?=some a/\∀v,VR E a v->VR E C v):Rel w0 S0 E (L.set i (.cells c')) w:=by
 have f:i<L.length:=(aps.1 u).1;have l:∀(j:Nat) (k:Blk),(L.set i (.cells c'))[j]?=some k->k.live=true->∃k',L[j]?=some k'/\k'.live=true:=λj k g r=>by rw[ap3]at g;split at g;rename_i e;subst e;exact⟨_,u,rfl⟩;simp[*]
 have b:∀(j n sz:Nat),(L.set i (.cells c'))[j]?=some (.spare n sz)->L[j]?=some (.spare n sz):=λj n sz g=>by grind
 refine⟨h.mem,λj k g=>?_,λi f=>h.fresh i (by simpa using f),λi k c g r M=>?_,λi j k k' c c' f G x I=>?_,
  λi f=>h.tkfresh i (by simpa using f),λi n sz t d f=>h.tkown i n sz t d (b i n sz f),λi n sz t d j k' c' f A z x r=>?_,
  λi n sz t d B D m t' O f A z y=>h.tkinj i n sz t d B D m t' O (b i n sz f) A z (b B D m y),h.frame,h.size,h.os,h.tape,h.output,h.glob,h.gsz⟩
 rw[ap3]at g;split at g;rename_i e;subst e;cases g;obtain⟨N,cs,ty,fr,g1,F,g3,g4,Q,H⟩:=h.blk _ _ u;refine⟨N,cs,ty,fr,g1,F,g3,by rw[q];exact g4,λj a R=>?_,H⟩
 grind
 exact h.blk j k g;obtain⟨k',o,p⟩:=l i k g r;exact h.own i k' c o p M;obtain⟨s,o,p⟩:=l i k f G;obtain⟨K,J,h4⟩:=l j k' x I;exact h.inj i j s K c c' o p J h4;obtain⟨s,o,p⟩:=l j k' x r;exact h.tkloc i n sz t d j s c' (b i n sz f) A z o p
theorem VR.grow{i sz:Nat}(f:E.tok i=some ⟨n,sz,none⟩)(e:l.length=n*sz)(h:VR E (.sl l n (some n)) v):VR E (.gsl l n i sz) v:=by obtain⟨p,c',a,c,d,b⟩:=h;exact⟨p,c',a,c,e,b,⟨n,sz,none⟩,f,apt _,λ_=>⟨rfl,λ_=>d n rfl,asQ⟩⟩
theorem aaW{own:Nat->Nat->Nat}{Q:Exit->Tm->List Blk->Prop}{T:Tm}{L:List Blk}{lc:bP}(i j sz:Nat){c:List AV}(m:L[i]?=some (.cells c))(y:c[j]?=some (.sl l n (some n)))(G:l.length=n*sz)(h:AW P N own lc Q T (L.set i (.cells (c.set j (.gsl l n L.length sz)))++[.spare n sz])):AW P N own lc Q T L:=λu A r t w0 S0 E a w d=>by
 obtain⟨o,D⟩:=d.1.addtok (n:=n) (sz:=sz) (lc:=none) Xn;have q:i<L.length:=(aps.1 m).1;have g:(L++[Blk.spare n sz])[i]?=some (.cells c):=by rw[apx q];exact m
 have p:=D.reblk g (c':=c.set j (.gsl l n L.length sz)) asQ λk H f=>by rw[ap3]at f;split at f;rename_i e;subst e;split at f;cases f;exact⟨_,y,λv x=>VR.grow asQ G x⟩;simp[*];simp[*]
 rw[aqB _ _ q]at p;exact wpIn_mono (h u A r t w0 S0 _ a w ⟨p,d.2.1.mono o,d.2.2⟩) λe H w' ⟨F,C,E',T1,L1,b,s,z,B⟩=>⟨F,C,E',T1,L1,b,o.trans s,z,B⟩
theorem u8n(h:n<256):(UInt8.ofNat n).toNat=n:=by simp only[UInt8.toNat_ofNat'];exact Nat.mod_eq_of_lt h
theorem Es:∀(u:Nat),∃c r,Lib.decDigits u=c::r/\48<=c.toNat/\c.toNat<=57/\(c.toNat=48->u=0):=by
 intro u;induction u using Nat.strongRecOn with
 | _ u ih =>
   by_cases a:u<10
   .refine⟨UInt8.ofNat (48+u),[],by rw[Lib.decDigits,dif_pos a],?_⟩;rw[u8n asP];omega
   .obtain⟨c,r,e,h1,h2,h3⟩:=ih (u/10) asP;exact⟨c,r++[UInt8.ofNat (48+u%10)],by rw[Lib.decDigits,dif_neg a,e];rfl,h1,h2,λh=>by have:=h3 h;omega⟩
theorem ahx(t:List UInt8):∀(u:Nat),u<=18446744073709551615->Lib.parseUintM 18446744073709551615 0 (Lib.decDigits u++t)=Lib.parseUintM 18446744073709551615 u t:=by
 intro u;induction u using Nat.strongRecOn generalizing t with
 | _ u ih =>
   intro b;by_cases a:u<10
   .rw[Lib.decDigits,dif_pos a];simp only[aqa,apZ];rw[Lib.parseUintM,u8n asP,if_pos asP,if_neg asP,if_neg asP];congr 1;omega
   .rw[Lib.decDigits,dif_neg a,apG,ih (u/10) asP _ asP];simp only[aqa,apZ];rw[Lib.parseUintM,u8n asP,if_pos asP,if_neg asP,if_neg asP];congr 1;omega
theorem ZC{u:Nat}(a:u<=18446744073709551615):Lib.parseUintB 64 (Lib.decDigits u)=.ok u:=by obtain⟨c,r,e,_⟩:=Es u;unfold Lib.parseUintB;rw[if_neg (by rw[e];simp)];have:=ahx [] u a;rw[ap4]at this;exact this
def I64(m:Int):Prop:=-9223372036854775808<=m/\m<=9223372036854775807
theorem aff{m:Int}(f:I64 m):Lib.parseIntB 64 (Lib.itoa m)=.ok m:=by obtain⟨j,i⟩:=f;unfold Lib.itoa;by_cases b:m<0;rw[if_pos b];simp only[Lib.parseIntB];have a:(45:UInt8).toNat=45:=rfl;rw[if_pos (.inr a),ZC asP];simp only[a];simp only[not_true_eq_false,false_and,if_false,true_and,if_true];rw[if_neg asP];congr 1;omega;rw[if_neg b];obtain⟨c,r,e,h,g,_⟩:=Es m.toNat;have d:=ZC (u:=m.toNat) asP;rw[e]at d⊢;simp only[Lib.parseIntB];rw[if_neg asP,d];simp only;rw[if_neg asP,if_neg asP,if_neg asP];congr 1;omega
theorem ahI(m:Int):∃c r,Lib.itoa m=c::r/\(c.toNat=45\/48<=c.toNat/\c.toNat<=57)/\(c.toNat=48->r=[]):=by unfold Lib.itoa;by_cases a:m<0;rw[if_pos a];exact⟨45,_,rfl,.inl rfl,λh=>by simp at h⟩;rw[if_neg a];obtain⟨c,r,e,d,b,h4⟩:=Es m.toNat;refine⟨c,r,e,.inr ⟨d,b⟩,λh=>?_⟩;rw[h4 h,Lib.decDigits,dif_pos asP]at e;cases e;rfl
theorem X9{l:List UInt8}{v:Int}(h:Lib.parseIntB 64 l=.ok v):I64 v:=by unfold Lib.parseIntB at h;split at h;cases h;simp only at h;split at h;cases h;cases h;rename_i u _;split at h;cases h;rename_i h1;split at h;cases h;rename_i h2;cases h;unfold I64;by_cases e:(‹UInt8›).toNat=45;simp only[e,true_and,if_true]at h2⊢;omega;simp only[e,not_false_eq_true,true_and,if_false]at h1⊢;omega
def Yq(l:List UInt8):Int:=match Lib.parseIntB 64 l with
 |.ok n=>n
 |.syntax=>0
 |.range=>Lib.intSat 64 l
def tj(l:List UInt8):Bool:=match Lib.parseIntB 64 l with
 |.ok n=>decide (Lib.itoa n=l)
 |_=>false
theorem ajr{m:Int}(a:I64 m):tj (Lib.itoa m)=true/\Yq (Lib.itoa m)=m:=by simp[tj,Yq,aff a]
theorem aiJ{zs:List Int}(h:Lib.TabIs P W name k zs)(b:P.globalNamed name=some g):
  VRC ⟨(nF W).mem,λ_=>none,λ_=>none⟩ (zs.map (AV.int k)) g 0/\∃cs ty fr,W.heap[g]?=some (.cells cs ty fr)/\cs.size=(zs.map (AV.int k)).length:=by
 refine⟨VRC.of_get λi a d=>?_,?_⟩;obtain⟨z,c,rfl⟩:=aqk ..▸d |> ap6.1;have e:=(aps.1 c).1;refine⟨.int k z,?_,by simp[VR]⟩;have:=h.cell b i e;rw[apO,c]at this;simpa[nF]using this;simp only[Lib.TabIs,World.var?,b,aqF]at h;split at h;rename_i cs ty fr f;refine⟨cs,ty,fr,f,?_⟩;rw[Option.some.inj h];simp;cases h
theorem agm{b:TypeId}{x:Value}(h:W.var? P name=some #[.iface b x])(d:P.globalNamed name=some g):
  VRC ⟨(nF W).mem,λ_=>none,λ_=>none⟩ [.iface b .undef] g 0/\∃cs ty fr,W.heap[g]?=some (.cells cs ty fr)/\cs.size=[AV.iface b .undef].length:=by
 refine⟨VRC.of_get λi a c=>?_,?_⟩;cases i with
 | zero =>
   simp only[aqm,apu]at c;subst c;have:=World.var?_cell d h 0;exact⟨.iface b x,by simpa[nF]using this,by simp[VR]⟩
 |succ i=>simp at c
 simp only[World.var?,d,aqF]at h;split at h;rename_i cs ty fr e;exact⟨cs,ty,fr,e,by rw[Option.some.inj h];rfl⟩;cases h
theorem aj7{m:Nat->Nat->Option Value}:(∀p∈([]:List (Nat×List AV)),VRC ⟨m,λ_=>none,λ_=>none⟩ p.2 p.1 0/\∃cs ty fr,w.heap[p.1]?=some (.cells cs ty fr)/\cs.size=p.2.length):=λ_ h=>by cases h
theorem rJ{m:Nat->Nat->Option Value}{r:List (Nat×List AV)}(h:VRC ⟨m,λ_=>none,λ_=>none⟩ l g 0/\∃cs ty fr,w.heap[g]?=some (.cells cs ty fr)/\cs.size=l.length)(b:∀p∈r,VRC ⟨m,λ_=>none,λ_=>none⟩ p.2 p.1 0/\∃cs ty fr,w.heap[p.1]?=some (.cells cs ty fr)/\cs.size=p.2.length):
  ∀p∈(g,l)::r,VRC ⟨m,λ_=>none,λ_=>none⟩ p.2 p.1 0/\∃cs ty fr,w.heap[p.1]?=some (.cells cs ty fr)/\cs.size=p.2.length:=λp a=>by
 rcases apP.1 a with rfl|a;exact h;exact b p a
theorem ahY(b:∀g∈VV,∃z,(nF w).mem g 0=some (.int .i64 z))(h:∀p∈OP,VRC ⟨(nF w).mem,λ_=>none,λ_=>none⟩ p.2 p.1 0/\∃cs ty fr,w.heap[p.1]?=some (.cells cs ty fr)/\cs.size=p.2.length):tN (nF w).mem/\wj w :=
 ⟨⟨λp a=>(h p a).1,b⟩,λp a _=>(h p a).2⟩
open Go Go.Lib
theorem adZ(h:W.ShapedOpen Tryz.prog):∀g∈VV,∃z,(nF W).mem g 0=some (.int .i64 z):=λg a=>by simp only[VV,apT]at a;subst a;obtain⟨m,b⟩:=cell_of_shapedOpen_int (zero:=#[.int .i64 0]) (t:=3) h (of_decide_eq_true asR) asR asR asR asR Tryz.underlying3;exact⟨m,by simpa[nF]using b⟩
theorem ams{enc:TypeId×Value->H}{base:Nat}{c:Nat->Bool}{b:Bool}{a:Nat}{cs:List Value}{x:DataW H×List MemPlace}(d:P.underlying t=some (.array n e))(h:DataW.trod enc P w base c b a t cs=some x):cs.length=P.cellsOf t:=by
 cases a with
 |zero=>simp[DataW.trod]at h
 | succ a =>
   simp only[DataW.trod,d]at h;split at h
   .assumption
   .cases h
theorem Zj{d:DataW Unit}(h:VarReads P W name d)(j:P.globalNamed name=some g)(c:(P.globals[g]?).map (·.type)=some t)(q:P.underlying t=some (.array n e)):
  ∃cs ty fr,W.heap[g]?=some (.cells cs ty fr)/\cs.size=P.cellsOf t:=by
 obtain⟨r,t',cs,k,p,f,b,a,o⟩:=h;obtain rfl:=Option.some.inj (j.symm.trans f);obtain rfl:=Option.some.inj (c.symm.trans b);have m:=ams q o;simp only[World.var?,j,aqF]at a;split at a;rename_i i ty fr l;exact⟨i,ty,fr,l,by rw[Option.some.inj a];simpa using m⟩;cases a
theorem rN:U8Extra Tryz.prog Tryz.lays196_ren:={n3:=asR,n4:=asR,y3:=asR,y4:=asR,c5:=asR,c119:=asR,c138:=by kernel_rfl}
theorem Tw:U8Types Tryz.prog Tryz.lays196_ren:=U8Types.of196 Tryz.lays196
theorem adj(h:∀i a,l[i]?=some a->∃k z,a=.int k z/\W.cell? ⟨g,i,none⟩=some (.int k z)):VRC ⟨(nF W).mem,λ_=>none,λ_=>none⟩ l g 0 :=
 VRC.of_get λi a c=>by obtain⟨k,z,rfl,b⟩:=h i a c;exact⟨.int k z,by simpa[nF]using b,by simp[VR]⟩
theorem aki(d:VarReads Tryz.prog W "unicode/utf8.first" firstData)(h4:VarReads Tryz.prog W "unicode/utf8.acceptRanges" acceptData)(l:List AV)(g:gb 0=some l):
  VRC ⟨(nF W).mem,λ_=>none,λ_=>none⟩ l 0 0/\∃cs ty fr,W.heap[0]?=some (.cells cs ty fr)/\cs.size=l.length:=by
 have m:=utf8Tabs_of_readsT Tw rN d h4;have e:gb 0=some ((List.range 256).map λc=>AV.int .u8 (Lib.firstT c:Int)):=asR;rw[e]at g;obtain rfl:=Option.some.inj g;refine⟨adj λi a h=>?_,?_⟩;simp only[aqk,ap6]at h;obtain⟨c,f,rfl⟩:=h;have k:i<256:=by have:=(aps.1 f).1;simpa using this
 have b:c=i:=by have:=(aps.1 f).2;simpa using this.symm
 subst b;exact⟨_,_,rfl,m.1 c k⟩;obtain⟨cs,ty,fr,j,n⟩:=Zj d rN.n3 rN.y3 Tw.t119;exact⟨cs,ty,fr,j,by rw[n,rN.c119];simp⟩
theorem akE:∀(n:Nat) (i:Nat) (a:AV),((List.range n).flatMap λi=>[AV.int .u8 (Lib.accLo i:Int),AV.int .u8 (Lib.accHi i:Int)])[i]?=some a->∃j,j<n/\((i=2*j/\a=.int .u8 (Lib.accLo j:Int))\/(i=2*j+1/\a=.int .u8 (Lib.accHi j:Int)))
 |0,i,a,h=>by simp at h
 | n+1,i,a,h=>by
   have b:∀n:Nat,((List.range n).flatMap λi=>[AV.int .u8 (Lib.accLo i:Int),AV.int .u8 (Lib.accHi i:Int)]).length=2*n:=λn=>by
    induction n with
    |zero=>simp
    |succ n ih=>rw[List.range_succ,arT,apB,ih];simp;omega
   rw[List.range_succ,arT]at h;rcases apV i (2*n)with c|c
   .rw[apx (by rw[b];exact c)]at h;obtain⟨j,e,d⟩:=akE n i a h;exact⟨j,asP,d⟩
   .rw[apH (by rw[b];exact c),b]at h;refine⟨n,asP,?_⟩;rcases hk:i-2*n with _|_|k
    .rw[hk]at h;simp at h;exact .inl ⟨asP,h.symm⟩
    .rw[hk]at h;simp at h;exact .inr ⟨asP,h.symm⟩
    .rw[hk]at h;simp at h
theorem anV(f:VarReads Tryz.prog W "unicode/utf8.first" firstData)(h4:VarReads Tryz.prog W "unicode/utf8.acceptRanges" acceptData)(l:List AV)(b:gb 1=some l):
  VRC ⟨(nF W).mem,λ_=>none,λ_=>none⟩ l 1 0/\∃cs ty fr,W.heap[1]?=some (.cells cs ty fr)/\cs.size=l.length:=by
 have c:=utf8Tabs_of_readsT Tw rN f h4;have e:gb 1=some ((List.range 16).flatMap λi=>[AV.int .u8 (Lib.accLo i:Int),AV.int .u8 (Lib.accHi i:Int)]):=asR;rw[e]at b;obtain rfl:=Option.some.inj b;refine⟨adj λi a h=>?_,?_⟩;obtain⟨j,d,⟨rfl,rfl⟩|⟨rfl,rfl⟩⟩:=akE 16 i a h;exact⟨_,_,rfl,(c.2 j d).1⟩;exact⟨_,_,rfl,(c.2 j d).2⟩;obtain⟨cs,ty,fr,g,k⟩:=Zj h4 rN.n4 rN.y4 Tw.t139;exact⟨cs,ty,fr,g,by rw[k,show Tryz.prog.cellsOf (Tryz.lays196_ren.t 139)=32 by kernel_rfl];rfl⟩
abbrev Atr:=List UInt8×List (List UInt8)
theorem jb(p:Nat->Bool)(xs:List (List UInt8)):AV.refsL p (xs.map AV.str)=true:=AV.refsL_iff.2 λa b=>by obtain⟨x,_,rfl⟩:=apz.1 b;rfl
theorem ajp(xs:List (List UInt8)):(xs.map AV.str).all AV.one=true:=by rw[apF];intro a b;obtain⟨x,_,rfl⟩:=apz.1 b;rfl
abbrev atA(a:Atr):List AV:=[.str a.1,.sl (a.2.map AV.str) a.2.length none]
def aJ(l:List Atr):List AV:=l.flatMap atA
theorem OR(a:Atr)(l:List Atr):aJ (a::l)=.str a.1 :: .sl (a.2.map AV.str) a.2.length none::aJ l:=rfl
theorem Wq(l m:List Atr):aJ (l++m)=aJ l++aJ m:=by simp[aJ]
theorem iI(l:List Atr):(aJ l).length=l.length*2:=by
 induction l with
 |nil=>rfl
 |cons a l ih=>rw[OR];simp only[apC];omega
theorem ko(p:Nat->Bool):∀l:List Atr,AV.refsL p (aJ l)=true
 |[]=>rfl
 |a::l=>by rw[OR];simp[AV.refsL,AV.refs,jb,ko p l]
theorem iV(l:List (List UInt8)):AV.frzL (l.map AV.str)=l.map AV.str:=by rw[AV.frzL_eq,apS];rfl
theorem fi:∀l:List Atr,AV.frzL (aJ l)=aJ l
 |[]=>rfl
 |a::l=>by rw[OR];simp only[AV.frzL,AV.frz,iV,fi l]
theorem jF:∀{l:List Atr}{k:Nat},k<l.length->((aJ l).drop (k*2)).take 2=atA (l.getD k ([],[]))
 |a::l,0,_=>rfl
 |a::l,k+1,h=>by have b:=@jF l k (by simpa using h);rw[show(k+1)*2=k*2+1+1 by omega,OR];simp[*]
abbrev Sy(l:List (List UInt8)):AV:=.sl (l.map AV.str) l.length none
theorem aaI{l:List Atr}{k:Nat}(a:k<l.length):(aJ l).getD (k*2+1) .undef=Sy (l.getD k ([],[])).2:=by have b:=congrArg (λl=>l[1]?) (jF a);simp_all
end Go.Proofs.YtdnfjhflkkpokaaGreatDoor.Av
set_option maxRecDepth 100000
namespace Go.Proofs.YtdnfjhflkkpokaaGreatDoor.Av
open Go
def K2:LSO:=[Ak 2]
def K1:LSO:=[Ak 3]
def K0:LSO:=[Aa 6 0,Ah 7 6,Ac 8 0]
def KZ:LSO:=[Al 9 8 7]
def KY:LSO:=[Am 10 2 6 8,Ar 11 2 10,Bo 5,Ap 2 5 11]
def KX:List (aw×Kd):=
 [AD 12 3,A9 13 0 5,AA 14 1 13 0 1,od 15 (.bslice false 1 0 [] []) (.read 0 0),A9 16 1 5,AA 17 1 16 0 0,od 18 (.app 0 1 16 [(.str [])] (tm 15) (tm 17)) .eff,Cv 19 14 18,
 Cw 20 19 0 0]
def Gf:List aw :=
 [⟨(some 21),(.app 1 2 40 [(.str []),(.sl [] 0 (some 0))] (tm 12) (tm 20)),none⟩,⟨(some 3),(.mv (tm 21)),none⟩]
def KW:LSO:=[Ai 22 8 1,Aa 8 22]
def KV:LSO:=[Aa 23 3,Aa 2 23]
def E8:aK:=⟨24,(asI K2 [] (asI K1 [] (.seq (asI K0 [] (asL 0 (asI KZ [] (.seq (asM 9 0) (.seq (.block 1 (asI KY C6 (.dregM KX Gf CU))) (.sreg KW C4)))))) (asI KV C4 .ret)))),[(.tmp 2)]⟩
attribute [push_cast] K2 K1 K0 KZ KY KX Gf KW KV
theorem Yw:aL Tryz.prog (λr i=>if r=5/\i=6 then 0 else 1) 16=some E8.raw:=asR
def Li:LSO:=[Af 4]
def Lh:LSO:=[Aa 7 0,Ah 8 7,Aa 9 1,Ah 10 9,Be 11 8 10]
def Lg:LSO:=[Af 4]
def Lf:LSO:=[Aa 12 0,Ah 13 12,Ac 14 0]
def Le:LSO:=[Al 15 14 13]
def Ld:LSO:=[Aa 16 14,Aa 5 16]
def Lc:LSO:=[Aa 17 0,Aa 18 5,Am 19 2 17 18,Ad 20 0 19,Ab 21 1 20,Aa 22 1,Aa 23 5,Am 24 2 22 23,Ad 25 0 24,Ab 26 1 25,Be 27 21 26,Aa 28 27,.grp none 28 false
 [Ag 29 28 0,Ag 30 28 5,BC 31 28 2 29 30,A3 32 28 1 31,Ay 33 28 1 32,AM 34 28 33,Ag 35 28 1,Ag 36 28 5,BC 37 28 2 35 36,A3 38 28 1 37,Ay 39 28 1 38,AM 40 28 39,
 og 41 28 false (.bin .neq (tm 34) (tm 40))]
 42 (tm 41)]
def La:LSO:=[Af 4]
def K9:LSO:=[Aa 43 0,Aa 44 5,Am 45 2 43 44,Ad 46 1 45,Ab 47 1 46,Ah 48 47,Ac 49 0]
def K8:LSO:=[Al 50 49 48]
def Gl:LSO:=[Aa 51 49,Aa 6 51]
def Gk:LSO:=[Aa 52 0,Aa 53 5,Am 54 2 52 53,Ad 55 1 54,Ab 56 1 55,Aa 57 6,Am 58 1 56 57,Ab 59 1 58,Aa 60 1,Aa 61 5,Am 62 2 60 61,Ad 63 1 62,Ab 64 1 63,Aa 65 6,
 Am 66 1 64 65,Ab 67 1 66,Be 68 59 67]
def Gj:LSO:=[Af 4]
def Gi:LSO:=[Ai 69 49 1,Aa 49 69]
def Gh:LSO:=[Ai 70 14 1,Aa 14 70]
def Gg:LSO:=[A0 4]
def E9:aK:=⟨71,(asI Li [] (.seq (asI Lh CA (asK 11 (.sreg Lg []))) (.seq (asI Lf CD (asL 0 (asI Le [] (.seq (asM 15 0) (.seq (.block 1 (asI Ld C4 (.seq (.seq (.sdreg Lc [.pure,.pure,(.read 0 0),.pure,(.read 0 0),.pure,.pure,(.read 0 0),.pure,(.read 0 0),.pure,.pure,.pure,.pure,(.read 0 0),.pure,(.read 0 0),(.read 0 0),.pure,.pure,(.read 0 0),.pure,(.read 0 0),(.read 0 0)] Dp) (asK 42 (.sreg La []))) (asI K9 CH (asL 2 (asI K8 [] (.seq (asM 50 2) (.seq (.block 3 (asI Gl C4 (.seq (.sdreg Gk [.pure,.pure,(.read 0 0),.pure,(.read 0 0),.pure,(.read 0 0),(.read 0 0),.pure,.pure,(.read 0 0),.pure,(.read 0 0),.pure,(.read 0 0),(.read 0 0)] Df) (asK 68 (.sreg Gj []))))) (.sreg Gi C4))))))))) (.sreg Gh C4)))))) (asI Gg [] .ret)))),[(.tmp 4)]⟩
attribute [push_cast] Li Lh Lg Lf Le Ld Lc La K9 K8 Gl Gk Gj Gi Gh Gg
theorem Yx:asN 18=asO E9:=asR
def Rn:LSO:=[Af 2]
def Rm:LSO:=[Aa 7 0,Ah 8 7,Ac 9 0]
def Rl:LSO:=[Al 10 9 8]
def Rk:LSO:=[Am 11 2 7 9,Ar 12 2 11,Bo 4,Ap 2 4 12]
def Rj:LSO:=[Aa 13 0,Ah 14 13,A8 15 14 60,Aa 16 15,.grp none 16 false
 [A3 17 16 1 4,Ay 18 16 1 17,AM 19 16 18,AC 20 16 19 60]
 21 (tm 20)]
def Ri:LSO:=[Af 2]
def Rh:LSO:=[Ad 22 1 4,Ab 23 1 22,Ah 24 23,Ac 25 0]
def Rg:LSO:=[Al 26 25 24]
def Rf:LSO:=[Am 27 1 23 25,Ab 28 1 27,Aa 6 28]
def Re:LSO:=[Aa 29 6,Ax 30 29,A8 31 30 5000]
def NL:LSO:=[Af 2]
def NJ:LSO:=[Ai 32 25 1,Aa 25 32]
def NI:LSO:=[Ai 33 9 1,Aa 9 33]
def NH:LSO:=[A0 2]
def Ov:aK:=⟨34,(asI Rn [] (.seq (asI Rm [] (asL 0 (asI Rl [] (.seq (asM 10 0) (.seq (.block 1 (asI Rk C6 (.seq (asI Rj CA (asK 21 (.sreg Ri []))) (asI Rh CJ (asL 2 (asI Rg [] (.seq (asM 26 2) (.seq (.block 3 (asI Rf C6 (asI Re C6 (asK 31 (.sreg NL []))))) (.sreg NJ C4))))))))) (.sreg NI C4)))))) (asI NH [] .ret))),[(.tmp 2)]⟩
attribute [push_cast] Rn Rm Rl Rk Rj Ri Rh Rg Rf Re NL NJ NI NH
theorem aax:asN 13=asO Ov:=asR
attribute [push_cast] E8 E9 Ov
variable {L:List Blk}{K:apr}
set_option maxHeartbeats 8000000
set_option maxRecDepth 100000
theorem alu{l:List Atr}{cap:Option Nat}(t:l.length<=1100000)(p:∀a∈l,a.2.length<=1100000)(h:K (.sl (aJ l) l.length none) L):
  apq 16 [.sl (aJ l) l.length cap] L K:=by
 replace h:=hid h;refine apo Yw ?_;refine bR (l:=[]) (n:=0) 3 2 rfl (apU 2).symm ?_;refine aj (λm T' L'=>∃(k:Nat) (C:List AV) (X:List Blk),m=l.length-k/\k<=l.length/\C=aJ (l.take k)/\T'=[(8,.int .i64 (k:Int)),(7,.int .i64 l.length),(6,.sl (aJ l) l.length cap),(3,.gsl C k L.length 2)]/\L'=L++(.spare k 2::X)) asT ⟨0,[],[],rfl,apv _,rfl,rfl,rfl⟩ ?_;rintro _ _ _ ⟨k,C,X,rfl,q,d,rfl,rfl⟩;by_cases b:k<l.length;have g1:(k:Int)<(l.length:Int):=asP;have s:=apn k asP;have i:=jF b;have r:k*2+2<=(aJ l).length:=by rw[iI];omega
 obtain⟨⟨nm,vs⟩,e⟩:∃a,l.getD k ([],[])=a:=⟨_,rfl⟩;have c:aJ (l.take (k+1))=aJ (l.take k)++[.str nm,.sl (vs.map AV.str) vs.length none]:=by rw[apK b,Wq,show l[k]=(nm,vs)by rw[<- e];simp[b]];rfl
 have g:=p (nm,vs) (by rw[<- e];simp[b]);simp only at g;rw[e]at i;simp only[atA]at i;have j:AV.frzL (vs.map AV.str)=vs.map AV.str:=iV vs;replace c:=hid c;replace d:=hid d;clear e p;refine wk ?_;exact asU asP asS ⟨k+1,_,_,rfl,b,by rw[c.o,d.o],rfl,rfl⟩;have f:k=l.length:=asP;subst f;have g1:¬(l.length:Int)<(l.length:Int):=asP;rw[apJ]at d;subst d;have j:=fi l;refine wk ?_;refine aY ?_;simp only[AV.frz,j];exact ac (by simp only[AV.refs,ko]) h.o
theorem ane{l:List Atr}{cap cap':Option Nat}(z:l.length<=1100000)(t:∀a∈l,a.2.length<=1100000)(h:K (.bool true) L):
  apq 18 [.sl (aJ l) l.length cap,.sl (aJ l) l.length cap'] L K:=by
 replace h:=hid h;refine apo Yx ?_;refine aj (λm T' L'=>∃k:Nat,m=l.length-k/\k<=l.length/\T'=[(14,.int .i64 (k:Int)),(13,.int .i64 l.length),(0,.sl (aJ l) l.length cap),(1,.sl (aJ l) l.length cap')]/\L=L') (CutS (b:=apt _)) ⟨0,rfl,apv _,rfl,rfl⟩ ?_;rintro _ _ L' ⟨k,rfl,w,rfl,e⟩;subst e;by_cases c:k<l.length;have g1:(k:Int)<(l.length:Int):=asP;have y:=apn k asP;have x:k*2+1<(aJ l).length:=by rw[iI];omega
 have s:k*2<(aJ l).length:=asP;have q:=aaI c;have p:(aJ l).getD (k*2) .undef=.str (l.getD k ([],[])).1:=by have i:=congrArg (λl=>l[0]?) (jF c);simp only[aqs (show 0<2 by omega),aqo,aqz]at i;rw[apO,i];rfl
 obtain⟨⟨nm,vs⟩,g⟩:∃a,l.getD k ([],[])=a:=⟨_,rfl⟩;have f:=t (nm,vs) (by rw[<- g];simp[c]);simp only at f;rw[g]at q p;simp only[Sy]at q p;clear g;refine wk ?_;refine aj (λm T' L'=>∃j:Nat,m=vs.length-j/\j<=vs.length/\T'=[(49,.int .i64 (j:Int)),(48,.int .i64 vs.length),(5,.int .i64 (k:Int)),(14,.int .i64 (k:Int)),(13,.int .i64 l.length),(0,.sl (aJ l) l.length cap),(1,.sl (aJ l) l.length cap')]/\L=L') (CutS (b:=apt _)) ⟨0,rfl,apv _,rfl,rfl⟩ ?_;rintro _ _ L' ⟨j,rfl,A,rfl,e⟩;subst e;by_cases d:j<vs.length;have r:(j:Int)<(vs.length:Int):=asP;have u:=apn j asP;obtain⟨v,n⟩:=apl (vs.getD j []);have g3:(vs.map AV.str).getD j .undef=.str v:=by rw[<- n];simp[d]
 clear n;refine wk ?_;exact asU asP asS ⟨j+1,rfl,d,rfl,rfl⟩;have r:¬(j:Int)<(vs.length:Int):=asP;refine wk ?_;exact asU asP asS ⟨k+1,rfl,c,rfl,rfl⟩;have g1:¬(k:Int)<(l.length:Int):=asP;refine wk ?_;exact aa h.o
def acS(n:Nat)(a:Atr):Bool:=decide (n<=60)&&decide (a.2.length<=60)&&a.2.all λv=>decide (v.length<=5000)
def afR(l:List Atr):Bool:=l.all (acS l.length)
theorem agI{l:List Atr}(h:afR l=true):l.length<=60/\∀a∈l,a.2.length<=60/\∀v∈a.2,v.length<=5000:=by simp only[afR,apF,acS,apw,decide_eq_true_eq]at h;refine⟨?_,λa b=>⟨(h a b).1.2,(h a b).2⟩⟩;rcases l with _|⟨x,t⟩;simp;exact(h x asQ).1.1
theorem aov{l:List Atr}{cap:Option Nat}(G:(l.length:Int)<=9223372036854775807)(A:∀a∈l,(a.2.length:Int)<=9223372036854775807)(h:K (.bool (afR l)) L):
  apq 13 [.sl (aJ l) l.length cap] L K:=by
 obtain⟨R,r⟩:=apl (l.all (acS l.length));rw[afR,r]at h;replace h:=hid h;replace r:=hid r;refine apo aax ?_;refine aj (λm T' L'=>∃(k:Nat) (X:List Blk),m=l.length-k/\k<=l.length/\Hid ((l.drop k).all (acS l.length)=R)/\T'=[(9,.int .i64 (k:Int)),(8,.int .i64 l.length),(7,.sl (aJ l) l.length cap),(0,.sl (aJ l) l.length cap)]/\L'=L++X) asT ⟨0,[],rfl,apv _,hid (by simpa using r.o),rfl,asQ⟩ ?_;rintro _ _ _ ⟨k,X,rfl,I,u,rfl,rfl⟩;by_cases f:k<l.length;have g1:(k:Int)<(l.length:Int):=asP;have E:=apn k asP;have B:=jF f;have F:k*2+2<=(aJ l).length:=by rw[iI];omega
 obtain⟨⟨nm,vs⟩,s⟩:∃a,l.getD k ([],[])=a:=⟨_,rfl⟩;have d:l.drop k=(nm,vs)::l.drop (k+1):=by rw[apY f,<- s];simp[f]
 have y:=A (nm,vs) (by rw[<- s];simp[f]);simp only at y;rw[s]at B;simp only[atA]at B;have b:=u.o;rw[d,aqE]at b;have no:acS l.length (nm,vs)=false->K (.bool false) L:=λe=>by rw[e,aqg]at b;have:=h.o;rwa[<- b]at this
 replace no:=hid no;clear u d s A r;by_cases J:(60:Int)<(l.length:Int);have g:=hid (no.o (by simp[acS];omega));clear b;refine wk ?_;exact ac rfl g.o;by_cases H:(60:Int)<(vs.length:Int);have g:=hid (no.o (by simp[acS];omega));clear b;refine wk ?_;exact ac rfl g.o;obtain⟨x,p⟩:=apl (vs.all (λv=>decide (v.length<=5000)));have q:acS l.length (nm,vs)=x:=by rw[acS,p,decide_eq_true asP,decide_eq_true (by simp only;omega)];rfl
 rw[q]at b;replace b:=hid b;replace p:=hid p;replace no:=hid (λe:x=false=>no.o (q.trans e));clear q;refine wk ?_;refine aj (λm T' L'=>∃j:Nat,m=vs.length-j/\j<=vs.length/\Hid ((vs.drop j).all (λv=>decide (v.length<=5000))=x)/\T'=[(25,.int .i64 (j:Int)),(24,.int .i64 vs.length),(23,.sl (vs.map AV.str) vs.length none),(9,.int .i64 (k:Int)),(8,.int .i64 l.length),(7,.sl (aJ l) l.length cap),(0,.sl (aJ l) l.length cap)]/\L'=L++(X++[.cells [.str nm,.sl (vs.map AV.str) vs.length none]])) asT ⟨0,rfl,apv _,hid (by simpa using p.o),rfl,asQ⟩ ?_;rintro _ _ _ ⟨j,rfl,M,t,rfl,rfl⟩;by_cases i:j<vs.length;have C:(j:Int)<(vs.length:Int):=asP;have D:=apn j asP;obtain⟨v,w⟩:=apl (vs.getD j []);have g3:(vs.map AV.str).getD j .undef=.str v:=by rw[<- w];simp[i]
 have d:vs.drop j=v::vs.drop (j+1):=by rw[apY i,<- w];simp[i]
 have c:=t.o;rw[d,aqE]at c;clear w d t;by_cases N:(5000:Int)<(v.length:Int);have g:=hid (no.o (by rw[<- c,decide_eq_false asP,aqg]));clear c;refine wk ?_;exact ac rfl g.o;rw[decide_eq_true asP,ap0]at c;replace c:=hid c;refine wk ?_;exact asU asP asS ⟨j+1,rfl,i,c,rfl,rfl⟩;have C:¬(j:Int)<(vs.length:Int):=asP;have c:=t.o;rw[aq6 asP,art]at c;have n:=b.o;rw[<- c,ap0]at n;replace n:=hid n;clear t c;refine wk ?_;exact asU asP asS ⟨k+1,_,rfl,f,n,rfl,rfl⟩;have z:k=l.length:=asP;subst z;have g1:¬(l.length:Int)<(l.length:Int):=asP;have b:=u.o;rw[aqe,art]at b;have g:=h.o;rw[<- b]at g;replace g:=hid g;clear u b r;refine wk ?_;exact ac rfl g.o
end Go.Proofs.YtdnfjhflkkpokaaGreatDoor.Av
set_option maxRecDepth 100000
namespace Go.Proofs.YtdnfjhflkkpokaaGreatDoor.Av
open Go
def NG:LSO:=[Aw 2]
def NF:LSO:=[Aa 6 0,o1 7 (.s2bO (tm 6)),Aa 3 7]
def NE:LSO:=[Aa 8 3,Ah 9 8,Ac 10 0]
def ND:LSO:=[Al 11 10 9]
def NC:LSO:=[Aa 12 10,Am 13 1 8 10,Ab 14 1 13,Aa 4 12,Aa 5 14]
def NB:LSO:=[Aa 15 5,Co 16 15,Aa 17 16,.grp none 17 true
 [Ae 18 17 5,og 19 17 true (.bin .leq (tm 18) (.av (.int .u8 90)))]
 20 (tm 19)]
def NA:LSO:=[Aa 21 3,Aa 22 4,Aa 23 5,o1 24 (.bin .add (tm 23) (.av (.int .u8 32))),Am 25 1 21 22,Ap 1 25 24]
def Nz:LSO:=[Ai 26 10 1,Aa 10 26]
def Ny:LSO:=[Aa 27 3,Bi 28 27,Aa 2 28]
def Fm:aK:=⟨29,(asI NG [] (asI NF C6 (.seq (asI NE [] (asL 0 (asI ND [] (.seq (asM 11 0) (.seq (.block 1 (asI NC CF (asI NB C7 (asJ 20 (.sreg NA CQ) .skip)))) (.sreg Nz C4)))))) (asI Ny C6 .ret)))),[(.tmp 2)]⟩
attribute [push_cast] NG NF NE ND NC NB NA Nz Ny
theorem YK:aL Tryz.prog (λr i=>if r=1/\i=1 then 2 else 1) 46=some Fm.raw:=asR
def Nw:LSO:=[Aw 2]
def Nv:LSO:=[Ak 3]
def Nu:LSO:=[Aa 6 0,Aj 7 46 6,o1 8 (.s2b (tm 7)),Ah 9 8,Ac 10 0]
def Nt:LSO:=[Al 11 10 9]
def Nr:LSO:=[Am 12 1 8 10,Ab 13 1 12,Aa 5 13]
def Nq:LSO:=[Aa 14 5,o1 15 (.bin .eql (tm 14) (.av (.int .u8 32))),Aa 16 15,.grp none 16 true
 [Ae 17 16 3,AE 18 16 17,AP 19 16 18 0,Ae 20 16 19,.grp (some (16,true)) 20 false
 [Ag 21 20 3,Ag 22 20 3,AM 23 20 22,Cl 24 20 23 1,BC 25 20 1 21 24,Ay 26 20 1 25,Cp 27 20 26]
 28 (tm 27)]
 29 (tm 28)]
def Np:LSO:=[Aa 30 3,Aa 31 5,Bd 32 31,AY 33 30 32,Aa 3 33]
def No:LSO:=[Ai 34 10 1,Aa 10 34]
def Nn:LSO:=[Aa 35 3,Ah 36 35,A8 37 36 0,Aa 38 37,.grp none 38 true
 [Ae 39 38 3,Ae 40 38 3,AE 41 38 40,BT 42 38 41 1,Bg 43 38 1 39 42,A5 44 38 1 43,B4 45 38 44]
 46 (tm 45)]
def Nm:LSO:=[Aa 47 3,Aa 48 3,Ah 49 48,Bb 50 49 1,Cq 51 47 50,Aa 3 51]
def IK:LSO:=[Aa 52 3,Bi 53 52,Aa 2 53]
def Fl:aK:=⟨54,(asI Nw [] (asI Nv [] (.seq (asI Nu CW (asL 0 (asI Nt [] (.seq (asM 11 0) (.seq (.block 1 (asI Nr C6 (.seq (asI Nq C7 (asJ 29 (.exit 1) .skip)) (.sreg Np CA)))) (.sreg No C4)))))) (.seq (asI Nn CA (asJ 46 (.sreg Nm CB) .skip)) (asI IK C6 .ret))))),[(.tmp 2)]⟩
attribute [push_cast] Nw Nv Nu Nt Nr Nq Np No Nn Nm IK
theorem YJ:asN 104=asO Fl:=asR
def Nb:LSO:=[Aw 2]
def Na:LSO:=[Ak 3]
def M9:LSO:=[Ac 4 0]
def M8:LSO:=[Aa 6 4,Aa 7 0,Ax 8 7,Al 9 6 8]
def M7:LSO:=[Aa 12 0,Aa 13 4,AK 14 12 13,Aa 5 14]
def M6:LSO:=[Aa 15 5,Co 16 15,Aa 17 16,.grp none 17 true
 [Ae 18 17 5,og 19 17 true (.bin .leq (tm 18) (.av (.int .u8 90)))]
 20 (tm 19)]
def M5:LSO:=[Aa 21 5,o1 22 (.bin .sub (tm 21) (.av (.int .u8 65))),o1 23 (.bin .add (tm 22) (.av (.int .u8 97))),Aa 5 23]
def M4:LSO:=[Aa 24 3,Aa 25 5,Bd 26 25,AY 27 24 26,Aa 3 27]
def M3:LSO:=[Aa 10 4,Ai 11 10 1,Aa 4 11]
def M2:LSO:=[Aa 28 3,Bi 29 28,Aa 2 29]
def Fj:aK:=⟨30,(asI Nb [] (asI Na [] (.seq (asI M9 [] (asL 0 (.seq (asI M8 C7 (asM 9 0)) (.seq (.block 1 (asI M7 C7 (.seq (asI M6 C7 (asJ 20 (.sreg M5 C7) .skip)) (.sreg M4 CA)))) (.sreg M3 C6))))) (asI M2 C6 .ret)))),[(.tmp 2)]⟩
attribute [push_cast] Nb Na M9 M8 M7 M6 M5 M4 M3 M2
theorem YH:asN 49=asO Fj:=asR
def M1:LSO:=[Aw 2]
def M0:LSO:=[Aa 8 0,Aj 9 49 8,Aa 3 9]
def MZ:LSO:=[Ak 4]
def MY:LSO:=[Ac 5 0]
def MX:LSO:=[Aa 10 5,Aa 11 3,Ax 12 11,Al 13 10 12]
def MW:LSO:=[Af 6]
def MV:LSO:=[Aa 16 5,Aa 7 16]
def MU:LSO:=[Aa 17 7,Aa 18 3,Ax 19 18,Al 20 17 19,Aa 21 20,.grp none 21 true
 [Ae 22 21 6,Bu 23 21 22]
 24 (tm 23)]
def MT:LSO:=[Aa 27 3,Aa 28 7,AK 29 27 28,o1 30 (.bin .neq (tm 29) (.av (.int .u8 32))),Aa 6 30]
def MS:LSO:=[Aa 25 7,Ai 26 25 1,Aa 7 26]
def Iz:LSO:=[Aa 31 6,A7 32 31,Aa 33 32,.grp none 33 false
 [Ag 34 33 3,Ag 35 33 5,B3 36 33 34 35,Cp 37 33 36,Ag 38 33 37,.grp (some (33,false)) 38 true
 [Ae 39 38 4,AE 40 38 39,AP 41 38 40 0,Ae 42 38 41,.grp (some (38,true)) 42 false
 [Ag 43 42 3,Ag 44 42 5,Cl 45 42 44 1,B3 46 42 43 45,Cp 47 42 46]
 48 (tm 47)]
 49 (tm 48)]
 50 (tm 49)]
def Iy:LSO:=[Aa 51 4,Aa 52 3,Aa 53 5,AK 54 52 53,Bd 55 54,AY 56 51 55,Aa 4 56]
def Ix:LSO:=[Aa 14 5,Ai 15 14 1,Aa 5 15]
def Iw:LSO:=[Aa 57 4,Bi 58 57,Aa 2 58]
def Fi:aK:=⟨59,(asI M1 [] (asI M0 C6 (asI MZ [] (.seq (asI MY [] (asL 0 (.seq (asI MX C7 (asM 13 0)) (.seq (.block 1 (asI MW [] (.seq (asI MV C4 (asL 2 (.seq (asI MU CB (asM 24 2)) (.seq (.block 3 (.sreg MT CA)) (.sreg MS C6))))) (.seq (asI Iz C7 (asJ 50 (.exit 1) .skip)) (.sreg Iy CC))))) (.sreg Ix C6))))) (asI Iw C6 .ret))))),[(.tmp 2)]⟩
attribute [push_cast] M1 M0 MZ MY MX MW MV MU MT MS Iz Iy Ix Iw
theorem YG:asN 135=asO Fi:=asR
def Nl:LSO:=[Cr 2,Af 3]
def Nk:LSO:=[Aa 5 0,o1 6 (.bin .geq (tm 5) (.av (.int .u8 48))),Aa 7 6,.grp none 7 true
 [Ae 8 7 0,og 9 7 true (.bin .leq (tm 8) (.av (.int .u8 57)))]
 10 (tm 9),Aa 4 10]
def Nj:LSO:=[Aa 11 0,BN 12 11,Aa 2 12,A0 3]
def Ni:LSO:=[Aa 14 0,o1 15 (.bin .geq (tm 14) (.av (.int .u8 97))),Aa 16 15,.grp none 16 true
 [Ae 17 16 0,og 18 16 true (.bin .leq (tm 17) (.av (.int .u8 102)))]
 19 (tm 18),Aa 13 19]
def Nh:LSO:=[Aa 20 0,o1 21 (.bin .sub (tm 20) (.av (.int .u8 97))),o1 22 (.bin .add (tm 21) (.av (.int .u8 10))),Aa 2 22,A0 3]
def Ng:LSO:=[Aa 24 0,Co 25 24,Aa 26 25,.grp none 26 true
 [Ae 27 26 0,og 28 26 true (.bin .leq (tm 27) (.av (.int .u8 70)))]
 29 (tm 28),Aa 23 29]
def Nf:LSO:=[Aa 30 0,o1 31 (.bin .sub (tm 30) (.av (.int .u8 65))),o1 32 (.bin .add (tm 31) (.av (.int .u8 10))),Aa 2 32,A0 3]
def Nc:LSO:=[Cr 2,Af 3]
def Fk:aK:=⟨33,(asI Nl [] (.seq (.block 0 (asI Nk CA (asJ 4 (asI Nj CL .ret) (asI Ni CA (asJ 13 (asI Nh CF .ret) (asI Ng CA (asK 23 (.sreg Nf CF)))))))) (asI Nc [] .ret))),[(.tmp 2),(.tmp 3)]⟩
attribute [push_cast] Nl Nk Nj Ni Nh Ng Nf Nc
theorem YI:asN 205=asO Fk:=asR
def IJ:LSO:=[Aw 2,Af 3]
def II:LSO:=[Aa 10 0,Ax 11 10,o1 12 (.bin .rem (tm 11) (iv 2)),An 13 12 1]
def IH:LSO:=[Aw 2,Af 3]
def IG:LSO:=[Aa 14 0,Ax 15 14,o1 16 (.bin .quo (tm 15) (iv 2)),o1 17 (.mkslice 1 1 [(.int .u8 0)] (iv 0) (tm 16)),Aa 4 17]
def IF:LSO:=[Ac 5 0]
def IE:LSO:=[Aa 18 5,Aa 19 0,Ax 20 19,Al 21 18 20]
def ID:LSO:=[Aa 25 0,Aa 26 5,AK 27 25 26,Aj 28 205 27,Aa 24 28,Ao 29 24,Aq 30 24,Aa 6 29,Aa 7 30]
def IC:LSO:=[Aa 32 0,Aa 33 5,Ai 34 33 1,AK 35 32 34,Aj 36 205 35,Aa 31 36,Ao 37 31,Aq 38 31,Aa 8 37,Aa 9 38]
def IB:LSO:=[Aa 39 7,A7 40 39,Aa 41 40,.grp none 41 false
 [Ag 42 41 9,AZ 43 41 42]
 44 (tm 43)]
def IA:LSO:=[Aw 2,Af 3]
def DH:LSO:=[Aa 45 4,Aa 46 6,o1 47 (.bin .shl (tm 46) (.av (.int .u64 4))),Aa 48 8,o1 49 (.bin .or (tm 47) (tm 48)),Bd 50 49,AY 51 45 50,Aa 4 51]
def DG:LSO:=[Aa 22 5,Ai 23 22 2,Aa 5 23]
def DF:LSO:=[Aa 52 4,Bi 53 52,Aa 2 53,A0 3]
def wH:aK:=⟨54,(asI IJ [] (.seq (asI II C7 (asK 13 (.sreg IH []))) (asI IG CA (.seq (asI IF [] (asL 0 (.seq (asI IE C7 (asM 21 0)) (.seq (.block 1 (asI ID CR (asI IC Dl (.seq (asI IB C7 (asK 44 (.sreg IA []))) (.sreg DH CE))))) (.sreg DG C6))))) (asI DF CL .ret))))),[(.tmp 2),(.tmp 3)]⟩
attribute [push_cast] IJ II IH IG IF IE ID IC IB IA DH DG DF
theorem W9:asN 178=asO wH:=asR
def Ik:LSO:=[Cr 2]
def Ij:LSO:=[Aa 3 0,o1 4 (.bin .lss (tm 3) (.av (.int .u8 10)))]
def Ii:LSO:=[Aa 5 0,o1 6 (.bin .add (.av (.int .u8 48)) (tm 5)),Aa 2 6]
def Ih:LSO:=[Aa 7 0,o1 8 (.bin .add (.av (.int .u8 97)) (tm 7)),o1 9 (.bin .sub (tm 8) (.av (.int .u8 10))),Aa 2 9]
def wF:aK:=⟨10,(asI Ik [] (.seq (asI Ij C4 (asK 4 (.sreg Ii C6))) (asI Ih C7 .ret))),[(.tmp 2)]⟩
attribute [push_cast] Ik Ij Ii Ih
theorem W7:asN 248=asO wF:=asR
def Iv:LSO:=[Aw 2,Af 3]
def Iu:LSO:=[Ak 4]
def It:LSO:=[Aa 9 0,Aj 10 49 9,Aa 5 10]
def Is:LSO:=[Ac 6 0]
def Ir:LSO:=[Aa 11 6,Ai 12 11 1,Aa 13 5,Ax 14 13,Al 15 12 14]
def Iq:LSO:=[Af 7]
def Ip:LSO:=[Ac 8 0]
def Io:LSO:=[Aa 18 8,AJ 19 18 256,Aa 20 19,.grp none 20 true
 [Ae 21 20 7,Bu 22 20 21]
 23 (tm 22)]
def Im:LSO:=[Aa 26 8,o1 27 (.bin .quo (tm 26) (iv 16)),o1 28 (.conv .u8 (tm 27)),Aj 29 248 28,Aa 30 5,Aa 31 6,AK 32 30 31,AF 33 29 32,Aa 34 33,.grp none 34 true
 [Ae 35 34 8,BM 36 34 35 16,og 37 34 true (.conv .u8 (tm 36)),Bc 38 34 248 37,Ae 39 34 5,Ae 40 34 6,Cj 41 34 40 1,Bl 42 34 39 41,B0 43 34 38 42]
 44 (tm 43)]
def Il:LSO:=[Aa 45 4,Aa 46 8,o1 47 (.conv .u8 (tm 46)),Bd 48 47,AY 49 45 48,Aa 4 49]
def DE:LSO:=[A0 7]
def DD:LSO:=[Aa 24 8,Ai 25 24 1,Aa 8 25]
def DC:LSO:=[Aa 50 7,A7 51 50]
def DB:LSO:=[Aw 2,Af 3]
def DA:LSO:=[Aa 16 6,Ai 17 16 2,Aa 6 17]
def Dz:LSO:=[Aa 52 0,Ax 53 52,o1 54 (.bin .rem (tm 53) (iv 2)),An 55 54 1]
def Dy:LSO:=[Aw 2,Af 3]
def Dx:LSO:=[Aa 56 4,Bi 57 56,Aa 2 57,A0 3]
def wG:aK:=⟨58,(asI Iv [] (asI Iu [] (asI It C6 (.seq (asI Is [] (asL 0 (.seq (asI Ir CA (asM 15 0)) (.seq (.block 1 (asI Iq [] (.seq (asI Ip [] (asL 2 (.seq (asI Io C7 (asM 23 2)) (.seq (.block 3 (.seq (.sdreg Im [.pure,.pure,.pure,(.read 0 0),.pure,.pure,(.read 0 0),.pure,.pure,.pure,.pure,.pure,(.read 0 0),.pure,.pure,.pure,(.read 0 0)] CG) (asJ 44 (asI Il CB (.sreg DE [])) .skip))) (.sreg DD C6))))) (asI DC C4 (asK 51 (.sreg DB [])))))) (.sreg DA C6))))) (.seq (asI Dz C7 (asK 55 (.sreg Dy []))) (asI Dx CL .ret)))))),[(.tmp 2),(.tmp 3)]⟩
attribute [push_cast] Iv Iu It Is Ir Iq Ip Io Im Il DE DD DC DB DA Dz Dy Dx
theorem W8:asN 237=asO wG:=asR
attribute [push_cast] Fm Fj wH wG
variable {L:List Blk}{K:apr}
set_option maxHeartbeats 8000000
set_option maxRecDepth 100000
def ga(c:UInt8):UInt8:=if 65<=c.toNat/\c.toNat<=90 then c+32 else c
def ak(s:List UInt8):List UInt8:=s.map ga
theorem acC{c:UInt8}(a:65<=c.toNat)(b:c.toNat<=90):((ga c).toNat:Int)=(c.toNat:Int)+32:=by rw[ga,if_pos ⟨a,b⟩,UInt8.toNat_add];have:(32:UInt8).toNat=32:=rfl;omega
theorem N3{c:UInt8}(h:¬(65<=c.toNat/\c.toNat<=90)):ga c=c:=by rw[ga,if_neg h]
theorem kB(l:List UInt8):(u8s l).all aft=true:=by simp only[u8s,List.all_map,apF];intro x _;have:=x.toNat_lt;simp[aft]
theorem ju(l:List UInt8):(u8s l).map ach=l:=by
 induction l with
 |nil=>rfl
 | cons x l ih =>
   simp only[u8s,apX,apS]at ih⊢;rw[ih];simp[ach]
theorem YO(l:List UInt8)(c:UInt8):u8s (l++[c])=u8s l++[.int .u8 c.toNat]:=by simp[u8s]
theorem Z4{s:List UInt8}{k:Nat}(h:k<s.length):ak (s.take (k+1))=ak (s.take k)++[ga (s.getD k 0)]:=by rw[apK h,ak,ap1];simp[ak,h]
theorem cY{s:List UInt8}(B:(s.length:Int)<=140737488351232)(h:K (.str (ak s)) L):apq 49 [.str s] L K:=by
 replace h:=hid h;refine apo YH ?_;refine bR (l:=[]) (n:=0) 3 1 rfl (apU 1).symm ?_;refine aj (λn T' L'=>∃(k:Nat) (v:List AV),n=s.length-k/\k<=s.length/\v=u8s (ak (s.take k))/\T'=[(4,.int .i64 (k:Int)),(3,.gsl v k L.length 1),(2,.str []),(0,.str s)]/\L'=L++[.spare k 1]) asT ⟨0,[],rfl,apv _,rfl,rfl,rfl⟩ ?_;rintro _ _ _ ⟨k,v,rfl,t,rfl,rfl,rfl⟩;by_cases d:k<s.length
 .have p:(k:Int)<(s.length:Int):=asP;have A:=apn k asP;have a:=hid (Z4 d);have e:s.getD k 0=s.getD k 0:=rfl;obtain⟨c,q⟩:=apl (s.getD k 0);rw[q]at a;have j:=c.toNat_lt;by_cases f:65<=c.toNat/\c.toNat<=90;have w:(65:Int)<=(c.toNat:Int):=asP;have u:(c.toNat:Int)<=90:=asP;have g:=hid (acC f.1 f.2);have m:IntKind.u8.wrap ((c.toNat:Int)-65)=(c.toNat:Int)-65:=dx asP asP;have r:IntKind.u8.wrap ((c.toNat:Int)-65+97)=(c.toNat:Int)-65+97:=dx asP asP;clear f;refine wk ?_;refine asU asP asT ⟨k+1,_,rfl,d,?_,rfl,rfl⟩;rw[a.o,YO,g.o];simp only[show(c.toNat:Int)-65+97=c.toNat+32 by omega]
  .have g:=hid (N3 f);have m:¬((65:Int)<=(c.toNat:Int)/\(c.toNat:Int)<=90):=asP;have r:(decide ((65:Int)<=(c.toNat:Int))&&decide ((c.toNat:Int)<=90))=false:=(by simp;omega);clear f;refine wk ?_
   all_goals first
    |omega
    | (refine asU asP (CutS (b := by simp)) ⟨k + 1, _, rfl, d, ?_, rfl, rfl⟩
       rw[a.o,YO,g.o])
 have i:k=s.length:=asP;subst i;have p:¬(s.length:Int)<(s.length:Int):=asP;have x:=kB (ak s);have y:=ju (ak s);have z:s.take s.length=s:=apJ;refine wk ?_;exact ac rfl h.o
theorem jD{s:List UInt8}(N:(s.length:Int)<=140737488351232)(h:K (.str (ak s)) L):apq 46 [.str s] L K:=by
 replace h:=hid h;refine apo YK ?_;refine aj (λn T' L'=>∃(k:Nat) (v:List AV),n=s.length-k/\k<=s.length/\v=u8s (ak (s.take k)++s.drop k)/\T'=[(10,.int .i64 (k:Int)),(9,.int .i64 s.length),(8,.lsl L.length 0 s.length none 1),(3,.lsl L.length 0 s.length none 1),(2,.str [])]/\L'=L++[.bytes v]) asT ⟨0,_,rfl,apv _,rfl,rfl,rfl⟩ ?_;rintro _ _ _ ⟨k,v,rfl,C,j,rfl,rfl⟩;by_cases g:k<s.length
 .have y:(k:Int)<(s.length:Int):=asP;have M:=apn k asP;obtain⟨c,t⟩:=apl (s.getD k 0);have u:s.drop k=c::s.drop (k+1):=by rw[apY g,<- t,apO,apD g];rfl
  have m:(ak (s.take k)).length=k:=(by simp[ak];omega);have d:v=u8s (ak (s.take k)) ++ .int .u8 c.toNat::u8s (s.drop (k+1)):=(by rw[j,u];simp[u8s]);have i:(u8s (ak (s.take k))).length=k:=(by simp[u8s,m]);have z:v.length=s.length:=(by rw[j];simp[u8s,ak];omega);have w:k<v.length:=asP;have A:v.getD k .undef=.int .u8 c.toNat:=(by rw[d];simp[apO,apH,i]);have a:=Z4 g;rw[t]at a;have e:u8s (ak (s.take (k+1))++s.drop (k+1))=u8s (ak (s.take k)) ++ .int .u8 (ga c).toNat::u8s (s.drop (k+1)):=(by rw[a];simp[u8s]);have f:∀x,v.take k++x::v.drop (k+1)=u8s (ak (s.take k))++x::u8s (s.drop (k+1)):=λx=>by rw[d,List.take_left' i,List.drop_append,i,aq6 asP,show k+1-k=1 by omega];rfl
  clear j u m a;replace d:=hid d;replace e:=hid e;replace f:=hid f;have r:=c.toNat_lt;by_cases l:65<=c.toNat/\c.toNat<=90;have F:(65:Int)<=(c.toNat:Int):=asP;have E:(c.toNat:Int)<=90:=asP;have p:=hid (acC l.1 l.2);have D:IntKind.u8.wrap ((c.toNat:Int)+32)=(c.toNat:Int)+32:=dx asP asP;clear l;refine wk ?_;refine asU asP asT ⟨k+1,_,rfl,g,?_,rfl,rfl⟩;rw[e.o,p.o];exact f.o _
  .have p:=hid (N3 l);have I:(decide ((65:Int)<=(c.toNat:Int))&&decide ((c.toNat:Int)<=90))=false:=(by simp;omega);clear l;refine wk ?_
   all_goals first
    |omega
    | (refine asU asP (CutS (b := by simp)) ⟨k + 1, _, rfl, g, ?_, rfl, rfl⟩
       rw[e.o,p.o];exact d.o)
 have q:k=s.length:=asP;subst q;have y:¬(s.length:Int)<(s.length:Int):=asP;have d:v=u8s (ak s):=by rw[j];simp
 clear j;subst d;have G:=kB (ak s);have H:=ju (ak s);have B:(u8s (ak s)).length=s.length:=by simp[u8s,ak]
 have J:(u8s (ak s)).take s.length=u8s (ak s):=by rw[<- B];exact apJ
 refine wk ?_;exact ac rfl h.o
theorem nI{s:List UInt8}(a:(s.length:Int)<=100000)(h:K (.str (ak s)) L):apq 49 [.str s] L K:=cY asP h
theorem Oa{s:List UInt8}(a:(s.length:Int)<=100000)(h:K (.str (ak s)) L):apq 46 [.str s] L K:=jD asP h
def lO(c:UInt8):Option Nat:=if 48<=c.toNat/\c.toNat<=57 then some (c.toNat-48)else if 97<=c.toNat/\c.toNat<=102 then some (c.toNat-87)else if 65<=c.toNat/\c.toNat<=70 then some (c.toNat-55)else none
theorem OO{c:UInt8}{x:Nat}(h:lO c=some x):x<16:=by unfold lO at h;split at h;cases h;omega;split at h;cases h;omega;split at h;cases h;omega;cases h
theorem afy{c:UInt8}{L:List Blk}{K:apr}(h:K (.tup [.int .u8 ((lO c).getD 0:Nat),.bool (lO c).isSome]) L):apq 205 [.int .u8 c.toNat] L K:=by
 have k:=c.toNat_lt;obtain⟨n,g⟩:=apl (c.toNat);unfold lO at h;rw[g]at h k⊢;clear g;refine ab YI (by simp[Fk]) ?_;simp only[Fk,ag];by_cases a:48<=n/\n<=57;rw[if_pos a]at h;replace h:=hid h;obtain⟨b,a2⟩:=a;have i:(48:Int)<=(n:Int):=asP;have f:(n:Int)<=57:=asP;have m:IntKind.u8.wrap ((n:Int)-48)=(n:Int)-48:=dx asP asP;clear b a2;refine wk ?_;refine aa ?_;have:=h.o;simpa[show((n-48:Nat):Int)=(n:Int)-48 by omega]using this
 .rw[if_neg a]at h;have p:(decide ((48:Int)<=(n:Int))&&decide ((n:Int)<=57))=false:=(by simp;omega);by_cases d:97<=n/\n<=102;rw[if_pos d]at h;replace h:=hid h;obtain⟨b,a2⟩:=d;have i:(97:Int)<=(n:Int):=asP;have f:(n:Int)<=102:=asP;have j:IntKind.u8.wrap ((n:Int)-97)=(n:Int)-97:=dx asP asP;have l:IntKind.u8.wrap ((n:Int)-97+10)=(n:Int)-97+10:=dx asP asP;clear b a2 a;refine wk ?_;refine aa ?_;have:=h.o;simpa[show((n-87:Nat):Int)=(n:Int)-97+10 by omega]using this
  .rw[if_neg d]at h;have c2:(decide ((97:Int)<=(n:Int))&&decide ((n:Int)<=102))=false:=(by simp;omega);by_cases e:65<=n/\n<=70;rw[if_pos e]at h;replace h:=hid h;obtain⟨b,a2⟩:=e;have i:(65:Int)<=(n:Int):=asP;have f:(n:Int)<=70:=asP;have j:IntKind.u8.wrap ((n:Int)-65)=(n:Int)-65:=dx asP asP;have l:IntKind.u8.wrap ((n:Int)-65+10)=(n:Int)-65+10:=dx asP asP;clear b a2 a d;refine wk ?_;refine aa ?_;have:=h.o;simpa[show((n-55:Nat):Int)=(n:Int)-65+10 by omega]using this
   .rw[if_neg e]at h;have c3:(decide ((65:Int)<=(n:Int))&&decide ((n:Int)<=70))=false:=(by simp;omega);replace h:=hid h;clear a d e
    repeat' first
     |refine bG ?_
     | (first|refine bw asR ?_|refine aN asR ?_|refine aQ ?_|refine cS ?_|refine bJ (fun _=>?_)|refine aF ?_|refine bA ?_)
       refine sm ?_
     | (first|refine bq asR ?_|refine bm ?_|refine aP ?_|refine bz ?_|refine bO (aE ?_))
       refine sl ?_
     |exact bK
     |first|apply bL|apply br|apply bM|apply bu|apply bN|apply bv
     |refine aT ?_
     |refine aO ?_
     |first|refine aR rfl ?_|refine aS rfl ?_|refine aB rfl ?_ ?_|refine aW rfl (λ_=>?_) (λ_=>?_)|refine aV rfl (λ_=>?_) (λ_=>?_)
     |((first|refine aA (λ_=>?_) (λ_=>?_)|refine aD (λ_=>?_) (λ_=>?_))<;>try refine sm ?_)
     |refine And.intro trivial ?_
     |refine And.intro asP ?_
     |refine bd rfl (λ_=>?_) (λ_=>?_)
     |refine And.intro ?_ ?_
    all_goals first
     |omega
     |(refine aa ?_;simpa using h.o)
def V5(a b:UInt8):Option UInt8:=match lO a,lO b with
 |some x,some y=>some (UInt8.ofNat (16*x+y))
 |_,_=>none
def SQ(a b:UInt8):AV:=match V5 a b with
 |some c=>.tup [.str [c],.bool true]
 |none=>.tup [.str [],.bool false]
theorem am9:∀x y:_root_.Fin 16,IntKind.u8.wrap (((BitVec.ofInt IntKind.u8.bits (IntKind.u8.wrap ((x.val:Int)*2^min 4 IntKind.u8.bits)) |||BitVec.ofInt IntKind.u8.bits (y.val:Int)).toNat:Nat):Int)=16*(x.val:Int)+(y.val:Int):=by decide +kernel
theorem aiE{a b:UInt8}(h:K (SQ a b) L):apq 178 [.str [a,b]] L K:=by
 have C:[a,b].length=2:=rfl;have v:[a,b].getD 0 0=a:=rfl;have u:[a,b].getD 1 0=b:=rfl;have B:IntKind.i64.wrap (Int.tdiv 2 2)=1:=by decide
 have p:Int.tmod 2 2=0:=by decide
 have t:gq [AV.int IntKind.u8 0] 1=[AV.int IntKind.u8 0]:=rfl;have w:IntKind.i64.wrap 1=1:=by decide
 have z:IntKind.i64.wrap 2=2:=by decide
 replace h:=hid h;refine apo W9 ?_;refine aj (λn T' L'=>(n=1/\T'=[(5,.int .i64 0),(4,.lsl L.length 0 0 (some 1) 1),(0,.str [a,b])]/\L'=L++[.cells [.int .u8 0]])\/(n=0/\∃x y:Nat,Hid (lO a=some x)/\Hid (lO b=some y)/\T'=[(5,.int .i64 2),(4,.lsl (L.length+1) 0 1 none 1),(0,.str [a,b])]/\L'=L++[.dead,.cells [.int .u8 ((16*x+y:Nat):Int)]])) (n0:=1) (T0:=[(5,.int .i64 0),(4,.lsl L.length 0 0 (some 1) 1),(0,.str [a,b])]) (L0:=L++[.cells [.int .u8 0]]) asT (.inl ⟨rfl,rfl,rfl⟩) ?_;rintro _ _ _ (⟨rfl,rfl,rfl⟩|⟨rfl,x,y,c,e,rfl,rfl⟩);rcases c:lO a with _|x;have d:=h.o;simp only[SQ,V5,c]at d;replace d:=hid d;have g:(lO a).getD 0=0:=by rw[c];rfl
 have i:(lO a).isSome=false:=by rw[c];rfl
 clear c;have kk1:=@hid _ @afy;refine wk ?_;exact ac rfl d.o;have g:(lO a).getD 0=x:=by rw[c];rfl
 have i:(lO a).isSome=true:=by rw[c];rfl
 have l:=hid c;rcases e:lO b with _|y;have d:=h.o;simp only[SQ,V5,c,e]at d;replace d:=hid d;have j:(lO b).getD 0=0:=by rw[e];rfl
 have k:(lO b).isSome=false:=by rw[e];rfl
 clear c e;have kk1:=@hid _ @afy;refine wk ?_;exact ac rfl d.o;have j:(lO b).getD 0=y:=by rw[e];rfl
 have k:(lO b).isSome=true:=by rw[e];rfl
 have m:=hid e;have f:=am9 ⟨x,OO c⟩ ⟨y,OO e⟩;simp only at f;clear c e;have kk1:=@hid _ @afy;refine wk ?_;refine ah 0 _ _ asP asS (.inr ⟨rfl,x,y,hid rfl,hid rfl,rfl,?_⟩)
 first|rfl|rw[f]
 have d:=h.o;simp only[SQ,V5,c.o,e.o]at d;replace d:=hid d;have A:=OO c.o;have s:=OO e.o;have q:aft (.int .u8 (16*(x:Int)+(y:Int)))=true:=rfl;have r:ach (.int .u8 (16*(x:Int)+(y:Int)))=UInt8.ofNat (16*x+y):=by simp only[ach];rw[show(16*(x:Int)+(y:Int)).toNat=16*x+y by omega]
 refine wk ?_;exact ac rfl d.o
def JY(b:List UInt8):Bool:=b.isEmpty ||b.getLast? == some 32
def bh(b:List UInt8)(c:UInt8):List UInt8:=if c=32/\JY b=true then b else b++[c]
def cO(s:List UInt8):List UInt8:=s.foldl bh []
def d9(b:List UInt8):List UInt8:=if b.getLast?=some 32 then b.dropLast else b
def cg(s:List UInt8):List UInt8:=d9 (cO (ak s))
theorem VS(b:List UInt8)(c:UInt8):(bh b c).length<=b.length+1:=by unfold bh;split<;>simp
theorem EI{s:List UInt8}{k:Nat}(h:k<s.length):cO (s.take (k+1))=bh (cO (s.take k)) (s.getD k 0):=by rw[apK h,cO,arP];simp[cO,h]
theorem rH(s:List UInt8):∀k,(cO (s.take k)).length<=k
 |0=>by simp[cO]
 | k+1=>by
   have a:=rH s k;by_cases h:k<s.length
   .rw[EI h];have:=VS (cO (s.take k)) (s.getD k 0);omega
   .rw[ap2 asP,<- ap2 (l:=s) (i:=k) asP];omega
theorem EH{s:List UInt8}(J:(s.length:Int)<=100000)(h:K (.str (cg s)) L):apq 104 [.str s] L K:=by
 replace h:=hid h;refine ab YJ (by simp[Fl]) ?_;simp only[Fl,ag];obtain⟨t,I⟩:=apl (ak s);have P:(t.length:Int)<=100000:=by rw[<- I];simpa[ak]using J
 have kk1:=@asW _ _ _ _ (Oa J);refine wk ?_;refine bR (l:=[]) (n:=0) 3 1 rfl (apU 1).symm ?_;refine aj (λn T' L'=>∃(k:Nat) (b:List UInt8) (v:List AV) (m:Nat),n=t.length-k/\k<=t.length/\b=cO (t.take k)/\v=u8s b/\m=b.length/\T'=[(10,.int .i64 (k:Int)),(9,.int .i64 t.length),(8,.sl (u8s t) t.length none),(3,.gsl v m L.length 1),(2,.str [])]/\L'=L++[.spare m 1]) asT ⟨0,[],[],0,rfl,apv _,rfl,rfl,rfl,rfl,rfl⟩ ?_;rintro _ _ _ ⟨k,b,v,m,rfl,V,q,rfl,rfl,rfl,rfl⟩;replace q:=hid q;by_cases i:k<t.length;have O:(k:Int)<(t.length:Int):=asP;have U:=apn k asP;have j:=hid (EI i);obtain⟨c,z⟩:=apl (t.getD k 0);have X:(u8s t).getD k .undef=.int .u8 c.toNat:=by simp[u8s,i,<- z]
 have R:k<(u8s t).length:=by simpa[u8s]using i
 rw[z]at j;have F:b.length<=k:=by rw[q.o];exact rH t k
 have f:∀A,A=bh b c->A=cO (t.take (k+1)):=λA e=>by rw[j.o,<- q.o];exact e
 have u:((c.toNat:Int)=32)↔c=32:=⟨λe=>ark.1 (by have:(32:UInt8).toNat=32:=rfl;omega),λe=>by rw[e];rfl⟩;replace f:=hid f;replace u:=hid u;clear j q z;have H:(u8s b).length=b.length:=by simp[u8s]
 have rest:∀A,A=bh b c->A.length<=b.length+1:=λA e=>by rw[e];exact VS b c
 clear rest;by_cases z:(c.toNat:Int)=32;rcases arz b with a|⟨d,x,a⟩;have E:(b.length:Int)=0:=by rw[a];rfl
 have C:=hid (f.o b (by rw[bh,if_pos ⟨u.o.1 z,by rw[a];rfl⟩]));clear a;refine wk ?_;exact asU asP asT ⟨k+1,b,_,_,rfl,i,C.o,rfl,rfl,rfl,rfl⟩;have E:¬(b.length:Int)=0:=by rw[a];simp;omega
 have C:IntKind.i64.wrap ((b.length:Int)-1)=(d.length:Int):=by rw[ae asP asP,a];simp
 have M:(u8s b).getD d.length .undef=.int .u8 x.toNat:=by rw[a];simp[u8s,apO]
 have G:d.length<(u8s b).length:=by rw[a];simp[u8s]
 have N:(d.length:Int)<(b.length:Int):=by rw[a];simp;omega
 have g:x=32↔(x.toNat:Int)=32:=⟨λe=>by rw[e];rfl,λe=>ark.1 (by have:(32:UInt8).toNat=32:=rfl;omega)⟩;have p:JY b=true↔x=32:=by rw[a];simp[JY]
 replace a:=hid a;replace g:=hid g;replace p:=hid p;by_cases B:(x.toNat:Int)=32;have D:=hid (f.o b (by rw[bh,if_pos ⟨u.o.1 z,p.o.2 (g.o.2 B)⟩]));refine wk ?_;exact asU asP asT ⟨k+1,b,_,_,rfl,i,D.o,rfl,rfl,rfl,rfl⟩;have D:=hid (f.o (b++[c]) (by rw[bh,if_neg λe=>B (g.o.1 (p.o.1 e.2))]));refine wk ?_;exact asU asP asT ⟨k+1,b++[c],_,_,rfl,i,D.o,(by rw[YO,z]),asQ,rfl,rfl⟩;have C:=hid (f.o (b++[c]) (by rw[bh,if_neg λe=>z (u.o.2 e.1)]));refine wk ?_;exact asU asP asT ⟨k+1,b++[c],_,_,rfl,i,C.o,(YO b c).symm,asQ,rfl,rfl⟩
 .have hke:k=t.length:=asP;subst hke;have O:¬(t.length:Int)<(t.length:Int):=asP;have F:b.length<=t.length:=(by rw[q.o];exact rH t _);have H:(u8s b).length=b.length:=(by simp[u8s]);have y:d9 b=cg s:=(by rw[cg,I,q.o,apJ]);have C:=kB b;have M:=ju b;replace q:=hid y;clear y;rcases arz b with a|⟨d,x,a⟩;have E:¬(0:Int)<(b.length:Int):=(by rw[a];simp);have G:=hid (show b=cg s by rw[<- q.o,a];rfl);clear a;refine wk ?_;refine ac rfl ?_;rw[G.o];exact h.o
  .have E:(0:Int)<(b.length:Int):=(by rw[a];simp;try omega);have G:IntKind.i64.wrap ((b.length:Int)-1)=(d.length:Int):=(by rw[ae asP asP,a];simp);have N:(u8s b).getD d.length .undef=.int .u8 x.toNat:=(by rw[a];simp[u8s,apO]);have D:d.length<(u8s b).length:=(by rw[a];simp[u8s]);have Y:(d.length:Int)<(b.length:Int):=(by rw[a];simp;omega);have S:(u8s b).take d.length=u8s d:=(by rw[a];simp[u8s]);have Q:(u8s d).length=d.length:=(by simp[u8s]);have T:=kB d;have W:=ju d;have g:x=32↔(x.toNat:Int)=32:=⟨λe=>by rw[e];rfl,λe=>ark.1 (by have:(32:UInt8).toNat=32:=rfl;omega)⟩;have w:d9 b=if x=32 then d else b:=by rw[a];simp[d9]
   replace a:=hid a;replace w:=hid w;by_cases B:(x.toNat:Int)=32;have r:=hid (show d=cg s by rw[<- q.o,w.o,if_pos (g.2 B)]);replace g:=hid g;refine wk ?_;refine ac rfl ?_;rw[r.o];exact h.o;have r:=hid (show b=cg s by rw[<- q.o,w.o,if_neg λe=>B (g.1 e)]);replace g:=hid g;refine wk ?_;refine ac rfl ?_;rw[r.o];exact h.o
end Go.Proofs.YtdnfjhflkkpokaaGreatDoor.Av
