/- Joined texts of the walk, made small by a program. -/
import Derived.Shelf.Strings.Builder1
import Derived.Shelf.Strings.Builder2
import Derived.Shelf.Strings.OnBuilder
import Derived.Shelf.Small.Bits
import Derived.Shelf.Small.Strs
import Derived.Shelf.Strconv.Itoa0
import Derived.Shelf.Strconv.Itoa1
import Derived.Shelf.LaysM
import Derived.Shelf.Strconv.Itoa2
import Derived.Shelf.Strconv.Itoa3
import Derived.Shelf.Strconv.Itoa4
import Derived.Shelf.Strconv.ParseIntEmpty
import Derived.Shelf.Strconv.Clone
import Derived.Shelf.Strconv.SyntaxError
import Derived.Shelf.LaysC
import Derived.Shelf.Strconv.ToError
import Derived.Shelf.Strconv.Lower
import Derived.Shelf.Strconv.ParseUint10
import Derived.Shelf.Strconv.ParseUint10Empty
import Derived.Shelf.Strconv.ParseUint10Any
import Derived.Shelf.Strconv.ParseInt10
import Derived.Shelf.Strconv.RangeError
import Derived.Shelf.Strconv.ToErrorRange
import Derived.Shelf.Strconv.ParseUintEmpty
import Derived.Shelf.Strconv.ParseUint10b64
import Derived.Shelf.Strconv.ParseUint10b32
import Derived.Shelf.Strconv.ParseUint10b16
import Derived.Shelf.Strconv.ParseUint10b8
import Derived.Shelf.Strconv.ParseUint10At
import Derived.Shelf.Strconv.ParseInt10At64
import Derived.Shelf.Strconv.ParseInt10At32
import Derived.Shelf.Strconv.ParseInt10At16
import Derived.Shelf.Strconv.ParseInt10At8
import Derived.Shelf.Strconv.ParseInt10All
import Derived.Shelf.Strconv.ParseIntPublic10
import Derived.Shelf.Strconv.ErrVarParseInt
import Derived.Shelf.Strings.Search1
import Derived.Shelf.Strings.Search2
import Derived.Shelf.Strings.Search3
import Derived.Shelf.Strings.Cut
import Derived.Shelf.Strings.Shaped
import Derived.Shelf.Sort.Plain
import Derived.Shelf.GgClosure.StringsIndexFunc
import Derived.Ground.GgwProg
import Derived.Shelf.GgClosure.StringsIndexFuncTop
import Derived.Shelf.GgClosure.StringsRunes
import Derived.Shelf.Strings.Prefix
import Derived.Ground.Names2Prog
import Derived.Shelf.Slices.Clone
import Derived.Shelf.Slices.CompactI
import Derived.Shelf.Slices.SearchI
import Derived.Shelf.Slices.Cells
import Derived.Shelf.Slices.In.SortNone
import Derived.Shelf.Slices.Empties
import Derived.Shelf.SlIterI.Nil
import Derived.Ground.GgzProg
import Derived.Shelf.Spec.SlicesGrow
import Derived.Ground.Names8Prog
import Derived.Shelf.SlMaps.Clone
import Derived.Ground.SlmcProg
import Derived.Shelf.Unicode.ValidAny
import Derived.Test.YtcmfcpjnhephaaaGreatDoorProg
import Derived.Test.YtcmfcpjnhephaaaGreatDoorUk4
import Derived.WalkKit
import Derived.ProofKit
import Derived.OpenShut
import Derived.JoinedCond
import Derived.SizedLaws
import Derived.Sort.Grow
import Derived.Deep.Draws
import Derived.Lib.LaidTab
import Derived.Lib.ItoaNum
import Derived.Lib.ParseIntB
import Derived.Stop.LaidErr
import Derived.Lib.LaidU8T
import Derived.Shelf.Vars
import Derived.Test.YtcmfcpjnhephaaaGreatDoorRows
import Derived.KernelRfl
set_option linter.unusedSimpArgs false
set_option linter.unusedVariables false
namespace Go.Proofs
open Go.Shelf
def Tryz.lays156_ren:Go.Shelf.Ren:=⟨λ|156=>215|165=>236|166=>237|169=>238|240=>252|241=>253|276=>258|277=>259|n=>n,λ|31=>22|9=>9|3=>3|4=>4|0=>0|20=>20|72=>284|76=>285|70=>282|37=>151|75=>201|127=>290|164=>303|5=>5|80=>287|n=>n,λ|n=>n⟩
theorem Tryz.lays156:Go.Proofs.Lays.n156 Tryz.prog Tryz.lays156_ren:={
 mixed:=by kernel_rfl
 f156:=Tryz.func215.trans (congrArg some (by kernel_rfl))
 f165:=Tryz.func236.trans (congrArg some (by kernel_rfl))
 f166:=Tryz.func237.trans (congrArg some (by kernel_rfl))
 f169:=Tryz.func238.trans (congrArg some (by kernel_rfl))
 f240:=Tryz.func252.trans (congrArg some (by kernel_rfl))
 f241:=Tryz.func253.trans (congrArg some (by kernel_rfl))
 f276:=Tryz.func258.trans (congrArg some (by kernel_rfl))
 f277:=Tryz.func259.trans (congrArg some (by kernel_rfl))
 t0:=Tryz.underlying0
 a0:=Tryz.isAgg0
 z0:=Tryz.sizeOf0
 v0:=Tryz.zeroValue0
 t3:=Tryz.underlying3
 a3:=Tryz.isAgg3
 z3:=Tryz.sizeOf3
 v3:=Tryz.zeroValue3
 t4:=Tryz.underlying4
 a4:=Tryz.isAgg4
 z4:=Tryz.sizeOf4
 v4:=Tryz.zeroValue4
 t9:=Tryz.underlying9
 a9:=Tryz.isAgg9
 z9:=Tryz.sizeOf9
 v9:=Tryz.zeroValue9
 t20:=Tryz.underlying20
 a20:=Tryz.isAgg20
 z20:=Tryz.sizeOf20
 v20:=Tryz.zeroValue20
 t31:=Tryz.underlying22
 a31:=Tryz.isAgg22
 z31:=Tryz.sizeOf22
 v31:=Tryz.zeroValue22
 t37:=Tryz.underlying151
 a37:=Tryz.isAgg151
 z37:=Tryz.sizeOf151
 v37:=Tryz.zeroValue151
 t70:=Tryz.underlying282
 a70:=Tryz.isAgg282
 z70:=Tryz.sizeOf282
 v70:=Tryz.zeroValue282
 t72:=Tryz.underlying284
 a72:=Tryz.isAgg284
 z72:=Tryz.sizeOf284
 v72:=Tryz.zeroValue284
 t75:=Tryz.underlying201
 a75:=Tryz.isAgg201
 z75:=Tryz.sizeOf201
 v75:=Tryz.zeroValue201
 t76:=Tryz.underlying285
 a76:=Tryz.isAgg285
 z76:=Tryz.sizeOf285
 v76:=Tryz.zeroValue285
 t127:=Tryz.underlying290
 a127:=Tryz.isAgg290
 z127:=Tryz.sizeOf290
 v127:=Tryz.zeroValue290
 t164:=Tryz.underlying303
 a164:=Tryz.isAgg303
 z164:=Tryz.sizeOf303
 v164:=Tryz.zeroValue303}
theorem Tryz.Builder_Extra_156:Builder.Extra Tryz.prog Tryz.lays156_ren:={
 sizeBuilder:=by kernel_rfl
 liesBuilder:=by kernel_rfl
 t5:=Tryz.underlying5
 a5:=Tryz.isAgg5
 z5:=Tryz.sizeOf5
 v5:=Tryz.zeroValue5
 infoByte:=by kernel_rfl
 cellsByte:=by kernel_rfl
 sizeByte:=by kernel_rfl
 neB5:=by decide}
open Go.RowKit in
theorem Tryz.strings_Join_none(a:Option Addr)(c:Nat)(sep:ByteArray)(w:World):
 Calls Tryz.prog 215 #[.slice a 0 c,.string sep] w λe w'=>e=.returned (.string ⟨#[]⟩)/\w'=w:=Any.strings_Join_none Tryz.lays156 Tryz.Builder_Extra_156 a c sep w
open Go.RowKit in
theorem Tryz.strings_Join(bk o c:Nat)(xs:List ByteArray)(sep:ByteArray)(w:World)(hcells:∀(j:Nat) x,xs[j]?=some x->w.cell? ⟨bk,o+j,none⟩=some (.string x))(hbk:bk<w.heap.size)(hN:xs.length<=140737488355328)(hcap:xs.length<=c)(hlen:(Lib.join (xs.map (·.data.toList)) sep.data.toList).length<=140737488355328):
 Calls Tryz.prog 215 #[.slice (some ⟨bk,o,none⟩) xs.length c,.string sep] w λe w'=>e=.returned (.string ⟨(Lib.join (xs.map (·.data.toList)) sep.data.toList).toArray⟩)/\Below w.heap.size w w':=Any.strings_Join Tryz.lays156 Tryz.Builder_Extra_156 bk o c xs sep w hcells hbk hN hcap hlen
def Tryz.lays106_ren:Go.Shelf.Ren:=⟨λ|106=>126|213=>163|265=>196|n=>n,λ|9=>9|3=>3|n=>n,λ|n=>n⟩
theorem Tryz.lays106:Go.Proofs.Lays.n106 Tryz.prog Tryz.lays106_ren:={
 mixed:=by kernel_rfl
 f106:=Tryz.func126.trans (congrArg some (by kernel_rfl))
 f213:=Tryz.func163.trans (congrArg some (by kernel_rfl))
 f265:=Tryz.func196.trans (congrArg some (by kernel_rfl))
 t3:=Tryz.underlying3
 a3:=Tryz.isAgg3
 z3:=Tryz.sizeOf3
 v3:=Tryz.zeroValue3
 t9:=Tryz.underlying9
 a9:=Tryz.isAgg9
 z9:=Tryz.sizeOf9
 v9:=Tryz.zeroValue9}
open Go.RowKit in
theorem Tryz.strings_Compare(a b:ByteArray)(w:World):
 Calls Tryz.prog 126 #[.string a,.string b] w λe w'=>e=.returned (.int .i64 (Lib.compareBytes a.data.toList b.data.toList))/\w'=w:=Any.strings_Compare Tryz.lays106 a b w
def Tryz.lays137_ren:Go.Shelf.Ren:=⟨λ|137=>210|217=>192|266=>222|n=>n,λ|9=>9|5=>5|3=>3|n=>n,λ|n=>n⟩
theorem Tryz.lays137:Go.Proofs.Lays.n137 Tryz.prog Tryz.lays137_ren:={
 mixed:=by kernel_rfl
 f137:=Tryz.func210.trans (congrArg some (by kernel_rfl))
 f217:=Tryz.func192.trans (congrArg some (by kernel_rfl))
 f266:=Tryz.func222.trans (congrArg some (by kernel_rfl))
 t3:=Tryz.underlying3
 a3:=Tryz.isAgg3
 z3:=Tryz.sizeOf3
 v3:=Tryz.zeroValue3
 t5:=Tryz.underlying5
 a5:=Tryz.isAgg5
 z5:=Tryz.sizeOf5
 v5:=Tryz.zeroValue5
 t9:=Tryz.underlying9
 a9:=Tryz.isAgg9
 z9:=Tryz.sizeOf9
 v9:=Tryz.zeroValue9}
open Go.RowKit in
theorem Tryz.strings_IndexByte(s:ByteArray)(c:Int)(w:World):
 Calls Tryz.prog 210 #[.string s,.int .u8 c] w λe w'=>e=.returned (.int .i64 (Lib.indexByte s.data.toList c.toNat.toUInt8))/\w'=w:=Any.strings_IndexByte Tryz.lays137 s c w
def Tryz.laysM173_ren:Go.Shelf.Ren:=⟨λ|173=>138|246=>173|283=>203|284=>204|285=>205|286=>206|129=>188|317=>229|318=>230|319=>231|320=>232|337=>241|338=>242|n=>n,λ|2=>2|3=>3|9=>9|4=>4|171=>256|0=>0|53=>232|37=>151|5=>5|173=>258|212=>276|51=>76|20=>20|213=>277|46=>176|232=>299|233=>300|n=>n,λ|17=>6|18=>7|19=>8|n=>n⟩
theorem Tryz.laysM173:Go.Proofs.LaysM.n173 Tryz.prog Tryz.laysM173_ren:={
 mixed:=by kernel_rfl
 f129:=Tryz.func188.trans (congrArg some (by kernel_rfl))
 f173:=Tryz.func138.trans (congrArg some (by kernel_rfl))
 f246:=Tryz.func173.trans (congrArg some (by kernel_rfl))
 f283:=Tryz.func203.trans (congrArg some (by kernel_rfl))
 f284:=Tryz.func204.trans (congrArg some (by kernel_rfl))
 f285:=Tryz.func205.trans (congrArg some (by kernel_rfl))
 f286:=Tryz.func206.trans (congrArg some (by kernel_rfl))
 f317:=Tryz.func229.trans (congrArg some (by kernel_rfl))
 f318:=Tryz.func230.trans (congrArg some (by kernel_rfl))
 f319:=Tryz.func231.trans (congrArg some (by kernel_rfl))
 f320:=Tryz.func232.trans (congrArg some (by kernel_rfl))
 f337:=Tryz.func241.trans (congrArg some (by kernel_rfl))
 f338:=Tryz.func242.trans (congrArg some (by kernel_rfl))
 t0:=Tryz.underlying0
 a0:=Tryz.isAgg0
 z0:=Tryz.sizeOf0
 v0:=Tryz.zeroValue0
 t2:=Tryz.underlying2
 a2:=Tryz.isAgg2
 z2:=Tryz.sizeOf2
 v2:=Tryz.zeroValue2
 t3:=Tryz.underlying3
 a3:=Tryz.isAgg3
 z3:=Tryz.sizeOf3
 v3:=Tryz.zeroValue3
 t4:=Tryz.underlying4
 a4:=Tryz.isAgg4
 z4:=Tryz.sizeOf4
 v4:=Tryz.zeroValue4
 t5:=Tryz.underlying5
 a5:=Tryz.isAgg5
 z5:=Tryz.sizeOf5
 v5:=Tryz.zeroValue5
 t9:=Tryz.underlying9
 a9:=Tryz.isAgg9
 z9:=Tryz.sizeOf9
 v9:=Tryz.zeroValue9
 t20:=Tryz.underlying20
 a20:=Tryz.isAgg20
 z20:=Tryz.sizeOf20
 v20:=Tryz.zeroValue20
 t37:=Tryz.underlying151
 a37:=Tryz.isAgg151
 z37:=Tryz.sizeOf151
 v37:=Tryz.zeroValue151
 t46:=Tryz.underlying176
 a46:=Tryz.isAgg176
 z46:=Tryz.sizeOf176
 v46:=Tryz.zeroValue176
 t51:=Tryz.underlying76
 a51:=Tryz.isAgg76
 z51:=Tryz.sizeOf76
 v51:=Tryz.zeroValue76
 t53:=Tryz.underlying232
 a53:=Tryz.isAgg232
 z53:=Tryz.sizeOf232
 v53:=Tryz.zeroValue232
 t171:=Tryz.underlying256
 a171:=Tryz.isAgg256
 z171:=Tryz.sizeOf256
 v171:=Tryz.zeroValue256
 t173:=Tryz.underlying258
 a173:=Tryz.isAgg258
 z173:=Tryz.sizeOf258
 v173:=Tryz.zeroValue258
 t212:=Tryz.underlying276
 a212:=Tryz.isAgg276
 z212:=Tryz.sizeOf276
 v212:=Tryz.zeroValue276
 t213:=Tryz.underlying277
 a213:=Tryz.isAgg277
 z213:=Tryz.sizeOf277
 t232:=Tryz.underlying299
 a232:=Tryz.isAgg299
 z232:=Tryz.sizeOf299
 v232:=Tryz.zeroValue299
 t233:=Tryz.underlying300
 a233:=Tryz.isAgg300
 z233:=Tryz.sizeOf300
 v233:=Tryz.zeroValue300
 g17:=by kernel_rfl
 g18:=by kernel_rfl
 g19:=by kernel_rfl
 i0:=by kernel_rfl
 i2:=by kernel_rfl
 i3:=by kernel_rfl
 i4:=by kernel_rfl
 i5:=by kernel_rfl
 i9:=by kernel_rfl
 i20:=by kernel_rfl
 i37:=by kernel_rfl
 i46:=by kernel_rfl
 i51:=by kernel_rfl
 i53:=by kernel_rfl
 i171:=by kernel_rfl
 i173:=by kernel_rfl
 i212:=by kernel_rfl
 i232:=by kernel_rfl
 i233:=by kernel_rfl
 m17:=by kernel_rfl
 m18:=by kernel_rfl
 m19:=by kernel_rfl}
open Go.RowKit Go.Sort Go.Lib in
theorem Tryz.strconv_FormatInt_10(n:Int)(h0 : -9223372036854775808<=n)(h1:n<=9223372036854775807)(w:World)(htab:Lib.TabIs Tryz.prog w "internal/strconv.uint64pow10" .u64 Lib.pow10Tab):
 Calls Tryz.prog 138 #[.int .i64 n,.int .i64 10] w λe w'=>e=.returned (.string ⟨(Lib.itoa n).toArray⟩)/\∃k os,w'=grow (w.drewN k) os:=Any.strconv_FormatInt_10 Tryz.laysM173 n h0 h1 w htab
def Tryz.laysC174_ren:Go.Shelf.Ren:=⟨λ|174=>137|247=>171|245=>172|287=>198|279=>199|280=>200|281=>201|282=>202|321=>224|322=>225|316=>226|171=>228|205=>227|243=>240|246=>173|283=>203|284=>204|285=>205|286=>206|129=>188|317=>229|318=>230|319=>231|320=>232|337=>241|338=>242|n=>n,λ|9=>9|3=>3|2=>2|75=>201|85=>202|4=>4|167=>249|5=>5|53=>232|175=>250|46=>176|168=>252|37=>151|0=>0|210=>274|21=>21|127=>290|145=>293|143=>291|171=>256|173=>258|212=>276|51=>76|20=>20|213=>277|232=>299|233=>300|80=>287|n=>n,λ|15=>4|16=>5|17=>6|18=>7|19=>8|n=>n⟩
theorem Tryz.laysC174:Go.Proofs.LaysC.n174 Tryz.prog Tryz.laysC174_ren:={
 mixed:=by kernel_rfl
 f129:=Tryz.func188.trans (congrArg some (by kernel_rfl))
 f171:=Tryz.func228.trans (congrArg some (by kernel_rfl))
 f174:=Tryz.func137.trans (congrArg some (by kernel_rfl))
 f205:=Tryz.func227.trans (congrArg some (by kernel_rfl))
 f243:=Tryz.func240.trans (congrArg some (by kernel_rfl))
 f245:=Tryz.func172.trans (congrArg some (by kernel_rfl))
 f246:=Tryz.func173.trans (congrArg some (by kernel_rfl))
 f247:=Tryz.func171.trans (congrArg some (by kernel_rfl))
 f279:=Tryz.func199.trans (congrArg some (by kernel_rfl))
 f280:=Tryz.func200.trans (congrArg some (by kernel_rfl))
 f281:=Tryz.func201.trans (congrArg some (by kernel_rfl))
 f282:=Tryz.func202.trans (congrArg some (by kernel_rfl))
 f283:=Tryz.func203.trans (congrArg some (by kernel_rfl))
 f284:=Tryz.func204.trans (congrArg some (by kernel_rfl))
 f285:=Tryz.func205.trans (congrArg some (by kernel_rfl))
 f286:=Tryz.func206.trans (congrArg some (by kernel_rfl))
 f287:=Tryz.func198.trans (congrArg some (by kernel_rfl))
 f316:=Tryz.func226.trans (congrArg some (by kernel_rfl))
 f317:=Tryz.func229.trans (congrArg some (by kernel_rfl))
 f318:=Tryz.func230.trans (congrArg some (by kernel_rfl))
 f319:=Tryz.func231.trans (congrArg some (by kernel_rfl))
 f320:=Tryz.func232.trans (congrArg some (by kernel_rfl))
 f321:=Tryz.func224.trans (congrArg some (by kernel_rfl))
 f322:=Tryz.func225.trans (congrArg some (by kernel_rfl))
 f337:=Tryz.func241.trans (congrArg some (by kernel_rfl))
 f338:=Tryz.func242.trans (congrArg some (by kernel_rfl))
 t0:=Tryz.underlying0
 a0:=Tryz.isAgg0
 z0:=Tryz.sizeOf0
 v0:=Tryz.zeroValue0
 t2:=Tryz.underlying2
 a2:=Tryz.isAgg2
 z2:=Tryz.sizeOf2
 v2:=Tryz.zeroValue2
 t3:=Tryz.underlying3
 a3:=Tryz.isAgg3
 z3:=Tryz.sizeOf3
 v3:=Tryz.zeroValue3
 t4:=Tryz.underlying4
 a4:=Tryz.isAgg4
 z4:=Tryz.sizeOf4
 v4:=Tryz.zeroValue4
 t5:=Tryz.underlying5
 a5:=Tryz.isAgg5
 z5:=Tryz.sizeOf5
 v5:=Tryz.zeroValue5
 t9:=Tryz.underlying9
 a9:=Tryz.isAgg9
 z9:=Tryz.sizeOf9
 v9:=Tryz.zeroValue9
 t20:=Tryz.underlying20
 a20:=Tryz.isAgg20
 z20:=Tryz.sizeOf20
 v20:=Tryz.zeroValue20
 t21:=Tryz.underlying21
 a21:=Tryz.isAgg21
 z21:=Tryz.sizeOf21
 v21:=Tryz.zeroValue21
 t37:=Tryz.underlying151
 a37:=Tryz.isAgg151
 z37:=Tryz.sizeOf151
 v37:=Tryz.zeroValue151
 t46:=Tryz.underlying176
 a46:=Tryz.isAgg176
 z46:=Tryz.sizeOf176
 v46:=Tryz.zeroValue176
 t51:=Tryz.underlying76
 a51:=Tryz.isAgg76
 z51:=Tryz.sizeOf76
 v51:=Tryz.zeroValue76
 t53:=Tryz.underlying232
 a53:=Tryz.isAgg232
 z53:=Tryz.sizeOf232
 v53:=Tryz.zeroValue232
 t75:=Tryz.underlying201
 a75:=Tryz.isAgg201
 z75:=Tryz.sizeOf201
 v75:=Tryz.zeroValue201
 t85:=Tryz.underlying202
 a85:=Tryz.isAgg202
 z85:=Tryz.sizeOf202
 v85:=Tryz.zeroValue202
 t127:=Tryz.underlying290
 a127:=Tryz.isAgg290
 z127:=Tryz.sizeOf290
 v127:=Tryz.zeroValue290
 t143:=Tryz.underlying291
 a143:=Tryz.isAgg291
 z143:=Tryz.sizeOf291
 v143:=Tryz.zeroValue291
 t145:=Tryz.underlying293
 a145:=Tryz.isAgg293
 z145:=Tryz.sizeOf293
 v145:=Tryz.zeroValue293
 t167:=Tryz.underlying249
 a167:=Tryz.isAgg249
 z167:=Tryz.sizeOf249
 v167:=Tryz.zeroValue249
 t168:=Tryz.underlying252
 a168:=Tryz.isAgg252
 z168:=Tryz.sizeOf252
 v168:=Tryz.zeroValue252
 t171:=Tryz.underlying256
 a171:=Tryz.isAgg256
 z171:=Tryz.sizeOf256
 v171:=Tryz.zeroValue256
 t173:=Tryz.underlying258
 a173:=Tryz.isAgg258
 z173:=Tryz.sizeOf258
 v173:=Tryz.zeroValue258
 t175:=Tryz.underlying250
 a175:=Tryz.isAgg250
 z175:=Tryz.sizeOf250
 v175:=Tryz.zeroValue250
 t210:=Tryz.underlying274
 a210:=Tryz.isAgg274
 z210:=Tryz.sizeOf274
 v210:=Tryz.zeroValue274
 t212:=Tryz.underlying276
 a212:=Tryz.isAgg276
 z212:=Tryz.sizeOf276
 v212:=Tryz.zeroValue276
 t213:=Tryz.underlying277
 a213:=Tryz.isAgg277
 z213:=Tryz.sizeOf277
 t232:=Tryz.underlying299
 a232:=Tryz.isAgg299
 z232:=Tryz.sizeOf299
 v232:=Tryz.zeroValue299
 t233:=Tryz.underlying300
 a233:=Tryz.isAgg300
 z233:=Tryz.sizeOf300
 v233:=Tryz.zeroValue300
 g15:=by kernel_rfl
 g16:=by kernel_rfl
 g17:=by kernel_rfl
 g18:=by kernel_rfl
 g19:=by kernel_rfl
 t80:=Tryz.underlying287
 a80:=Tryz.isAgg287
 z80:=Tryz.sizeOf287
 v80:=Tryz.zeroValue287
 i0:=by kernel_rfl
 i2:=by kernel_rfl
 i3:=by kernel_rfl
 i4:=by kernel_rfl
 i5:=by kernel_rfl
 i9:=by kernel_rfl
 i20:=by kernel_rfl
 i21:=by kernel_rfl
 i37:=by kernel_rfl
 i46:=by kernel_rfl
 i51:=by kernel_rfl
 i53:=by kernel_rfl
 i75:=by kernel_rfl
 i80:=by kernel_rfl
 i85:=by kernel_rfl
 i127:=by kernel_rfl
 i143:=by kernel_rfl
 i145:=by kernel_rfl
 i167:=by kernel_rfl
 i168:=by kernel_rfl
 i171:=by kernel_rfl
 i173:=by kernel_rfl
 i175:=by kernel_rfl
 i210:=by kernel_rfl
 i212:=by kernel_rfl
 i232:=by kernel_rfl
 i233:=by kernel_rfl
 m15:=by kernel_rfl
 m16:=by kernel_rfl
 m17:=by kernel_rfl
 m18:=by kernel_rfl
 m19:=by kernel_rfl
 c0:=by kernel_rfl
 c2:=by kernel_rfl
 c3:=by kernel_rfl
 c4:=by kernel_rfl
 c5:=by kernel_rfl
 c9:=by kernel_rfl
 c20:=by kernel_rfl
 c21:=by kernel_rfl
 c37:=by kernel_rfl
 c46:=by kernel_rfl
 c51:=by kernel_rfl
 c53:=by kernel_rfl
 c75:=by kernel_rfl
 c80:=by kernel_rfl
 c85:=by kernel_rfl
 c127:=by kernel_rfl
 c143:=by kernel_rfl
 c145:=by kernel_rfl
 c167:=by kernel_rfl
 c168:=by kernel_rfl
 c171:=by kernel_rfl
 c173:=by kernel_rfl
 c175:=by kernel_rfl
 c210:=by kernel_rfl
 c212:=by kernel_rfl
 c213:=by kernel_rfl
 c232:=by kernel_rfl
 c233:=by kernel_rfl}
open Go.RowKit in
theorem Tryz.strconv_ParseInt_10_at64_ok(s:ByteArray)(hmax:s.size<=9223372036854775806)(v:Int)(h:Lib.parseIntB 64 s.data.toList=.ok v)(w:World):
 Calls Tryz.prog 137 #[.string s,.int .i64 10,.int .i64 64] w λe w'=>e=.returned (.tuple #[.int .i64 v,.nilIface])/\(w'=w\/∃t,w'=Lib.bytesWorld w 5 t):=Any.strconv_ParseInt_10_at64_ok Tryz.laysC174 s hmax v h w
open Go.RowKit in
theorem Tryz.strconv_ParseInt_10_at64_syntax(s:ByteArray)(hlim:s.size<=281474976710656)(h:Lib.parseIntB 64 s.data.toList=.syntax)(ev:Value)(w:World)(hv:w.cell? ⟨4,0,none⟩=some ev)(hev:ev=.nilIface\/∃te pe,ev=.iface te pe):
 Calls Tryz.prog 137 #[.string s,.int .i64 10,.int .i64 64] w λe w'=>∃N,e=.returned (.tuple #[.int .i64 (0),.iface 252 (.pointer (some ⟨N,0,none⟩))])/\w.heap.size<=N/\w'.heap[N]?=some (.cells #[.string ⟨#[80,97,114,115,101,73,110,116]⟩,.string s,ev] 274 (0,0))/\Below w.heap.size w w':=Any.strconv_ParseInt_10_at64_syntax Tryz.laysC174 s hlim h ev w hv hev
open Go.RowKit in
theorem Tryz.strconv_ParseInt_10_at64_range(s:ByteArray)(hlim:s.size<=281474976710656)(h:Lib.parseIntB 64 s.data.toList=.range)(ev:Value)(w:World)(hv:w.cell? ⟨5,0,none⟩=some ev)(hev:ev=.nilIface\/∃te pe,ev=.iface te pe):
 Calls Tryz.prog 137 #[.string s,.int .i64 10,.int .i64 64] w λe w'=>∃N,e=.returned (.tuple #[.int .i64 (Lib.intSat 64 s.data.toList),.iface 252 (.pointer (some ⟨N,0,none⟩))])/\w.heap.size<=N/\w'.heap[N]?=some (.cells #[.string ⟨#[80,97,114,115,101,73,110,116]⟩,.string s,ev] 274 (0,0))/\Below w.heap.size w w':=Any.strconv_ParseInt_10_at64_range Tryz.laysC174 s hlim h ev w hv hev
def Tryz.lays219_ren:Go.Shelf.Ren:=⟨λ|219=>159|217=>192|225=>193|224=>194|267=>195|266=>222|314=>223|n=>n,λ|9=>9|3=>3|4=>4|5=>5|46=>176|146=>271|51=>76|n=>n,λ|1=>3|n=>n⟩
theorem Tryz.lays219:Go.Proofs.Lays.n219 Tryz.prog Tryz.lays219_ren:={
 mixed:=by kernel_rfl
 f217:=Tryz.func192.trans (congrArg some (by kernel_rfl))
 f219:=Tryz.func159.trans (congrArg some (by kernel_rfl))
 f224:=Tryz.func194.trans (congrArg some (by kernel_rfl))
 f225:=Tryz.func193.trans (congrArg some (by kernel_rfl))
 f266:=Tryz.func222.trans (congrArg some (by kernel_rfl))
 f267:=Tryz.func195.trans (congrArg some (by kernel_rfl))
 f314:=Tryz.func223.trans (congrArg some (by kernel_rfl))
 t3:=Tryz.underlying3
 a3:=Tryz.isAgg3
 z3:=Tryz.sizeOf3
 v3:=Tryz.zeroValue3
 t4:=Tryz.underlying4
 a4:=Tryz.isAgg4
 z4:=Tryz.sizeOf4
 v4:=Tryz.zeroValue4
 t5:=Tryz.underlying5
 a5:=Tryz.isAgg5
 z5:=Tryz.sizeOf5
 v5:=Tryz.zeroValue5
 t9:=Tryz.underlying9
 a9:=Tryz.isAgg9
 z9:=Tryz.sizeOf9
 v9:=Tryz.zeroValue9
 t46:=Tryz.underlying176
 a46:=Tryz.isAgg176
 z46:=Tryz.sizeOf176
 v46:=Tryz.zeroValue176
 t51:=Tryz.underlying76
 a51:=Tryz.isAgg76
 z51:=Tryz.sizeOf76
 v51:=Tryz.zeroValue76
 t146:=Tryz.underlying271
 a146:=Tryz.isAgg271
 z146:=Tryz.sizeOf271
 v146:=Tryz.zeroValue271
 g1:=by kernel_rfl}
open Go.RowKit Go.Lib in
theorem Tryz.stringslite_Index_one(s:ByteArray)(c:UInt8)(w:World):
 Calls Tryz.prog 159 #[.string s,.string ⟨#[c]⟩] w λe w'=>e=.returned (.int .i64 (Lib.indexByte s.data.toList c))/\w'=w:=Any.stringslite_Index_one Tryz.lays219 s c w
def Tryz.lays143_ren:Go.Shelf.Ren:=⟨λ|143=>122|219=>159|217=>192|225=>193|224=>194|267=>195|266=>222|314=>223|n=>n,λ|9=>9|3=>3|4=>4|5=>5|46=>176|146=>271|51=>76|n=>n,λ|1=>3|n=>n⟩
theorem Tryz.lays143:Go.Proofs.Lays.n143 Tryz.prog Tryz.lays143_ren:={
 mixed:=by kernel_rfl
 f143:=Tryz.func122.trans (congrArg some (by kernel_rfl))
 f217:=Tryz.func192.trans (congrArg some (by kernel_rfl))
 f219:=Tryz.func159.trans (congrArg some (by kernel_rfl))
 f224:=Tryz.func194.trans (congrArg some (by kernel_rfl))
 f225:=Tryz.func193.trans (congrArg some (by kernel_rfl))
 f266:=Tryz.func222.trans (congrArg some (by kernel_rfl))
 f267:=Tryz.func195.trans (congrArg some (by kernel_rfl))
 f314:=Tryz.func223.trans (congrArg some (by kernel_rfl))
 t3:=Tryz.underlying3
 a3:=Tryz.isAgg3
 z3:=Tryz.sizeOf3
 v3:=Tryz.zeroValue3
 t4:=Tryz.underlying4
 a4:=Tryz.isAgg4
 z4:=Tryz.sizeOf4
 v4:=Tryz.zeroValue4
 t5:=Tryz.underlying5
 a5:=Tryz.isAgg5
 z5:=Tryz.sizeOf5
 v5:=Tryz.zeroValue5
 t9:=Tryz.underlying9
 a9:=Tryz.isAgg9
 z9:=Tryz.sizeOf9
 v9:=Tryz.zeroValue9
 t46:=Tryz.underlying176
 a46:=Tryz.isAgg176
 z46:=Tryz.sizeOf176
 v46:=Tryz.zeroValue176
 t51:=Tryz.underlying76
 a51:=Tryz.isAgg76
 z51:=Tryz.sizeOf76
 v51:=Tryz.zeroValue76
 t146:=Tryz.underlying271
 a146:=Tryz.isAgg271
 z146:=Tryz.sizeOf271
 v146:=Tryz.zeroValue271
 g1:=by kernel_rfl}
open Go.RowKit Go.Lib in
theorem Tryz.strings_Index(s sub:ByteArray)(m:Int)(w:World)(hs:s.size<4294967281)(hm:w.cell? ⟨3,0,none⟩=some (.int .i64 m)):
 Calls Tryz.prog 122 #[.string s,.string sub] w λe w'=>e=.returned (.int .i64 (Lib.index s.data.toList sub.data.toList))/\w'=w:=Any.strings_Index Tryz.lays143 s sub m w hs hm
def Tryz.lays189_ren:Go.Shelf.Ren:=⟨λ|189=>105|125=>149|257=>148|128=>187|129=>188|294=>179|295=>180|296=>181|297=>182|298=>183|299=>184|216=>117|300=>185|301=>186|328=>216|329=>217|330=>218|331=>219|332=>220|215=>154|343=>239|n=>n,λ|28=>43|3=>3|46=>176|0=>0|51=>76|53=>232|4=>4|183=>240|182=>239|131=>133|5=>5|9=>9|218=>265|222=>125|228=>288|229=>156|n=>n,λ|n=>n⟩
theorem Tryz.lays189:Go.Proofs.Lays.n189 Tryz.prog Tryz.lays189_ren:={
 mixed:=by kernel_rfl
 f125:=Tryz.func149.trans (congrArg some (by kernel_rfl))
 f128:=Tryz.func187.trans (congrArg some (by kernel_rfl))
 f129:=Tryz.func188.trans (congrArg some (by kernel_rfl))
 f189:=Tryz.func105.trans (congrArg some (by kernel_rfl))
 f215:=Tryz.func154.trans (congrArg some (by kernel_rfl))
 f216:=Tryz.func117.trans (congrArg some (by kernel_rfl))
 f257:=Tryz.func148.trans (congrArg some (by kernel_rfl))
 f294:=Tryz.func179.trans (congrArg some (by kernel_rfl))
 f295:=Tryz.func180.trans (congrArg some (by kernel_rfl))
 f296:=Tryz.func181.trans (congrArg some (by kernel_rfl))
 f297:=Tryz.func182.trans (congrArg some (by kernel_rfl))
 f298:=Tryz.func183.trans (congrArg some (by kernel_rfl))
 f299:=Tryz.func184.trans (congrArg some (by kernel_rfl))
 f300:=Tryz.func185.trans (congrArg some (by kernel_rfl))
 f301:=Tryz.func186.trans (congrArg some (by kernel_rfl))
 f328:=Tryz.func216.trans (congrArg some (by kernel_rfl))
 f329:=Tryz.func217.trans (congrArg some (by kernel_rfl))
 f330:=Tryz.func218.trans (congrArg some (by kernel_rfl))
 f331:=Tryz.func219.trans (congrArg some (by kernel_rfl))
 f332:=Tryz.func220.trans (congrArg some (by kernel_rfl))
 f343:=Tryz.func239.trans (congrArg some (by kernel_rfl))
 t0:=Tryz.underlying0
 a0:=Tryz.isAgg0
 z0:=Tryz.sizeOf0
 v0:=Tryz.zeroValue0
 t3:=Tryz.underlying3
 a3:=Tryz.isAgg3
 z3:=Tryz.sizeOf3
 v3:=Tryz.zeroValue3
 t4:=Tryz.underlying4
 a4:=Tryz.isAgg4
 z4:=Tryz.sizeOf4
 v4:=Tryz.zeroValue4
 t5:=Tryz.underlying5
 a5:=Tryz.isAgg5
 z5:=Tryz.sizeOf5
 v5:=Tryz.zeroValue5
 t9:=Tryz.underlying9
 a9:=Tryz.isAgg9
 z9:=Tryz.sizeOf9
 v9:=Tryz.zeroValue9
 t28:=Tryz.underlying43
 a28:=Tryz.isAgg43
 z28:=Tryz.sizeOf43
 v28:=Tryz.zeroValue43
 t46:=Tryz.underlying176
 a46:=Tryz.isAgg176
 z46:=Tryz.sizeOf176
 v46:=Tryz.zeroValue176
 t51:=Tryz.underlying76
 a51:=Tryz.isAgg76
 z51:=Tryz.sizeOf76
 v51:=Tryz.zeroValue76
 t53:=Tryz.underlying232
 a53:=Tryz.isAgg232
 z53:=Tryz.sizeOf232
 v53:=Tryz.zeroValue232
 t131:=Tryz.underlying133
 a131:=Tryz.isAgg133
 z131:=Tryz.sizeOf133
 v131:=Tryz.zeroValue133
 t182:=Tryz.underlying239
 a182:=Tryz.isAgg239
 z182:=Tryz.sizeOf239
 v182:=Tryz.zeroValue239
 t183:=Tryz.underlying240
 a183:=Tryz.isAgg240
 z183:=Tryz.sizeOf240
 v183:=Tryz.zeroValue240
 t218:=Tryz.underlying265
 a218:=Tryz.isAgg265
 z218:=Tryz.sizeOf265
 v218:=Tryz.zeroValue265
 t222:=Tryz.underlying125
 a222:=Tryz.isAgg125
 z222:=Tryz.sizeOf125
 v222:=Tryz.zeroValue125
 t228:=Tryz.underlying288
 a228:=Tryz.isAgg288
 z228:=Tryz.sizeOf288
 v228:=Tryz.zeroValue288
 t229:=Tryz.underlying156
 a229:=Tryz.isAgg156
 z229:=Tryz.sizeOf156
 v229:=Tryz.zeroValue156}
open Go.Sort Go.RowKit in
theorem Tryz.slices_Sort_int(blk off cap:Nat)(zs:List Int)(w:World)(hH:Holds (Value.int .i64) w blk off zs.toArray)(hblk:blk<w.heap.size)(hsz:zs.length<4611686018427387904):
 Calls Tryz.prog 105 #[.slice (some ⟨blk,off,none⟩) zs.length cap] w λe w' =>
  e=.returned (.tuple #[])/\∃n os,w'=grow (putRow (Value.int .i64) (Sort.ahead w n) blk off (zs.mergeSort λx y=>decide (x<=y)).toArray) os:=Any.slices_Sort_int Tryz.lays189 blk off cap zs w hH hblk hsz
def Tryz.lays99_ren:Go.Shelf.Ren:=⟨λ|99=>123|206=>160|n=>n,λ|9=>9|4=>4|3=>3|n=>n,λ|n=>n⟩
theorem Tryz.lays99:Go.Proofs.Lays.n99 Tryz.prog Tryz.lays99_ren:={
 mixed:=by kernel_rfl
 f99:=Tryz.func123.trans (congrArg some (by kernel_rfl))
 f206:=Tryz.func160.trans (congrArg some (by kernel_rfl))
 t3:=Tryz.underlying3
 a3:=Tryz.isAgg3
 z3:=Tryz.sizeOf3
 v3:=Tryz.zeroValue3
 t4:=Tryz.underlying4
 a4:=Tryz.isAgg4
 z4:=Tryz.sizeOf4
 v4:=Tryz.zeroValue4
 t9:=Tryz.underlying9
 a9:=Tryz.isAgg9
 z9:=Tryz.sizeOf9
 v9:=Tryz.zeroValue9}
open Go.RowKit Go.Lib in
theorem Tryz.strings_HasPrefix(s p:ByteArray)(w:World):
 Calls Tryz.prog 123 #[.string s,.string p] w λe w'=>e=.returned (.bool (Lib.hasPrefix s.data.toList p.data.toList))/\w'=w:=Any.strings_HasPrefix Tryz.lays99 s p w
def Tryz.lays100_ren:Go.Shelf.Ren:=⟨λ|100=>124|207=>161|n=>n,λ|9=>9|4=>4|3=>3|n=>n,λ|n=>n⟩
theorem Tryz.lays100:Go.Proofs.Lays.n100 Tryz.prog Tryz.lays100_ren:={
 mixed:=by kernel_rfl
 f100:=Tryz.func124.trans (congrArg some (by kernel_rfl))
 f207:=Tryz.func161.trans (congrArg some (by kernel_rfl))
 t3:=Tryz.underlying3
 a3:=Tryz.isAgg3
 z3:=Tryz.sizeOf3
 v3:=Tryz.zeroValue3
 t4:=Tryz.underlying4
 a4:=Tryz.isAgg4
 z4:=Tryz.sizeOf4
 v4:=Tryz.zeroValue4
 t9:=Tryz.underlying9
 a9:=Tryz.isAgg9
 z9:=Tryz.sizeOf9
 v9:=Tryz.zeroValue9}
open Go.RowKit Go.Lib in
theorem Tryz.strings_HasSuffix(s p:ByteArray)(w:World)(hs:s.size<=9223372036854775807):
 Calls Tryz.prog 124 #[.string s,.string p] w λe w'=>e=.returned (.bool (Lib.hasSuffix s.data.toList p.data.toList))/\w'=w:=Any.strings_HasSuffix Tryz.lays100 s p w hs
def Tryz.laysNm220_ren:Go.Shelf.Ren:=⟨λ|20=>115|n=>n,λ|22=>43|3=>3|4=>4|0=>0|n=>n,λ|n=>n⟩
theorem Tryz.laysNm220:Go.Proofs.Lays2.n20 Tryz.prog Tryz.laysNm220_ren:={
 mixed:=by kernel_rfl
 f20:=Tryz.func115.trans (congrArg some (by kernel_rfl))
 t0:=Tryz.underlying0
 a0:=Tryz.isAgg0
 z0:=Tryz.sizeOf0
 v0:=Tryz.zeroValue0
 t3:=Tryz.underlying3
 a3:=Tryz.isAgg3
 z3:=Tryz.sizeOf3
 v3:=Tryz.zeroValue3
 t4:=Tryz.underlying4
 a4:=Tryz.isAgg4
 z4:=Tryz.sizeOf4
 v4:=Tryz.zeroValue4
 t22:=Tryz.underlying43
 a22:=Tryz.isAgg43
 z22:=Tryz.sizeOf43
 v22:=Tryz.zeroValue43
 i3:=by kernel_rfl}
open Go.RowKit Go.Lib Go.Sort in
theorem Tryz.slices_Compact_int(blk off cap:Nat)(zs:List Int)(w:World)(hH:Holds (Value.int .i64) w blk off zs.toArray)(hsz:zs.length<=9223372036854775807)(hcap:zs.length<=cap):
 Calls Tryz.prog 115 #[.slice (some ⟨blk,off,none⟩) zs.length cap] w λe w'=>e=.returned (.slice (some ⟨blk,off,none⟩) (Lib.compact zs).length cap)/\∃q,w'=putRow (Value.int .i64) (Sort.ahead w q) blk off (Lib.compact zs++List.replicate (zs.length-(Lib.compact zs).length) 0).toArray:=Any.slices_Compact_int Tryz.laysNm220 blk off cap zs w hH hsz hcap
open Go.RowKit Go.Lib Go.Sort in
theorem Tryz.slices_Compact_int_empty(a:Option Addr)(cap:Nat)(w:World):
 Calls Tryz.prog 115 #[.slice a 0 cap] w λe w'=>e=.returned (.slice a 0 cap)/\w'=w:=Any.slices_Compact_int_empty Tryz.laysNm220 a cap w
def Tryz.laysNm225_ren:Go.Shelf.Ren:=⟨λ|25=>69|31=>117|32=>118|37=>154|n=>n,λ|22=>43|3=>3|4=>4|40=>176|0=>0|n=>n,λ|n=>n⟩
theorem Tryz.laysNm225:Go.Proofs.Lays2.n25 Tryz.prog Tryz.laysNm225_ren:={
 mixed:=by kernel_rfl
 f25:=Tryz.func69.trans (congrArg some (by kernel_rfl))
 f31:=Tryz.func117.trans (congrArg some (by kernel_rfl))
 f32:=Tryz.func118.trans (congrArg some (by kernel_rfl))
 f37:=Tryz.func154.trans (congrArg some (by kernel_rfl))
 t0:=Tryz.underlying0
 a0:=Tryz.isAgg0
 z0:=Tryz.sizeOf0
 v0:=Tryz.zeroValue0
 t3:=Tryz.underlying3
 a3:=Tryz.isAgg3
 z3:=Tryz.sizeOf3
 v3:=Tryz.zeroValue3
 t4:=Tryz.underlying4
 a4:=Tryz.isAgg4
 z4:=Tryz.sizeOf4
 v4:=Tryz.zeroValue4
 t22:=Tryz.underlying43
 a22:=Tryz.isAgg43
 z22:=Tryz.sizeOf43
 v22:=Tryz.zeroValue43
 t40:=Tryz.underlying176
 a40:=Tryz.isAgg176
 z40:=Tryz.sizeOf176
 v40:=Tryz.zeroValue176}
open Go.RowKit Go.Lib in
theorem Tryz.slices_BinarySearch_int(b off n c:Nat)(zs:List Int)(x:Int)(w:World)(hz:n<=zs.length)(hbig:n<4611686018427387904)(hc:∀j,j<zs.length->w.cell? ⟨b,off+j,none⟩=some (.int .i64 (zs.getD j 0)))(hs:(zs.take n).Pairwise (·<=·)):
 Calls Tryz.prog 69 #[.slice (some ⟨b,off,none⟩) n c,.int .i64 x] w λe w'=>e=.returned (.tuple #[.int .i64 ((zs.take n).countP (·<x):Nat),.bool ((zs.take n).contains x)])/\∃q,w'=w.drewN q:=Any.slices_BinarySearch_int Tryz.laysNm225 b off n c zs x w hz hbig hc hs
open Go.RowKit Go.Sort in
theorem Tryz.slices_Sort_int_none(p:Option Addr)(cap:Nat)(w:World):
 Calls Tryz.prog 105 #[.slice p 0 cap] w λe w'=>e=.returned (.tuple #[])/\w'=w:=Any.slices_Sort_int_none Tryz.lays189 p cap w
open Go.RowKit Go.Lib in
theorem Tryz.slices_BinarySearch_int_empty(a:Option Addr)(c:Nat)(x:Int)(w:World):
 Calls Tryz.prog 69 #[.slice a 0 c,.int .i64 x] w λe w'=>e=.returned (.tuple #[.int .i64 0,.bool false])/\w'=w:=Any.slices_BinarySearch_int_empty Tryz.laysNm225 a c x w
def Tryz.keysA_ren:Go.Shelf.Ren:=⟨λ|7=>88|10=>129|n=>n,λ|23=>101|26=>3|3=>4|28=>122|0=>0|27=>121|33=>135|4=>4|n=>n,λ|n=>n⟩
theorem Tryz.keysA:Go.Proofs.SlLaysZI.n7 Tryz.prog Tryz.keysA_ren:={
 mixed:=by kernel_rfl
 f7:=⟨Tryz.f88.name,by decide,Tryz.func88.trans (congrArg some (by kernel_rfl))⟩
 f10:=⟨Tryz.f129.name,by decide,Tryz.func129.trans (congrArg some (by kernel_rfl))⟩
 t0:=Tryz.underlying0
 a0:=Tryz.isAgg0
 z0:=Tryz.sizeOf0
 v0:=Tryz.zeroValue0
 t4:=Tryz.underlying4
 a4:=Tryz.isAgg4
 z4:=Tryz.sizeOf4
 v4:=Tryz.zeroValue4
 t23:=Tryz.underlying101
 a23:=Tryz.isAgg101
 z23:=Tryz.sizeOf101
 v23:=Tryz.zeroValue101
 t26:=Tryz.underlying3
 a26:=Tryz.isAgg3
 z26:=Tryz.sizeOf3
 v26:=Tryz.zeroValue3
 t27:=Tryz.underlying121
 a27:=Tryz.isAgg121
 z27:=Tryz.sizeOf121
 v27:=Tryz.zeroValue121
 t28:=Tryz.underlying122
 a28:=Tryz.isAgg122
 z28:=Tryz.sizeOf122
 v28:=Tryz.zeroValue122
 t33:=Tryz.underlying135
 a33:=Tryz.isAgg135
 z33:=Tryz.sizeOf135
 v33:=Tryz.zeroValue135}
def Tryz.sortedA_ren:Go.Shelf.Ren:=⟨λ|6=>55|8=>104|9=>105|11=>147|13=>149|12=>148|23=>187|24=>188|14=>179|15=>180|16=>181|17=>182|18=>183|19=>184|20=>117|21=>185|22=>186|25=>216|26=>217|27=>218|28=>219|29=>220|30=>154|31=>239|n=>n,λ|26=>3|28=>122|24=>43|0=>0|3=>3|37=>176|48=>76|50=>232|4=>4|40=>240|39=>239|45=>133|5=>5|9=>9|51=>265|55=>125|57=>288|58=>156|33=>135|n=>n,λ|n=>n⟩
theorem Tryz.sortedA:Go.Proofs.SlLaysZI.n6 Tryz.prog Tryz.sortedA_ren:={
 mixed:=by kernel_rfl
 f6:=⟨Tryz.f55.name,by decide,Tryz.func55.trans (congrArg some (by kernel_rfl))⟩
 f8:=⟨Tryz.f104.name,by decide,Tryz.func104.trans (congrArg some (by kernel_rfl))⟩
 f11:=⟨Tryz.f147.name,by decide,Tryz.func147.trans (congrArg some (by kernel_rfl))⟩
 t0:=Tryz.underlying0
 a0:=Tryz.isAgg0
 z0:=Tryz.sizeOf0
 v0:=Tryz.zeroValue0
 t24:=Tryz.underlying43
 a24:=Tryz.isAgg43
 z24:=Tryz.sizeOf43
 v24:=Tryz.zeroValue43
 t26:=Tryz.underlying3
 a26:=Tryz.isAgg3
 z26:=Tryz.sizeOf3
 v26:=Tryz.zeroValue3
 t28:=Tryz.underlying122
 a28:=Tryz.isAgg122
 z28:=Tryz.sizeOf122
 v28:=Tryz.zeroValue122
 i26:=by kernel_rfl}
def Tryz.growI_ren:Go.Shelf.Ren:=⟨λ|4=>190|n=>n,λ|22=>43|25=>3|3=>3|4=>4|9=>9|20=>20|0=>0|n=>n,λ|n=>n⟩
theorem Tryz.growI:Go.Proofs.Lays8.n4 Tryz.prog Tryz.growI_ren:={
 mixed:=by kernel_rfl
 f4:=⟨Tryz.f190.name,by decide,Tryz.func190.trans (congrArg some (by kernel_rfl))⟩
 t0:=Tryz.underlying0
 a0:=Tryz.isAgg0
 z0:=Tryz.sizeOf0
 v0:=Tryz.zeroValue0
 t3:=Tryz.underlying3
 a3:=Tryz.isAgg3
 z3:=Tryz.sizeOf3
 v3:=Tryz.zeroValue3
 t4:=Tryz.underlying4
 a4:=Tryz.isAgg4
 z4:=Tryz.sizeOf4
 v4:=Tryz.zeroValue4
 t9:=Tryz.underlying9
 a9:=Tryz.isAgg9
 z9:=Tryz.sizeOf9
 v9:=Tryz.zeroValue9
 t20:=Tryz.underlying20
 a20:=Tryz.isAgg20
 z20:=Tryz.sizeOf20
 v20:=Tryz.zeroValue20
 t22:=Tryz.underlying43
 a22:=Tryz.isAgg43
 z22:=Tryz.sizeOf43
 v22:=Tryz.zeroValue43}
def Tryz.cloneM_ren:Go.Shelf.Ren:=⟨λ|5=>40|7=>87|n=>n,λ|23=>101|25=>3|3=>4|4=>4|20=>20|n=>n,λ|n=>n⟩
theorem Tryz.cloneM:Go.Proofs.SlLaysW.n5 Tryz.prog Tryz.cloneM_ren:={
 mixed:=by kernel_rfl
 f5:=⟨Tryz.f40.name,by decide,Tryz.func40.trans (congrArg some (by kernel_rfl))⟩
 f7:=Tryz.func87.trans (congrArg some (by kernel_rfl))
 t4:=Tryz.underlying4
 a4:=Tryz.isAgg4
 z4:=Tryz.sizeOf4
 v4:=Tryz.zeroValue4
 t20:=Tryz.underlying20
 a20:=Tryz.isAgg20
 z20:=Tryz.sizeOf20
 v20:=Tryz.zeroValue20
 t23:=Tryz.underlying101
 a23:=Tryz.isAgg101
 z23:=Tryz.sizeOf101
 v23:=Tryz.zeroValue101}
def Tryz.lays196_ren:Go.Shelf.Ren:=⟨λ|196=>96|259=>135|n=>n,λ|9=>9|4=>4|3=>3|5=>5|12=>12|119=>195|0=>0|46=>176|139=>198|138=>197|53=>232|n=>n,λ|3=>0|4=>1|n=>n⟩
theorem Tryz.lays196:Go.Proofs.Lays.n196 Tryz.prog Tryz.lays196_ren:={
 mixed:=by kernel_rfl
 f196:=Tryz.func96.trans (congrArg some (by kernel_rfl))
 f259:=Tryz.func135.trans (congrArg some (by kernel_rfl))
 t0:=Tryz.underlying0
 a0:=Tryz.isAgg0
 z0:=Tryz.sizeOf0
 v0:=Tryz.zeroValue0
 t3:=Tryz.underlying3
 a3:=Tryz.isAgg3
 z3:=Tryz.sizeOf3
 v3:=Tryz.zeroValue3
 t4:=Tryz.underlying4
 a4:=Tryz.isAgg4
 z4:=Tryz.sizeOf4
 v4:=Tryz.zeroValue4
 t5:=Tryz.underlying5
 a5:=Tryz.isAgg5
 z5:=Tryz.sizeOf5
 v5:=Tryz.zeroValue5
 t9:=Tryz.underlying9
 a9:=Tryz.isAgg9
 z9:=Tryz.sizeOf9
 v9:=Tryz.zeroValue9
 t12:=Tryz.underlying12
 a12:=Tryz.isAgg12
 z12:=Tryz.sizeOf12
 v12:=Tryz.zeroValue12
 t46:=Tryz.underlying176
 a46:=Tryz.isAgg176
 z46:=Tryz.sizeOf176
 v46:=Tryz.zeroValue176
 t53:=Tryz.underlying232
 a53:=Tryz.isAgg232
 z53:=Tryz.sizeOf232
 v53:=Tryz.zeroValue232
 t119:=Tryz.underlying195
 a119:=Tryz.isAgg195
 z119:=Tryz.sizeOf195
 t138:=Tryz.underlying197
 a138:=Tryz.isAgg197
 z138:=Tryz.sizeOf197
 v138:=Tryz.zeroValue197
 t139:=Tryz.underlying198
 a139:=Tryz.isAgg198
 z139:=Tryz.sizeOf198
 v139:=Tryz.zeroValue198
 g3:=by kernel_rfl
 g4:=by kernel_rfl}
end Go.Proofs
namespace Go.Proofs.YtcmfcpjnhephaaaGreatDoor.Av
open Go Go.ChangeShapes Go.WideShapes Go.ChangeAt Go.RowKit
variable {P:Program}{t e:TypeId}{X Y H:Type}{k:IntKind}{w W w0:World}{n N g i:Nat}{v:Value}{f:FuncId}{A B:Prop}{args c l:List AV}{L:List Blk}{S0:SB}{E:Env}{name:String}
def oH(w:World):Env:={mem:=λb o=>w.cell? ⟨b,o,none⟩,loc:=λ_=>none,tok:=λ_=>none}
theorem Rel.start(w:World)(hg:sy (oH w).mem/\tI w):Rel w ⟨λ_=>False,0⟩ (oH w) [] w where
 mem _ _ _ h:=h
 blk _ _ h:=by simp at h
 fresh _ _:=rfl
 own _ _ _ h:=by simp at h
 inj _ _ _ _ _ _ h:=by simp at h
 tkfresh _ _:=rfl
 tkown _ _ _ _ _ h:=by simp at h
 tkloc _ _ _ _ _ _ _ _ h:=by simp at h
 tkinj _ _ _ _ _ _ _ _ _ _ h:=by simp at h
 frame _ _ _:=rfl
 size:=alr _
 os:=rfl
 tape:=rfl
 output:=rfl
 glob:=hg.1
 gsz:=hg.2
def Rd(P:Program)(t:TypeId){X:Type}(ec:X->List AV)(ok:X->Prop):Prop :=
 ∀(H:Type) (enc:TypeId×Value->H) (w:World) (fuel:Nat) (cs:List Value) (x:DataW H×List MemPlace),
  DataW.trod enc P w 0 (λ_=>true) true fuel t cs=some x->∃y,ok y/\VRL (oH w) (ec y) cs
theorem Rd.map{ec:X->List AV}{ok:X->Prop}{ec':Y->List AV}{ok':Y->Prop}(h:Rd P t ec ok)(m:∀y,ok y->∃z,ok' z/\ec' z=ec y):Rd P t ec' ok':=λH enc w fuel cs x hx=>by obtain⟨y,h1,h2⟩:=h H enc w fuel cs x hx;obtain⟨z,h3,h4⟩:=m y h1;exact⟨z,h3,by rw[h4];exact h2⟩
theorem U8(ht:P.underlying t=some (.int k)):Rd P t (λn:Int=>[.int k n]) (λn=>k.min<=n/\n<=k.max):=λH enc w fuel cs x hx=>by obtain⟨n,rfl,_,hw⟩:=DataW.trod_int ht hx;simp only[Lit.wf,alx,decide_eq_true_eq]at hw;exact⟨n,hw,by simp[VRL,VR]⟩
theorem acV{E:Env}:∀{l m:List AV}{b o:Nat},VRC E l b o->VRC E m b (o+l.length)->VRC E (l++m) b o
 |[],_,_,_,_,h=>by simpa using h
 |a::l,m,b,o,h,k=>by simp only[al3,VRC]at h⊢;exact⟨h.1,acV h.2 (by rw[show o+1+l.length=o+(l.length+1)by omega];exact k)⟩
theorem SF{X:Type}(Q:Nat->X->Prop):∀n,(∀i,i<n->∃y,Q i y)->∃ys:List X,ys.length=n/\∀i y,ys[i]?=some y->Q i y
 |0,_=>⟨[],rfl,aoK⟩
 | n+1,h=>by
   obtain⟨ys,h1,h2⟩:=SF Q n λi hi=>h i aoJ
   obtain⟨y,hy⟩:=h n aoJ;refine⟨ys++[y],by simp[h1],λi z hz=>?_⟩;rw[amD]at hz;split at hz
   .exact h2 i z hz
   .have hi:i-ys.length=0:=by
     rcases amN (i-ys.length)with e|e
     .exact e
     .rw[amI (by simp;omega)]at hz;cases hz
    rw[hi]at hz;simp at hz;subst hz;rw[show i=n by omega];exact hy
theorem WA{E:Env}{X:Type}{ec:X->List AV}{b sz:Nat}:∀{ys:List X}{o:Nat},(∀i y,ys[i]?=some y->(ec y).length=sz/\VRC E (ec y) b (o+i*sz))->VRC E (ys.flatMap ec) b o
 |[],_,_=>by simp[VRC]
 |y::ys,o,h=>by rw[amv];have h0:=h 0 y rfl;refine acV (by simpa using h0.2) (WA (sz:=sz) λi z hz=>?_);have:=h (i+1) z hz;refine⟨this.1,?_⟩;rw[h0.1,show o+sz+i*sz=o+(i+1)*sz by rw[amq];omega];exact this.2
theorem yb{a:Addr}{cs:List Value}(h:w.cells? 0 a n=some cs):cs.length=n/\∀i,i<n->w.cell? (a.add i)=cs[i]?:=by simp only[World.cells?,alw,if_true]at h;refine⟨by simpa using mapM_some_length h,λi hi=>?_⟩;exact mapM_some_get h i i (by simp[hi])
theorem Yb{a:Addr}(h:w.cell? a=some v):a.spot=none:=by rcases hs:a.spot with _|s;rfl;simp only[World.cell?,hs,amQ,if_true]at h;split at h<;>cases h
theorem abh{base:Nat}(hg:gU P t=some false)(h:Value.okWide P w .any base t v):v.cells.toList=[v]:=by
 unfold gU at hg;unfold Value.okWide at h;split at hg;cases hg;cases hg
 .rename_i d h1 h2 hu;rw[hu]at h;split at h;rename_i e;cases e;exact absurd rfl (h1 _);rename_i e;cases e;exact absurd rfl (h2 _ _)
  .cases v<;>try rfl
   rename_i cs;unfold Cell.okWide at h;split at h<;>try (rename_i e1 e2;cases e2)
   unfold Cell.ok at h;split at h<;>first|(rename_i e1 e2;cases e2;done)|cases h
 cases hg
theorem ZB{enc:TypeId×Value->H}{f:Func}{s:ChangeSpec}{apart fresh handsOn again:Bool}{W':World}{args:Array Value}{ds gs:List (DataW H)}{before pa pv:List MemPlace}(hW:DataW.Whole enc P f.params.toList s.vars apart W args.toList ds gs before)(hres:∀(b:Nat) (sp:Nat->Bool) (hd:Bool),DataW.TrodAll enc P W' b sp hd f.resultTypes.toList (v.resultList f.resultTypes.size) (s.fn H (ds++gs)).results [])(hargs:∀sp:Nat->Bool,(∀p∈before,sp p.block=true)->DataW.TrodAll enc P W' 0 sp true f.params.toList args.toList (s.fn H (ds++gs)).args pa)(hvars:∀sp:Nat->Bool,(∀p∈before,sp p.block=true)->DataW.TrodVars enc P W' sp s.vars (s.fn H (ds++gs)).vars pv)(hps:before=pa++pv)(hk:W.keptBut W' (·∈before))(hfz:∀b o,b<W.heap.size->W'.frozen? ⟨b,o,none⟩=W.frozen? ⟨b,o,none⟩)(hok:∀(j:Nat) (t:TypeId) (r:Value),f.resultTypes[j]?=some t->(v.resultList f.resultTypes.size)[j]?=some r->Value.okWide P W' .any 0 t r):
  s.post enc P f apart fresh handsOn again W args v W':=by
 have hlt:=hW.lt;have hold:∀p∈before,(λb=>decide (b<W.heap.size)) p.block=true:=λp hp=>by simpa using hlt p hp
 refine⟨ds,gs,before,[],pa,pv,hW,hres _ _ _,hargs _ hold,hvars _ hold,World.keptBut_mono (λp hp=>⟨hp,?_⟩) hk,λ_=>?_⟩;rw[hps,alv]at hp;exact Or.inr hp;obtain⟨_,_,_,_,_,hz,hn⟩:=hW;refine⟨hok,_,_,([]++pa)++pv,⟨[]++pa,pv,trodAll_append (hargs _ (λ_ _=>rfl)) (hres _ _ _),hvars _ (λ_ _=>rfl),rfl,?_,?_⟩,?_⟩;intro b off hp;have hp':MemPlace.cell b off∈before:=by rw[hps];simpa using hp
 rw[hfz b off (hlt _ hp')];exact hz b off hp';intro ha;have:=hn ha;rw[hps]at this;simpa using this;intro p hp _;rw[hps];simpa using hp
def Pf(P:Program):Bool:=(List.range P.types.size).all λt=>match P.underlying t with|some (.slice e)=>decide (0<P.cellsOf e)|_=>true
theorem Lp{H:Type}{enc:TypeId×Value->H}{P:Program}{W W':World}(hlaid:laidOutB P=true)(hrow:mapsRowed P=true)(hfull:Pf P=true):
  ∀{ts:List TypeId}{vs:List Value}{ds:List (DataW H)}{ps:List MemPlace},(∀t∈ts,t<P.types.size)->DataW.TrodAll enc P W 0 (λ_=>true) true ts vs ds ps->(∀p∈ps,W.sameAt W' p) ->
  ∀sp:Nat->Bool,(∀p∈ps,sp p.block=true)->DataW.TrodAll enc P W' 0 sp true ts vs ds ps
 |[],_,_,_,_,h,_,_,_=>by obtain⟨rfl,rfl,rfl⟩:=trodAll_nil h;exact trodAll_mk0
 | t::ts,_,_,_,hts,h,hs,sp,hsp=>by
   obtain⟨v,vs',d,ds',p,q,rfl,rfl,rfl,h1,h2⟩:=trodAll_cons h;obtain⟨fuel,h1⟩:=h1;refine trodAll_cons_mk ⟨fuel,DataW.trod_stays (kids_rows hlaid hrow) (λ{t e} ht hu=>?_) (λe=>by cases e) (hts t aoK) h1 (λr hr=>hs r (amZ _ hr)) (λr hr=>hsp r (amZ _ hr))⟩
    (Lp hlaid hrow hfull (λu hu=>hts u (by simp[hu])) h2 (λr hr=>hs r (anp _ hr)) sp (λr hr=>hsp r (anp _ hr)))
   have:=alC.1 hfull t (anH.2 ht);rw[hu]at this;simpa using this
theorem U0{H:Type}{enc:TypeId×Value->H}{P:Program}{w:World}{base:Nat}{spare:Nat->Bool}{held:Bool}:∀{ts:List TypeId}{vs:List Value}{ds:List (DataW H)}{ps:List MemPlace},DataW.TrodAll enc P w base spare held ts vs ds ps->ds.length=ts.length
 |[],_,_,_,h=>by obtain⟨_,rfl,_⟩:=trodAll_nil h;rfl
 |t::ts,_,_,_,h=>by obtain⟨v,vs',d,ds',p,q,rfl,rfl,rfl,_,h2⟩:=trodAll_cons h;simp[U0 h2]
theorem WP{fn:Func}{s:ChangeSpec}{apart fresh handsOn again:Bool}{tb:TypeId}(hfn:P.funcs[f]?=some fn)(hbody:fn.body.isSome=true)(hname:(fn.name == "runtime.NumGoroutine")=false)(hlaid:laidOutB P=true)(hrow:mapsRowed P=true)(hfull:Pf P=true)(hts:fn.params.toList.all (fun t=>decide (t<P.types.size))=true)(hres:fn.resultTypes=#[tb])(hb:P.underlying tb=some .bool)(hvars:s.vars=[])(hs:∀ (H:Type) (ds:List (DataW H)),ds.length=fn.params.toList.length->(s.fn H ds).results=[.lit (.bool true)]/\(s.fn H ds).args=ds/\(s.fn H ds).vars=[]){ec:X->List AV}{ok:X->Prop}(walk:∀ y,ok y->ae P f (ec y) [] fun av _=>av=.bool true)(enc:TypeId×Value->H)(W:World)(args:Array Value)(ds gs:List (DataW H))(before:List MemPlace)(hA:∀ p,DataW.TrodAll enc P W 0 (fun _=>true) true fn.params.toList args.toList ds p->∃ y,ok y/\VRL (oH W) (ec y) args.toList)(hW:DataW.Whole enc P fn.params.toList s.vars apart W args.toList ds gs before)(hglob:sy (oH W).mem/\tI W):
  Calls P f args W λe W'=>∃v,e=.returned v/\s.post enc P fn apart fresh handsOn again W args v W':=by
 have hW':=hW;have hlt:=hW.lt;obtain⟨p,q,hA0,hV,rfl,hfz,hnd⟩:=hW;rw[hvars]at hV;obtain⟨rfl,rfl⟩:=trodVars_none hV;obtain⟨y,hy,hvr⟩:=hA p hA0;have hlen:=U0 hA0;obtain⟨e1,e2,e3⟩:=hs H ds hlen;have hrun:(callFunc f args).run P W=.ok (.enter f args) W:=by
  simp only[callFunc,alz,run_program,alB,hfn,hname];cases hb:fn.body with
  |none=>simp[hb]at hbody
  |some c=>simp
 rcases walk y hy W ⟨λ_=>False,0⟩ (oH W) W args.toList (Rel.start W hglob) hvr with⟨_,h⟩|⟨_,_,_,_,_,h,_⟩;refine h.mono λe W' ⟨E',v,av,L',he,_,hav,hv,hR⟩=>?_
 subst hav;simp only[VR]at hv;subst hv;refine⟨_,he,?_⟩;have hheap:∀b,b<W.heap.size->W'.heap[b]?=W.heap[b]?:=λb hb=>hR.frame b hb (λh=>h)
 have hps:∀r∈p,W.sameAt W' r:=λr hr=>by have:=hlt r (by simpa using hr);cases r<;>simp only[World.sameAt,MemPlace.block]at this⊢;simp only[World.cell?];rw[hheap _ this];exact hheap _ this
 refine ZB (pa:=p) (pv:=[]) hW' (λb sp hd=>?_) (λsp hsp=>?_) (λ_ _=>?_) rfl ⟨hR.os,hR.output,λi hi=>?_⟩ (λb o hb=>?_) (λj t r h1 h2=>?_);rw[alY,e1,hres];exact trodAll_cons_mk (shut_bool hb _) trodAll_mk0;rw[alY,e2];exact Lp hlaid hrow hfull (λt ht=>by simpa using alC.1 hts t ht) hA0 hps sp (λr hr=>hsp r (by simpa using hr));rw[hvars,alY,e3];rfl;rw[hheap i hi];rcases hc:W.heap[i]? with _|o;trivial;cases o<;>simp;simp only[World.frozen?];rw[hheap b hb];exact ok_one hres rfl (okWide_bool_mk hb _) j t r h1 h2;rw[show(⟨args.toList⟩:Array Value)=args from rfl,hrun]at h;cases h
open Go Go.ChangeShapes Go.WideShapes Go.ChangeAt
set_option maxHeartbeats 8000000
set_option maxRecDepth 100000
def RdZ(P:Program)(t:TypeId){X:Type}(ec:X->List AV)(ok:X->Prop):Prop :=
 ∀(H:Type) (enc:TypeId×Value->H) (w:World) (fuel:Nat) (cs:List Value) (x:DataW H×List MemPlace),
  DataW.trod enc P w 0 (λ_=>true) true fuel t cs=some x->(∀n∈x.1.weights P t,n<=reachBytes)->∃y,ok y/\VRL (oH w) (ec y) cs
theorem Rd.z{ec:X->List AV}{ok:X->Prop}(h:Rd P t ec ok):RdZ P t ec ok:=λH enc w fuel cs x hx _=>h H enc w fuel cs x hx
theorem P8(ht:P.underlying t=some .string):RdZ P t (λs:List UInt8=>[.str s]) (λs=>s.length<=reachBytes):=λH enc w fuel cs x hx hz=>by obtain⟨s,rfl,rfl,hw⟩:=DataW.trod_string ht hx;exact⟨s.data.toList,hz _ (by simp[DataW.weights]),by simp[VRL,VR]⟩
theorem rA{H:Type}{P:Program}{e:TypeId}:∀{l:List (DataW H)}{d:DataW H},d∈l->∀n∈d.weights P e,n∈DataW.weightsAll P e l
 | a::l,d,h,n,hn=>by
   rw[DataW.weightsAll];rcases alu.1 h with rfl|h
   .exact amZ _ hn
   .exact anp _ (rA h n hn)
theorem KY{ec:X->List AV}{ok:X->Prop}(ht:P.underlying t=some (.slice e))(he:RdZ P e ec ok)(hz':decide (0<P.cellsOf e)=true):
  RdZ P t (λl:List X=>[.sl (l.flatMap ec) l.length none]) (λl=>l.length<=maxLen/\∀y∈l,ok y):=λH enc w fuel cs x hx hwt=>by
 have hz:0<P.cellsOf e:=of_decide_eq_true hz';rcases DataW.trod_slice ht hx with⟨rfl,_⟩|⟨a,len,cap,elems,rest,n,_,rfl,rfl,_,hlc,hcap,hel,hget,hsp,_⟩;exact⟨[],⟨aoK,aoK⟩,by simp only[VRL,VR];exact⟨_,_,rfl,⟨none,0,rfl,alr _,aoK,.inl ⟨rfl,rfl,rfl⟩⟩,rfl⟩⟩;have hspot:cap≠0->a.spot=none:=λhc=>by
  have first:∀r:Option (DataW H×List MemPlace),r≠none->(w.cells? 0 (a.add (0*P.cellsOf e)) (P.cellsOf e)).bind (DataW.trod enc P w 0 (λ_=>true) true n e)=r->a.spot=none:=λr hr h1=>by obtain⟨q,rfl⟩:=Option.ne_none_iff_exists'.1 hr;rw[ani]at h1;obtain⟨cs',h2,_⟩:=h1;obtain⟨h6,h7⟩:=yb h2;have h8:=h7 0 hz;obtain⟨v,hv⟩:∃v,cs'[0]?=some v:=⟨cs'[0]'aoJ,alH _⟩;rw[hv]at h8;have:=Yb h8;simpa[Addr.add]using this
  by_cases hl:len=0;obtain⟨r1,r2⟩:=hsp rfl;exact first rest[0]? (by rw[alH aoJ];simp) (by simpa[hl]using r2 0 aoJ)
  exact first elems[0]? (by rw[alH aoJ];simp) (hget 0 aoJ)
 have each:∀i,i<len->∃y,ok y/\(ec y).length=P.cellsOf e/\a.spot=none/\VRC (oH w) (ec y) a.block (a.off+i*P.cellsOf e):=λi hi=>by
  have h1:=hget i hi;obtain⟨q,hq⟩:∃q,elems[i]?=some q:=⟨elems[i]'aoJ,alH _⟩;rw[hq,ani]at h1;obtain⟨cs',h2,h3⟩:=h1;obtain⟨y,h4,h5⟩:=he H enc w n cs' q h3 (λm hm=>hwt m (by simp only[DataW.weights,ht];refine amB _ (amZ _ (rA (d:=q.1) ?_ m hm));exact alt.2 ⟨q,al8 hq,rfl⟩))
  obtain⟨h6,h7⟩:=yb h2;have hl:=h5.length;have hsp:a.spot=none:=hspot aoJ;refine⟨y,h4,aoJ,hsp,VRC.of_get λj u hu=>?_⟩;obtain⟨v,h8,h9⟩:=h5.get hu;refine⟨v,?_,h9⟩;have hj:j<P.cellsOf e:=by have:=(alq.1 hu).1;omega
  have h10:=h7 j hj;rw[h8]at h10;rw[<- h10];have hadd:∀k,a.add k=⟨a.block,a.off+k,none⟩:=λk=>by obtain⟨b,o,s⟩:=a;simp only at hsp;subst hsp;exact Addr.add_mk b o k
  rw[hadd,Addr.add_mk];rfl
 obtain⟨ys,h1,h2⟩:=SF _ len each;refine⟨ys,⟨aoJ,λy hy=>?_⟩,?_⟩;obtain⟨i,hi⟩:=aog hy;exact(h2 i y hi).1;simp only[VRL];refine⟨_,[],rfl,?_,rfl⟩;simp only[VR];refine⟨_,_,by rw[h1],aoJ,aoK,?_⟩;by_cases hc:cap=0;have:ys=[]:=by have:ys.length=0:=aoJ;simpa using this
 subst this;exact .inl ⟨rfl,hc,rfl⟩;refine .inr ⟨a.block,a.off,?_,WA λi y hy=>⟨(h2 i y hy).2.1,(h2 i y hy).2.2.2⟩⟩;have hs:a.spot=none:=hspot hc;cases a;simp only at hs⊢;rw[hs]
theorem ud{H:Type}{P:Program}{us:List TypeId}{gs:List (DataW H)}{n:Nat}:∀{ts:List TypeId}{ds:List (DataW H)},n∈DataW.weightsEach P ts ds->n∈DataW.weightsEach P (ts++us) (ds++gs)
 |[],_,h=>by simp[DataW.weightsEach]at h
 |_::_,[],h=>by simp[DataW.weightsEach]at h
 | t::ts,d::ds,h=>by
   simp only[al3,DataW.weightsEach,alv]at h⊢;rcases h with h|h
   .exact .inl h
   .exact .inr (ud h)
def ai5(P:Program)(N o:Nat)(fs:List Field){X:Type}(ec:X->List AV)(ok:X->Prop):Prop :=
 ∀(H:Type) (enc:TypeId×Value->H) (w:World) (n:Nat) (cs:List Value),cs.length=N ->
  (∀f∈fs,∃x,DataW.trod enc P w 0 (λ_=>true) true n f.type ((cs.drop f.offset).take (P.cellsOf f.type))=some x/\∀m∈x.1.weights P f.type,m<=reachBytes)->∃y,ok y/\VRL (oH w) (ec y) (cs.drop o)
theorem P9{o:Nat}(h:o=N):ai5 P N o [] (λ_:Unit=>[]) (λ_=>True):=λH enc w n cs hl _ =>
 ⟨(),trivial,by simp[VRL,h,<- hl]⟩
theorem fX{o sz:Nat}{f:Field}{fs:List Field}{ec:X->List AV}{ok:X->Prop}{ec':Y->List AV}{ok':Y->Prop}(hf:f.offset=o)(hz:P.cellsOf f.type=sz)(h:RdZ P f.type ec ok)(r:ai5 P N (o+sz) fs ec' ok'):
  ai5 P N o (f::fs) (λy:X×Y=>ec y.1++ec' y.2) (λy=>ok y.1/\ok' y.2):=λH enc w n cs hl hx=>by
 obtain⟨x,h1,hw⟩:=hx f aoK;obtain⟨y,h2,h3⟩:=h H enc w n _ x h1 hw;obtain⟨z,h4,h5⟩:=r H enc w n cs hl λg hg=>hx g (by simp[hg])
 refine⟨(y,z),⟨h2,h4⟩,?_⟩;have:cs.drop o=(cs.drop f.offset).take (P.cellsOf f.type)++cs.drop (o+sz):=by rw[hf,hz,<- anG,am9]
 rw[this];exact h3.append h5
theorem xQ{fs:Array Field}{ec:X->List AV}{ok:X->Prop}(ht:P.underlying t=some (.struct fs))(hN:P.cellsOf t=N)(r:ai5 P N 0 fs.toList ec ok):RdZ P t ec ok:=λH enc w fuel cs x hx hwt=>by
 subst hN;obtain⟨xs,n,_,rfl,hl,hlen,hf⟩:=DataW.trod_struct ht hx;obtain⟨y,h1,h2⟩:=r H enc w n cs hl λf hfm=>by
  obtain⟨i,hi⟩:=aog hfm;have hi':fs[i]?=some f:=(by simpa using hi);rw[hf i f hi'];have hlt:i<xs.length:=by rw[hlen];have:=(alq.1 hi).1;simpa using this
  refine⟨xs[i],alH hlt,λm hm=>hwt m ?_⟩;simp only[DataW.weights,ht];refine DataW.weights_mem_each (j:=i) (t:=f.type) (d:=xs[i].1) ?_ ?_ m hm;rw[amc,hi];rfl;rw[amc,alH hlt];rfl
 exact⟨y,h1,by simpa using h2⟩
def aeN(P:Program)(ts:List TypeId){X:Type}(ec:X->List AV)(ok:X->Prop):Prop :=
 ∀(H:Type) (enc:TypeId×Value->H) (w:World) (base:Nat) (vs:List Value) (ds:List (DataW H)) (ps:List MemPlace),
  (∀(j:Nat) t v,ts[j]?=some t->vs[j]?=some v->Value.okWide P w .any base t v) ->
  DataW.TrodAll enc P w 0 (λ_=>true) true ts vs ds ps->(∀n∈DataW.weightsEach P ts ds,n<=reachBytes)->∃y,ok y/\VRL (oH w) (ec y) vs
theorem afx :aeN P [] (λ_:Unit=>[]) (λ_=>True):=λH enc w base vs ds ps _ h _=>by obtain⟨rfl,_,_⟩:=trodAll_nil h;exact⟨(),trivial,by simp[VRL]⟩
theorem afw{ts:List TypeId}{a:X->AV}{ok:X->Prop}{ec':Y->List AV}{ok':Y->Prop}(hg:gU P t=some false)(h:RdZ P t (λy=>[a y]) ok)(r:aeN P ts ec' ok'):
  aeN P (t::ts) (λy:X×Y=>a y.1::ec' y.2) (λy=>ok y.1/\ok' y.2):=λH enc w base vs ds ps hok hx hwt=>by
 obtain⟨v,vs',d,ds',p,q,rfl,rfl,rfl,h1,h2⟩:=trodAll_cons hx;obtain⟨fuel,h1⟩:=h1;obtain⟨y,h3,h4⟩:=h H enc w fuel _ _ h1 (λn hn=>hwt n (by rw[DataW.weightsEach];exact amZ _ hn));obtain⟨z,h5,h6⟩:=r H enc w base vs' ds' q (λj t v a b=>hok (j+1) t v a b) h2 (λn hn=>hwt n (by rw[DataW.weightsEach];exact anp _ hn));refine⟨(y,z),⟨h3,h5⟩,?_⟩;rw[abh hg (hok 0 t v rfl rfl)]at h4;simp only[VRL]at h4⊢;obtain⟨x,xs,e,h7,_⟩:=h4;cases e;exact⟨v,vs',rfl,h7,h6⟩
open Go Go.ChangeShapes Go.WideShapes Go.ChangeAt
theorem RdZ.map{ec:X->List AV}{ok:X->Prop}{ec':Y->List AV}{ok':Y->Prop}(h:RdZ P t ec ok)(m:∀y,ok y->∃z,ok' z/\ec' z=ec y):RdZ P t ec' ok':=λH enc w fuel cs x hx hb=>by obtain⟨y,h1,h2⟩:=h H enc w fuel cs x hx hb;obtain⟨z,h3,h4⟩:=m y h1;exact⟨z,h3,by rw[h4];exact h2⟩
theorem afy{ts:List TypeId}{ec:X->List AV}{ok:X->Prop}{ec':Y->List AV}{ok':Y->Prop}(hg:gU P t=some true)(h:RdZ P t ec ok)(r:aeN P ts ec' ok'):
  aeN P (t::ts) (λy:X×Y=>.agg (ec y.1)::ec' y.2) (λy=>ok y.1/\ok' y.2):=λH enc w base vs ds ps hok hx hwt=>by
 obtain⟨v,vs',d,ds',p,q,rfl,rfl,rfl,h1,h2⟩:=trodAll_cons hx;obtain⟨fuel,h1⟩:=h1;obtain⟨y,h3,h4⟩:=h H enc w fuel _ _ h1 (λn hn=>hwt n (by rw[DataW.weightsEach];exact amZ _ hn));obtain⟨z,h5,h6⟩:=r H enc w base vs' ds' q (λj t v a b=>hok (j+1) t v a b) h2 (λn hn=>hwt n (by rw[DataW.weightsEach];exact anp _ hn));refine⟨(y,z),⟨h3,h5⟩,?_⟩;have hv:=hok 0 t v rfl rfl;unfold gU at hg;have:∃cs,v=.agg cs:=by
  unfold Value.okWide at hv;split at hg
  all_goals rename_i hu;rw[hu]at hv
  obtain⟨cs,h,_⟩:=hv;exact⟨cs,h⟩;obtain⟨cs,h,_⟩:=hv;exact⟨cs,h⟩;cases hg;cases hg
 obtain⟨cs,rfl⟩:=this;simp only[VRL];refine⟨_,vs',rfl,?_,h6⟩;simp only[VR];exact⟨cs.toList,rfl,by simpa[Value.cells]using h4⟩
theorem sk(h:B)(e:Hid B->A:=by intro hB_;simp only[Kon,push_cast,reduceIte,Nat.reduceEqDiff,Nat.reduceAdd,Nat.reduceMul,Nat.reduceSub,Nat.reduceLT,Nat.reduceLeDiff,Int.reduceLT,Int.reduceLE,Int.reduceAdd,Int.reduceSub,Int.reduceNeg,Int.reduceToNat,Int.reduceEq,reduceCtorEq, *];exact hB_.o):A:=e (hid h)
theorem sm(h:B)(e:Hid B->A:=by intro hB_;simp(config:={maxSteps:=2000000}) only[Kon,push_cast,reduceIte,Nat.reduceEqDiff,Nat.reduceAdd,Nat.reduceMul,Nat.reduceSub,Nat.reduceLT,Nat.reduceLeDiff,Int.reduceLT,Int.reduceLE,Int.reduceAdd,Int.reduceSub,Int.reduceNeg,Int.reduceToNat,Int.reduceEq,reduceCtorEq, *];exact hB_.o):A:=e (hid h)
theorem sl(h:B)(e:Hid B->A:=by intro hB_;simp only[push_cast,reduceIte,Nat.reduceEqDiff,Nat.reduceAdd,Nat.reduceMul,Nat.reduceSub,Nat.reduceLT,Nat.reduceLeDiff,Int.reduceLT,Int.reduceLE,Int.reduceAdd,Int.reduceSub,Int.reduceNeg,Int.reduceToNat,Int.reduceEq,reduceCtorEq, *];exact hB_.o):A:=e (hid h)
theorem wk(h:B)(e:Hid B->A:=by
 intro hB_
 repeat' first
  |refine bd ?_
  | (first|refine aV aoL ?_|refine aB aoL ?_|refine aE ?_|refine bJ ?_|refine bg (fun _=>?_)|refine ax ?_|refine aY ?_|refine kk1.o _ _ ?_|refine kk1.o ?_|refine kk2.o _ _ ?_|refine kk2.o ?_|refine kk3.o _ _ ?_|refine kk3.o ?_|refine kk4.o _ _ ?_|refine kk4.o ?_|refine kk5.o _ _ ?_|refine kk5.o ?_|refine kk6.o _ _ ?_|refine kk6.o ?_|refine kk7.o _ _ ?_|refine kk7.o ?_|refine aU (kk1.o _ _ ⟨rfl,rfl⟩) (kk1.o _ _ ⟨rfl,rfl⟩) ?_|refine aU (kk1.o ⟨rfl,rfl⟩) (kk1.o ⟨rfl,rfl⟩) ?_|refine aU (kk2.o _ _ ⟨rfl,rfl⟩) (kk2.o _ _ ⟨rfl,rfl⟩) ?_|refine aU (kk2.o ⟨rfl,rfl⟩) (kk2.o ⟨rfl,rfl⟩) ?_|refine aA (kk1.o _ _ ⟨rfl,rfl⟩) ?_|refine aA (kk1.o ⟨rfl,rfl⟩) ?_|refine aA (kk2.o _ _ ⟨rfl,rfl⟩) ?_|refine aA (kk2.o ⟨rfl,rfl⟩) ?_|refine aA (kk3.o _ _ ⟨rfl,rfl⟩) ?_|refine aA (kk3.o ⟨rfl,rfl⟩) ?_|refine aA (kk4.o _ _ ⟨rfl,rfl⟩) ?_|refine aA (kk4.o ⟨rfl,rfl⟩) ?_|refine aA (kk5.o _ _ ⟨rfl,rfl⟩) ?_|refine aA (kk5.o ⟨rfl,rfl⟩) ?_|refine aA (kk6.o _ _ ⟨rfl,rfl⟩) ?_|refine aA (kk6.o ⟨rfl,rfl⟩) ?_|refine aA (kk7.o _ _ ⟨rfl,rfl⟩) ?_|refine aA (kk7.o ⟨rfl,rfl⟩) ?_)
    simp(config:={maxSteps:=2000000}) only[Kon,push_cast,reduceIte,Nat.reduceEqDiff,Nat.reduceAdd,Nat.reduceMul,Nat.reduceSub,Nat.reduceLT,Nat.reduceLeDiff,Int.reduceLT,Int.reduceLE,Int.reduceAdd,Int.reduceSub,Int.reduceNeg,Int.reduceToNat,Int.reduceEq,reduceCtorEq, *]
  | (first|refine aO aoL ?_|refine aP ?_|refine aD ?_|refine aW ?_|refine bq (aw ?_))
    simp only[push_cast,reduceIte,Nat.reduceEqDiff,Nat.reduceAdd,Nat.reduceMul,Nat.reduceSub,Nat.reduceLT,Nat.reduceLeDiff,Int.reduceLT,Int.reduceLE,Int.reduceAdd,Int.reduceSub,Int.reduceNeg,Int.reduceToNat,Int.reduceEq,reduceCtorEq, *]
  |exact bh
  |first|apply bj|apply aR|apply bm|apply aS|apply bo|apply aT
  |refine aH ?_
  |refine aC ?_
  |first|refine aF rfl ?_|refine aG rfl ?_|refine ao rfl ?_ ?_
  |((first|refine an (λ_=>?_) (λ_=>?_)|refine au (λ_=>?_) (λ_=>?_))<;>try simp(config:={maxSteps:=2000000}) only[Kon,push_cast,reduceIte,Nat.reduceEqDiff,Nat.reduceAdd,Nat.reduceMul,Nat.reduceSub,Nat.reduceLT,Nat.reduceLeDiff,Int.reduceLT,Int.reduceLE,Int.reduceAdd,Int.reduceSub,Int.reduceNeg,Int.reduceToNat,Int.reduceEq,reduceCtorEq, *])
  |refine And.intro trivial ?_
  |refine And.intro aoJ ?_
  |refine aL rfl (λ_=>?_) (λ_=>?_)
 exact hB_.o):A:=e (hid h)
theorem aoR(h:B)(e:Hid B->A:=by intro hB_;refine sk ?_;refine wk ?_;exact hB_.o):A:=e (hid h)
theorem aln{P:Program}{own:Nat->Nat->Nat}{f:FuncId}{lf:aQ}(h:aZ P own f=some lf.raw){args:List AV}{L:List Blk}{Q:AV->List Blk->Prop}{B:Prop}(b:B)(hl:Nat.ble args.length lf.ntmps=true:=by rfl)(e:Hid B->AW P lf.ntmps own lf.code (aja lf.res L Q) (am 0 args) L:=by
 intro hB_;simp only[push_cast]
 repeat' first
  |refine bd ?_
  | (first|refine aV aoL ?_|refine aB aoL ?_|refine aE ?_|refine bJ ?_|refine bg (fun _=>?_)|refine ax ?_|refine aY ?_|refine kk1.o _ _ ?_|refine kk1.o ?_|refine kk2.o _ _ ?_|refine kk2.o ?_|refine kk3.o _ _ ?_|refine kk3.o ?_|refine kk4.o _ _ ?_|refine kk4.o ?_|refine kk5.o _ _ ?_|refine kk5.o ?_|refine kk6.o _ _ ?_|refine kk6.o ?_|refine kk7.o _ _ ?_|refine kk7.o ?_|refine aU (kk1.o _ _ ⟨rfl,rfl⟩) (kk1.o _ _ ⟨rfl,rfl⟩) ?_|refine aU (kk1.o ⟨rfl,rfl⟩) (kk1.o ⟨rfl,rfl⟩) ?_|refine aU (kk2.o _ _ ⟨rfl,rfl⟩) (kk2.o _ _ ⟨rfl,rfl⟩) ?_|refine aU (kk2.o ⟨rfl,rfl⟩) (kk2.o ⟨rfl,rfl⟩) ?_|refine aA (kk1.o _ _ ⟨rfl,rfl⟩) ?_|refine aA (kk1.o ⟨rfl,rfl⟩) ?_|refine aA (kk2.o _ _ ⟨rfl,rfl⟩) ?_|refine aA (kk2.o ⟨rfl,rfl⟩) ?_|refine aA (kk3.o _ _ ⟨rfl,rfl⟩) ?_|refine aA (kk3.o ⟨rfl,rfl⟩) ?_|refine aA (kk4.o _ _ ⟨rfl,rfl⟩) ?_|refine aA (kk4.o ⟨rfl,rfl⟩) ?_|refine aA (kk5.o _ _ ⟨rfl,rfl⟩) ?_|refine aA (kk5.o ⟨rfl,rfl⟩) ?_|refine aA (kk6.o _ _ ⟨rfl,rfl⟩) ?_|refine aA (kk6.o ⟨rfl,rfl⟩) ?_|refine aA (kk7.o _ _ ⟨rfl,rfl⟩) ?_|refine aA (kk7.o ⟨rfl,rfl⟩) ?_)
    simp(config:={maxSteps:=2000000}) only[Kon,push_cast,reduceIte,Nat.reduceEqDiff,Nat.reduceAdd,Nat.reduceMul,Nat.reduceSub,Nat.reduceLT,Nat.reduceLeDiff,Int.reduceLT,Int.reduceLE,Int.reduceAdd,Int.reduceSub,Int.reduceNeg,Int.reduceToNat,Int.reduceEq,reduceCtorEq, *]
  | (first|refine aO aoL ?_|refine aP ?_|refine aD ?_|refine aW ?_|refine bq (aw ?_))
    simp only[push_cast,reduceIte,Nat.reduceEqDiff,Nat.reduceAdd,Nat.reduceMul,Nat.reduceSub,Nat.reduceLT,Nat.reduceLeDiff,Int.reduceLT,Int.reduceLE,Int.reduceAdd,Int.reduceSub,Int.reduceNeg,Int.reduceToNat,Int.reduceEq,reduceCtorEq, *]
  |exact bh
  |first|apply bj|apply aR|apply bm|apply aS|apply bo|apply aT
  |refine aH ?_
  |refine aC ?_
  |first|refine aF rfl ?_|refine aG rfl ?_|refine ao rfl ?_ ?_
  |((first|refine an (λ_=>?_) (λ_=>?_)|refine au (λ_=>?_) (λ_=>?_))<;>try simp(config:={maxSteps:=2000000}) only[Kon,push_cast,reduceIte,Nat.reduceEqDiff,Nat.reduceAdd,Nat.reduceMul,Nat.reduceSub,Nat.reduceLT,Nat.reduceLeDiff,Int.reduceLT,Int.reduceLE,Int.reduceAdd,Int.reduceSub,Int.reduceNeg,Int.reduceToNat,Int.reduceEq,reduceCtorEq, *])
  |refine And.intro trivial ?_
  |refine And.intro aoJ ?_
  |refine aL rfl (λ_=>?_) (λ_=>?_)
 exact hB_.o):ae P f args L Q:=ac h (Nat.le_of_ble_eq_true hl) (e (hid b))
attribute [push_cast] am
structure sx(w w':World):Prop where
 heap:∀b,b<w.heap.size->w'.heap[b]?=w.heap[b]?
 size:w.heap.size<=w'.heap.size
 os:w'.os=w.os
 tape:w'.tape=w.tape
 output:w'.output=w.output
theorem sx.refl(w:World):sx w w:=⟨λ_ _=>rfl,alr _,rfl,rfl,rfl⟩
theorem sx.of_grow(w:World)(k:Nat)(os:Array Obj):sx w (Sort.grow (w.drewN k) os):=by refine⟨λb hb=>?_,?_,rfl,rfl,rfl⟩;show(w.heap++os)[b]?=_;exact aoc hb;show _<=(w.heap++os).size;simp
theorem Rel.grown{w':World}(h:Rel w0 S0 E L w)(g:sx w w'):Rel w0 S0 E L w':=by
 refine⟨λb o v hv=>?_,λi k hk=>?_,h.fresh,h.own,h.inj,h.tkfresh,h.tkown,h.tkloc,h.tkinj,λk hk hs=>?_,alQ h.size g.size,g.os.trans h.os,g.tape.trans h.tape,g.output.trans h.output,h.glob,
  h.gsz.mod λb cs ty fr hb=>⟨cs,ty,fr,by rw[g.heap b (amt.1 hb).1];exact hb,rfl⟩⟩
 have:=h.mem b o v hv;simp only[World.cell?]at this⊢;rw[g.heap b (h.mem_lt hv)];exact this;cases hl:k.live;refine bB.still hl rfl (λt c n sz e ht hc=>?_) (h.blk i k hk);subst e;exact g.heap _ (h.tok_lt hk ht hc);exact bB.worldL hl (λc hc=>g.heap _ (h.loc_lt hk hl hc)) (h.blk i k hk);rw[g.heap k (amV hk h.size)];exact h.frame k hk hs
theorem cH{fn:Func}(hf:P.funcs[f]?=some fn)(hb:fn.body.isSome=true)(hn:(fn.name == "runtime.NumGoroutine")=false){K:AV->List Blk->Prop}{r:AV}(hc:∀ (w0:World) (S0:SB) (E:Env) (w:World) (vs:List Value),Rel w0 S0 E L w->VRL E args vs->Calls P f ⟨vs⟩ w fun e w'=>∃ v,e=.returned v/\VR E r v/\sx w w')(hk:K r L):ae P f args L K:=fun w0 S0 E w vs hR hv=>by
 refine .inl ⟨?_,(hc w0 S0 E w vs hR hv).mono λe w' ⟨v,h1,h2,h3⟩=>⟨E,v,r,L,h1,.refl E,hk,h2,hR.grown h3⟩⟩;simp only[callFunc,alz,run_program,alB,hf,hn];cases h:fn.body with
 |none=>simp[h]at hb
 |some c=>simp
theorem Rel.table(h:Rel w0 S0 E L w){zs:List Int}(hg:P.globalNamed name=some g)(hp:eG g=some (zs.map (AV.int k)))(hne:zs≠[]):
  Lib.TabIs P w name k zs:=by
 have hm:=x8 hp;obtain⟨cs,ty,fr,h1,h2⟩:=h.gsz _ hm (by simpa using hne);simp only[al5]at h2;simp only[Lib.TabIs,World.var?,hg,amE,h1,als];apply Array.ext;simp[h2];intro i hi hi';have hr:=h.glob.env hm;have hi2:i<zs.length:=aoJ;obtain⟨v,h3,h4⟩:=hr.get (i:=i) (a:=.int k zs[i]) (by simp[hi2]);simp only[VR]at h4;subst h4;have:=h.mem _ _ _ h3;simp only[World.cell?,h1]at this;simp at this;have e:=amb hi;rw[e]at this;simpa using Option.some.inj this
theorem Rel.reblk(h:Rel w0 S0 E L w){c':List AV}(hL:L[i]?=some (.cells c))(hlen:c'.length=c.length)(hv:∀(j:Nat) (a':AV),c'[j]?=some a'->∃a,c[j]?=some a/\∀v,VR E a v->VR E a' v):Rel w0 S0 E (L.set i (.cells c')) w:=by
 have hi:i<L.length:=(alq.1 hL).1;have fix:∀(j:Nat) (k:Blk),(L.set i (.cells c'))[j]?=some k->k.live=true->∃k',L[j]?=some k'/\k'.live=true:=λj k hk hl=>by rw[alO]at hk;split at hk;rename_i e;subst e;exact⟨_,hL,rfl⟩;exact⟨k,hk,hl⟩
 have fixs:∀(j n sz:Nat),(L.set i (.cells c'))[j]?=some (.spare n sz)->L[j]?=some (.spare n sz):=λj n sz hk=>by rw[alO]at hk;split at hk;cases hk;exact hk
 refine⟨h.mem,λj k hk=>?_,λi hi=>h.fresh i (by simpa using hi),λi k c hk hl hc=>?_,λi j k k' c c' hi li hj lj=>?_,
  λi hi=>h.tkfresh i (by simpa using hi),λi n sz t d hi=>h.tkown i n sz t d (fixs i n sz hi),λi n sz t d j k' c' hi ht hd hj hl=>?_,
  λi n sz t d i' n' sz' t' d' hi ht hd hi'=>h.tkinj i n sz t d i' n' sz' t' d' (fixs i n sz hi) ht hd (fixs i' n' sz' hi'),h.frame,h.size,h.os,h.tape,h.output,h.glob,h.gsz⟩
 rw[alO]at hk;split at hk;rename_i e;subst e;cases hk;obtain⟨cl,cs,ty,fr,g1,g2,g3,g4,g5,g6⟩:=h.blk _ _ hL;refine⟨cl,cs,ty,fr,g1,g2,g3,by rw[hlen];exact g4,λj a ha=>?_,g6⟩;obtain⟨b,hb,hbv⟩:=hv j a ha;obtain⟨v,h1,h2⟩:=g5 j b hb;exact⟨v,h1,hbv v h2⟩;exact h.blk j k hk;obtain⟨k',h1,h2⟩:=fix i k hk hl;exact h.own i k' c h1 h2 hc;obtain⟨k1,h1,h2⟩:=fix i k hi li;obtain⟨k2,h3,h4⟩:=fix j k' hj lj;exact h.inj i j k1 k2 c c' h1 h2 h3 h4;obtain⟨k1,h1,h2⟩:=fix j k' hj hl;exact h.tkloc i n sz t d j k1 c' (fixs i n sz hi) ht hd h1 h2
theorem VR.grow{sz:Nat}(ht:E.tok i=some ⟨n,sz,none⟩)(h2:l.length=n*sz)(h:VR E (.sl l n (some n)) v):VR E (.gsl l n i sz) v:=by simp only[VR]at h⊢;obtain⟨p,c',q1,q2,q3,q4⟩:=h;exact⟨p,c',q1,q2,h2,q4,⟨n,sz,none⟩,ht,alr _,λ_=>⟨rfl,λ_=>q3 n rfl,aoK⟩⟩
theorem Sr{own:Nat->Nat->Nat}{Q:Exit->Tm->List Blk->Prop}{T:Tm}{lc:b9}(i j sz:Nat)(hL:L[i]?=some (.cells c))(hj:c[j]?=some (.sl l n (some n)))(h2:l.length=n*sz)(h:AW P N own lc Q T (L.set i (.cells (c.set j (.gsl l n L.length sz)))++[.spare n sz])):AW P N own lc Q T L:=λcd hc r hr w0 S0 E a w hst=>by
 obtain⟨r1,r2⟩:=hst.1.addtok (n:=n) (sz:=sz) (lc:=none) Ts;have hi:i<L.length:=(alq.1 hL).1;have hL':(L++[Blk.spare n sz])[i]?=some (.cells c):=by rw[aly hi];exact hL
 have r3:=r2.reblk hL' (c':=c.set j (.gsl l n L.length sz)) aoK λk a' ha=>by rw[alO]at ha;split at ha;rename_i e;subst e;split at ha;cases ha;exact⟨_,hj,λv hv=>VR.grow aoK h2 hv⟩;cases ha;exact⟨a',ha,λv hv=>hv⟩
 rw[amh _ _ hi]at r3;exact wpIn_mono (h cd hc r hr w0 S0 _ a w ⟨r3,hst.2.1.mono r1,hst.2.2⟩) λe a' w' ⟨w1,S1,E',T1,L1,b,k1,k2,k3⟩=>⟨w1,S1,E',T1,L1,b,r1.trans k1,k2,k3⟩
theorem u8n(h:n<256):(UInt8.ofNat n).toNat=n:=by simp only[UInt8.toNat_ofNat'];exact Nat.mod_eq_of_lt h
theorem xA:∀(u:Nat),∃c r,Lib.decDigits u=c::r/\48<=c.toNat/\c.toNat<=57/\(c.toNat=48->u=0):=by
 intro u;induction u using Nat.strongRecOn with
 | _ u ih =>
   by_cases h10:u<10
   .refine⟨UInt8.ofNat (48+u),[],by rw[Lib.decDigits,dif_pos h10],?_⟩;rw[u8n aoJ];omega
   .obtain⟨c,r,e,h1,h2,h3⟩:=ih (u/10) aoJ;exact⟨c,r++[UInt8.ofNat (48+u%10)],by rw[Lib.decDigits,dif_neg h10,e];rfl,h1,h2,λh=>by have:=h3 h;omega⟩
theorem adJ(t:List UInt8):∀(u:Nat),u<=18446744073709551615->Lib.parseUintM 18446744073709551615 0 (Lib.decDigits u++t)=Lib.parseUintM 18446744073709551615 u t:=by
 intro u;induction u using Nat.strongRecOn generalizing t with
 | _ u ih =>
   intro hu;by_cases h10:u<10
   .rw[Lib.decDigits,dif_pos h10];simp only[al3,al2];rw[Lib.parseUintM,u8n aoJ,if_pos aoJ,if_neg aoJ,if_neg aoJ];congr 1;omega
   .rw[Lib.decDigits,dif_neg h10,alI,ih (u/10) aoJ _ aoJ];simp only[al3,al2];rw[Lib.parseUintM,u8n aoJ,if_pos aoJ,if_neg aoJ,if_neg aoJ];congr 1;omega
theorem Vo{u:Nat}(hu:u<=18446744073709551615):Lib.parseUintB 64 (Lib.decDigits u)=.ok u:=by obtain⟨c,r,e,_⟩:=xA u;unfold Lib.parseUintB;rw[if_neg (by rw[e];simp)];have:=adJ [] u hu;rw[alY]at this;exact this
def I64(m:Int):Prop:=-9223372036854775808<=m/\m<=9223372036854775807
theorem abe{m:Int}(hm:I64 m):Lib.parseIntB 64 (Lib.itoa m)=.ok m:=by obtain⟨h0,h1⟩:=hm;unfold Lib.itoa;by_cases hn:m<0;rw[if_pos hn];simp only[Lib.parseIntB];have e45:(45:UInt8).toNat=45:=rfl;rw[if_pos (.inr e45),Vo aoJ];simp only[e45];simp only[not_true_eq_false,false_and,if_false,true_and,if_true];rw[if_neg aoJ];congr 1;omega;rw[if_neg hn];obtain⟨c,r,e,h2,h3,_⟩:=xA m.toNat;have hp:=Vo (u:=m.toNat) aoJ;rw[e]at hp⊢;simp only[Lib.parseIntB];rw[if_neg aoJ,hp];simp only;rw[if_neg aoJ,if_neg aoJ,if_neg aoJ];congr 1;omega
theorem adW(m:Int):∃c r,Lib.itoa m=c::r/\(c.toNat=45\/48<=c.toNat/\c.toNat<=57)/\(c.toNat=48->r=[]):=by unfold Lib.itoa;by_cases hn:m<0;rw[if_pos hn];exact⟨45,_,rfl,.inl rfl,λh=>by simp at h⟩;rw[if_neg hn];obtain⟨c,r,e,h2,h3,h4⟩:=xA m.toNat;refine⟨c,r,e,.inr ⟨h2,h3⟩,λh=>?_⟩;rw[h4 h,Lib.decDigits,dif_pos aoJ]at e;cases e;rfl
theorem TZ{l:List UInt8}{v:Int}(h:Lib.parseIntB 64 l=.ok v):I64 v:=by unfold Lib.parseIntB at h;split at h;cases h;simp only at h;split at h;cases h;cases h;rename_i u _;split at h;cases h;rename_i h1;split at h;cases h;rename_i h2;cases h;unfold I64;by_cases e:(‹UInt8›).toNat=45;simp only[e,true_and,if_true]at h2⊢;omega;simp only[e,not_false_eq_true,true_and,if_false]at h1⊢;omega
def Un(l:List UInt8):Int:=match Lib.parseIntB 64 l with
 |.ok n=>n
 |.syntax=>0
 |.range=>Lib.intSat 64 l
def rU(l:List UInt8):Bool:=match Lib.parseIntB 64 l with
 |.ok n=>decide (Lib.itoa n=l)
 |_=>false
theorem afP{m:Int}(hm:I64 m):rU (Lib.itoa m)=true/\Un (Lib.itoa m)=m:=by simp[rU,Un,abe hm]
theorem Rel.reblkLe(h:Rel w0 S0 E L w){c':List AV}(hL:L[i]?=some (.cells c))(hlen:c'.length<=c.length)(hv:∀(j:Nat) (a':AV),c'[j]?=some a'->∃a,c[j]?=some a/\∀v,VR E a v->VR E a' v):Rel w0 S0 E (L.set i (.cells c')) w:=by
 have hi:i<L.length:=(alq.1 hL).1;have fix:∀(j:Nat) (k:Blk),(L.set i (.cells c'))[j]?=some k->k.live=true->∃k',L[j]?=some k'/\k'.live=true:=λj k hk hl=>by rw[alO]at hk;split at hk;rename_i e;subst e;exact⟨_,hL,rfl⟩;exact⟨k,hk,hl⟩
 have fixs:∀(j n sz:Nat),(L.set i (.cells c'))[j]?=some (.spare n sz)->L[j]?=some (.spare n sz):=λj n sz hk=>by rw[alO]at hk;split at hk;cases hk;exact hk
 refine⟨h.mem,λj k hk=>?_,λi hi=>h.fresh i (by simpa using hi),λi k c hk hl hc=>?_,λi j k k' c c' hi li hj lj=>?_,
  λi hi=>h.tkfresh i (by simpa using hi),λi n sz t d hi=>h.tkown i n sz t d (fixs i n sz hi),λi n sz t d j k' c' hi ht hd hj hl=>?_,
  λi n sz t d i' n' sz' t' d' hi ht hd hi'=>h.tkinj i n sz t d i' n' sz' t' d' (fixs i n sz hi) ht hd (fixs i' n' sz' hi'),h.frame,h.size,h.os,h.tape,h.output,h.glob,h.gsz⟩
 rw[alO]at hk;split at hk;rename_i e;subst e;cases hk;obtain⟨cl,cs,ty,fr,g1,g2,g3,g4,g5,g6⟩:=h.blk _ _ hL;refine⟨cl,cs,ty,fr,g1,g2,g3,aoJ,λj a ha=>?_,g6⟩;obtain⟨b,hb,hbv⟩:=hv j a ha;obtain⟨v,h1,h2⟩:=g5 j b hb;exact⟨v,h1,hbv v h2⟩;exact h.blk j k hk;obtain⟨k',h1,h2⟩:=fix i k hk hl;exact h.own i k' c h1 h2 hc;obtain⟨k1,h1,h2⟩:=fix i k hi li;obtain⟨k2,h3,h4⟩:=fix j k' hj lj;exact h.inj i j k1 k2 c c' h1 h2 h3 h4;obtain⟨k1,h1,h2⟩:=fix j k' hj hl;exact h.tkloc i n sz t d j k1 c' (fixs i n sz hi) ht hd h1 h2
theorem ace{K:AV->List Blk->Prop}{l':List AV}(hi:L[i]?=some (.cells (l++l')))(h:ae P f args (L.set i (.cells l)) K):ae P f args L K:=λw0 S0 E w vs hR hv =>
 h w0 S0 E w vs (hR.reblkLe hi aoK λj a ha=>⟨a,alk ha,λ_ h=>h⟩) hv
theorem ae6{zs:List Int}(h:Lib.TabIs P W name k zs)(hg:P.globalNamed name=some g):
  VRC ⟨(oH W).mem,λ_=>none,λ_=>none⟩ (zs.map (AV.int k)) g 0/\∃cs ty fr,W.heap[g]?=some (.cells cs ty fr)/\cs.size=(zs.map (AV.int k)).length:=by
 refine⟨VRC.of_get λi a ha=>?_,?_⟩;obtain⟨z,hz,rfl⟩:=amc ..▸ha |> alS.1;have hi:=(alq.1 hz).1;refine⟨.int k z,?_,by simp[VR]⟩;have:=h.cell hg i hi;rw[alR,hz]at this;simpa[oH]using this;simp only[Lib.TabIs,World.var?,hg,amE]at h;split at h;rename_i cs ty fr he;refine⟨cs,ty,fr,he,?_⟩;rw[Option.some.inj h];simp;cases h
theorem acq{tp:TypeId}{x:Value}(h:W.var? P name=some #[.iface tp x])(hg:P.globalNamed name=some g):
  VRC ⟨(oH W).mem,λ_=>none,λ_=>none⟩ [.iface tp .undef] g 0/\∃cs ty fr,W.heap[g]?=some (.cells cs ty fr)/\cs.size=[AV.iface tp .undef].length:=by
 refine⟨VRC.of_get λi a ha=>?_,?_⟩;cases i with
 | zero =>
   simp only[amk,als]at ha;subst ha;have:=World.var?_cell hg h 0;exact⟨.iface tp x,by simpa[oH]using this,by simp[VR]⟩
 |succ i=>simp at ha
 simp only[World.var?,hg,amE]at h;split at h;rename_i cs ty fr he;exact⟨cs,ty,fr,he,by rw[Option.some.inj h];rfl⟩;cases h
theorem agD{m:Nat->Nat->Option Value}:(∀p∈([]:List (Nat×List AV)),VRC ⟨m,λ_=>none,λ_=>none⟩ p.2 p.1 0/\∃cs ty fr,w.heap[p.1]?=some (.cells cs ty fr)/\cs.size=p.2.length):=λ_ h=>by cases h
theorem ry{m:Nat->Nat->Option Value}{r:List (Nat×List AV)}(h:VRC ⟨m,λ_=>none,λ_=>none⟩ l g 0/\∃cs ty fr,w.heap[g]?=some (.cells cs ty fr)/\cs.size=l.length)(hr:∀p∈r,VRC ⟨m,λ_=>none,λ_=>none⟩ p.2 p.1 0/\∃cs ty fr,w.heap[p.1]?=some (.cells cs ty fr)/\cs.size=p.2.length):
  ∀p∈(g,l)::r,VRC ⟨m,λ_=>none,λ_=>none⟩ p.2 p.1 0/\∃cs ty fr,w.heap[p.1]?=some (.cells cs ty fr)/\cs.size=p.2.length:=λp hp=>by
 rcases alu.1 hp with rfl|hp;exact h;exact hr p hp
theorem aed(ho:∀g∈RM,∃z,(oH w).mem g 0=some (.int .i64 z))(h:∀p∈K7,VRC ⟨(oH w).mem,λ_=>none,λ_=>none⟩ p.2 p.1 0/\∃cs ty fr,w.heap[p.1]?=some (.cells cs ty fr)/\cs.size=p.2.length):sy (oH w).mem/\tI w :=
 ⟨⟨λp hp=>(h p hp).1,ho⟩,λp hp _=>(h p hp).2⟩
open Go Go.Lib
theorem ZQ(h:W.ShapedOpen Tryz.prog):∀g∈RM,∃z,(oH W).mem g 0=some (.int .i64 z):=λg hg=>by simp only[RM,alM]at hg;subst hg;obtain⟨m,hm⟩:=cell_of_shapedOpen_int (zero:=#[.int .i64 0]) (t:=3) h (of_decide_eq_true aoL) aoL aoL aoL aoL Tryz.underlying3;exact⟨m,by simpa[oH]using hm⟩
theorem ai1{enc:TypeId×Value->H}{base:Nat}{sp:Nat->Bool}{held:Bool}{fuel:Nat}{cs:List Value}{x:DataW H×List MemPlace}(ht:P.underlying t=some (.array n e))(h:DataW.trod enc P w base sp held fuel t cs=some x):cs.length=P.cellsOf t:=by
 cases fuel with
 |zero=>simp[DataW.trod]at h
 | succ fuel =>
   simp only[DataW.trod,ht]at h;split at h
   .assumption
   .cases h
theorem U6{d:DataW Unit}(h:VarReads P W name d)(hg:P.globalNamed name=some g)(hty:(P.globals[g]?).map (·.type)=some t)(ht:P.underlying t=some (.array n e)):
  ∃cs ty fr,W.heap[g]?=some (.cells cs ty fr)/\cs.size=P.cellsOf t:=by
 obtain⟨g',t',cs,fuel,p,hg',hty',hvar,hd⟩:=h;obtain rfl:=Option.some.inj (hg.symm.trans hg');obtain rfl:=Option.some.inj (hty.symm.trans hty');have hl:=ai1 ht hd;simp only[World.var?,hg,amE]at hvar;split at hvar;rename_i cs' ty fr he;exact⟨cs',ty,fr,he,by rw[Option.some.inj hvar];simpa using hl⟩;cases hvar
theorem rB:U8Extra Tryz.prog Tryz.lays196_ren:={n3:=aoL,n4:=aoL,y3:=aoL,y4:=aoL,c5:=aoL,c119:=aoL,c138:=by kernel_rfl}
theorem PX:U8Types Tryz.prog Tryz.lays196_ren:=U8Types.of196 Tryz.lays196
theorem Zg(h:∀i a,l[i]?=some a->∃k z,a=.int k z/\W.cell? ⟨g,i,none⟩=some (.int k z)):VRC ⟨(oH W).mem,λ_=>none,λ_=>none⟩ l g 0 :=
 VRC.of_get λi a ha=>by obtain⟨k,z,rfl,hc⟩:=h i a ha;exact⟨.int k z,by simpa[oH]using hc,by simp[VR]⟩
theorem agP(h3:VarReads Tryz.prog W "unicode/utf8.first" firstData)(h4:VarReads Tryz.prog W "unicode/utf8.acceptRanges" acceptData)(l:List AV)(hl:eG 0=some l):
  VRC ⟨(oH W).mem,λ_=>none,λ_=>none⟩ l 0 0/\∃cs ty fr,W.heap[0]?=some (.cells cs ty fr)/\cs.size=l.length:=by
 have hT:=utf8Tabs_of_readsT PX rB h3 h4;have e:eG 0=some ((List.range 256).map λc=>AV.int .u8 (Lib.firstT c:Int)):=aoL;rw[e]at hl;obtain rfl:=Option.some.inj hl;refine⟨Zg λi a ha=>?_,?_⟩;simp only[amc,alS]at ha;obtain⟨c,hc,rfl⟩:=ha;have hi:i<256:=by have:=(alq.1 hc).1;simpa using this
 have hci:c=i:=by have:=(alq.1 hc).2;simpa using this.symm
 subst hci;exact⟨_,_,rfl,hT.1 c hi⟩;obtain⟨cs,ty,fr,h1,h2⟩:=U6 h3 rB.n3 rB.y3 PX.t119;exact⟨cs,ty,fr,h1,by rw[h2,rB.c119];simp⟩
theorem ahh:∀(n:Nat) (i:Nat) (a:AV),((List.range n).flatMap λi=>[AV.int .u8 (Lib.accLo i:Int),AV.int .u8 (Lib.accHi i:Int)])[i]?=some a->∃j,j<n/\((i=2*j/\a=.int .u8 (Lib.accLo j:Int))\/(i=2*j+1/\a=.int .u8 (Lib.accHi j:Int)))
 |0,i,a,h=>by simp at h
 | n+1,i,a,h=>by
   have hlen:∀n:Nat,((List.range n).flatMap λi=>[AV.int .u8 (Lib.accLo i:Int),AV.int .u8 (Lib.accHi i:Int)]).length=2*n:=λn=>by
    induction n with
    |zero=>simp
    |succ n ih=>rw[List.range_succ,anR,alJ,ih];simp;omega
   rw[List.range_succ,anR]at h;rcases alK i (2*n)with hi|hi
   .rw[aly (by rw[hlen];exact hi)]at h;obtain⟨j,hj,hh⟩:=ahh n i a h;exact⟨j,aoJ,hh⟩
   .rw[alT (by rw[hlen];exact hi),hlen]at h;refine⟨n,aoJ,?_⟩;rcases hk:i-2*n with _|_|k
    .rw[hk]at h;simp at h;exact .inl ⟨aoJ,h.symm⟩
    .rw[hk]at h;simp at h;exact .inr ⟨aoJ,h.symm⟩
    .rw[hk]at h;simp at h
theorem akg(h3:VarReads Tryz.prog W "unicode/utf8.first" firstData)(h4:VarReads Tryz.prog W "unicode/utf8.acceptRanges" acceptData)(l:List AV)(hl:eG 1=some l):
  VRC ⟨(oH W).mem,λ_=>none,λ_=>none⟩ l 1 0/\∃cs ty fr,W.heap[1]?=some (.cells cs ty fr)/\cs.size=l.length:=by
 have hT:=utf8Tabs_of_readsT PX rB h3 h4;have e:eG 1=some ((List.range 16).flatMap λi=>[AV.int .u8 (Lib.accLo i:Int),AV.int .u8 (Lib.accHi i:Int)]):=aoL;rw[e]at hl;obtain rfl:=Option.some.inj hl;refine⟨Zg λi a ha=>?_,?_⟩;obtain⟨j,hj,⟨rfl,rfl⟩|⟨rfl,rfl⟩⟩:=ahh 16 i a ha;exact⟨_,_,rfl,(hT.2 j hj).1⟩;exact⟨_,_,rfl,(hT.2 j hj).2⟩;obtain⟨cs,ty,fr,h1,h2⟩:=U6 h4 rB.n4 rB.y4 PX.t139;exact⟨cs,ty,fr,h1,by rw[h2,show Tryz.prog.cellsOf (Tryz.lays196_ren.t 139)=32 by kernel_rfl];rfl⟩
end Go.Proofs.YtcmfcpjnhephaaaGreatDoor.Av
set_option maxRecDepth 100000
namespace Go.Proofs.YtcmfcpjnhephaaaGreatDoor.Av
open Go
def IV:LSO:=[A4 4 1,Al 6,Ae 7]
def IU:LSO:=[Aa 11 0,Ap 12 5 4,Aa 13 2,A8 14 59 11 12 13,Aa 10 14,Aq 15 10,Au 16 10,Aa 8 15,Aa 9 16]
def IT:LSO:=[Aa 17 9,Ay 18 17,Aa 19 18,.grp none 19 false
 [Ah 20 19 8,Bh 21 19 20,Ah 22 19 2,og 23 19 false (.bin .gtr (tm 21) (tm 22))]
 24 (tm 23)]
def IS:LSO:=[Al 6,Ae 7]
def IR:LSO:=[Aa 25 8,Aa 6 25,Az 7]
def fB:aQ:=⟨26,(aoC IV [] (aoC IU CI (.seq (aoC IT Cy (aoE 24 (.sreg IS []))) (aoC IR C3 .ret)))),[(.tmp 6),(.tmp 7)]⟩
attribute [push_cast] IV IU IT IS IR
theorem qy:aoH 27=aoI fB:=aoL
def IP:LSO:=[A4 4 1,Al 6,Ae 7]
def IN:LSO:=[Ad 13 0 4,Ac 14 1 13]
def IM:LSO:=[An 16 14 0,Aa 15 16]
def IL:LSO:=[An 17 14 1,Aa 15 17]
def IK:LSO:=[Al 8]
def IJ:LSO:=[Ad 18 4 4,Ac 19 1 18,Am 20 19,Ab 21 0]
def II:LSO:=[Ak 22 21 20]
def IH:LSO:=[Ao 23 5 19 21,Ap 24 5 23,Ba 10,Aj 5 10 24]
def IG:LSO:=[Aa 26 0,Ap 27 5 10,Aa 28 2,A8 29 27 26 27 28,Aa 25 29,Aq 30 25,Au 31 25,Aa 11 30,Aa 12 31]
def IF:LSO:=[Aa 33 12,Aa 32 33]
def EL:LSO:=[Aa 34 8,Aa 35 11,BD 36 35,BE 37 34 36,Aa 8 37]
def EK:LSO:=[Ad 39 0 4,Ac 40 1 39,An 41 40 1,Aa 38 41]
def EJ:LSO:=[Al 6,Ae 7]
def EI:LSO:=[Ag 42 21 1,Aa 21 42]
def EH:LSO:=[Ad 43 0 4,Ac 44 1 43,An 45 44 1]
def EG:LSO:=[Aa 46 8,Ai 47 108 46,Aa 6 47,Az 7]
def EF:LSO:=[Aa 48 8,Ai 49 29 48,Aa 50 8,Am 51 50,A3 52 51 0,Aa 6 49,Aa 7 52]
def EE:LSO:=[An 54 14 3,Aa 53 54]
def ED:LSO:=[An 55 14 8,Aa 53 55]
def EC:LSO:=[Aa 56 0,Ad 57 1 4,Ac 58 1 57,Ad 59 2 4,Ac 60 1 59,A8 61 18 56 58 60,Aa 62 0,Ad 63 1 4,Ac 64 1 63,Ar 65 11 62 64,Aa 6 61,Aa 7 65]
def EB:LSO:=[An 67 14 7,Aa 66 67]
def EA:LSO:=[Aa 68 0,Ad 69 1 4,Ac 70 1 69,Ar 71 14 68 70,Aa 72 0,Ad 73 1 4,Ac 74 1 73,Ar 75 11 72 74,Aa 6 71,Aa 7 75]
def Ez:LSO:=[An 77 14 4,Aa 76 77]
def Ey:LSO:=[Aa 78 0,Ad 79 1 4,Ac 80 1 79,Ar 81 11 78 80,Ay 82 81,Aa 83 82,.grp none 83 false
 [Ah 84 83 0,AJ 85 83 1 4,AD 86 83 1 85,og 87 83 false (.call 109 [(tm 84),(tm 86)]),Bc 88 83 87]
 89 (tm 88),Aa 90 89,.grp none 90 false
 [AJ 91 90 3 4,AD 92 90 1 91,Ct 93 90 4 92,AP 94 90 76 93,BU 95 90 94 0]
 96 (tm 95)]
def Ex:LSO:=[Al 6,Ae 7]
def Ew:LSO:=[Aa 97 0,Ad 98 1 4,Ac 99 1 98,Ad 100 3 4,Ac 101 1 100,A8 102 13 97 99 101,Aa 6 102,Az 7]
def Ev:LSO:=[Al 6,Ae 7]
def bA:aQ:=⟨103,(aoC IP [] (.seq (aoC IN Cw (.block 0 (.seq (aoC IM Cw (aoD 15 .skip (.sreg IL Cw))) (aoD 15 (aoC IK [] (.seq (aoC IJ CF (aoF 1 (aoC II [] (.seq (aoG 22 1) (.seq (.block 2 (aoC IH Cx (aoC IG CI (.block 3 (aoC IF Cw (aoD 32 (.sreg EL Cz) (aoC EK Cy (aoE 38 (.sreg EJ []))))))))) (.sreg EI Cw)))))) (.seq (aoC EH Cx (aoE 45 (.sreg EG CH))) (aoC EF CL .ret)))) (.seq (aoC EE Cw (aoD 53 .skip (.sreg ED Cw))) (aoD 53 (.seq (.sdreg EC [.pure,.pure,(.read 0 0),.pure,(.read 0 0),(.read 0 0),.pure,.pure,(.read 0 0)] Da) .ret) (aoC EB Cw (aoD 66 (.seq (.sdreg EA [.pure,.pure,(.read 0 0),(.read 0 0),.pure,.pure,(.read 0 0)] CX) .ret) (aoC Ez Cw (aoD 76 (.seq (aoC Ey CJ (aoE 96 (.sreg Ex []))) (aoC Ew CE .ret)) .skip)))))))))) (aoC Ev [] .ret))),[(.tmp 6),(.tmp 7)]⟩
attribute [push_cast] IP IN IM IL IK IJ II IH IG IF EL EK EJ EI EH EG EF EE ED EC EB EA Ez Ey Ex Ew Ev
theorem dh:aoH 59=aoI bA:=aoL
attribute [push_cast] fB bA
end Go.Proofs.YtcmfcpjnhephaaaGreatDoor.Av
set_option maxRecDepth 100000
namespace Go.Proofs.YtcmfcpjnhephaaaGreatDoor.Av
open Go
def N3:LSO:=[A4 2 0,AU 4,Ab 5 0]
def N2:LSO:=[.op ⟨(some 13),.mkmap,none⟩,
 .op ⟨(some 14),.mkmap,none⟩,
 .op ⟨(some 15),.mkmap,none⟩,
 .op ⟨(some 16),.mkmap,none⟩,o1 17 (.build [.nilmap,.nilmap,.nilmap,.nilmap] [(0,(1,(tm 13))),(1,(1,(tm 14))),(2,(1,(tm 15))),(3,(1,(tm 16)))]),A4 18 17,Aa 6 18]
def N1:LSO:=[Aa 19 1,Am 20 19,Ab 21 0]
def N0:LSO:=[Ak 22 21 20]
def NZ:LSO:=[Ao 23 1 19 21,Ac 24 1 23,Aa 8 24]
def NY:LSO:=[Ap 26 2 2,Aa 27 8,Ar 28 49 26 27,Aa 25 28,Aq 29 25,Au 30 25,Bk 9,Aj 4 9 29,Aa 10 30]
def NX:List (aj×Kd):=
 [A7 32 6,AK 33 32 0 1,A5 34 0 33,A0 35 1 34 0 1,A7 36 8,Bb 37 38 36 0 1,
 od 38 (.mget .str true (.agg [(.str []),(.int .i64 0),(.bool false),(.bool false)]) (tm 35) (tm 37)) (.read 0 1),A7 31 38,od 39 (.extract (tm 31) 0) .pure,
 od 40 (.extract (tm 31) 1) .pure,od 11 (.alloc [(.str []),(.int .i64 0),(.bool false),(.bool false)]) .eff,
 (⟨none,(.store 4 (tm 11) (tm 39)),none⟩,.eff)]
def JL:List aj :=
 [⟨(some 12),(.mv (tm 40)),none⟩]
def NW:LSO:=[Aa 42 10,Ay 43 42,Aa 41 43]
def NV:LSO:=[AU 4,Ab 5 20]
def NU:LSO:=[Aa 45 12,Aa 44 45]
def JQ:LSO:=[AU 4,Ab 5 21]
def JP:List (aj×Kd):=
 [A7 46 6,AK 47 46 0 0,A5 48 0 47,A0 49 1 48 0 0,A7 50 8,Bb 51 38 50 0 0,BH 52 4 9 0 0]
def FD:List aj :=
 [⟨none,(.mset .str (tm 49) (tm 51) (tm 52)),none⟩]
def JO:List (aj×Kd):=
 [A7 53 6,AK 54 53 0 1,A5 55 2 54,A0 56 1 55 0 1,A7 57 8,Bb 58 38 57 0 1,
 (⟨(some 59),.mkmap,none⟩,.eff)]
def FC:List aj :=
 [⟨none,(.mset .str (tm 56) (tm 58) (tm 59)),none⟩]
def JN:LSO:=[Ag 60 21 1,Aa 21 60]
def JM:LSO:=[Aa 61 6,Aa 4 61,Ab 5 0]
def KD:aQ:=⟨62,(aoC N3 [] (aoC N2 C2 (.seq (aoC N1 [] (aoF 0 (aoC N0 [] (.seq (aoG 22 0) (.seq (.block 1 (aoC NZ Cx (aoC NY CE (.seq (.dregM NX JL CG) (.seq (.block 2 (aoC NW Cx (aoD 41 (aoC NV [] .ret) (aoC NU Cw (aoE 44 (.sreg JQ [])))))) (.seq (.dregM JP FD CA) (.dregM JO FC CA))))))) (.sreg JN Cw)))))) (aoC JM C3 .ret)))),[(.tmp 4),(.tmp 5)]⟩
attribute [push_cast] N3 N2 N1 N0 NZ NY NX JL NW NV NU JQ JP FD JO FC JN JM
theorem Wk:aoH 19=aoI KD:=aoL
def FB:LSO:=[Al 2]
def FA:LSO:=[Al 3]
def Fz:LSO:=[Ab 4 0]
def Fy:LSO:=[Aa 5 4,Ag 6 5 3,Aa 7 0,Aw 8 7,o1 9 (.bin .leq (tm 6) (tm 8))]
def Fx:LSO:=[Aa 12 3,Aa 13 0,Aa 14 4,Aa 15 4,Ag 16 15 3,BA 17 13 14 16,Bq 18 17,Bj 19 12 18,Aa 3 19]
def Fw:LSO:=[Aa 10 4,Ag 11 10 1,Aa 4 11]
def Fv:LSO:=[Aa 20 3,Aa 2 20]
def ub:aQ:=⟨21,(aoC FB [] (aoC FA [] (.seq (aoC Fz [] (aoF 0 (.seq (aoC Fy Cz (aoG 9 0)) (.seq (.block 1 (.sreg Fx CJ)) (.sreg Fw Cx))))) (aoC Fv Cw .ret)))),[(.tmp 2)]⟩
attribute [push_cast] FB FA Fz Fy Fx Fw Fv
theorem Tk:aoH 41=aoI ub:=aoL
def pA:LSO:=[Aa 14 0,Ax 15 14,Ad 16 0 15,Ac 17 1 16,o1 18 (.mrange (tm 17))]
def pz:LSO:=[o1 19 (.mnext (tm 18)),Aq 20 19]
def py:LSO:=[o1 21 (.mentry (tm 18)),Aq 22 21,Au 23 21,Bk 7,Aa 6 22,Aj 4 7 23]
def pw:LSO:=[Aa 24 1,Aa 25 6,Ar 26 52 24 25,Am 27 26,Ab 28 0]
def pu:LSO:=[Ak 29 28 27]
def pq:LSO:=[Ao 30 1 26 28,Ac 31 1 30,Aa 9 31]
def pp:LSO:=[Ad 33 1 7,Ac 34 1 33,Aa 35 9,Ar 36 48 34 35,Aa 32 36,Aq 37 32,Au 38 32,Aa 10 37,Aa 11 38]
def po:LSO:=[Aa 39 11,Ay 40 39]
def pn:LSO:=[Aa 41 2,Aa 42 6,Aa 43 10,o1 44 (.build [(.str []),(.bool false),(.str [])] [(0,(1,(tm 42))),(1,(1,(.av (.bool false)))),(2,(1,(tm 43)))]),
 Bt 45 41 44]
def pl:LSO:=[Aa 46 10,Ai 47 41 46,Am 48 47,Ab 49 0]
def nC:LSO:=[Ak 50 49 48]
def nB:LSO:=[Ao 51 1 47 49,Ac 52 1 51,Aa 13 52]
def nA:LSO:=[Aa 53 2,Aa 54 6,Aa 55 13,o1 56 (.build [(.str []),(.bool false),(.str [])] [(0,(1,(tm 54))),(1,(1,(.av (.bool true)))),(2,(1,(tm 55)))]),
 Bt 57 53 56]
def nz:LSO:=[Ag 58 49 1,Aa 49 58]
def ny:LSO:=[Ag 59 28 1,Aa 28 59]
def iS:aQ:=⟨60,(aoC pA Cz (aoF 0 (aoC pz Cw (.seq (aoG 20 0) (.block 1 (aoC py C6 (aoC pw CR (aoF 2 (aoC pu [] (.seq (aoG 29 2) (.seq (.block 3 (aoC pq Cx (aoC pp CI (.seq (aoC po Cw (aoD 40 (.exit 3) .skip)) (aoC pn CB (aoC pl CF (aoF 4 (aoC nC [] (.seq (aoG 50 4) (.seq (.block 5 (aoC nB Cx (.sreg nA CB))) (.sreg nz Cw))))))))))) (.sreg ny Cw)))))))))))),[]⟩
attribute [push_cast] pA pz py pw pu pq pp po pn pl nC nB nA nz ny
theorem Ge:aoH 53=aoI iS:=aoL
def rb:LSO:=[A4 3 0,A4 4 1]
def ra:LSO:=[Ac 10 1 3,BV 11 10]
def q9:LSO:=[Ac 12 1 3,Ac 13 1 4,Ar 14 35 12 13]
def qZ:LSO:=[Al 6]
def qY:LSO:=[Aa 15 2,Am 16 15,Ab 17 0]
def qX:LSO:=[Ak 18 17 16]
def qW:LSO:=[Ao 19 2 15 17,Ap 20 2 19,Br 8,Aj 2 8 20]
def qV:List (aj×Kd):=
 [A7 21 6,A5 22 0 8,A0 23 1 22 0 0,A5 24 1 8,A0 25 1 24 0 0,Bb 26 51 25 0 0,od 27 (.build [(.str []),(.sl [] 0 (some 0))] [(0,(1,(tm 23))),(1,(1,(tm 26)))]) .pure,
 od 28 (.bslice false 2 1 [(.str []),(.sl [] 0 (some 0))] [(0,(2,(tm 27)))]) (.read 0 0)]
def pD:List aj :=
 [⟨(some 29),(.app 1 2 40 [(.str []),(.sl [] 0 (some 0))] (tm 21) (tm 28)),none⟩,⟨(some 6),(.mv (tm 29)),none⟩]
def qU:LSO:=[Ag 30 17 1,Aa 17 30]
def qT:List (aj×Kd):=
 [A0 31 1 3 0 0,AK 32 31 0 0,A5 33 1 32,A0 34 1 33 0 0,A0 35 1 4 0 0,A7 36 6]
def pB:List aj :=
 [⟨none,(.mset .int (tm 34) (tm 35) (tm 36)),none⟩]
def pJ:LSO:=[Ac 37 1 3,Ax 38 37,Ad 39 0 38,Ac 40 1 39,o1 41 (.mrange (tm 40))]
def pI:LSO:=[o1 42 (.mnext (tm 41)),Aq 43 42]
def pH:LSO:=[o1 44 (.mentry (tm 41)),Aq 45 44,Aa 9 45]
def pG:LSO:=[Aa 46 6,Aa 47 9,Ar 48 52 46 47,Am 49 48,A3 50 49 0]
def pF:List (aj×Kd):=
 [A0 51 1 3 0 0,AK 52 51 0 0,A5 53 2 52,A0 54 1 53 0 0,A7 55 9,od 56 (.mget .str false .nilmap (tm 54) (tm 55)) (.read 0 0),A0 57 1 4 0 0]
def nJ:List aj :=
 [⟨none,(.mset .int (tm 56) (tm 57) (.av (.bool true))),none⟩]
def pE:LSO:=[Ac 58 1 3,Aa 59 6,o1 60 (.mkfn 54 [(tm 3),(tm 4)]),A8 61 53 58 59 60]
def mC:aQ:=⟨62,(aoC rb [] (.seq (aoC ra Cw (aoD 11 .ret .skip)) (aoC q9 CU (aoC qZ [] (.seq (aoC qY [] (aoF 0 (aoC qX [] (.seq (aoG 18 0) (.seq (.block 1 (aoC qW Cx (.dregM qV pD CK))) (.sreg qU Cw)))))) (.seq (.dregM qT pB CO) (.seq (aoC pJ Cz (aoF 2 (aoC pI Cw (.seq (aoG 43 2) (.block 3 (aoC pH Cx (aoC pG Cz (aoD 50 (.dregM pF nJ CA) .skip)))))))) (.sreg pE CP)))))))),[]⟩
attribute [push_cast] rb ra q9 qZ qY qX qW qV pD qU qT pB pJ pI pH pG pF nJ pE
theorem KE:aoH 21=aoI mC:=aoL
def nI:LSO:=[A4 3 0]
def nH:LSO:=[Ac 4 1 1,Ax 5 4,Ad 6 3 5,Ac 7 1 6,Ap 8 3 3,BW 9 7 8,o1 10 (.eqk false .map (tm 9) (.av .nilmap))]
def nG:List (aj×Kd):=
 [A0 11 1 1 0 1,AK 12 11 0 1,A5 13 3 12,A0 14 1 13 0 1,BH 15 3 3 0 1,
 (⟨(some 16),.mkmap,none⟩,.eff)]
def lU:List aj :=
 [⟨none,(.mset (.st [.str,.bool,.str]) (tm 14) (tm 15) (tm 16)),none⟩]
def nF:List (aj×Kd):=
 [A0 17 1 1 0 0,AK 18 17 0 0,A5 19 3 18,A0 20 1 19 0 0,BH 21 3 3 0 0,od 22 (.mget (.st [.str,.bool,.str]) false .nilmap (tm 20) (tm 21)) (.read 0 0),A0 23 1 2 0 0]
def lT:List aj :=
 [⟨none,(.mset .int (tm 22) (tm 23) (.av (.bool true))),none⟩]
def cG:aQ:=⟨24,(aoC nI [] (.seq (.seq (.sdreg nH [(.read 0 0),(.read 0 0),.pure,(.read 0 0),(.read 0 0)] C2) (aoD 10 (.dregM nG lU CO) .skip)) (.dregM nF lT CA))),[]⟩
attribute [push_cast] nI nH nG lU nF lT
theorem fC:aoH 54=aoI cG:=aoL
def p8:LSO:=[A4 2 0,A4 3 1]
def p7:LSO:=[Ac 8 1 2,BV 9 8]
def p6:LSO:=[Ac 11 1 2,Ax 12 11,Ad 13 1 12,Ac 14 1 13,Ac 15 1 3,o1 16 (.mget .int true (.sl [] 0 (some 0)) (tm 14) (tm 15)),Aa 10 16,Aq 17 10,Au 18 10,Aa 4 17,
 Aa 5 18]
def p5:LSO:=[Aa 19 5,Ay 20 19]
def p0:List (aj×Kd):=
 [A0 21 1 2 0 0,AK 22 21 0 0,A5 23 1 22,A0 24 1 23 0 0,A0 25 1 3 0 0]
def n9:List aj :=
 [⟨none,(.mdel .int (tm 24) (tm 25)),none⟩]
def pZ:LSO:=[Ac 26 1 2,Ax 27 26,Ad 28 2 27,Ac 29 1 28,o1 30 (.mrange (tm 29))]
def pY:LSO:=[o1 31 (.mnext (tm 30)),Aq 32 31]
def pX:LSO:=[o1 33 (.mentry (tm 30)),Au 34 33,Aa 7 34]
def pW:LSO:=[Aa 35 7,Ac 36 1 3,o0 (.mdel .int (tm 35) (tm 36))]
def pV:LSO:=[Ac 37 1 2,Aa 38 4,o1 39 (.mkfn 85 [(tm 2),(tm 3)]),A8 40 53 37 38 39]
def er:aQ:=⟨41,(aoC p8 [] (.seq (aoC p7 Cw (aoD 9 .ret .skip)) (.seq (.sdreg p6 [(.read 0 0),(.read 0 0),.pure,(.read 0 0),(.read 0 0),(.read 0 0),.pure,.pure,.pure,.pure] CY) (.seq (aoC p5 Cw (aoD 20 .ret .skip)) (.seq (.dregM p0 n9 CB) (.seq (aoC pZ Cz (aoF 0 (aoC pY Cw (.seq (aoG 32 0) (.block 1 (aoC pX Cx (.sreg pW C7))))))) (.sreg pV CP))))))),[]⟩
attribute [push_cast] p8 p7 p6 p5 p0 n9 pZ pY pX pW pV
theorem ov:aoH 35=aoI er:=aoL
def l3:LSO:=[A4 3 0]
def lZ:List (aj×Kd):=
 [A0 4 1 1 0 0,AK 5 4 0 0,A5 6 3 5,A0 7 1 6 0 0,BH 8 3 3 0 0,od 9 (.mget (.st [.str,.bool,.str]) false .nilmap (tm 7) (tm 8)) (.read 0 0),A0 10 1 2 0 0]
def jp:List aj :=
 [⟨none,(.mdel .int (tm 9) (tm 10)),none⟩]
def lY:LSO:=[Ac 11 1 1,Ax 12 11,Ad 13 3 12,Ac 14 1 13,Ap 15 3 3,BW 16 14 15,o1 17 (.mlen (tm 16)),An 18 17 0]
def lX:List (aj×Kd):=
 [A0 19 1 1 0 0,AK 20 19 0 0,A5 21 3 20,A0 22 1 21 0 0,BH 23 3 3 0 0]
def jo:List aj :=
 [⟨none,(.mdel (.st [.str,.bool,.str]) (tm 22) (tm 23)),none⟩]
def bf:aQ:=⟨24,(aoC l3 [] (.seq (.dregM lZ jp CA) (.seq (.sdreg lY [(.read 0 0),(.read 0 0),.pure,(.read 0 0),(.read 0 0)] C4) (aoD 18 (.dregM lX jo CB) .skip)))),[]⟩
attribute [push_cast] l3 lZ jp lY lX jo
theorem cW:aoH 85=aoI bf:=aoL
def rj:LSO:=[Ae 4]
def ri:LSO:=[Aa 7 0,BV 8 7]
def rh:LSO:=[Ae 4]
def rf:List (aj×Kd):=
 [A7 10 0,AK 11 10 0 1,A5 12 0 11,A0 13 1 12 0 1,A7 14 1,Bb 15 38 14 0 1,
 od 16 (.mget .str true (.agg [(.str []),(.int .i64 0),(.bool false),(.bool false)]) (tm 13) (tm 15)) (.read 0 1),A7 9 16,od 17 (.extract (tm 9) 0) .pure,
 od 18 (.extract (tm 9) 1) .pure,od 5 (.alloc [(.str []),(.int .i64 0),(.bool false),(.bool false)]) .eff,
 (⟨none,(.store 4 (tm 5) (tm 17)),none⟩,.eff)]
def pU:List aj :=
 [⟨(some 6),(.mv (tm 18)),none⟩]
def re:LSO:=[Aa 19 6,Aa 4 19]
def eD:aQ:=⟨20,(aoC rj [] (.seq (aoC ri Cw (aoE 8 (.sreg rh []))) (.seq (.dregM rf pU CG) (aoC re Cw .ret)))),[(.tmp 4)]⟩
attribute [push_cast] rj ri rh rf pU re
theorem qi:aoH 11=aoI eD:=aoL
def nE:LSO:=[Ae 4]
def nD:LSO:=[Aa 5 0,Aa 6 1,Ar 7 11 5 6,Aa 8 7,.grp none 8 true
 [Af 9 8 0,AY 10 8 9,AA 11 8 0 10,A6 12 8 1 11,Af 13 8 1,AL 14 8 38 13,
 og 15 8 true (.mget .str false (.agg [(.str []),(.int .i64 0),(.bool false),(.bool false)]) (tm 12) (tm 14)),og 16 8 true (.field false 1 1 (tm 15)),
 og 17 8 true (.bin .leq (tm 16) (iv 3))]
 18 (tm 17),Aa 4 18]
def dQ:aQ:=⟨19,(aoC nE [] (.seq (.sdreg nD [.pure,.pure,(.read 0 0),.pure,.pure,(.read 0 0),.pure,(.read 0 0),.pure,(.read 0 0)] C0) .ret)),[(.tmp 4)]⟩
attribute [push_cast] nE nD
theorem mB:aoH 109=aoI dQ:=aoL
def jm:LSO:=[Al 4]
def jl:LSO:=[Aa 5 0,Aa 6 1,Ar 7 11 5 6,Ay 8 7]
def jk:LSO:=[Al 4]
def ji:LSO:=[Aa 9 0,Ax 10 9,Ad 11 2 10,Ac 12 1 11,Aa 13 1,Ai 14 38 13,o1 15 (.mget .str false .nilmap (tm 12) (tm 14)),Ai 16 44 15,Aa 4 16]
def dj:aQ:=⟨17,(aoC jm [] (.seq (aoC jl Cy (aoE 8 (.sreg jk []))) (.seq (.sdreg ji [.pure,(.read 0 0),.pure,(.read 0 0),.pure,(.read 0 0)] CJ) .ret))),[(.tmp 4)]⟩
attribute [push_cast] jm jl jk ji
theorem iK:aoH 14=aoI dj:=aoL
def nZ:LSO:=[Al 6]
def nY:LSO:=[Aa 9 0,Aa 10 1,Ar 11 11 9 10,Ay 12 11]
def nX:LSO:=[Al 6]
def nW:LSO:=[Aa 14 0,Ax 15 14,Ad 16 0 15,Ac 17 1 16,Aa 18 1,Ai 19 38 18,
 o1 20 (.mget .str false (.agg [(.str []),(.int .i64 0),(.bool false),(.bool false)]) (tm 17) (tm 19)),o1 21 (.field false 1 1 (tm 20)),Aa 22 2,Ar 23 48 21 22,Aa 13 23,Aq 24 13,
 Au 25 13,Aa 7 24,Aa 8 25]
def nV:LSO:=[Aa 26 8,Ay 27 26]
def nU:LSO:=[Al 6]
def nT:LSO:=[Aa 28 0,Ax 29 28,Ad 30 3 29,Ac 31 1 30,Aa 32 1,Ai 33 38 32,Aa 34 7,
 o1 35 (.build [(.str []),(.bool false),(.str [])] [(0,(1,(tm 33))),(1,(1,(.av (.bool false)))),(2,(1,(tm 34)))]),BW 36 31 35,Ai 37 44 36,Aa 6 37]
def bD:aQ:=⟨38,(aoC nZ [] (.seq (aoC nY Cy (aoE 12 (.sreg nX []))) (.seq (.sdreg nW [.pure,(.read 0 0),.pure,(.read 0 0),.pure,(.read 0 0),(.read 0 0),(.read 0 0),.pure,(.read 0 0),.pure,.pure,.pure,.pure] [true,true,false,false,false,false,false,false,false,false,false,false,false,false,false]) (.seq (aoC nV Cw (aoE 27 (.sreg nU []))) (.seq (.sdreg nT [.pure,(.read 0 0),.pure,(.read 0 0),.pure,(.read 0 0),.pure,.pure] CN) .ret))))),[(.tmp 6)]⟩
attribute [push_cast] nZ nY nX nW nV nU nT
theorem dT:aoH 18=aoI bD:=aoL
def pT:LSO:=[Al 6]
def pS:LSO:=[Aa 15 0,Aa 16 1,Ar 17 11 15 16,Ay 18 17]
def pR:LSO:=[Al 6]
def pQ:LSO:=[Aa 19 1,Ai 20 38 19,Aa 7 20]
def pP:LSO:=[Aa 21 0,Ax 22 21,Ad 23 2 22,Ac 24 1 23,Aa 25 7,o1 26 (.mget .str false .nilmap (tm 24) (tm 25)),Ai 27 40 26,Aa 8 27]
def pO:LSO:=[Aa 28 2,Am 29 28,Ab 30 0]
def pN:LSO:=[Ak 31 30 29]
def pM:LSO:=[Ao 32 2 28 30,Ap 33 2 32,BT 10,Aj 2 10 33]
def pL:LSO:=[Ad 34 1 10,Ac 35 1 34,Aa 11 35]
def pK:LSO:=[Aa 36 0,Ax 37 36,Ad 38 0 37,Ac 39 1 38,Aa 40 7,
 o1 41 (.mget .str false (.agg [(.str []),(.int .i64 0),(.bool false),(.bool false)]) (tm 39) (tm 40)),o1 42 (.field false 1 1 (tm 41)),AC 43 42 2]
def nS:LSO:=[Aa 44 11,Ai 45 38 44,Aa 11 45]
def nR:LSO:=[Aa 46 11,Ai 47 41 46,Am 48 47,Ab 49 0]
def nQ:LSO:=[Ak 50 49 48]
def nP:LSO:=[Ao 51 1 47 49,Ac 52 1 51,Aa 13 52]
def nO:LSO:=[Aa 53 0,Ax 54 53,Ad 55 3 54,Ac 56 1 55,Aa 57 7,Aa 58 13,
 o1 59 (.build [(.str []),(.bool false),(.str [])] [(0,(1,(tm 57))),(1,(1,(.av (.bool true)))),(2,(1,(tm 58)))]),BW 60 56 59,o1 14 (.alloc [.nilmap]),Aj 1 14 60]
def nN:LSO:=[Aa 61 8,o1 62 (.mkfn 43 [(tm 14)]),Ar 63 42 61 62]
def nM:LSO:=[Ag 64 49 1,Aa 49 64]
def nL:LSO:=[Ag 65 30 1,Aa 30 65]
def nK:LSO:=[Aa 66 8,Ai 67 44 66,Aa 6 67]
def eo:aQ:=⟨68,(aoC pT [] (.seq (aoC pS Cy (aoE 18 (.sreg pR []))) (aoC pQ Cx (aoC pP C4 (.seq (aoC pO [] (aoF 0 (aoC pN [] (.seq (aoG 31 0) (.seq (.block 1 (aoC pM Cx (aoC pL Cx (.seq (aoC pK C4 (aoD 43 (.sreg nS Cx) .skip)) (aoC nR CF (aoF 2 (aoC nQ [] (.seq (aoG 50 2) (.seq (.block 3 (aoC nP Cx (aoC nO CJ (.sreg nN CU)))) (.sreg nM Cw)))))))))) (.sreg nL Cw)))))) (aoC nK Cx .ret)))))),[(.tmp 6)]⟩
attribute [push_cast] pT pS pR pQ pP pO pN pM pL pK nS nR nQ nP nO nN nM nL nK
theorem ou:aoH 13=aoI eo:=aoL
def lW:LSO:=[Ae 5]
def lV:LSO:=[Ac 6 1 2,Aa 7 0,o1 8 (.mget .int false (.bool false) (tm 6) (tm 7)),Ay 9 8,Aa 5 9]
def dB:aQ:=⟨10,(aoC lW [] (aoC lV Cz .ret)),[(.tmp 5)]⟩
attribute [push_cast] lW lV
theorem jG:aoH 43=aoI dB:=aoL
def da:LSO:=[Aa 6 0,o1 7 (.mrange (tm 6))]
def c8:LSO:=[o1 8 (.mnext (tm 7)),Aq 9 8]
def c7:LSO:=[o1 10 (.mentry (tm 7)),Aq 11 10,Au 12 10,Aa 4 11,Aa 5 12]
def cZ:LSO:=[Aa 13 1,Aa 14 4,Aa 15 5,Ce 16 13 14 15]
def cY:LSO:=[Aa 17 0,Aa 18 4,o0 (.mdel .int (tm 17) (tm 18))]
def bO:aQ:=⟨19,(aoC da Cw (aoF 0 (aoC c8 Cw (.seq (aoG 9 0) (.block 1 (aoC c7 C6 (aoC cZ Cy (aoD 16 (.sreg cY C7) .skip)))))))),[]⟩
attribute [push_cast] da c8 c7 cZ cY
theorem eZ:aoH 42=aoI bO:=aoL
attribute [push_cast] KD ub iS mC cG er bf eD dQ dj bD eo dB bO
set_option maxHeartbeats 8000000
set_option maxRecDepth 100000
abbrev Atr:=List UInt8×List (List UInt8)
theorem iX(p:Nat->Bool)(xs:List (List UInt8)):AV.refsL p (xs.map AV.str)=true:=AV.refsL_iff.2 λa ha=>by obtain⟨x,_,rfl⟩:=alt.1 ha;rfl
theorem afM(xs:List (List UInt8)):(xs.map AV.str).all AV.one=true:=by rw[alC];intro a ha;obtain⟨x,_,rfl⟩:=alt.1 ha;rfl
abbrev atA(a:Atr):List AV:=[.str a.1,.sl (a.2.map AV.str) a.2.length none]
def bc(l:List Atr):List AV:=l.flatMap atA
theorem Lb(a:Atr)(l:List Atr):bc (a::l)=.str a.1 :: .sl (a.2.map AV.str) a.2.length none::bc l:=rfl
theorem KJ(l m:List Atr):bc (l++m)=bc l++bc m:=by simp[bc]
theorem iN(l:List Atr):(bc l).length=l.length*2:=by
 induction l with
 |nil=>rfl
 |cons a l ih=>rw[Lb];simp only[alA];omega
theorem La(p:Nat->Bool):∀l:List Atr,AV.refsL p (bc l)=true
 |[]=>rfl
 |a::l=>by rw[Lb];simp[AV.refsL,AV.refs,iX,La p l]
theorem eh(l:List (List UInt8)):AV.frzL (l.map AV.str)=l.map AV.str:=by rw[AV.frzL_eq,al0];rfl
theorem eX:∀l:List Atr,AV.frzL (bc l)=bc l
 |[]=>rfl
 |a::l=>by rw[Lb];simp only[AV.frzL,AV.frz,eh,eX l]
theorem oO:∀{l:List Atr}{k:Nat},k<l.length->((bc l).drop (k*2)).take 2=atA (l.getD k ([],[]))
 |a::l,0,_=>rfl
 |a::l,k+1,h=>by have ih:=@oO l k (by simpa using h);rw[show(k+1)*2=k*2+1+1 by omega,Lb];simpa using ih
abbrev F9(l:List (List UInt8)):AV:=.sl (l.map AV.str) l.length none
theorem aaF{l:List Atr}{k:Nat}(hk:k<l.length):(bc l).getD (k*2+1) .undef=F9 (l.getD k ([],[])).2:=by have h2:=congrArg (λl=>l[1]?) (oO hk);simp only[amx (show 1<2 by omega),amo]at h2;rw[alR,h2];rfl
end Go.Proofs.YtcmfcpjnhephaaaGreatDoor.Av
set_option maxRecDepth 100000
namespace Go.Proofs.YtcmfcpjnhephaaaGreatDoor.Av
open Go
def G0:LSO:=[Al 2]
def GZ:LSO:=[Al 3]
def GY:LSO:=[Aa 6 0,Am 7 6,Ab 8 0]
def GX:LSO:=[Ak 9 8 7]
def GW:LSO:=[Ao 10 2 6 8,Ap 11 2 10,Br 5,Aj 2 5 11]
def GV:List (aj×Kd):=
 [A7 12 3,A5 13 0 5,A0 14 1 13 0 1,od 15 (.bslice false 1 0 [] []) (.read 0 0),A5 16 1 5,A0 17 1 16 0 0,od 18 (.app 0 1 16 [(.str [])] (tm 15) (tm 17)) .eff,
 od 19 (.build [(.str []),(.sl [] 0 (some 0))] [(0,(1,(tm 14))),(1,(1,(tm 18)))]) .pure,od 20 (.bslice false 2 1 [(.str []),(.sl [] 0 (some 0))] [(0,(2,(tm 19)))]) (.read 0 0)]
def za:List aj :=
 [⟨(some 21),(.app 1 2 40 [(.str []),(.sl [] 0 (some 0))] (tm 12) (tm 20)),none⟩,⟨(some 3),(.mv (tm 21)),none⟩]
def GU:LSO:=[Ag 22 8 1,Aa 8 22]
def GT:LSO:=[Aa 23 3,Aa 2 23]
def yi:aQ:=⟨24,(aoC G0 [] (aoC GZ [] (.seq (aoC GY [] (aoF 0 (aoC GX [] (.seq (aoG 9 0) (.seq (.block 1 (aoC GW Cx (.dregM GV za CN))) (.sreg GU Cw)))))) (aoC GT Cw .ret)))),[(.tmp 2)]⟩
attribute [push_cast] G0 GZ GY GX GW GV za GU GT
theorem Uu:aZ Tryz.prog (λr i=>if r=5/\i=6 then 0 else 1) 86=some yi.raw:=aoL
def NT:LSO:=[Ae 2]
def NR:LSO:=[Aa 7 0,Am 8 7,Ab 9 0]
def NQ:LSO:=[Ak 10 9 8]
def NP:LSO:=[Ao 11 2 7 9,Ap 12 2 11,Br 4,Aj 2 4 12]
def NO:LSO:=[Aa 13 0,Am 14 13,A3 15 14 60,Aa 16 15,.grp none 16 false
 [AJ 17 16 1 4,AD 18 16 1 17,Bh 19 16 18,A9 20 16 19 60]
 21 (tm 20)]
def NN:LSO:=[Ae 2]
def NM:LSO:=[Ad 22 1 4,Ac 23 1 22,Am 24 23,Ab 25 0]
def NL:LSO:=[Ak 26 25 24]
def NK:LSO:=[Ao 27 1 23 25,Ac 28 1 27,Aa 6 28]
def NJ:LSO:=[Aa 29 6,Aw 30 29,A3 31 30 5000]
def JK:LSO:=[Ae 2]
def JJ:LSO:=[Ag 32 25 1,Aa 25 32]
def JI:LSO:=[Ag 33 9 1,Aa 9 33]
def JH:LSO:=[Az 2]
def KC:aQ:=⟨34,(aoC NT [] (.seq (aoC NR [] (aoF 0 (aoC NQ [] (.seq (aoG 10 0) (.seq (.block 1 (aoC NP Cx (.seq (aoC NO Cz (aoE 21 (.sreg NN []))) (aoC NM CF (aoF 2 (aoC NL [] (.seq (aoG 26 2) (.seq (.block 3 (aoC NK Cx (aoC NJ Cx (aoE 31 (.sreg JK []))))) (.sreg JJ Cw))))))))) (.sreg JI Cw)))))) (aoC JH [] .ret))),[(.tmp 2)]⟩
attribute [push_cast] NT NR NQ NP NO NN NM NL NK NJ JK JJ JI JH
theorem Wj:aoH 33=aoI KC:=aoL
attribute [push_cast] yi KC
variable {L:List Blk}{K:alp}
set_option maxHeartbeats 8000000
set_option maxRecDepth 100000
theorem ah8{l:List Atr}{cap:Option Nat}(hl:l.length<=1100000)(hz:∀a∈l,a.2.length<=1100000)(h:K (.sl (bc l) l.length none) L):
  alo 86 [.sl (bc l) l.length cap] L K:=by
 replace h:=hid h;refine aln Uu ?_;refine bF (l:=[]) (n:=0) 3 2 rfl (alU 2).symm ?_;refine ah (λm T' L'=>∃(k:Nat) (C:List AV) (X:List Blk),m=l.length-k/\k<=l.length/\C=bc (l.take k)/\T'=[(8,.int .i64 (k:Int)),(7,.int .i64 l.length),(6,.sl (bc l) l.length cap),(3,.gsl C k L.length 2)]/\L'=L++(.spare k 2::X)) aoN ⟨0,[],[],rfl,alw _,rfl,rfl,rfl⟩ ?_;rintro _ _ _ ⟨k,C,X,rfl,hk,hC,rfl,rfl⟩;by_cases hlt:k<l.length;have g1:(k:Int)<(l.length:Int):=aoJ;have g2:=alm k aoJ;have e3:=oO hlt;have e4:k*2+2<=(bc l).length:=by rw[iN];omega
 obtain⟨⟨nm,vs⟩,ha⟩:∃a,l.getD k ([],[])=a:=⟨_,rfl⟩;have htk:bc (l.take (k+1))=bc (l.take k)++[.str nm,.sl (vs.map AV.str) vs.length none]:=by rw[alN hlt,KJ,show l[k]=(nm,vs)by rw[<- ha];simp[hlt]];rfl
 have hvs:=hz (nm,vs) (by rw[<- ha];simp[hlt]);simp only at hvs;rw[ha]at e3;simp only[atA]at e3;have e0:AV.frzL (vs.map AV.str)=vs.map AV.str:=eh vs;replace htk:=hid htk;replace hC:=hid hC;clear ha hz;refine wk ?_;exact aoO aoJ aoM ⟨k+1,_,_,rfl,hlt,by rw[htk.o,hC.o],rfl,rfl⟩;have hke:k=l.length:=aoJ;subst hke;have g1:¬(l.length:Int)<(l.length:Int):=aoJ;rw[alF]at hC;subst hC;have e0:=eX l;refine wk ?_;refine bu ?_;simp only[AV.frz,e0];exact ab (by simp only[AV.refs,La]) h.o
def YQ(n:Nat)(a:Atr):Bool:=decide (n<=60)&&decide (a.2.length<=60)&&a.2.all λv=>decide (v.length<=5000)
def aar(l:List Atr):Bool:=l.all (YQ l.length)
theorem acN{l:List Atr}(h:aar l=true):l.length<=60/\∀a∈l,a.2.length<=60/\∀v∈a.2,v.length<=5000:=by simp only[aar,alC,YQ,alx,decide_eq_true_eq]at h;refine⟨?_,λa ha=>⟨(h a ha).1.2,(h a ha).2⟩⟩;rcases l with _|⟨x,t⟩;simp;exact(h x aoK).1.1
theorem akN{l:List Atr}{cap:Option Nat}(hl:(l.length:Int)<=9223372036854775807)(hz:∀a∈l,(a.2.length:Int)<=9223372036854775807)(h:K (.bool (aar l)) L):
  alo 33 [.sl (bc l) l.length cap] L K:=by
 obtain⟨R,hR⟩:=alj (l.all (YQ l.length));rw[aar,hR]at h;replace h:=hid h;replace hR:=hid hR;refine aln Wj ?_;refine ah (λm T' L'=>∃(k:Nat) (X:List Blk),m=l.length-k/\k<=l.length/\Hid ((l.drop k).all (YQ l.length)=R)/\T'=[(9,.int .i64 (k:Int)),(8,.int .i64 l.length),(7,.sl (bc l) l.length cap),(0,.sl (bc l) l.length cap)]/\L'=L++X) aoN ⟨0,[],rfl,alw _,hid (by simpa using hR.o),rfl,aoK⟩ ?_;rintro _ _ _ ⟨k,X,rfl,hk,hI,rfl,rfl⟩;by_cases hlt:k<l.length;have g1:(k:Int)<(l.length:Int):=aoJ;have g2:=alm k aoJ;have e3:=oO hlt;have e4:k*2+2<=(bc l).length:=by rw[iN];omega
 obtain⟨⟨nm,vs⟩,ha⟩:∃a,l.getD k ([],[])=a:=⟨_,rfl⟩;have hdr:l.drop k=(nm,vs)::l.drop (k+1):=by rw[ama hlt,<- ha];simp[hlt]
 have hvs:=hz (nm,vs) (by rw[<- ha];simp[hlt]);simp only at hvs;rw[ha]at e3;simp only[atA]at e3;have hI2:=hI.o;rw[hdr,am6]at hI2;have no:YQ l.length (nm,vs)=false->K (.bool false) L:=λe=>by rw[e,amL]at hI2;have:=h.o;rwa[<- hI2]at this
 replace no:=hid no;clear hI hdr ha hz hR;by_cases h1:(60:Int)<(l.length:Int);have h':=hid (no.o (by simp[YQ];omega));clear hI2;refine wk ?_;exact ab rfl h'.o;by_cases h2:(60:Int)<(vs.length:Int);have h':=hid (no.o (by simp[YQ];omega));clear hI2;refine wk ?_;exact ab rfl h'.o;obtain⟨rv,hrv⟩:=alj (vs.all (λv=>decide (v.length<=5000)));have hfe:YQ l.length (nm,vs)=rv:=by rw[YQ,hrv,decide_eq_true aoJ,decide_eq_true (by simp only;omega)];rfl
 rw[hfe]at hI2;replace hI2:=hid hI2;replace hrv:=hid hrv;replace no:=hid (λe:rv=false=>no.o (hfe.trans e));clear hfe;refine wk ?_;refine ah (λm T' L'=>∃j:Nat,m=vs.length-j/\j<=vs.length/\Hid ((vs.drop j).all (λv=>decide (v.length<=5000))=rv)/\T'=[(25,.int .i64 (j:Int)),(24,.int .i64 vs.length),(23,.sl (vs.map AV.str) vs.length none),(9,.int .i64 (k:Int)),(8,.int .i64 l.length),(7,.sl (bc l) l.length cap),(0,.sl (bc l) l.length cap)]/\L'=L++(X++[.cells [.str nm,.sl (vs.map AV.str) vs.length none]])) aoN ⟨0,rfl,alw _,hid (by simpa using hrv.o),rfl,aoK⟩ ?_;rintro _ _ _ ⟨j,rfl,hj,hJ,rfl,rfl⟩;by_cases hjl:j<vs.length;have j1:(j:Int)<(vs.length:Int):=aoJ;have j2:=alm j aoJ;obtain⟨v,hv⟩:=alj (vs.getD j []);have g3:(vs.map AV.str).getD j .undef=.str v:=by rw[<- hv];simp[hjl]
 have hdr:vs.drop j=v::vs.drop (j+1):=by rw[ama hjl,<- hv];simp[hjl]
 have hJ2:=hJ.o;rw[hdr,am6]at hJ2;clear hv hdr hJ;by_cases h3:(5000:Int)<(v.length:Int);have h':=hid (no.o (by rw[<- hJ2,decide_eq_false aoJ,amL]));clear hJ2;refine wk ?_;exact ab rfl h'.o;rw[decide_eq_true aoJ,aml]at hJ2;replace hJ2:=hid hJ2;refine wk ?_;exact aoO aoJ aoM ⟨j+1,rfl,hjl,hJ2,rfl,rfl⟩;have j1:¬(j:Int)<(vs.length:Int):=aoJ;have hJ2:=hJ.o;rw[am4 aoJ,List.all_nil]at hJ2;have hI3:=hI2.o;rw[<- hJ2,aml]at hI3;replace hI3:=hid hI3;clear hJ hJ2;refine wk ?_;exact aoO aoJ aoM ⟨k+1,_,rfl,hlt,hI3,rfl,rfl⟩;have hke:k=l.length:=aoJ;subst hke;have g1:¬(l.length:Int)<(l.length:Int):=aoJ;have hI2:=hI.o;rw[al6,List.all_nil]at hI2;have h':=h.o;rw[<- hI2]at h';replace h':=hid h';clear hI hI2 hR;refine wk ?_;exact ab rfl h'.o
end Go.Proofs.YtcmfcpjnhephaaaGreatDoor.Av
