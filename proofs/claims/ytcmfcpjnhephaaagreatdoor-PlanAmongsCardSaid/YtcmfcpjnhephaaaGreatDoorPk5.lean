/- Joined texts of the walk, made small by a program. -/
import Derived.Shelf.Strings.Builder1
import Derived.Shelf.Strings.Builder2
import Derived.Shelf.Strings.OnBuilder
import Derived.Shelf.Small.Bits
import Derived.Shelf.Small.Strs
import Derived.Shelf.Strconv.Itoa0
import Derived.Shelf.Strconv.Itoa1
import Derived.Shelf.LaysM
import Derived.Shelf.Strconv.Itoa2
import Derived.Shelf.Strconv.Itoa3
import Derived.Shelf.Strconv.Itoa4
import Derived.Shelf.Strconv.ParseIntEmpty
import Derived.Shelf.Strconv.Clone
import Derived.Shelf.Strconv.SyntaxError
import Derived.Shelf.LaysC
import Derived.Shelf.Strconv.ToError
import Derived.Shelf.Strconv.Lower
import Derived.Shelf.Strconv.ParseUint10
import Derived.Shelf.Strconv.ParseUint10Empty
import Derived.Shelf.Strconv.ParseUint10Any
import Derived.Shelf.Strconv.ParseInt10
import Derived.Shelf.Strconv.RangeError
import Derived.Shelf.Strconv.ToErrorRange
import Derived.Shelf.Strconv.ParseUintEmpty
import Derived.Shelf.Strconv.ParseUint10b64
import Derived.Shelf.Strconv.ParseUint10b32
import Derived.Shelf.Strconv.ParseUint10b16
import Derived.Shelf.Strconv.ParseUint10b8
import Derived.Shelf.Strconv.ParseUint10At
import Derived.Shelf.Strconv.ParseInt10At64
import Derived.Shelf.Strconv.ParseInt10At32
import Derived.Shelf.Strconv.ParseInt10At16
import Derived.Shelf.Strconv.ParseInt10At8
import Derived.Shelf.Strconv.ParseInt10All
import Derived.Shelf.Strconv.ParseIntPublic10
import Derived.Shelf.Strconv.ErrVarParseInt
import Derived.Shelf.Strings.Search1
import Derived.Shelf.Strings.Search2
import Derived.Shelf.Strings.Search3
import Derived.Shelf.Strings.Cut
import Derived.Shelf.Strings.Shaped
import Derived.Shelf.Sort.Plain
import Derived.Shelf.GgClosure.StringsIndexFunc
import Derived.Ground.GgwProg
import Derived.Shelf.GgClosure.StringsIndexFuncTop
import Derived.Shelf.GgClosure.StringsRunes
import Derived.Shelf.Strings.Prefix
import Derived.Ground.Names2Prog
import Derived.Shelf.Slices.Clone
import Derived.Shelf.Slices.CompactI
import Derived.Shelf.Slices.SearchI
import Derived.Shelf.Slices.Cells
import Derived.Shelf.Slices.In.SortNone
import Derived.Shelf.Slices.Empties
import Derived.Shelf.SlIterI.Nil
import Derived.Ground.GgzProg
import Derived.Shelf.Spec.SlicesGrow
import Derived.Ground.Names8Prog
import Derived.Shelf.SlMaps.Clone
import Derived.Ground.SlmcProg
import Derived.Shelf.Unicode.ValidAny
import Derived.Test.YtcmfcpjnhephaaaGreatDoorProg
import Derived.Test.YtcmfcpjnhephaaaGreatDoorPk4
import Derived.WalkKit
import Derived.ProofKit
import Derived.OpenShut
import Derived.JoinedCond
import Derived.SizedLaws
import Derived.Sort.Grow
import Derived.Deep.Draws
import Derived.Lib.LaidTab
import Derived.Lib.ItoaNum
import Derived.Lib.ParseIntB
import Derived.Stop.LaidErr
import Derived.Lib.LaidU8T
import Derived.Shelf.Vars
set_option linter.unusedSimpArgs false
set_option linter.unusedVariables false
namespace Go.Proofs
open Go.Shelf
def Tryz.lays156_ren:Go.Shelf.Ren:=⟨λ|156=>215|165=>236|166=>237|169=>238|240=>252|241=>253|276=>258|277=>259|n=>n,λ|31=>22|9=>9|3=>3|4=>4|0=>0|20=>20|72=>284|76=>285|70=>282|37=>151|75=>201|127=>290|164=>303|5=>5|80=>287|n=>n,λ|n=>n⟩
theorem Tryz.lays156:Go.Proofs.Lays.n156 Tryz.prog Tryz.lays156_ren:={
 mixed:=by kernel_rfl
 f156:=Tryz.func215.trans (congrArg some (by kernel_rfl))
 f165:=Tryz.func236.trans (congrArg some (by kernel_rfl))
 f166:=Tryz.func237.trans (congrArg some (by kernel_rfl))
 f169:=Tryz.func238.trans (congrArg some (by kernel_rfl))
 f240:=Tryz.func252.trans (congrArg some (by kernel_rfl))
 f241:=Tryz.func253.trans (congrArg some (by kernel_rfl))
 f276:=Tryz.func258.trans (congrArg some (by kernel_rfl))
 f277:=Tryz.func259.trans (congrArg some (by kernel_rfl))
 t0:=Tryz.underlying0
 a0:=Tryz.isAgg0
 z0:=Tryz.sizeOf0
 v0:=Tryz.zeroValue0
 t3:=Tryz.underlying3
 a3:=Tryz.isAgg3
 z3:=Tryz.sizeOf3
 v3:=Tryz.zeroValue3
 t4:=Tryz.underlying4
 a4:=Tryz.isAgg4
 z4:=Tryz.sizeOf4
 v4:=Tryz.zeroValue4
 t9:=Tryz.underlying9
 a9:=Tryz.isAgg9
 z9:=Tryz.sizeOf9
 v9:=Tryz.zeroValue9
 t20:=Tryz.underlying20
 a20:=Tryz.isAgg20
 z20:=Tryz.sizeOf20
 v20:=Tryz.zeroValue20
 t31:=Tryz.underlying22
 a31:=Tryz.isAgg22
 z31:=Tryz.sizeOf22
 v31:=Tryz.zeroValue22
 t37:=Tryz.underlying151
 a37:=Tryz.isAgg151
 z37:=Tryz.sizeOf151
 v37:=Tryz.zeroValue151
 t70:=Tryz.underlying282
 a70:=Tryz.isAgg282
 z70:=Tryz.sizeOf282
 v70:=Tryz.zeroValue282
 t72:=Tryz.underlying284
 a72:=Tryz.isAgg284
 z72:=Tryz.sizeOf284
 v72:=Tryz.zeroValue284
 t75:=Tryz.underlying201
 a75:=Tryz.isAgg201
 z75:=Tryz.sizeOf201
 v75:=Tryz.zeroValue201
 t76:=Tryz.underlying285
 a76:=Tryz.isAgg285
 z76:=Tryz.sizeOf285
 v76:=Tryz.zeroValue285
 t127:=Tryz.underlying290
 a127:=Tryz.isAgg290
 z127:=Tryz.sizeOf290
 v127:=Tryz.zeroValue290
 t164:=Tryz.underlying303
 a164:=Tryz.isAgg303
 z164:=Tryz.sizeOf303
 v164:=Tryz.zeroValue303}
theorem Tryz.Builder_Extra_156:Builder.Extra Tryz.prog Tryz.lays156_ren:={
 sizeBuilder:=by kernel_rfl
 liesBuilder:=by kernel_rfl
 t5:=Tryz.underlying5
 a5:=Tryz.isAgg5
 z5:=Tryz.sizeOf5
 v5:=Tryz.zeroValue5
 infoByte:=by kernel_rfl
 cellsByte:=by kernel_rfl
 sizeByte:=by kernel_rfl
 neB5:=by decide}
open Go.RowKit in
theorem Tryz.strings_Join_none(a:Option Addr)(c:Nat)(sep:ByteArray)(w:World):
 Calls Tryz.prog 215 #[.slice a 0 c,.string sep] w λe w'=>e=.returned (.string ⟨#[]⟩)/\w'=w:=Any.strings_Join_none Tryz.lays156 Tryz.Builder_Extra_156 a c sep w
open Go.RowKit in
theorem Tryz.strings_Join(bk o c:Nat)(xs:List ByteArray)(sep:ByteArray)(w:World)(hcells:∀(j:Nat) x,xs[j]?=some x->w.cell? ⟨bk,o+j,none⟩=some (.string x))(hbk:bk<w.heap.size)(hN:xs.length<=140737488355328)(hcap:xs.length<=c)(hlen:(Lib.join (xs.map (·.data.toList)) sep.data.toList).length<=140737488355328):
 Calls Tryz.prog 215 #[.slice (some ⟨bk,o,none⟩) xs.length c,.string sep] w λe w'=>e=.returned (.string ⟨(Lib.join (xs.map (·.data.toList)) sep.data.toList).toArray⟩)/\Below w.heap.size w w':=Any.strings_Join Tryz.lays156 Tryz.Builder_Extra_156 bk o c xs sep w hcells hbk hN hcap hlen
def Tryz.lays106_ren:Go.Shelf.Ren:=⟨λ|106=>126|213=>163|265=>196|n=>n,λ|9=>9|3=>3|n=>n,λ|n=>n⟩
theorem Tryz.lays106:Go.Proofs.Lays.n106 Tryz.prog Tryz.lays106_ren:={
 mixed:=by kernel_rfl
 f106:=Tryz.func126.trans (congrArg some (by kernel_rfl))
 f213:=Tryz.func163.trans (congrArg some (by kernel_rfl))
 f265:=Tryz.func196.trans (congrArg some (by kernel_rfl))
 t3:=Tryz.underlying3
 a3:=Tryz.isAgg3
 z3:=Tryz.sizeOf3
 v3:=Tryz.zeroValue3
 t9:=Tryz.underlying9
 a9:=Tryz.isAgg9
 z9:=Tryz.sizeOf9
 v9:=Tryz.zeroValue9}
open Go.RowKit in
theorem Tryz.strings_Compare(a b:ByteArray)(w:World):
 Calls Tryz.prog 126 #[.string a,.string b] w λe w'=>e=.returned (.int .i64 (Lib.compareBytes a.data.toList b.data.toList))/\w'=w:=Any.strings_Compare Tryz.lays106 a b w
def Tryz.lays137_ren:Go.Shelf.Ren:=⟨λ|137=>210|217=>192|266=>222|n=>n,λ|9=>9|5=>5|3=>3|n=>n,λ|n=>n⟩
theorem Tryz.lays137:Go.Proofs.Lays.n137 Tryz.prog Tryz.lays137_ren:={
 mixed:=by kernel_rfl
 f137:=Tryz.func210.trans (congrArg some (by kernel_rfl))
 f217:=Tryz.func192.trans (congrArg some (by kernel_rfl))
 f266:=Tryz.func222.trans (congrArg some (by kernel_rfl))
 t3:=Tryz.underlying3
 a3:=Tryz.isAgg3
 z3:=Tryz.sizeOf3
 v3:=Tryz.zeroValue3
 t5:=Tryz.underlying5
 a5:=Tryz.isAgg5
 z5:=Tryz.sizeOf5
 v5:=Tryz.zeroValue5
 t9:=Tryz.underlying9
 a9:=Tryz.isAgg9
 z9:=Tryz.sizeOf9
 v9:=Tryz.zeroValue9}
open Go.RowKit in
theorem Tryz.strings_IndexByte(s:ByteArray)(c:Int)(w:World):
 Calls Tryz.prog 210 #[.string s,.int .u8 c] w λe w'=>e=.returned (.int .i64 (Lib.indexByte s.data.toList c.toNat.toUInt8))/\w'=w:=Any.strings_IndexByte Tryz.lays137 s c w
def Tryz.laysM173_ren:Go.Shelf.Ren:=⟨λ|173=>138|246=>173|283=>203|284=>204|285=>205|286=>206|129=>188|317=>229|318=>230|319=>231|320=>232|337=>241|338=>242|n=>n,λ|2=>2|3=>3|9=>9|4=>4|171=>256|0=>0|53=>232|37=>151|5=>5|173=>258|212=>276|51=>76|20=>20|213=>277|46=>176|232=>299|233=>300|n=>n,λ|17=>6|18=>7|19=>8|n=>n⟩
theorem Tryz.laysM173:Go.Proofs.LaysM.n173 Tryz.prog Tryz.laysM173_ren:={
 mixed:=by kernel_rfl
 f129:=Tryz.func188.trans (congrArg some (by kernel_rfl))
 f173:=Tryz.func138.trans (congrArg some (by kernel_rfl))
 f246:=Tryz.func173.trans (congrArg some (by kernel_rfl))
 f283:=Tryz.func203.trans (congrArg some (by kernel_rfl))
 f284:=Tryz.func204.trans (congrArg some (by kernel_rfl))
 f285:=Tryz.func205.trans (congrArg some (by kernel_rfl))
 f286:=Tryz.func206.trans (congrArg some (by kernel_rfl))
 f317:=Tryz.func229.trans (congrArg some (by kernel_rfl))
 f318:=Tryz.func230.trans (congrArg some (by kernel_rfl))
 f319:=Tryz.func231.trans (congrArg some (by kernel_rfl))
 f320:=Tryz.func232.trans (congrArg some (by kernel_rfl))
 f337:=Tryz.func241.trans (congrArg some (by kernel_rfl))
 f338:=Tryz.func242.trans (congrArg some (by kernel_rfl))
 t0:=Tryz.underlying0
 a0:=Tryz.isAgg0
 z0:=Tryz.sizeOf0
 v0:=Tryz.zeroValue0
 t2:=Tryz.underlying2
 a2:=Tryz.isAgg2
 z2:=Tryz.sizeOf2
 v2:=Tryz.zeroValue2
 t3:=Tryz.underlying3
 a3:=Tryz.isAgg3
 z3:=Tryz.sizeOf3
 v3:=Tryz.zeroValue3
 t4:=Tryz.underlying4
 a4:=Tryz.isAgg4
 z4:=Tryz.sizeOf4
 v4:=Tryz.zeroValue4
 t5:=Tryz.underlying5
 a5:=Tryz.isAgg5
 z5:=Tryz.sizeOf5
 v5:=Tryz.zeroValue5
 t9:=Tryz.underlying9
 a9:=Tryz.isAgg9
 z9:=Tryz.sizeOf9
 v9:=Tryz.zeroValue9
 t20:=Tryz.underlying20
 a20:=Tryz.isAgg20
 z20:=Tryz.sizeOf20
 v20:=Tryz.zeroValue20
 t37:=Tryz.underlying151
 a37:=Tryz.isAgg151
 z37:=Tryz.sizeOf151
 v37:=Tryz.zeroValue151
 t46:=Tryz.underlying176
 a46:=Tryz.isAgg176
 z46:=Tryz.sizeOf176
 v46:=Tryz.zeroValue176
 t51:=Tryz.underlying76
 a51:=Tryz.isAgg76
 z51:=Tryz.sizeOf76
 v51:=Tryz.zeroValue76
 t53:=Tryz.underlying232
 a53:=Tryz.isAgg232
 z53:=Tryz.sizeOf232
 v53:=Tryz.zeroValue232
 t171:=Tryz.underlying256
 a171:=Tryz.isAgg256
 z171:=Tryz.sizeOf256
 v171:=Tryz.zeroValue256
 t173:=Tryz.underlying258
 a173:=Tryz.isAgg258
 z173:=Tryz.sizeOf258
 v173:=Tryz.zeroValue258
 t212:=Tryz.underlying276
 a212:=Tryz.isAgg276
 z212:=Tryz.sizeOf276
 v212:=Tryz.zeroValue276
 t213:=Tryz.underlying277
 a213:=Tryz.isAgg277
 z213:=Tryz.sizeOf277
 t232:=Tryz.underlying299
 a232:=Tryz.isAgg299
 z232:=Tryz.sizeOf299
 v232:=Tryz.zeroValue299
 t233:=Tryz.underlying300
 a233:=Tryz.isAgg300
 z233:=Tryz.sizeOf300
 v233:=Tryz.zeroValue300
 g17:=by kernel_rfl
 g18:=by kernel_rfl
 g19:=by kernel_rfl
 i0:=by kernel_rfl
 i2:=by kernel_rfl
 i3:=by kernel_rfl
 i4:=by kernel_rfl
 i5:=by kernel_rfl
 i9:=by kernel_rfl
 i20:=by kernel_rfl
 i37:=by kernel_rfl
 i46:=by kernel_rfl
 i51:=by kernel_rfl
 i53:=by kernel_rfl
 i171:=by kernel_rfl
 i173:=by kernel_rfl
 i212:=by kernel_rfl
 i232:=by kernel_rfl
 i233:=by kernel_rfl
 m17:=by kernel_rfl
 m18:=by kernel_rfl
 m19:=by kernel_rfl}
open Go.RowKit Go.Sort Go.Lib in
theorem Tryz.strconv_FormatInt_10(n:Int)(h0 : -9223372036854775808<=n)(h1:n<=9223372036854775807)(w:World)(htab:Lib.TabIs Tryz.prog w "internal/strconv.uint64pow10" .u64 Lib.pow10Tab):
 Calls Tryz.prog 138 #[.int .i64 n,.int .i64 10] w λe w'=>e=.returned (.string ⟨(Lib.itoa n).toArray⟩)/\∃k os,w'=grow (w.drewN k) os:=Any.strconv_FormatInt_10 Tryz.laysM173 n h0 h1 w htab
def Tryz.laysC174_ren:Go.Shelf.Ren:=⟨λ|174=>137|247=>171|245=>172|287=>198|279=>199|280=>200|281=>201|282=>202|321=>224|322=>225|316=>226|171=>228|205=>227|243=>240|246=>173|283=>203|284=>204|285=>205|286=>206|129=>188|317=>229|318=>230|319=>231|320=>232|337=>241|338=>242|n=>n,λ|9=>9|3=>3|2=>2|75=>201|85=>202|4=>4|167=>249|5=>5|53=>232|175=>250|46=>176|168=>252|37=>151|0=>0|210=>274|21=>21|127=>290|145=>293|143=>291|171=>256|173=>258|212=>276|51=>76|20=>20|213=>277|232=>299|233=>300|80=>287|n=>n,λ|15=>4|16=>5|17=>6|18=>7|19=>8|n=>n⟩
theorem Tryz.laysC174:Go.Proofs.LaysC.n174 Tryz.prog Tryz.laysC174_ren:={
 mixed:=by kernel_rfl
 f129:=Tryz.func188.trans (congrArg some (by kernel_rfl))
 f171:=Tryz.func228.trans (congrArg some (by kernel_rfl))
 f174:=Tryz.func137.trans (congrArg some (by kernel_rfl))
 f205:=Tryz.func227.trans (congrArg some (by kernel_rfl))
 f243:=Tryz.func240.trans (congrArg some (by kernel_rfl))
 f245:=Tryz.func172.trans (congrArg some (by kernel_rfl))
 f246:=Tryz.func173.trans (congrArg some (by kernel_rfl))
 f247:=Tryz.func171.trans (congrArg some (by kernel_rfl))
 f279:=Tryz.func199.trans (congrArg some (by kernel_rfl))
 f280:=Tryz.func200.trans (congrArg some (by kernel_rfl))
 f281:=Tryz.func201.trans (congrArg some (by kernel_rfl))
 f282:=Tryz.func202.trans (congrArg some (by kernel_rfl))
 f283:=Tryz.func203.trans (congrArg some (by kernel_rfl))
 f284:=Tryz.func204.trans (congrArg some (by kernel_rfl))
 f285:=Tryz.func205.trans (congrArg some (by kernel_rfl))
 f286:=Tryz.func206.trans (congrArg some (by kernel_rfl))
 f287:=Tryz.func198.trans (congrArg some (by kernel_rfl))
 f316:=Tryz.func226.trans (congrArg some (by kernel_rfl))
 f317:=Tryz.func229.trans (congrArg some (by kernel_rfl))
 f318:=Tryz.func230.trans (congrArg some (by kernel_rfl))
 f319:=Tryz.func231.trans (congrArg some (by kernel_rfl))
 f320:=Tryz.func232.trans (congrArg some (by kernel_rfl))
 f321:=Tryz.func224.trans (congrArg some (by kernel_rfl))
 f322:=Tryz.func225.trans (congrArg some (by kernel_rfl))
 f337:=Tryz.func241.trans (congrArg some (by kernel_rfl))
 f338:=Tryz.func242.trans (congrArg some (by kernel_rfl))
 t0:=Tryz.underlying0
 a0:=Tryz.isAgg0
 z0:=Tryz.sizeOf0
 v0:=Tryz.zeroValue0
 t2:=Tryz.underlying2
 a2:=Tryz.isAgg2
 z2:=Tryz.sizeOf2
 v2:=Tryz.zeroValue2
 t3:=Tryz.underlying3
 a3:=Tryz.isAgg3
 z3:=Tryz.sizeOf3
 v3:=Tryz.zeroValue3
 t4:=Tryz.underlying4
 a4:=Tryz.isAgg4
 z4:=Tryz.sizeOf4
 v4:=Tryz.zeroValue4
 t5:=Tryz.underlying5
 a5:=Tryz.isAgg5
 z5:=Tryz.sizeOf5
 v5:=Tryz.zeroValue5
 t9:=Tryz.underlying9
 a9:=Tryz.isAgg9
 z9:=Tryz.sizeOf9
 v9:=Tryz.zeroValue9
 t20:=Tryz.underlying20
 a20:=Tryz.isAgg20
 z20:=Tryz.sizeOf20
 v20:=Tryz.zeroValue20
 t21:=Tryz.underlying21
 a21:=Tryz.isAgg21
 z21:=Tryz.sizeOf21
 v21:=Tryz.zeroValue21
 t37:=Tryz.underlying151
 a37:=Tryz.isAgg151
 z37:=Tryz.sizeOf151
 v37:=Tryz.zeroValue151
 t46:=Tryz.underlying176
 a46:=Tryz.isAgg176
 z46:=Tryz.sizeOf176
 v46:=Tryz.zeroValue176
 t51:=Tryz.underlying76
 a51:=Tryz.isAgg76
 z51:=Tryz.sizeOf76
 v51:=Tryz.zeroValue76
 t53:=Tryz.underlying232
 a53:=Tryz.isAgg232
 z53:=Tryz.sizeOf232
 v53:=Tryz.zeroValue232
 t75:=Tryz.underlying201
 a75:=Tryz.isAgg201
 z75:=Tryz.sizeOf201
 v75:=Tryz.zeroValue201
 t85:=Tryz.underlying202
 a85:=Tryz.isAgg202
 z85:=Tryz.sizeOf202
 v85:=Tryz.zeroValue202
 t127:=Tryz.underlying290
 a127:=Tryz.isAgg290
 z127:=Tryz.sizeOf290
 v127:=Tryz.zeroValue290
 t143:=Tryz.underlying291
 a143:=Tryz.isAgg291
 z143:=Tryz.sizeOf291
 v143:=Tryz.zeroValue291
 t145:=Tryz.underlying293
 a145:=Tryz.isAgg293
 z145:=Tryz.sizeOf293
 v145:=Tryz.zeroValue293
 t167:=Tryz.underlying249
 a167:=Tryz.isAgg249
 z167:=Tryz.sizeOf249
 v167:=Tryz.zeroValue249
 t168:=Tryz.underlying252
 a168:=Tryz.isAgg252
 z168:=Tryz.sizeOf252
 v168:=Tryz.zeroValue252
 t171:=Tryz.underlying256
 a171:=Tryz.isAgg256
 z171:=Tryz.sizeOf256
 v171:=Tryz.zeroValue256
 t173:=Tryz.underlying258
 a173:=Tryz.isAgg258
 z173:=Tryz.sizeOf258
 v173:=Tryz.zeroValue258
 t175:=Tryz.underlying250
 a175:=Tryz.isAgg250
 z175:=Tryz.sizeOf250
 v175:=Tryz.zeroValue250
 t210:=Tryz.underlying274
 a210:=Tryz.isAgg274
 z210:=Tryz.sizeOf274
 v210:=Tryz.zeroValue274
 t212:=Tryz.underlying276
 a212:=Tryz.isAgg276
 z212:=Tryz.sizeOf276
 v212:=Tryz.zeroValue276
 t213:=Tryz.underlying277
 a213:=Tryz.isAgg277
 z213:=Tryz.sizeOf277
 t232:=Tryz.underlying299
 a232:=Tryz.isAgg299
 z232:=Tryz.sizeOf299
 v232:=Tryz.zeroValue299
 t233:=Tryz.underlying300
 a233:=Tryz.isAgg300
 z233:=Tryz.sizeOf300
 v233:=Tryz.zeroValue300
 g15:=by kernel_rfl
 g16:=by kernel_rfl
 g17:=by kernel_rfl
 g18:=by kernel_rfl
 g19:=by kernel_rfl
 t80:=Tryz.underlying287
 a80:=Tryz.isAgg287
 z80:=Tryz.sizeOf287
 v80:=Tryz.zeroValue287
 i0:=by kernel_rfl
 i2:=by kernel_rfl
 i3:=by kernel_rfl
 i4:=by kernel_rfl
 i5:=by kernel_rfl
 i9:=by kernel_rfl
 i20:=by kernel_rfl
 i21:=by kernel_rfl
 i37:=by kernel_rfl
 i46:=by kernel_rfl
 i51:=by kernel_rfl
 i53:=by kernel_rfl
 i75:=by kernel_rfl
 i80:=by kernel_rfl
 i85:=by kernel_rfl
 i127:=by kernel_rfl
 i143:=by kernel_rfl
 i145:=by kernel_rfl
 i167:=by kernel_rfl
 i168:=by kernel_rfl
 i171:=by kernel_rfl
 i173:=by kernel_rfl
 i175:=by kernel_rfl
 i210:=by kernel_rfl
 i212:=by kernel_rfl
 i232:=by kernel_rfl
 i233:=by kernel_rfl
 m15:=by kernel_rfl
 m16:=by kernel_rfl
 m17:=by kernel_rfl
 m18:=by kernel_rfl
 m19:=by kernel_rfl
 c0:=by kernel_rfl
 c2:=by kernel_rfl
 c3:=by kernel_rfl
 c4:=by kernel_rfl
 c5:=by kernel_rfl
 c9:=by kernel_rfl
 c20:=by kernel_rfl
 c21:=by kernel_rfl
 c37:=by kernel_rfl
 c46:=by kernel_rfl
 c51:=by kernel_rfl
 c53:=by kernel_rfl
 c75:=by kernel_rfl
 c80:=by kernel_rfl
 c85:=by kernel_rfl
 c127:=by kernel_rfl
 c143:=by kernel_rfl
 c145:=by kernel_rfl
 c167:=by kernel_rfl
 c168:=by kernel_rfl
 c171:=by kernel_rfl
 c173:=by kernel_rfl
 c175:=by kernel_rfl
 c210:=by kernel_rfl
 c212:=by kernel_rfl
 c213:=by kernel_rfl
 c232:=by kernel_rfl
 c233:=by kernel_rfl}
open Go.RowKit in
theorem Tryz.strconv_ParseInt_10_at64_ok(s:ByteArray)(hmax:s.size<=9223372036854775806)(v:Int)(h:Lib.parseIntB 64 s.data.toList=.ok v)(w:World):
 Calls Tryz.prog 137 #[.string s,.int .i64 10,.int .i64 64] w λe w'=>e=.returned (.tuple #[.int .i64 v,.nilIface])/\(w'=w\/∃t,w'=Lib.bytesWorld w 5 t):=Any.strconv_ParseInt_10_at64_ok Tryz.laysC174 s hmax v h w
open Go.RowKit in
theorem Tryz.strconv_ParseInt_10_at64_syntax(s:ByteArray)(hlim:s.size<=281474976710656)(h:Lib.parseIntB 64 s.data.toList=.syntax)(ev:Value)(w:World)(hv:w.cell? ⟨4,0,none⟩=some ev)(hev:ev=.nilIface\/∃te pe,ev=.iface te pe):
 Calls Tryz.prog 137 #[.string s,.int .i64 10,.int .i64 64] w λe w'=>∃N,e=.returned (.tuple #[.int .i64 (0),.iface 252 (.pointer (some ⟨N,0,none⟩))])/\w.heap.size<=N/\w'.heap[N]?=some (.cells #[.string ⟨#[80,97,114,115,101,73,110,116]⟩,.string s,ev] 274 (0,0))/\Below w.heap.size w w':=Any.strconv_ParseInt_10_at64_syntax Tryz.laysC174 s hlim h ev w hv hev
open Go.RowKit in
theorem Tryz.strconv_ParseInt_10_at64_range(s:ByteArray)(hlim:s.size<=281474976710656)(h:Lib.parseIntB 64 s.data.toList=.range)(ev:Value)(w:World)(hv:w.cell? ⟨5,0,none⟩=some ev)(hev:ev=.nilIface\/∃te pe,ev=.iface te pe):
 Calls Tryz.prog 137 #[.string s,.int .i64 10,.int .i64 64] w λe w'=>∃N,e=.returned (.tuple #[.int .i64 (Lib.intSat 64 s.data.toList),.iface 252 (.pointer (some ⟨N,0,none⟩))])/\w.heap.size<=N/\w'.heap[N]?=some (.cells #[.string ⟨#[80,97,114,115,101,73,110,116]⟩,.string s,ev] 274 (0,0))/\Below w.heap.size w w':=Any.strconv_ParseInt_10_at64_range Tryz.laysC174 s hlim h ev w hv hev
def Tryz.lays219_ren:Go.Shelf.Ren:=⟨λ|219=>159|217=>192|225=>193|224=>194|267=>195|266=>222|314=>223|n=>n,λ|9=>9|3=>3|4=>4|5=>5|46=>176|146=>271|51=>76|n=>n,λ|1=>3|n=>n⟩
theorem Tryz.lays219:Go.Proofs.Lays.n219 Tryz.prog Tryz.lays219_ren:={
 mixed:=by kernel_rfl
 f217:=Tryz.func192.trans (congrArg some (by kernel_rfl))
 f219:=Tryz.func159.trans (congrArg some (by kernel_rfl))
 f224:=Tryz.func194.trans (congrArg some (by kernel_rfl))
 f225:=Tryz.func193.trans (congrArg some (by kernel_rfl))
 f266:=Tryz.func222.trans (congrArg some (by kernel_rfl))
 f267:=Tryz.func195.trans (congrArg some (by kernel_rfl))
 f314:=Tryz.func223.trans (congrArg some (by kernel_rfl))
 t3:=Tryz.underlying3
 a3:=Tryz.isAgg3
 z3:=Tryz.sizeOf3
 v3:=Tryz.zeroValue3
 t4:=Tryz.underlying4
 a4:=Tryz.isAgg4
 z4:=Tryz.sizeOf4
 v4:=Tryz.zeroValue4
 t5:=Tryz.underlying5
 a5:=Tryz.isAgg5
 z5:=Tryz.sizeOf5
 v5:=Tryz.zeroValue5
 t9:=Tryz.underlying9
 a9:=Tryz.isAgg9
 z9:=Tryz.sizeOf9
 v9:=Tryz.zeroValue9
 t46:=Tryz.underlying176
 a46:=Tryz.isAgg176
 z46:=Tryz.sizeOf176
 v46:=Tryz.zeroValue176
 t51:=Tryz.underlying76
 a51:=Tryz.isAgg76
 z51:=Tryz.sizeOf76
 v51:=Tryz.zeroValue76
 t146:=Tryz.underlying271
 a146:=Tryz.isAgg271
 z146:=Tryz.sizeOf271
 v146:=Tryz.zeroValue271
 g1:=by kernel_rfl}
open Go.RowKit Go.Lib in
theorem Tryz.stringslite_Index_one(s:ByteArray)(c:UInt8)(w:World):
 Calls Tryz.prog 159 #[.string s,.string ⟨#[c]⟩] w λe w'=>e=.returned (.int .i64 (Lib.indexByte s.data.toList c))/\w'=w:=Any.stringslite_Index_one Tryz.lays219 s c w
def Tryz.lays189_ren:Go.Shelf.Ren:=⟨λ|189=>105|125=>149|257=>148|128=>187|129=>188|294=>179|295=>180|296=>181|297=>182|298=>183|299=>184|216=>117|300=>185|301=>186|328=>216|329=>217|330=>218|331=>219|332=>220|215=>154|343=>239|n=>n,λ|28=>43|3=>3|46=>176|0=>0|51=>76|53=>232|4=>4|183=>240|182=>239|131=>133|5=>5|9=>9|218=>265|222=>125|228=>288|229=>156|n=>n,λ|n=>n⟩
theorem Tryz.lays189:Go.Proofs.Lays.n189 Tryz.prog Tryz.lays189_ren:={
 mixed:=by kernel_rfl
 f125:=Tryz.func149.trans (congrArg some (by kernel_rfl))
 f128:=Tryz.func187.trans (congrArg some (by kernel_rfl))
 f129:=Tryz.func188.trans (congrArg some (by kernel_rfl))
 f189:=Tryz.func105.trans (congrArg some (by kernel_rfl))
 f215:=Tryz.func154.trans (congrArg some (by kernel_rfl))
 f216:=Tryz.func117.trans (congrArg some (by kernel_rfl))
 f257:=Tryz.func148.trans (congrArg some (by kernel_rfl))
 f294:=Tryz.func179.trans (congrArg some (by kernel_rfl))
 f295:=Tryz.func180.trans (congrArg some (by kernel_rfl))
 f296:=Tryz.func181.trans (congrArg some (by kernel_rfl))
 f297:=Tryz.func182.trans (congrArg some (by kernel_rfl))
 f298:=Tryz.func183.trans (congrArg some (by kernel_rfl))
 f299:=Tryz.func184.trans (congrArg some (by kernel_rfl))
 f300:=Tryz.func185.trans (congrArg some (by kernel_rfl))
 f301:=Tryz.func186.trans (congrArg some (by kernel_rfl))
 f328:=Tryz.func216.trans (congrArg some (by kernel_rfl))
 f329:=Tryz.func217.trans (congrArg some (by kernel_rfl))
 f330:=Tryz.func218.trans (congrArg some (by kernel_rfl))
 f331:=Tryz.func219.trans (congrArg some (by kernel_rfl))
 f332:=Tryz.func220.trans (congrArg some (by kernel_rfl))
 f343:=Tryz.func239.trans (congrArg some (by kernel_rfl))
 t0:=Tryz.underlying0
 a0:=Tryz.isAgg0
 z0:=Tryz.sizeOf0
 v0:=Tryz.zeroValue0
 t3:=Tryz.underlying3
 a3:=Tryz.isAgg3
 z3:=Tryz.sizeOf3
 v3:=Tryz.zeroValue3
 t4:=Tryz.underlying4
 a4:=Tryz.isAgg4
 z4:=Tryz.sizeOf4
 v4:=Tryz.zeroValue4
 t5:=Tryz.underlying5
 a5:=Tryz.isAgg5
 z5:=Tryz.sizeOf5
 v5:=Tryz.zeroValue5
 t9:=Tryz.underlying9
 a9:=Tryz.isAgg9
 z9:=Tryz.sizeOf9
 v9:=Tryz.zeroValue9
 t28:=Tryz.underlying43
 a28:=Tryz.isAgg43
 z28:=Tryz.sizeOf43
 v28:=Tryz.zeroValue43
 t46:=Tryz.underlying176
 a46:=Tryz.isAgg176
 z46:=Tryz.sizeOf176
 v46:=Tryz.zeroValue176
 t51:=Tryz.underlying76
 a51:=Tryz.isAgg76
 z51:=Tryz.sizeOf76
 v51:=Tryz.zeroValue76
 t53:=Tryz.underlying232
 a53:=Tryz.isAgg232
 z53:=Tryz.sizeOf232
 v53:=Tryz.zeroValue232
 t131:=Tryz.underlying133
 a131:=Tryz.isAgg133
 z131:=Tryz.sizeOf133
 v131:=Tryz.zeroValue133
 t182:=Tryz.underlying239
 a182:=Tryz.isAgg239
 z182:=Tryz.sizeOf239
 v182:=Tryz.zeroValue239
 t183:=Tryz.underlying240
 a183:=Tryz.isAgg240
 z183:=Tryz.sizeOf240
 v183:=Tryz.zeroValue240
 t218:=Tryz.underlying265
 a218:=Tryz.isAgg265
 z218:=Tryz.sizeOf265
 v218:=Tryz.zeroValue265
 t222:=Tryz.underlying125
 a222:=Tryz.isAgg125
 z222:=Tryz.sizeOf125
 v222:=Tryz.zeroValue125
 t228:=Tryz.underlying288
 a228:=Tryz.isAgg288
 z228:=Tryz.sizeOf288
 v228:=Tryz.zeroValue288
 t229:=Tryz.underlying156
 a229:=Tryz.isAgg156
 z229:=Tryz.sizeOf156
 v229:=Tryz.zeroValue156}
open Go.Sort Go.RowKit in
theorem Tryz.slices_Sort_int(blk off cap:Nat)(zs:List Int)(w:World)(hH:Holds (Value.int .i64) w blk off zs.toArray)(hblk:blk<w.heap.size)(hsz:zs.length<4611686018427387904):
 Calls Tryz.prog 105 #[.slice (some ⟨blk,off,none⟩) zs.length cap] w λe w' =>
  e=.returned (.tuple #[])/\∃n os,w'=grow (putRow (Value.int .i64) (Sort.ahead w n) blk off (zs.mergeSort λx y=>decide (x<=y)).toArray) os:=Any.slices_Sort_int Tryz.lays189 blk off cap zs w hH hblk hsz
def Tryz.laysNm220_ren:Go.Shelf.Ren:=⟨λ|20=>115|n=>n,λ|22=>43|3=>3|4=>4|0=>0|n=>n,λ|n=>n⟩
theorem Tryz.laysNm220:Go.Proofs.Lays2.n20 Tryz.prog Tryz.laysNm220_ren:={
 mixed:=by kernel_rfl
 f20:=Tryz.func115.trans (congrArg some (by kernel_rfl))
 t0:=Tryz.underlying0
 a0:=Tryz.isAgg0
 z0:=Tryz.sizeOf0
 v0:=Tryz.zeroValue0
 t3:=Tryz.underlying3
 a3:=Tryz.isAgg3
 z3:=Tryz.sizeOf3
 v3:=Tryz.zeroValue3
 t4:=Tryz.underlying4
 a4:=Tryz.isAgg4
 z4:=Tryz.sizeOf4
 v4:=Tryz.zeroValue4
 t22:=Tryz.underlying43
 a22:=Tryz.isAgg43
 z22:=Tryz.sizeOf43
 v22:=Tryz.zeroValue43
 i3:=by kernel_rfl}
open Go.RowKit Go.Lib Go.Sort in
theorem Tryz.slices_Compact_int(blk off cap:Nat)(zs:List Int)(w:World)(hH:Holds (Value.int .i64) w blk off zs.toArray)(hsz:zs.length<=9223372036854775807)(hcap:zs.length<=cap):
 Calls Tryz.prog 115 #[.slice (some ⟨blk,off,none⟩) zs.length cap] w λe w'=>e=.returned (.slice (some ⟨blk,off,none⟩) (Lib.compact zs).length cap)/\∃q,w'=putRow (Value.int .i64) (Sort.ahead w q) blk off (Lib.compact zs++List.replicate (zs.length-(Lib.compact zs).length) 0).toArray:=Any.slices_Compact_int Tryz.laysNm220 blk off cap zs w hH hsz hcap
open Go.RowKit Go.Lib Go.Sort in
theorem Tryz.slices_Compact_int_empty(a:Option Addr)(cap:Nat)(w:World):
 Calls Tryz.prog 115 #[.slice a 0 cap] w λe w'=>e=.returned (.slice a 0 cap)/\w'=w:=Any.slices_Compact_int_empty Tryz.laysNm220 a cap w
def Tryz.laysNm225_ren:Go.Shelf.Ren:=⟨λ|25=>69|31=>117|32=>118|37=>154|n=>n,λ|22=>43|3=>3|4=>4|40=>176|0=>0|n=>n,λ|n=>n⟩
theorem Tryz.laysNm225:Go.Proofs.Lays2.n25 Tryz.prog Tryz.laysNm225_ren:={
 mixed:=by kernel_rfl
 f25:=Tryz.func69.trans (congrArg some (by kernel_rfl))
 f31:=Tryz.func117.trans (congrArg some (by kernel_rfl))
 f32:=Tryz.func118.trans (congrArg some (by kernel_rfl))
 f37:=Tryz.func154.trans (congrArg some (by kernel_rfl))
 t0:=Tryz.underlying0
 a0:=Tryz.isAgg0
 z0:=Tryz.sizeOf0
 v0:=Tryz.zeroValue0
 t3:=Tryz.underlying3
 a3:=Tryz.isAgg3
 z3:=Tryz.sizeOf3
 v3:=Tryz.zeroValue3
 t4:=Tryz.underlying4
 a4:=Tryz.isAgg4
 z4:=Tryz.sizeOf4
 v4:=Tryz.zeroValue4
 t22:=Tryz.underlying43
 a22:=Tryz.isAgg43
 z22:=Tryz.sizeOf43
 v22:=Tryz.zeroValue43
 t40:=Tryz.underlying176
 a40:=Tryz.isAgg176
 z40:=Tryz.sizeOf176
 v40:=Tryz.zeroValue176}
open Go.RowKit Go.Lib in
theorem Tryz.slices_BinarySearch_int(b off n c:Nat)(zs:List Int)(x:Int)(w:World)(hz:n<=zs.length)(hbig:n<4611686018427387904)(hc:∀j,j<zs.length->w.cell? ⟨b,off+j,none⟩=some (.int .i64 (zs.getD j 0)))(hs:(zs.take n).Pairwise (·<=·)):
 Calls Tryz.prog 69 #[.slice (some ⟨b,off,none⟩) n c,.int .i64 x] w λe w'=>e=.returned (.tuple #[.int .i64 ((zs.take n).countP (·<x):Nat),.bool ((zs.take n).contains x)])/\∃q,w'=w.drewN q:=Any.slices_BinarySearch_int Tryz.laysNm225 b off n c zs x w hz hbig hc hs
open Go.RowKit Go.Sort in
theorem Tryz.slices_Sort_int_none(p:Option Addr)(cap:Nat)(w:World):
 Calls Tryz.prog 105 #[.slice p 0 cap] w λe w'=>e=.returned (.tuple #[])/\w'=w:=Any.slices_Sort_int_none Tryz.lays189 p cap w
open Go.RowKit Go.Lib in
theorem Tryz.slices_BinarySearch_int_empty(a:Option Addr)(c:Nat)(x:Int)(w:World):
 Calls Tryz.prog 69 #[.slice a 0 c,.int .i64 x] w λe w'=>e=.returned (.tuple #[.int .i64 0,.bool false])/\w'=w:=Any.slices_BinarySearch_int_empty Tryz.laysNm225 a c x w
def Tryz.keysA_ren:Go.Shelf.Ren:=⟨λ|7=>88|10=>129|n=>n,λ|23=>101|26=>3|3=>4|28=>122|0=>0|27=>121|33=>135|4=>4|n=>n,λ|n=>n⟩
theorem Tryz.keysA:Go.Proofs.SlLaysZI.n7 Tryz.prog Tryz.keysA_ren:={
 mixed:=by kernel_rfl
 f7:=⟨Tryz.f88.name,by decide,Tryz.func88.trans (congrArg some (by kernel_rfl))⟩
 f10:=⟨Tryz.f129.name,by decide,Tryz.func129.trans (congrArg some (by kernel_rfl))⟩
 t0:=Tryz.underlying0
 a0:=Tryz.isAgg0
 z0:=Tryz.sizeOf0
 v0:=Tryz.zeroValue0
 t4:=Tryz.underlying4
 a4:=Tryz.isAgg4
 z4:=Tryz.sizeOf4
 v4:=Tryz.zeroValue4
 t23:=Tryz.underlying101
 a23:=Tryz.isAgg101
 z23:=Tryz.sizeOf101
 v23:=Tryz.zeroValue101
 t26:=Tryz.underlying3
 a26:=Tryz.isAgg3
 z26:=Tryz.sizeOf3
 v26:=Tryz.zeroValue3
 t27:=Tryz.underlying121
 a27:=Tryz.isAgg121
 z27:=Tryz.sizeOf121
 v27:=Tryz.zeroValue121
 t28:=Tryz.underlying122
 a28:=Tryz.isAgg122
 z28:=Tryz.sizeOf122
 v28:=Tryz.zeroValue122
 t33:=Tryz.underlying135
 a33:=Tryz.isAgg135
 z33:=Tryz.sizeOf135
 v33:=Tryz.zeroValue135}
def Tryz.sortedA_ren:Go.Shelf.Ren:=⟨λ|6=>55|8=>104|9=>105|11=>147|13=>149|12=>148|23=>187|24=>188|14=>179|15=>180|16=>181|17=>182|18=>183|19=>184|20=>117|21=>185|22=>186|25=>216|26=>217|27=>218|28=>219|29=>220|30=>154|31=>239|n=>n,λ|26=>3|28=>122|24=>43|0=>0|3=>3|37=>176|48=>76|50=>232|4=>4|40=>240|39=>239|45=>133|5=>5|9=>9|51=>265|55=>125|57=>288|58=>156|33=>135|n=>n,λ|n=>n⟩
theorem Tryz.sortedA:Go.Proofs.SlLaysZI.n6 Tryz.prog Tryz.sortedA_ren:={
 mixed:=by kernel_rfl
 f6:=⟨Tryz.f55.name,by decide,Tryz.func55.trans (congrArg some (by kernel_rfl))⟩
 f8:=⟨Tryz.f104.name,by decide,Tryz.func104.trans (congrArg some (by kernel_rfl))⟩
 f11:=⟨Tryz.f147.name,by decide,Tryz.func147.trans (congrArg some (by kernel_rfl))⟩
 t0:=Tryz.underlying0
 a0:=Tryz.isAgg0
 z0:=Tryz.sizeOf0
 v0:=Tryz.zeroValue0
 t24:=Tryz.underlying43
 a24:=Tryz.isAgg43
 z24:=Tryz.sizeOf43
 v24:=Tryz.zeroValue43
 t26:=Tryz.underlying3
 a26:=Tryz.isAgg3
 z26:=Tryz.sizeOf3
 v26:=Tryz.zeroValue3
 t28:=Tryz.underlying122
 a28:=Tryz.isAgg122
 z28:=Tryz.sizeOf122
 v28:=Tryz.zeroValue122
 i26:=by kernel_rfl}
def Tryz.growI_ren:Go.Shelf.Ren:=⟨λ|4=>190|n=>n,λ|22=>43|25=>3|3=>3|4=>4|9=>9|20=>20|0=>0|n=>n,λ|n=>n⟩
theorem Tryz.growI:Go.Proofs.Lays8.n4 Tryz.prog Tryz.growI_ren:={
 mixed:=by kernel_rfl
 f4:=⟨Tryz.f190.name,by decide,Tryz.func190.trans (congrArg some (by kernel_rfl))⟩
 t0:=Tryz.underlying0
 a0:=Tryz.isAgg0
 z0:=Tryz.sizeOf0
 v0:=Tryz.zeroValue0
 t3:=Tryz.underlying3
 a3:=Tryz.isAgg3
 z3:=Tryz.sizeOf3
 v3:=Tryz.zeroValue3
 t4:=Tryz.underlying4
 a4:=Tryz.isAgg4
 z4:=Tryz.sizeOf4
 v4:=Tryz.zeroValue4
 t9:=Tryz.underlying9
 a9:=Tryz.isAgg9
 z9:=Tryz.sizeOf9
 v9:=Tryz.zeroValue9
 t20:=Tryz.underlying20
 a20:=Tryz.isAgg20
 z20:=Tryz.sizeOf20
 v20:=Tryz.zeroValue20
 t22:=Tryz.underlying43
 a22:=Tryz.isAgg43
 z22:=Tryz.sizeOf43
 v22:=Tryz.zeroValue43}
def Tryz.cloneM_ren:Go.Shelf.Ren:=⟨λ|5=>40|7=>87|n=>n,λ|23=>101|25=>3|3=>4|4=>4|20=>20|n=>n,λ|n=>n⟩
theorem Tryz.cloneM:Go.Proofs.SlLaysW.n5 Tryz.prog Tryz.cloneM_ren:={
 mixed:=by kernel_rfl
 f5:=⟨Tryz.f40.name,by decide,Tryz.func40.trans (congrArg some (by kernel_rfl))⟩
 f7:=Tryz.func87.trans (congrArg some (by kernel_rfl))
 t4:=Tryz.underlying4
 a4:=Tryz.isAgg4
 z4:=Tryz.sizeOf4
 v4:=Tryz.zeroValue4
 t20:=Tryz.underlying20
 a20:=Tryz.isAgg20
 z20:=Tryz.sizeOf20
 v20:=Tryz.zeroValue20
 t23:=Tryz.underlying101
 a23:=Tryz.isAgg101
 z23:=Tryz.sizeOf101
 v23:=Tryz.zeroValue101}
def Tryz.lays196_ren:Go.Shelf.Ren:=⟨λ|196=>96|259=>135|n=>n,λ|9=>9|4=>4|3=>3|5=>5|12=>12|119=>195|0=>0|46=>176|139=>198|138=>197|53=>232|n=>n,λ|3=>0|4=>1|n=>n⟩
theorem Tryz.lays196:Go.Proofs.Lays.n196 Tryz.prog Tryz.lays196_ren:={
 mixed:=by kernel_rfl
 f196:=Tryz.func96.trans (congrArg some (by kernel_rfl))
 f259:=Tryz.func135.trans (congrArg some (by kernel_rfl))
 t0:=Tryz.underlying0
 a0:=Tryz.isAgg0
 z0:=Tryz.sizeOf0
 v0:=Tryz.zeroValue0
 t3:=Tryz.underlying3
 a3:=Tryz.isAgg3
 z3:=Tryz.sizeOf3
 v3:=Tryz.zeroValue3
 t4:=Tryz.underlying4
 a4:=Tryz.isAgg4
 z4:=Tryz.sizeOf4
 v4:=Tryz.zeroValue4
 t5:=Tryz.underlying5
 a5:=Tryz.isAgg5
 z5:=Tryz.sizeOf5
 v5:=Tryz.zeroValue5
 t9:=Tryz.underlying9
 a9:=Tryz.isAgg9
 z9:=Tryz.sizeOf9
 v9:=Tryz.zeroValue9
 t12:=Tryz.underlying12
 a12:=Tryz.isAgg12
 z12:=Tryz.sizeOf12
 v12:=Tryz.zeroValue12
 t46:=Tryz.underlying176
 a46:=Tryz.isAgg176
 z46:=Tryz.sizeOf176
 v46:=Tryz.zeroValue176
 t53:=Tryz.underlying232
 a53:=Tryz.isAgg232
 z53:=Tryz.sizeOf232
 v53:=Tryz.zeroValue232
 t119:=Tryz.underlying195
 a119:=Tryz.isAgg195
 z119:=Tryz.sizeOf195
 t138:=Tryz.underlying197
 a138:=Tryz.isAgg197
 z138:=Tryz.sizeOf197
 v138:=Tryz.zeroValue197
 t139:=Tryz.underlying198
 a139:=Tryz.isAgg198
 z139:=Tryz.sizeOf198
 v139:=Tryz.zeroValue198
 g3:=by kernel_rfl
 g4:=by kernel_rfl}
end Go.Proofs
namespace Go.Proofs.YtcmfcpjnhephaaaGreatDoor.Av
open Go Go.ChangeShapes Go.WideShapes Go.ChangeAt Go.RowKit
variable {P:Program}{t e:TypeId}{X Y H:Type}{k:IntKind}{w W w0:World}{n N g i:Nat}{v:Value}{f:FuncId}{A B:Prop}{args c l:List AV}{L:List Blk}{S0:SB}{E:Env}{name:String}
def oa(w:World):Env:={mem:=λb o=>w.cell? ⟨b,o,none⟩,loc:=λ_=>none,tok:=λ_=>none}
theorem Rel.start(w:World)(hg:sd (oa w).mem/\th w):Rel w ⟨λ_=>False,0⟩ (oa w) [] w where
 mem _ _ _ h:=h
 blk _ _ h:=by simp at h
 fresh _ _:=rfl
 own _ _ _ h:=by simp at h
 inj _ _ _ _ _ _ h:=by simp at h
 tkfresh _ _:=rfl
 tkown _ _ _ _ _ h:=by simp at h
 tkloc _ _ _ _ _ _ _ _ h:=by simp at h
 tkinj _ _ _ _ _ _ _ _ _ _ h:=by simp at h
 frame _ _ _:=rfl
 size:=ale _
 os:=rfl
 tape:=rfl
 output:=rfl
 glob:=hg.1
 gsz:=hg.2
def Rd(P:Program)(t:TypeId){X:Type}(ec:X->List AV)(ok:X->Prop):Prop :=
 ∀(H:Type) (enc:TypeId×Value->H) (w:World) (fuel:Nat) (cs:List Value) (x:DataW H×List MemPlace),
  DataW.trod enc P w 0 (λ_=>true) true fuel t cs=some x->∃y,ok y/\VRL (oa w) (ec y) cs
theorem Rd.map{ec:X->List AV}{ok:X->Prop}{ec':Y->List AV}{ok':Y->Prop}(h:Rd P t ec ok)(m:∀y,ok y->∃z,ok' z/\ec' z=ec y):Rd P t ec' ok':=λH enc w fuel cs x hx=>by obtain⟨y,h1,h2⟩:=h H enc w fuel cs x hx;obtain⟨z,h3,h4⟩:=m y h1;exact⟨z,h3,by rw[h4];exact h2⟩
theorem Yo(ht:P.underlying t=some (.int k)):Rd P t (λn:Int=>[.int k n]) (λn=>k.min<=n/\n<=k.max):=λH enc w fuel cs x hx=>by obtain⟨n,rfl,_,hw⟩:=DataW.trod_int ht hx;simp only[Lit.wf,alk,decide_eq_true_eq]at hw;exact⟨n,hw,by simp[VRL,VR]⟩
theorem acE{E:Env}:∀{l m:List AV}{b o:Nat},VRC E l b o->VRC E m b (o+l.length)->VRC E (l++m) b o
 |[],_,_,_,_,h=>by simpa using h
 |a::l,m,b,o,h,k=>by simp only[alN,VRC]at h⊢;exact⟨h.1,acE h.2 (by rw[show o+1+l.length=o+(l.length+1)by omega];exact k)⟩
theorem Su{X:Type}(Q:Nat->X->Prop):∀n,(∀i,i<n->∃y,Q i y)->∃ys:List X,ys.length=n/\∀i y,ys[i]?=some y->Q i y
 |0,_=>⟨[],rfl,aoA⟩
 | n+1,h=>by
   obtain⟨ys,h1,h2⟩:=Su Q n λi hi=>h i aoz
   obtain⟨y,hy⟩:=h n aoz;refine⟨ys++[y],by simp[h1],λi z hz=>?_⟩;rw[amr]at hz;split at hz
   .exact h2 i z hz
   .have hi:i-ys.length=0:=by
     rcases amD (i-ys.length)with e|e
     .exact e
     .rw[amx (by simp;omega)]at hz;cases hz
    rw[hi]at hz;simp at hz;subst hz;rw[show i=n by omega];exact hy
theorem Wz{E:Env}{X:Type}{ec:X->List AV}{b sz:Nat}:∀{ys:List X}{o:Nat},(∀i y,ys[i]?=some y->(ec y).length=sz/\VRC E (ec y) b (o+i*sz))->VRC E (ys.flatMap ec) b o
 |[],_,_=>by simp[VRC]
 |y::ys,o,h=>by rw[amm];have h0:=h 0 y rfl;refine acE (by simpa using h0.2) (Wz (sz:=sz) λi z hz=>?_);have:=h (i+1) z hz;refine⟨this.1,?_⟩;rw[h0.1,show o+sz+i*sz=o+(i+1)*sz by rw[amh];omega];exact this.2
theorem yA{a:Addr}{cs:List Value}(h:w.cells? 0 a n=some cs):cs.length=n/\∀i,i<n->w.cell? (a.add i)=cs[i]?:=by simp only[World.cells?,ali,if_true]at h;refine⟨by simpa using mapM_some_length h,λi hi=>?_⟩;exact mapM_some_get h i i (by simp[hi])
theorem X7{a:Addr}(h:w.cell? a=some v):a.spot=none:=by rcases hs:a.spot with _|s;rfl;simp only[World.cell?,hs,amu,if_true]at h;split at h<;>cases h
theorem Zt{enc:TypeId×Value->H}{f:Func}{s:ChangeSpec}{apart fresh handsOn again:Bool}{W':World}{args:Array Value}{ds gs:List (DataW H)}{before pa pv:List MemPlace}(hW:DataW.Whole enc P f.params.toList s.vars apart W args.toList ds gs before)(hres:∀(b:Nat) (sp:Nat->Bool) (hd:Bool),DataW.TrodAll enc P W' b sp hd f.resultTypes.toList (v.resultList f.resultTypes.size) (s.fn H (ds++gs)).results [])(hargs:∀sp:Nat->Bool,(∀p∈before,sp p.block=true)->DataW.TrodAll enc P W' 0 sp true f.params.toList args.toList (s.fn H (ds++gs)).args pa)(hvars:∀sp:Nat->Bool,(∀p∈before,sp p.block=true)->DataW.TrodVars enc P W' sp s.vars (s.fn H (ds++gs)).vars pv)(hps:before=pa++pv)(hk:W.keptBut W' (·∈before))(hfz:∀b o,b<W.heap.size->W'.frozen? ⟨b,o,none⟩=W.frozen? ⟨b,o,none⟩)(hok:∀(j:Nat) (t:TypeId) (r:Value),f.resultTypes[j]?=some t->(v.resultList f.resultTypes.size)[j]?=some r->Value.okWide P W' .any 0 t r):
  s.post enc P f apart fresh handsOn again W args v W':=by
 have hlt:=hW.lt;have hold:∀p∈before,(λb=>decide (b<W.heap.size)) p.block=true:=λp hp=>by simpa using hlt p hp
 refine⟨ds,gs,before,[],pa,pv,hW,hres _ _ _,hargs _ hold,hvars _ hold,World.keptBut_mono (λp hp=>⟨hp,?_⟩) hk,λ_=>?_⟩;rw[hps,alh]at hp;exact Or.inr hp;obtain⟨_,_,_,_,_,hz,hn⟩:=hW;refine⟨hok,_,_,([]++pa)++pv,⟨[]++pa,pv,trodAll_append (hargs _ (λ_ _=>rfl)) (hres _ _ _),hvars _ (λ_ _=>rfl),rfl,?_,?_⟩,?_⟩;intro b off hp;have hp':MemPlace.cell b off∈before:=by rw[hps];simpa using hp
 rw[hfz b off (hlt _ hp')];exact hz b off hp';intro ha;have:=hn ha;rw[hps]at this;simpa using this;intro p hp _;rw[hps];simpa using hp
def Pz(P:Program):Bool:=(List.range P.types.size).all λt=>match P.underlying t with|some (.slice e)=>decide (0<P.cellsOf e)|_=>true
theorem Mz{H:Type}{enc:TypeId×Value->H}{P:Program}{W W':World}(hlaid:laidOutB P=true)(hrow:mapsRowed P=true)(hfull:Pz P=true):
  ∀{ts:List TypeId}{vs:List Value}{ds:List (DataW H)}{ps:List MemPlace},(∀t∈ts,t<P.types.size)->DataW.TrodAll enc P W 0 (λ_=>true) true ts vs ds ps->(∀p∈ps,W.sameAt W' p) ->
  ∀sp:Nat->Bool,(∀p∈ps,sp p.block=true)->DataW.TrodAll enc P W' 0 sp true ts vs ds ps
 |[],_,_,_,_,h,_,_,_=>by obtain⟨rfl,rfl,rfl⟩:=trodAll_nil h;exact trodAll_mk0
 | t::ts,_,_,_,hts,h,hs,sp,hsp=>by
   obtain⟨v,vs',d,ds',p,q,rfl,rfl,rfl,h1,h2⟩:=trodAll_cons h;obtain⟨fuel,h1⟩:=h1;refine trodAll_cons_mk ⟨fuel,DataW.trod_stays (kids_rows hlaid hrow) (λ{t e} ht hu=>?_) (λe=>by cases e) (hts t aoA) h1 (λr hr=>hs r (amT _ hr)) (λr hr=>hsp r (amT _ hr))⟩
    (Mz hlaid hrow hfull (λu hu=>hts u (by simp[hu])) h2 (λr hr=>hs r (ant _ hr)) sp (λr hr=>hsp r (ant _ hr)))
   have:=aln.1 hfull t (an4.2 ht);rw[hu]at this;simpa using this
theorem U4{H:Type}{enc:TypeId×Value->H}{P:Program}{w:World}{base:Nat}{spare:Nat->Bool}{held:Bool}:∀{ts:List TypeId}{vs:List Value}{ds:List (DataW H)}{ps:List MemPlace},DataW.TrodAll enc P w base spare held ts vs ds ps->ds.length=ts.length
 |[],_,_,_,h=>by obtain⟨_,rfl,_⟩:=trodAll_nil h;rfl
 |t::ts,_,_,_,h=>by obtain⟨v,vs',d,ds',p,q,rfl,rfl,rfl,_,h2⟩:=trodAll_cons h;simp[U4 h2]
theorem WP{fn:Func}{s:ChangeSpec}{apart fresh handsOn again:Bool}{tb:TypeId}(hfn:P.funcs[f]?=some fn)(hbody:fn.body.isSome=true)(hname:(fn.name == "runtime.NumGoroutine")=false)(hlaid:laidOutB P=true)(hrow:mapsRowed P=true)(hfull:Pz P=true)(hts:fn.params.toList.all (fun t=>decide (t<P.types.size))=true)(hres:fn.resultTypes=#[tb])(hb:P.underlying tb=some .bool)(hvars:s.vars=[])(hs:∀ (H:Type) (ds:List (DataW H)),ds.length=fn.params.toList.length->(s.fn H ds).results=[.lit (.bool true)]/\(s.fn H ds).args=ds/\(s.fn H ds).vars=[]){ec:X->List AV}{ok:X->Prop}(walk:∀ y,ok y->ad P f (ec y) [] fun av _=>av=.bool true)(enc:TypeId×Value->H)(W:World)(args:Array Value)(ds gs:List (DataW H))(before:List MemPlace)(hA:∀ p,DataW.TrodAll enc P W 0 (fun _=>true) true fn.params.toList args.toList ds p->∃ y,ok y/\VRL (oa W) (ec y) args.toList)(hW:DataW.Whole enc P fn.params.toList s.vars apart W args.toList ds gs before)(hglob:sd (oa W).mem/\th W):
  Calls P f args W λe W'=>∃v,e=.returned v/\s.post enc P fn apart fresh handsOn again W args v W':=by
 have hW':=hW;have hlt:=hW.lt;obtain⟨p,q,hA0,hV,rfl,hfz,hnd⟩:=hW;rw[hvars]at hV;obtain⟨rfl,rfl⟩:=trodVars_none hV;obtain⟨y,hy,hvr⟩:=hA p hA0;have hlen:=U4 hA0;obtain⟨e1,e2,e3⟩:=hs H ds hlen;have hrun:(callFunc f args).run P W=.ok (.enter f args) W:=by
  simp only[callFunc,alo,run_program,alq,hfn,hname];cases hb:fn.body with
  |none=>simp[hb]at hbody
  |some c=>simp
 rcases walk y hy W ⟨λ_=>False,0⟩ (oa W) W args.toList (Rel.start W hglob) hvr with⟨_,h⟩|⟨_,_,_,_,_,h,_⟩;refine h.mono λe W' ⟨E',v,av,L',he,_,hav,hv,hR⟩=>?_
 subst hav;simp only[VR]at hv;subst hv;refine⟨_,he,?_⟩;have hheap:∀b,b<W.heap.size->W'.heap[b]?=W.heap[b]?:=λb hb=>hR.frame b hb (λh=>h)
 have hps:∀r∈p,W.sameAt W' r:=λr hr=>by have:=hlt r (by simpa using hr);cases r<;>simp only[World.sameAt,MemPlace.block]at this⊢;simp only[World.cell?];rw[hheap _ this];exact hheap _ this
 refine Zt (pa:=p) (pv:=[]) hW' (λb sp hd=>?_) (λsp hsp=>?_) (λ_ _=>?_) rfl ⟨hR.os,hR.output,λi hi=>?_⟩ (λb o hb=>?_) (λj t r h1 h2=>?_);rw[alJ,e1,hres];exact trodAll_cons_mk (shut_bool hb _) trodAll_mk0;rw[alJ,e2];exact Mz hlaid hrow hfull (λt ht=>by simpa using aln.1 hts t ht) hA0 hps sp (λr hr=>hsp r (by simpa using hr));rw[hvars,alJ,e3];rfl;rw[hheap i hi];rcases hc:W.heap[i]? with _|o;trivial;cases o<;>simp;simp only[World.frozen?];rw[hheap b hb];exact ok_one hres rfl (okWide_bool_mk hb _) j t r h1 h2;rw[show(⟨args.toList⟩:Array Value)=args from rfl,hrun]at h;cases h
open Go Go.ChangeShapes Go.WideShapes Go.ChangeAt
set_option maxHeartbeats 8000000
set_option maxRecDepth 100000
def RdZ(P:Program)(t:TypeId){X:Type}(ec:X->List AV)(ok:X->Prop):Prop :=
 ∀(H:Type) (enc:TypeId×Value->H) (w:World) (fuel:Nat) (cs:List Value) (x:DataW H×List MemPlace),
  DataW.trod enc P w 0 (λ_=>true) true fuel t cs=some x->(∀n∈x.1.weights P t,n<=reachBytes)->∃y,ok y/\VRL (oa w) (ec y) cs
theorem Rd.z{ec:X->List AV}{ok:X->Prop}(h:Rd P t ec ok):RdZ P t ec ok:=λH enc w fuel cs x hx _=>h H enc w fuel cs x hx
theorem Qp(ht:P.underlying t=some .string):RdZ P t (λs:List UInt8=>[.str s]) (λs=>s.length<=reachBytes):=λH enc w fuel cs x hx hz=>by obtain⟨s,rfl,rfl,hw⟩:=DataW.trod_string ht hx;exact⟨s.data.toList,hz _ (by simp[DataW.weights]),by simp[VRL,VR]⟩
theorem rr{H:Type}{P:Program}{e:TypeId}:∀{l:List (DataW H)}{d:DataW H},d∈l->∀n∈d.weights P e,n∈DataW.weightsAll P e l
 | a::l,d,h,n,hn=>by
   rw[DataW.weightsAll];rcases alj.1 h with rfl|h
   .exact amT _ hn
   .exact ant _ (rr h n hn)
theorem L9{ec:X->List AV}{ok:X->Prop}(ht:P.underlying t=some (.slice e))(he:RdZ P e ec ok)(hz':decide (0<P.cellsOf e)=true):
  RdZ P t (λl:List X=>[.sl (l.flatMap ec) l.length none]) (λl=>l.length<=maxLen/\∀y∈l,ok y):=λH enc w fuel cs x hx hwt=>by
 have hz:0<P.cellsOf e:=of_decide_eq_true hz';rcases DataW.trod_slice ht hx with⟨rfl,_⟩|⟨a,len,cap,elems,rest,n,_,rfl,rfl,_,hlc,hcap,hel,hget,hsp,_⟩;exact⟨[],⟨aoA,aoA⟩,by simp only[VRL,VR];exact⟨_,_,rfl,⟨none,0,rfl,ale _,aoA,.inl ⟨rfl,rfl,rfl⟩⟩,rfl⟩⟩;have hspot:cap≠0->a.spot=none:=λhc=>by
  have first:∀r:Option (DataW H×List MemPlace),r≠none->(w.cells? 0 (a.add (0*P.cellsOf e)) (P.cellsOf e)).bind (DataW.trod enc P w 0 (λ_=>true) true n e)=r->a.spot=none:=λr hr h1=>by obtain⟨q,rfl⟩:=Option.ne_none_iff_exists'.1 hr;rw[am9]at h1;obtain⟨cs',h2,_⟩:=h1;obtain⟨h6,h7⟩:=yA h2;have h8:=h7 0 hz;obtain⟨v,hv⟩:∃v,cs'[0]?=some v:=⟨cs'[0]'aoz,alu _⟩;rw[hv]at h8;have:=X7 h8;simpa[Addr.add]using this
  by_cases hl:len=0;obtain⟨r1,r2⟩:=hsp rfl;exact first rest[0]? (by rw[alu aoz];simp) (by simpa[hl]using r2 0 aoz)
  exact first elems[0]? (by rw[alu aoz];simp) (hget 0 aoz)
 have each:∀i,i<len->∃y,ok y/\(ec y).length=P.cellsOf e/\a.spot=none/\VRC (oa w) (ec y) a.block (a.off+i*P.cellsOf e):=λi hi=>by
  have h1:=hget i hi;obtain⟨q,hq⟩:∃q,elems[i]?=some q:=⟨elems[i]'aoz,alu _⟩;rw[hq,am9]at h1;obtain⟨cs',h2,h3⟩:=h1;obtain⟨y,h4,h5⟩:=he H enc w n cs' q h3 (λm hm=>hwt m (by simp only[DataW.weights,ht];refine amp _ (amT _ (rr (d:=q.1) ?_ m hm));exact alg.2 ⟨q,alV hq,rfl⟩))
  obtain⟨h6,h7⟩:=yA h2;have hl:=h5.length;have hsp:a.spot=none:=hspot aoz;refine⟨y,h4,aoz,hsp,VRC.of_get λj u hu=>?_⟩;obtain⟨v,h8,h9⟩:=h5.get hu;refine⟨v,?_,h9⟩;have hj:j<P.cellsOf e:=by have:=(ald.1 hu).1;omega
  have h10:=h7 j hj;rw[h8]at h10;rw[<- h10];have hadd:∀k,a.add k=⟨a.block,a.off+k,none⟩:=λk=>by obtain⟨b,o,s⟩:=a;simp only at hsp;subst hsp;exact Addr.add_mk b o k
  rw[hadd,Addr.add_mk];rfl
 obtain⟨ys,h1,h2⟩:=Su _ len each;refine⟨ys,⟨aoz,λy hy=>?_⟩,?_⟩;obtain⟨i,hi⟩:=aoa hy;exact(h2 i y hi).1;simp only[VRL];refine⟨_,[],rfl,?_,rfl⟩;simp only[VR];refine⟨_,_,by rw[h1],aoz,aoA,?_⟩;by_cases hc:cap=0;have:ys=[]:=by have:ys.length=0:=aoz;simpa using this
 subst this;exact .inl ⟨rfl,hc,rfl⟩;refine .inr ⟨a.block,a.off,?_,Wz λi y hy=>⟨(h2 i y hy).2.1,(h2 i y hy).2.2.2⟩⟩;have hs:a.spot=none:=hspot hc;cases a;simp only at hs⊢;rw[hs]
theorem tQ{H:Type}{P:Program}{us:List TypeId}{gs:List (DataW H)}{n:Nat}:∀{ts:List TypeId}{ds:List (DataW H)},n∈DataW.weightsEach P ts ds->n∈DataW.weightsEach P (ts++us) (ds++gs)
 |[],_,h=>by simp[DataW.weightsEach]at h
 |_::_,[],h=>by simp[DataW.weightsEach]at h
 | t::ts,d::ds,h=>by
   simp only[alN,DataW.weightsEach,alh]at h⊢;rcases h with h|h
   .exact .inl h
   .exact .inr (tQ h)
def aiR(P:Program)(N o:Nat)(fs:List Field){X:Type}(ec:X->List AV)(ok:X->Prop):Prop :=
 ∀(H:Type) (enc:TypeId×Value->H) (w:World) (n:Nat) (cs:List Value),cs.length=N ->
  (∀f∈fs,∃x,DataW.trod enc P w 0 (λ_=>true) true n f.type ((cs.drop f.offset).take (P.cellsOf f.type))=some x/\∀m∈x.1.weights P f.type,m<=reachBytes)->∃y,ok y/\VRL (oa w) (ec y) (cs.drop o)
theorem Qq{o:Nat}(h:o=N):aiR P N o [] (λ_:Unit=>[]) (λ_=>True):=λH enc w n cs hl _ =>
 ⟨(),trivial,by simp[VRL,h,<- hl]⟩
theorem fH{o sz:Nat}{f:Field}{fs:List Field}{ec:X->List AV}{ok:X->Prop}{ec':Y->List AV}{ok':Y->Prop}(hf:f.offset=o)(hz:P.cellsOf f.type=sz)(h:RdZ P f.type ec ok)(r:aiR P N (o+sz) fs ec' ok'):
  aiR P N o (f::fs) (λy:X×Y=>ec y.1++ec' y.2) (λy=>ok y.1/\ok' y.2):=λH enc w n cs hl hx=>by
 obtain⟨x,h1,hw⟩:=hx f aoA;obtain⟨y,h2,h3⟩:=h H enc w n _ x h1 hw;obtain⟨z,h4,h5⟩:=r H enc w n cs hl λg hg=>hx g (by simp[hg])
 refine⟨(y,z),⟨h2,h4⟩,?_⟩;have:cs.drop o=(cs.drop f.offset).take (P.cellsOf f.type)++cs.drop (o+sz):=by rw[hf,hz,<- anL,amZ]
 rw[this];exact h3.append h5
theorem yk{fs:Array Field}{ec:X->List AV}{ok:X->Prop}(ht:P.underlying t=some (.struct fs))(hN:P.cellsOf t=N)(r:aiR P N 0 fs.toList ec ok):RdZ P t ec ok:=λH enc w fuel cs x hx hwt=>by
 subst hN;obtain⟨xs,n,_,rfl,hl,hlen,hf⟩:=DataW.trod_struct ht hx;obtain⟨y,h1,h2⟩:=r H enc w n cs hl λf hfm=>by
  obtain⟨i,hi⟩:=aoa hfm;have hi':fs[i]?=some f:=(by simpa using hi);rw[hf i f hi'];have hlt:i<xs.length:=by rw[hlen];have:=(ald.1 hi).1;simpa using this
  refine⟨xs[i],alu hlt,λm hm=>hwt m ?_⟩;simp only[DataW.weights,ht];refine DataW.weights_mem_each (j:=i) (t:=f.type) (d:=xs[i].1) ?_ ?_ m hm;rw[al3,hi];rfl;rw[al3,alu hlt];rfl
 exact⟨y,h1,by simpa using h2⟩
def aiT(P:Program)(ts:List TypeId){X:Type}(ec:X->List AV)(ok:X->Prop):Prop :=
 ∀(H:Type) (enc:TypeId×Value->H) (w:World) (base:Nat) (vs:List Value) (ds:List (DataW H)) (ps:List MemPlace),
  (∀(j:Nat) t v,ts[j]?=some t->vs[j]?=some v->Value.okWide P w .any base t v) ->
  DataW.TrodAll enc P w 0 (λ_=>true) true ts vs ds ps->(∀n∈DataW.weightsEach P ts ds,n<=reachBytes)->∃y,ok y/\VRL (oa w) (ec y) vs
theorem afh :aiT P [] (λ_:Unit=>[]) (λ_=>True):=λH enc w base vs ds ps _ h _=>by obtain⟨rfl,_,_⟩:=trodAll_nil h;exact⟨(),trivial,by simp[VRL]⟩
open Go Go.ChangeShapes Go.WideShapes Go.ChangeAt
theorem RdZ.map{ec:X->List AV}{ok:X->Prop}{ec':Y->List AV}{ok':Y->Prop}(h:RdZ P t ec ok)(m:∀y,ok y->∃z,ok' z/\ec' z=ec y):RdZ P t ec' ok':=λH enc w fuel cs x hx hb=>by obtain⟨y,h1,h2⟩:=h H enc w fuel cs x hx hb;obtain⟨z,h3,h4⟩:=m y h1;exact⟨z,h3,by rw[h4];exact h2⟩
theorem afi{ts:List TypeId}{ec:X->List AV}{ok:X->Prop}{ec':Y->List AV}{ok':Y->Prop}(hg:nV P t=some true)(h:RdZ P t ec ok)(r:aiT P ts ec' ok'):
  aiT P (t::ts) (λy:X×Y=>.agg (ec y.1)::ec' y.2) (λy=>ok y.1/\ok' y.2):=λH enc w base vs ds ps hok hx hwt=>by
 obtain⟨v,vs',d,ds',p,q,rfl,rfl,rfl,h1,h2⟩:=trodAll_cons hx;obtain⟨fuel,h1⟩:=h1;obtain⟨y,h3,h4⟩:=h H enc w fuel _ _ h1 (λn hn=>hwt n (by rw[DataW.weightsEach];exact amT _ hn));obtain⟨z,h5,h6⟩:=r H enc w base vs' ds' q (λj t v a b=>hok (j+1) t v a b) h2 (λn hn=>hwt n (by rw[DataW.weightsEach];exact ant _ hn));refine⟨(y,z),⟨h3,h5⟩,?_⟩;have hv:=hok 0 t v rfl rfl;unfold nV at hg;have:∃cs,v=.agg cs:=by
  unfold Value.okWide at hv;split at hg
  all_goals rename_i hu;rw[hu]at hv
  obtain⟨cs,h,_⟩:=hv;exact⟨cs,h⟩;obtain⟨cs,h,_⟩:=hv;exact⟨cs,h⟩;cases hg;cases hg
 obtain⟨cs,rfl⟩:=this;simp only[VRL];refine⟨_,vs',rfl,?_,h6⟩;simp only[VR];exact⟨cs.toList,rfl,by simpa[Value.cells]using h4⟩
theorem sk(h:B)(e:Hid B->A:=by intro hB_;simp only[Kon,push_cast,reduceIte,Nat.reduceEqDiff,Nat.reduceAdd,Nat.reduceMul,Nat.reduceSub,Nat.reduceLT,Nat.reduceLeDiff,Int.reduceLT,Int.reduceLE,Int.reduceAdd,Int.reduceSub,Int.reduceNeg,Int.reduceToNat,Int.reduceEq,reduceCtorEq, *];exact hB_.o):A:=e (hid h)
theorem sm(h:B)(e:Hid B->A:=by intro hB_;simp(config:={maxSteps:=2000000}) only[Kon,push_cast,reduceIte,Nat.reduceEqDiff,Nat.reduceAdd,Nat.reduceMul,Nat.reduceSub,Nat.reduceLT,Nat.reduceLeDiff,Int.reduceLT,Int.reduceLE,Int.reduceAdd,Int.reduceSub,Int.reduceNeg,Int.reduceToNat,Int.reduceEq,reduceCtorEq, *];exact hB_.o):A:=e (hid h)
theorem sl(h:B)(e:Hid B->A:=by intro hB_;simp only[push_cast,reduceIte,Nat.reduceEqDiff,Nat.reduceAdd,Nat.reduceMul,Nat.reduceSub,Nat.reduceLT,Nat.reduceLeDiff,Int.reduceLT,Int.reduceLE,Int.reduceAdd,Int.reduceSub,Int.reduceNeg,Int.reduceToNat,Int.reduceEq,reduceCtorEq, *];exact hB_.o):A:=e (hid h)
theorem wk(h:B)(e:Hid B->A:=by
 intro hB_
 repeat' first
  |refine bu ?_
  | (first|refine bj aoB ?_|refine aJ aoB ?_|refine aM ?_|refine cN ?_|refine bE (fun _=>?_)|refine aC ?_|refine bo ?_|refine kk1.o _ _ ?_|refine kk1.o ?_|refine kk2.o _ _ ?_|refine kk2.o ?_|refine kk3.o _ _ ?_|refine kk3.o ?_|refine kk4.o _ _ ?_|refine kk4.o ?_|refine kk5.o _ _ ?_|refine kk5.o ?_|refine kk6.o _ _ ?_|refine kk6.o ?_|refine kk7.o _ _ ?_|refine kk7.o ?_|refine bh (kk1.o _ _ ⟨rfl,rfl⟩) (kk1.o _ _ ⟨rfl,rfl⟩) ?_|refine bh (kk1.o ⟨rfl,rfl⟩) (kk1.o ⟨rfl,rfl⟩) ?_|refine bh (kk2.o _ _ ⟨rfl,rfl⟩) (kk2.o _ _ ⟨rfl,rfl⟩) ?_|refine bh (kk2.o ⟨rfl,rfl⟩) (kk2.o ⟨rfl,rfl⟩) ?_|refine aF (kk1.o _ _ ⟨rfl,rfl⟩) ?_|refine aF (kk1.o ⟨rfl,rfl⟩) ?_|refine aF (kk2.o _ _ ⟨rfl,rfl⟩) ?_|refine aF (kk2.o ⟨rfl,rfl⟩) ?_|refine aF (kk3.o _ _ ⟨rfl,rfl⟩) ?_|refine aF (kk3.o ⟨rfl,rfl⟩) ?_|refine aF (kk4.o _ _ ⟨rfl,rfl⟩) ?_|refine aF (kk4.o ⟨rfl,rfl⟩) ?_|refine aF (kk5.o _ _ ⟨rfl,rfl⟩) ?_|refine aF (kk5.o ⟨rfl,rfl⟩) ?_|refine aF (kk6.o _ _ ⟨rfl,rfl⟩) ?_|refine aF (kk6.o ⟨rfl,rfl⟩) ?_|refine aF (kk7.o _ _ ⟨rfl,rfl⟩) ?_|refine aF (kk7.o ⟨rfl,rfl⟩) ?_)
    simp(config:={maxSteps:=2000000}) only[Kon,push_cast,reduceIte,Nat.reduceEqDiff,Nat.reduceAdd,Nat.reduceMul,Nat.reduceSub,Nat.reduceLT,Nat.reduceLeDiff,Int.reduceLT,Int.reduceLE,Int.reduceAdd,Int.reduceSub,Int.reduceNeg,Int.reduceToNat,Int.reduceEq,reduceCtorEq, *]
  | (first|refine a8 aoB ?_|refine ba ?_|refine aL ?_|refine bm ?_|refine bJ (aB ?_))
    simp only[push_cast,reduceIte,Nat.reduceEqDiff,Nat.reduceAdd,Nat.reduceMul,Nat.reduceSub,Nat.reduceLT,Nat.reduceLeDiff,Int.reduceLT,Int.reduceLE,Int.reduceAdd,Int.reduceSub,Int.reduceNeg,Int.reduceToNat,Int.reduceEq,reduceCtorEq, *]
  |exact bF
  |first|apply bG|apply be|apply bH|apply bf|apply bI|apply bg
  |refine aP ?_
  |refine aK ?_
  |first|refine aN rfl ?_|refine aO rfl ?_|refine ax rfl ?_ ?_
  |((first|refine au (λ_=>?_) (λ_=>?_)|refine aA (λ_=>?_) (λ_=>?_))<;>try simp(config:={maxSteps:=2000000}) only[Kon,push_cast,reduceIte,Nat.reduceEqDiff,Nat.reduceAdd,Nat.reduceMul,Nat.reduceSub,Nat.reduceLT,Nat.reduceLeDiff,Int.reduceLT,Int.reduceLE,Int.reduceAdd,Int.reduceSub,Int.reduceNeg,Int.reduceToNat,Int.reduceEq,reduceCtorEq, *])
  |refine And.intro trivial ?_
  |refine And.intro aoz ?_
  |refine aY rfl (λ_=>?_) (λ_=>?_)
 exact hB_.o):A:=e (hid h)
theorem aoH(h:B)(e:Hid B->A:=by intro hB_;refine sk ?_;refine wk ?_;exact hB_.o):A:=e (hid h)
theorem ala{P:Program}{own:Nat->Nat->Nat}{f:FuncId}{lf:aG}(h:aI P own f=some lf.raw){args:List AV}{L:List Blk}{Q:AV->List Blk->Prop}{B:Prop}(b:B)(hl:Nat.ble args.length lf.ntmps=true:=by rfl)(e:Hid B->AW P lf.ntmps own lf.code (aiW lf.res L Q) (am 0 args) L:=by
 intro hB_;simp only[push_cast]
 repeat' first
  |refine bu ?_
  | (first|refine bj aoB ?_|refine aJ aoB ?_|refine aM ?_|refine cN ?_|refine bE (fun _=>?_)|refine aC ?_|refine bo ?_|refine kk1.o _ _ ?_|refine kk1.o ?_|refine kk2.o _ _ ?_|refine kk2.o ?_|refine kk3.o _ _ ?_|refine kk3.o ?_|refine kk4.o _ _ ?_|refine kk4.o ?_|refine kk5.o _ _ ?_|refine kk5.o ?_|refine kk6.o _ _ ?_|refine kk6.o ?_|refine kk7.o _ _ ?_|refine kk7.o ?_|refine bh (kk1.o _ _ ⟨rfl,rfl⟩) (kk1.o _ _ ⟨rfl,rfl⟩) ?_|refine bh (kk1.o ⟨rfl,rfl⟩) (kk1.o ⟨rfl,rfl⟩) ?_|refine bh (kk2.o _ _ ⟨rfl,rfl⟩) (kk2.o _ _ ⟨rfl,rfl⟩) ?_|refine bh (kk2.o ⟨rfl,rfl⟩) (kk2.o ⟨rfl,rfl⟩) ?_|refine aF (kk1.o _ _ ⟨rfl,rfl⟩) ?_|refine aF (kk1.o ⟨rfl,rfl⟩) ?_|refine aF (kk2.o _ _ ⟨rfl,rfl⟩) ?_|refine aF (kk2.o ⟨rfl,rfl⟩) ?_|refine aF (kk3.o _ _ ⟨rfl,rfl⟩) ?_|refine aF (kk3.o ⟨rfl,rfl⟩) ?_|refine aF (kk4.o _ _ ⟨rfl,rfl⟩) ?_|refine aF (kk4.o ⟨rfl,rfl⟩) ?_|refine aF (kk5.o _ _ ⟨rfl,rfl⟩) ?_|refine aF (kk5.o ⟨rfl,rfl⟩) ?_|refine aF (kk6.o _ _ ⟨rfl,rfl⟩) ?_|refine aF (kk6.o ⟨rfl,rfl⟩) ?_|refine aF (kk7.o _ _ ⟨rfl,rfl⟩) ?_|refine aF (kk7.o ⟨rfl,rfl⟩) ?_)
    simp(config:={maxSteps:=2000000}) only[Kon,push_cast,reduceIte,Nat.reduceEqDiff,Nat.reduceAdd,Nat.reduceMul,Nat.reduceSub,Nat.reduceLT,Nat.reduceLeDiff,Int.reduceLT,Int.reduceLE,Int.reduceAdd,Int.reduceSub,Int.reduceNeg,Int.reduceToNat,Int.reduceEq,reduceCtorEq, *]
  | (first|refine a8 aoB ?_|refine ba ?_|refine aL ?_|refine bm ?_|refine bJ (aB ?_))
    simp only[push_cast,reduceIte,Nat.reduceEqDiff,Nat.reduceAdd,Nat.reduceMul,Nat.reduceSub,Nat.reduceLT,Nat.reduceLeDiff,Int.reduceLT,Int.reduceLE,Int.reduceAdd,Int.reduceSub,Int.reduceNeg,Int.reduceToNat,Int.reduceEq,reduceCtorEq, *]
  |exact bF
  |first|apply bG|apply be|apply bH|apply bf|apply bI|apply bg
  |refine aP ?_
  |refine aK ?_
  |first|refine aN rfl ?_|refine aO rfl ?_|refine ax rfl ?_ ?_
  |((first|refine au (λ_=>?_) (λ_=>?_)|refine aA (λ_=>?_) (λ_=>?_))<;>try simp(config:={maxSteps:=2000000}) only[Kon,push_cast,reduceIte,Nat.reduceEqDiff,Nat.reduceAdd,Nat.reduceMul,Nat.reduceSub,Nat.reduceLT,Nat.reduceLeDiff,Int.reduceLT,Int.reduceLE,Int.reduceAdd,Int.reduceSub,Int.reduceNeg,Int.reduceToNat,Int.reduceEq,reduceCtorEq, *])
  |refine And.intro trivial ?_
  |refine And.intro aoz ?_
  |refine aY rfl (λ_=>?_) (λ_=>?_)
 exact hB_.o):ad P f args L Q:=ac h (Nat.le_of_ble_eq_true hl) (e (hid b))
attribute [push_cast] am
structure tP(w w':World):Prop where
 heap:∀b,b<w.heap.size->w'.heap[b]?=w.heap[b]?
 size:w.heap.size<=w'.heap.size
 os:w'.os=w.os
 tape:w'.tape=w.tape
 output:w'.output=w.output
theorem tP.refl(w:World):tP w w:=⟨λ_ _=>rfl,ale _,rfl,rfl,rfl⟩
theorem tP.of_grow(w:World)(k:Nat)(os:Array Obj):tP w (Sort.grow (w.drewN k) os):=by refine⟨λb hb=>?_,?_,rfl,rfl,rfl⟩;show(w.heap++os)[b]?=_;exact an5 hb;show _<=(w.heap++os).size;simp
theorem Rel.grown{w':World}(h:Rel w0 S0 E L w)(g:tP w w'):Rel w0 S0 E L w':=by
 refine⟨λb o v hv=>?_,λi k hk=>?_,h.fresh,h.own,h.inj,h.tkfresh,h.tkown,h.tkloc,h.tkinj,λk hk hs=>?_,alF h.size g.size,g.os.trans h.os,g.tape.trans h.tape,g.output.trans h.output,h.glob,
  h.gsz.mod λb cs ty fr hb=>⟨cs,ty,fr,by rw[g.heap b (ami.1 hb).1];exact hb,rfl⟩⟩
 have:=h.mem b o v hv;simp only[World.cell?]at this⊢;rw[g.heap b (h.mem_lt hv)];exact this;cases hl:k.live;refine bz.still hl rfl (λt c n sz e ht hc=>?_) (h.blk i k hk);subst e;exact g.heap _ (h.tok_lt hk ht hc);exact bz.worldL hl (λc hc=>g.heap _ (h.loc_lt hk hl hc)) (h.blk i k hk);rw[g.heap k (amL hk h.size)];exact h.frame k hk hs
theorem da{fn:Func}(hf:P.funcs[f]?=some fn)(hb:fn.body.isSome=true)(hn:(fn.name == "runtime.NumGoroutine")=false){K:AV->List Blk->Prop}{r:AV}(hc:∀ (w0:World) (S0:SB) (E:Env) (w:World) (vs:List Value),Rel w0 S0 E L w->VRL E args vs->Calls P f ⟨vs⟩ w fun e w'=>∃ v,e=.returned v/\VR E r v/\tP w w')(hk:K r L):ad P f args L K:=fun w0 S0 E w vs hR hv=>by
 refine .inl ⟨?_,(hc w0 S0 E w vs hR hv).mono λe w' ⟨v,h1,h2,h3⟩=>⟨E,v,r,L,h1,.refl E,hk,h2,hR.grown h3⟩⟩;simp only[callFunc,alo,run_program,alq,hf,hn];cases h:fn.body with
 |none=>simp[h]at hb
 |some c=>simp
theorem Rel.table(h:Rel w0 S0 E L w){zs:List Int}(hg:P.globalNamed name=some g)(hp:d7 g=some (zs.map (AV.int k)))(hne:zs≠[]):
  Lib.TabIs P w name k zs:=by
 have hm:=yx hp;obtain⟨cs,ty,fr,h1,h2⟩:=h.gsz _ hm (by simpa using hne);simp only[alU]at h2;simp only[Lib.TabIs,World.var?,hg,ams,h1,alf];apply Array.ext;simp[h2];intro i hi hi';have hr:=h.glob.env hm;have hi2:i<zs.length:=aoz;obtain⟨v,h3,h4⟩:=hr.get (i:=i) (a:=.int k zs[i]) (by simp[hi2]);simp only[VR]at h4;subst h4;have:=h.mem _ _ _ h3;simp only[World.cell?,h1]at this;simp at this;have e:=alZ hi;rw[e]at this;simpa using Option.some.inj this
theorem Rel.reblk(h:Rel w0 S0 E L w){c':List AV}(hL:L[i]?=some (.cells c))(hlen:c'.length=c.length)(hv:∀(j:Nat) (a':AV),c'[j]?=some a'->∃a,c[j]?=some a/\∀v,VR E a v->VR E a' v):Rel w0 S0 E (L.set i (.cells c')) w:=by
 have hi:i<L.length:=(ald.1 hL).1;have fix:∀(j:Nat) (k:Blk),(L.set i (.cells c'))[j]?=some k->k.live=true->∃k',L[j]?=some k'/\k'.live=true:=λj k hk hl=>by rw[alC]at hk;split at hk;rename_i e;subst e;exact⟨_,hL,rfl⟩;exact⟨k,hk,hl⟩
 have fixs:∀(j n sz:Nat),(L.set i (.cells c'))[j]?=some (.spare n sz)->L[j]?=some (.spare n sz):=λj n sz hk=>by rw[alC]at hk;split at hk;cases hk;exact hk
 refine⟨h.mem,λj k hk=>?_,λi hi=>h.fresh i (by simpa using hi),λi k c hk hl hc=>?_,λi j k k' c c' hi li hj lj=>?_,
  λi hi=>h.tkfresh i (by simpa using hi),λi n sz t d hi=>h.tkown i n sz t d (fixs i n sz hi),λi n sz t d j k' c' hi ht hd hj hl=>?_,
  λi n sz t d i' n' sz' t' d' hi ht hd hi'=>h.tkinj i n sz t d i' n' sz' t' d' (fixs i n sz hi) ht hd (fixs i' n' sz' hi'),h.frame,h.size,h.os,h.tape,h.output,h.glob,h.gsz⟩
 rw[alC]at hk;split at hk;rename_i e;subst e;cases hk;obtain⟨cl,cs,ty,fr,g1,g2,g3,g4,g5,g6⟩:=h.blk _ _ hL;refine⟨cl,cs,ty,fr,g1,g2,g3,by rw[hlen];exact g4,λj a ha=>?_,g6⟩;obtain⟨b,hb,hbv⟩:=hv j a ha;obtain⟨v,h1,h2⟩:=g5 j b hb;exact⟨v,h1,hbv v h2⟩;exact h.blk j k hk;obtain⟨k',h1,h2⟩:=fix i k hk hl;exact h.own i k' c h1 h2 hc;obtain⟨k1,h1,h2⟩:=fix i k hi li;obtain⟨k2,h3,h4⟩:=fix j k' hj lj;exact h.inj i j k1 k2 c c' h1 h2 h3 h4;obtain⟨k1,h1,h2⟩:=fix j k' hj hl;exact h.tkloc i n sz t d j k1 c' (fixs i n sz hi) ht hd h1 h2
theorem VR.grow{sz:Nat}(ht:E.tok i=some ⟨n,sz,none⟩)(h2:l.length=n*sz)(h:VR E (.sl l n (some n)) v):VR E (.gsl l n i sz) v:=by simp only[VR]at h⊢;obtain⟨p,c',q1,q2,q3,q4⟩:=h;exact⟨p,c',q1,q2,h2,q4,⟨n,sz,none⟩,ht,ale _,λ_=>⟨rfl,λ_=>q3 n rfl,aoA⟩⟩
theorem LT{own:Nat->Nat->Nat}{Q:Exit->Tm->List Blk->Prop}{T:Tm}{lc:cn}(i j sz:Nat)(hL:L[i]?=some (.cells c))(hj:c[j]?=some (.sl l n (some n)))(h2:l.length=n*sz)(h:AW P N own lc Q T (L.set i (.cells (c.set j (.gsl l n L.length sz)))++[.spare n sz])):AW P N own lc Q T L:=λcd hc r hr w0 S0 E a w hst=>by
 obtain⟨r1,r2⟩:=hst.1.addtok (n:=n) (sz:=sz) (lc:=none) Ts;have hi:i<L.length:=(ald.1 hL).1;have hL':(L++[Blk.spare n sz])[i]?=some (.cells c):=by rw[alm hi];exact hL
 have r3:=r2.reblk hL' (c':=c.set j (.gsl l n L.length sz)) aoA λk a' ha=>by rw[alC]at ha;split at ha;rename_i e;subst e;split at ha;cases ha;exact⟨_,hj,λv hv=>VR.grow aoA h2 hv⟩;cases ha;exact⟨a',ha,λv hv=>hv⟩
 rw[ama _ _ hi]at r3;exact wpIn_mono (h cd hc r hr w0 S0 _ a w ⟨r3,hst.2.1.mono r1,hst.2.2⟩) λe a' w' ⟨w1,S1,E',T1,L1,b,k1,k2,k3⟩=>⟨w1,S1,E',T1,L1,b,r1.trans k1,k2,k3⟩
theorem u8n(h:n<256):(UInt8.ofNat n).toNat=n:=by simp only[UInt8.toNat_ofNat'];exact Nat.mod_eq_of_lt h
theorem ya:∀(u:Nat),∃c r,Lib.decDigits u=c::r/\48<=c.toNat/\c.toNat<=57/\(c.toNat=48->u=0):=by
 intro u;induction u using Nat.strongRecOn with
 | _ u ih =>
   by_cases h10:u<10
   .refine⟨UInt8.ofNat (48+u),[],by rw[Lib.decDigits,dif_pos h10],?_⟩;rw[u8n aoz];omega
   .obtain⟨c,r,e,h1,h2,h3⟩:=ih (u/10) aoz;exact⟨c,r++[UInt8.ofNat (48+u%10)],by rw[Lib.decDigits,dif_neg h10,e];rfl,h1,h2,λh=>by have:=h3 h;omega⟩
theorem ads(t:List UInt8):∀(u:Nat),u<=18446744073709551615->Lib.parseUintM 18446744073709551615 0 (Lib.decDigits u++t)=Lib.parseUintM 18446744073709551615 u t:=by
 intro u;induction u using Nat.strongRecOn generalizing t with
 | _ u ih =>
   intro hu;by_cases h10:u<10
   .rw[Lib.decDigits,dif_pos h10];simp only[alN,alL];rw[Lib.parseUintM,u8n aoz,if_pos aoz,if_neg aoz,if_neg aoz];congr 1;omega
   .rw[Lib.decDigits,dif_neg h10,alv,ih (u/10) aoz _ aoz];simp only[alN,alL];rw[Lib.parseUintM,u8n aoz,if_pos aoz,if_neg aoz,if_neg aoz];congr 1;omega
theorem Vr{u:Nat}(hu:u<=18446744073709551615):Lib.parseUintB 64 (Lib.decDigits u)=.ok u:=by obtain⟨c,r,e,_⟩:=ya u;unfold Lib.parseUintB;rw[if_neg (by rw[e];simp)];have:=ads [] u hu;rw[alJ]at this;exact this
def I64(m:Int):Prop:=-9223372036854775808<=m/\m<=9223372036854775807
theorem aaX{m:Int}(hm:I64 m):Lib.parseIntB 64 (Lib.itoa m)=.ok m:=by obtain⟨h0,h1⟩:=hm;unfold Lib.itoa;by_cases hn:m<0;rw[if_pos hn];simp only[Lib.parseIntB];have e45:(45:UInt8).toNat=45:=rfl;rw[if_pos (.inr e45),Vr aoz];simp only[e45];simp only[not_true_eq_false,false_and,if_false,true_and,if_true];rw[if_neg aoz];congr 1;omega;rw[if_neg hn];obtain⟨c,r,e,h2,h3,_⟩:=ya m.toNat;have hp:=Vr (u:=m.toNat) aoz;rw[e]at hp⊢;simp only[Lib.parseIntB];rw[if_neg aoz,hp];simp only;rw[if_neg aoz,if_neg aoz,if_neg aoz];congr 1;omega
theorem adF(m:Int):∃c r,Lib.itoa m=c::r/\(c.toNat=45\/48<=c.toNat/\c.toNat<=57)/\(c.toNat=48->r=[]):=by unfold Lib.itoa;by_cases hn:m<0;rw[if_pos hn];exact⟨45,_,rfl,.inl rfl,λh=>by simp at h⟩;rw[if_neg hn];obtain⟨c,r,e,h2,h3,h4⟩:=ya m.toNat;refine⟨c,r,e,.inr ⟨h2,h3⟩,λh=>?_⟩;rw[h4 h,Lib.decDigits,dif_pos aoz]at e;cases e;rfl
theorem TW{l:List UInt8}{v:Int}(h:Lib.parseIntB 64 l=.ok v):I64 v:=by unfold Lib.parseIntB at h;split at h;cases h;simp only at h;split at h;cases h;cases h;rename_i u _;split at h;cases h;rename_i h1;split at h;cases h;rename_i h2;cases h;unfold I64;by_cases e:(‹UInt8›).toNat=45;simp only[e,true_and,if_true]at h2⊢;omega;simp only[e,not_false_eq_true,true_and,if_false]at h1⊢;omega
def WM(l:List UInt8):Int:=match Lib.parseIntB 64 l with
 |.ok n=>n
 |.syntax=>0
 |.range=>Lib.intSat 64 l
def xP(l:List UInt8):Bool:=match Lib.parseIntB 64 l with
 |.ok n=>decide (Lib.itoa n=l)
 |_=>false
theorem afA{m:Int}(hm:I64 m):xP (Lib.itoa m)=true/\WM (Lib.itoa m)=m:=by simp[xP,WM,aaX hm]
theorem Rel.reblkLe(h:Rel w0 S0 E L w){c':List AV}(hL:L[i]?=some (.cells c))(hlen:c'.length<=c.length)(hv:∀(j:Nat) (a':AV),c'[j]?=some a'->∃a,c[j]?=some a/\∀v,VR E a v->VR E a' v):Rel w0 S0 E (L.set i (.cells c')) w:=by
 have hi:i<L.length:=(ald.1 hL).1;have fix:∀(j:Nat) (k:Blk),(L.set i (.cells c'))[j]?=some k->k.live=true->∃k',L[j]?=some k'/\k'.live=true:=λj k hk hl=>by rw[alC]at hk;split at hk;rename_i e;subst e;exact⟨_,hL,rfl⟩;exact⟨k,hk,hl⟩
 have fixs:∀(j n sz:Nat),(L.set i (.cells c'))[j]?=some (.spare n sz)->L[j]?=some (.spare n sz):=λj n sz hk=>by rw[alC]at hk;split at hk;cases hk;exact hk
 refine⟨h.mem,λj k hk=>?_,λi hi=>h.fresh i (by simpa using hi),λi k c hk hl hc=>?_,λi j k k' c c' hi li hj lj=>?_,
  λi hi=>h.tkfresh i (by simpa using hi),λi n sz t d hi=>h.tkown i n sz t d (fixs i n sz hi),λi n sz t d j k' c' hi ht hd hj hl=>?_,
  λi n sz t d i' n' sz' t' d' hi ht hd hi'=>h.tkinj i n sz t d i' n' sz' t' d' (fixs i n sz hi) ht hd (fixs i' n' sz' hi'),h.frame,h.size,h.os,h.tape,h.output,h.glob,h.gsz⟩
 rw[alC]at hk;split at hk;rename_i e;subst e;cases hk;obtain⟨cl,cs,ty,fr,g1,g2,g3,g4,g5,g6⟩:=h.blk _ _ hL;refine⟨cl,cs,ty,fr,g1,g2,g3,aoz,λj a ha=>?_,g6⟩;obtain⟨b,hb,hbv⟩:=hv j a ha;obtain⟨v,h1,h2⟩:=g5 j b hb;exact⟨v,h1,hbv v h2⟩;exact h.blk j k hk;obtain⟨k',h1,h2⟩:=fix i k hk hl;exact h.own i k' c h1 h2 hc;obtain⟨k1,h1,h2⟩:=fix i k hi li;obtain⟨k2,h3,h4⟩:=fix j k' hj lj;exact h.inj i j k1 k2 c c' h1 h2 h3 h4;obtain⟨k1,h1,h2⟩:=fix j k' hj hl;exact h.tkloc i n sz t d j k1 c' (fixs i n sz hi) ht hd h1 h2
theorem abU{K:AV->List Blk->Prop}{l':List AV}(hi:L[i]?=some (.cells (l++l')))(h:ad P f args (L.set i (.cells l)) K):ad P f args L K:=λw0 S0 E w vs hR hv =>
 h w0 S0 E w vs (hR.reblkLe hi aoA λj a ha=>⟨a,ak8 ha,λ_ h=>h⟩) hv
theorem aeN{zs:List Int}(h:Lib.TabIs P W name k zs)(hg:P.globalNamed name=some g):
  VRC ⟨(oa W).mem,λ_=>none,λ_=>none⟩ (zs.map (AV.int k)) g 0/\∃cs ty fr,W.heap[g]?=some (.cells cs ty fr)/\cs.size=(zs.map (AV.int k)).length:=by
 refine⟨VRC.of_get λi a ha=>?_,?_⟩;obtain⟨z,hz,rfl⟩:=al3 ..▸ha |> alI.1;have hi:=(ald.1 hz).1;refine⟨.int k z,?_,by simp[VR]⟩;have:=h.cell hg i hi;rw[alD,hz]at this;simpa[oa]using this;simp only[Lib.TabIs,World.var?,hg,ams]at h;split at h;rename_i cs ty fr he;refine⟨cs,ty,fr,he,?_⟩;rw[Option.some.inj h];simp;cases h
theorem ab4{tp:TypeId}{x:Value}(h:W.var? P name=some #[.iface tp x])(hg:P.globalNamed name=some g):
  VRC ⟨(oa W).mem,λ_=>none,λ_=>none⟩ [.iface tp .undef] g 0/\∃cs ty fr,W.heap[g]?=some (.cells cs ty fr)/\cs.size=[AV.iface tp .undef].length:=by
 refine⟨VRC.of_get λi a ha=>?_,?_⟩;cases i with
 | zero =>
   simp only[amd,alf]at ha;subst ha;have:=World.var?_cell hg h 0;exact⟨.iface tp x,by simpa[oa]using this,by simp[VR]⟩
 |succ i=>simp at ha
 simp only[World.var?,hg,ams]at h;split at h;rename_i cs ty fr he;exact⟨cs,ty,fr,he,by rw[Option.some.inj h];rfl⟩;cases h
theorem agh{m:Nat->Nat->Option Value}:(∀p∈([]:List (Nat×List AV)),VRC ⟨m,λ_=>none,λ_=>none⟩ p.2 p.1 0/\∃cs ty fr,w.heap[p.1]?=some (.cells cs ty fr)/\cs.size=p.2.length):=λ_ h=>by cases h
theorem rm{m:Nat->Nat->Option Value}{r:List (Nat×List AV)}(h:VRC ⟨m,λ_=>none,λ_=>none⟩ l g 0/\∃cs ty fr,w.heap[g]?=some (.cells cs ty fr)/\cs.size=l.length)(hr:∀p∈r,VRC ⟨m,λ_=>none,λ_=>none⟩ p.2 p.1 0/\∃cs ty fr,w.heap[p.1]?=some (.cells cs ty fr)/\cs.size=p.2.length):
  ∀p∈(g,l)::r,VRC ⟨m,λ_=>none,λ_=>none⟩ p.2 p.1 0/\∃cs ty fr,w.heap[p.1]?=some (.cells cs ty fr)/\cs.size=p.2.length:=λp hp=>by
 rcases alj.1 hp with rfl|hp;exact h;exact hr p hp
theorem adW(ho:∀g∈UM,∃z,(oa w).mem g 0=some (.int .i64 z))(h:∀p∈Mi,VRC ⟨(oa w).mem,λ_=>none,λ_=>none⟩ p.2 p.1 0/\∃cs ty fr,w.heap[p.1]?=some (.cells cs ty fr)/\cs.size=p.2.length):sd (oa w).mem/\th w :=
 ⟨⟨λp hp=>(h p hp).1,ho⟩,λp hp _=>(h p hp).2⟩
open Go Go.Lib
theorem ZG(h:W.ShapedOpen Tryz.prog):∀g∈UM,∃z,(oa W).mem g 0=some (.int .i64 z):=λg hg=>by simp only[UM,alB]at hg;subst hg;obtain⟨m,hm⟩:=cell_of_shapedOpen_int (zero:=#[.int .i64 0]) (t:=3) h (of_decide_eq_true aoB) aoB aoB aoB aoB Tryz.underlying3;exact⟨m,by simpa[oa]using hm⟩
theorem aiL{enc:TypeId×Value->H}{base:Nat}{sp:Nat->Bool}{held:Bool}{fuel:Nat}{cs:List Value}{x:DataW H×List MemPlace}(ht:P.underlying t=some (.array n e))(h:DataW.trod enc P w base sp held fuel t cs=some x):cs.length=P.cellsOf t:=by
 cases fuel with
 |zero=>simp[DataW.trod]at h
 | succ fuel =>
   simp only[DataW.trod,ht]at h;split at h
   .assumption
   .cases h
theorem Vb{d:DataW Unit}(h:VarReads P W name d)(hg:P.globalNamed name=some g)(hty:(P.globals[g]?).map (·.type)=some t)(ht:P.underlying t=some (.array n e)):
  ∃cs ty fr,W.heap[g]?=some (.cells cs ty fr)/\cs.size=P.cellsOf t:=by
 obtain⟨g',t',cs,fuel,p,hg',hty',hvar,hd⟩:=h;obtain rfl:=Option.some.inj (hg.symm.trans hg');obtain rfl:=Option.some.inj (hty.symm.trans hty');have hl:=aiL ht hd;simp only[World.var?,hg,ams]at hvar;split at hvar;rename_i cs' ty fr he;exact⟨cs',ty,fr,he,by rw[Option.some.inj hvar];simpa using hl⟩;cases hvar
theorem ru:U8Extra Tryz.prog Tryz.lays196_ren:={n3:=aoB,n4:=aoB,y3:=aoB,y4:=aoB,c5:=aoB,c119:=aoB,c138:=by kernel_rfl}
theorem Qf:U8Types Tryz.prog Tryz.lays196_ren:=U8Types.of196 Tryz.lays196
theorem Zb(h:∀i a,l[i]?=some a->∃k z,a=.int k z/\W.cell? ⟨g,i,none⟩=some (.int k z)):VRC ⟨(oa W).mem,λ_=>none,λ_=>none⟩ l g 0 :=
 VRC.of_get λi a ha=>by obtain⟨k,z,rfl,hc⟩:=h i a ha;exact⟨.int k z,by simpa[oa]using hc,by simp[VR]⟩
theorem agu(h3:VarReads Tryz.prog W "unicode/utf8.first" firstData)(h4:VarReads Tryz.prog W "unicode/utf8.acceptRanges" acceptData)(l:List AV)(hl:d7 0=some l):
  VRC ⟨(oa W).mem,λ_=>none,λ_=>none⟩ l 0 0/\∃cs ty fr,W.heap[0]?=some (.cells cs ty fr)/\cs.size=l.length:=by
 have hT:=utf8Tabs_of_readsT Qf ru h3 h4;have e:d7 0=some ((List.range 256).map λc=>AV.int .u8 (Lib.firstT c:Int)):=aoB;rw[e]at hl;obtain rfl:=Option.some.inj hl;refine⟨Zb λi a ha=>?_,?_⟩;simp only[al3,alI]at ha;obtain⟨c,hc,rfl⟩:=ha;have hi:i<256:=by have:=(ald.1 hc).1;simpa using this
 have hci:c=i:=by have:=(ald.1 hc).2;simpa using this.symm
 subst hci;exact⟨_,_,rfl,hT.1 c hi⟩;obtain⟨cs,ty,fr,h1,h2⟩:=Vb h3 ru.n3 ru.y3 Qf.t119;exact⟨cs,ty,fr,h1,by rw[h2,ru.c119];simp⟩
theorem agW:∀(n:Nat) (i:Nat) (a:AV),((List.range n).flatMap λi=>[AV.int .u8 (Lib.accLo i:Int),AV.int .u8 (Lib.accHi i:Int)])[i]?=some a->∃j,j<n/\((i=2*j/\a=.int .u8 (Lib.accLo j:Int))\/(i=2*j+1/\a=.int .u8 (Lib.accHi j:Int)))
 |0,i,a,h=>by simp at h
 | n+1,i,a,h=>by
   have hlen:∀n:Nat,((List.range n).flatMap λi=>[AV.int .u8 (Lib.accLo i:Int),AV.int .u8 (Lib.accHi i:Int)]).length=2*n:=λn=>by
    induction n with
    |zero=>simp
    |succ n ih=>rw[List.range_succ,anF,alw,ih];simp;omega
   rw[List.range_succ,anF]at h;rcases alA i (2*n)with hi|hi
   .rw[alm (by rw[hlen];exact hi)]at h;obtain⟨j,hj,hh⟩:=agW n i a h;exact⟨j,aoz,hh⟩
   .rw[alH (by rw[hlen];exact hi),hlen]at h;refine⟨n,aoz,?_⟩;rcases hk:i-2*n with _|_|k
    .rw[hk]at h;simp at h;exact .inl ⟨aoz,h.symm⟩
    .rw[hk]at h;simp at h;exact .inr ⟨aoz,h.symm⟩
    .rw[hk]at h;simp at h
theorem aj7(h3:VarReads Tryz.prog W "unicode/utf8.first" firstData)(h4:VarReads Tryz.prog W "unicode/utf8.acceptRanges" acceptData)(l:List AV)(hl:d7 1=some l):
  VRC ⟨(oa W).mem,λ_=>none,λ_=>none⟩ l 1 0/\∃cs ty fr,W.heap[1]?=some (.cells cs ty fr)/\cs.size=l.length:=by
 have hT:=utf8Tabs_of_readsT Qf ru h3 h4;have e:d7 1=some ((List.range 16).flatMap λi=>[AV.int .u8 (Lib.accLo i:Int),AV.int .u8 (Lib.accHi i:Int)]):=aoB;rw[e]at hl;obtain rfl:=Option.some.inj hl;refine⟨Zb λi a ha=>?_,?_⟩;obtain⟨j,hj,⟨rfl,rfl⟩|⟨rfl,rfl⟩⟩:=agW 16 i a ha;exact⟨_,_,rfl,(hT.2 j hj).1⟩;exact⟨_,_,rfl,(hT.2 j hj).2⟩;obtain⟨cs,ty,fr,h1,h2⟩:=Vb h4 ru.n4 ru.y4 Qf.t139;exact⟨cs,ty,fr,h1,by rw[h2,show Tryz.prog.cellsOf (Tryz.lays196_ren.t 139)=32 by kernel_rfl];rfl⟩
end Go.Proofs.YtcmfcpjnhephaaaGreatDoor.Av
