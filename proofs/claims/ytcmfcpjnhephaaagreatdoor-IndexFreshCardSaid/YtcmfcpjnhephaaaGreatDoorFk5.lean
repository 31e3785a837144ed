/- Joined texts of the walk, made small by a program. -/
import Derived.Shelf.Strings.Builder1
import Derived.Shelf.Strings.Builder2
import Derived.Shelf.Strings.OnBuilder
import Derived.Shelf.Small.Bits
import Derived.Shelf.Small.Strs
import Derived.Shelf.Strconv.Itoa0
import Derived.Shelf.Strconv.Itoa1
import Derived.Shelf.LaysM
import Derived.Shelf.Strconv.Itoa2
import Derived.Shelf.Strconv.Itoa3
import Derived.Shelf.Strconv.Itoa4
import Derived.Shelf.Strconv.ParseIntEmpty
import Derived.Shelf.Strconv.Clone
import Derived.Shelf.Strconv.SyntaxError
import Derived.Shelf.LaysC
import Derived.Shelf.Strconv.ToError
import Derived.Shelf.Strconv.Lower
import Derived.Shelf.Strconv.ParseUint10
import Derived.Shelf.Strconv.ParseUint10Empty
import Derived.Shelf.Strconv.ParseUint10Any
import Derived.Shelf.Strconv.ParseInt10
import Derived.Shelf.Strconv.RangeError
import Derived.Shelf.Strconv.ToErrorRange
import Derived.Shelf.Strconv.ParseUintEmpty
import Derived.Shelf.Strconv.ParseUint10b64
import Derived.Shelf.Strconv.ParseUint10b32
import Derived.Shelf.Strconv.ParseUint10b16
import Derived.Shelf.Strconv.ParseUint10b8
import Derived.Shelf.Strconv.ParseUint10At
import Derived.Shelf.Strconv.ParseInt10At64
import Derived.Shelf.Strconv.ParseInt10At32
import Derived.Shelf.Strconv.ParseInt10At16
import Derived.Shelf.Strconv.ParseInt10At8
import Derived.Shelf.Strconv.ParseInt10All
import Derived.Shelf.Strconv.ParseIntPublic10
import Derived.Shelf.Strconv.ErrVarParseInt
import Derived.Shelf.Strings.Search1
import Derived.Shelf.Strings.Search2
import Derived.Shelf.Strings.Search3
import Derived.Shelf.Strings.Cut
import Derived.Shelf.Strings.Shaped
import Derived.Shelf.Sort.Plain
import Derived.Shelf.GgClosure.StringsIndexFunc
import Derived.Ground.GgwProg
import Derived.Shelf.GgClosure.StringsIndexFuncTop
import Derived.Shelf.GgClosure.StringsRunes
import Derived.Shelf.Strings.Prefix
import Derived.Ground.Names2Prog
import Derived.Shelf.Slices.CompactI
import Derived.Shelf.Slices.SearchI
import Derived.Shelf.Slices.Cells
import Derived.Shelf.Slices.In.SortNone
import Derived.Shelf.Slices.Empties
import Derived.Shelf.Unicode.ValidAny
import Derived.Shelf.SlIterI.Nil
import Derived.Ground.GgzProg
import Derived.Shelf.Spec.SlicesGrow
import Derived.Ground.Names8Prog
import Derived.Shelf.SlMaps.Clone
import Derived.Ground.SlmcProg
import Derived.Test.YtcmfcpjnhephaaaGreatDoorProg
set_option linter.unusedSimpArgs false
set_option linter.unusedVariables false
namespace Go.Proofs
open Go.Shelf
def Tryz.lays156_ren:Go.Shelf.Ren:=⟨fun|156=>215|165=>236|166=>237|169=>238|240=>252|241=>253|276=>258|277=>259|n=>n,fun|31=>22|9=>9|3=>3|4=>4|0=>0|20=>20|72=>284|76=>285|70=>282|37=>151|75=>201|127=>290|164=>303|5=>5|80=>287|n=>n,fun|n=>n⟩
theorem Tryz.lays156:Go.Proofs.Lays.n156 Tryz.prog Tryz.lays156_ren:={
 mixed:=by kernel_rfl
 f156:=Tryz.func215.trans (congrArg some (by kernel_rfl))
 f165:=Tryz.func236.trans (congrArg some (by kernel_rfl))
 f166:=Tryz.func237.trans (congrArg some (by kernel_rfl))
 f169:=Tryz.func238.trans (congrArg some (by kernel_rfl))
 f240:=Tryz.func252.trans (congrArg some (by kernel_rfl))
 f241:=Tryz.func253.trans (congrArg some (by kernel_rfl))
 f276:=Tryz.func258.trans (congrArg some (by kernel_rfl))
 f277:=Tryz.func259.trans (congrArg some (by kernel_rfl))
 t0:=Tryz.underlying0
 a0:=Tryz.isAgg0
 z0:=Tryz.sizeOf0
 v0:=Tryz.zeroValue0
 t3:=Tryz.underlying3
 a3:=Tryz.isAgg3
 z3:=Tryz.sizeOf3
 v3:=Tryz.zeroValue3
 t4:=Tryz.underlying4
 a4:=Tryz.isAgg4
 z4:=Tryz.sizeOf4
 v4:=Tryz.zeroValue4
 t9:=Tryz.underlying9
 a9:=Tryz.isAgg9
 z9:=Tryz.sizeOf9
 v9:=Tryz.zeroValue9
 t20:=Tryz.underlying20
 a20:=Tryz.isAgg20
 z20:=Tryz.sizeOf20
 v20:=Tryz.zeroValue20
 t31:=Tryz.underlying22
 a31:=Tryz.isAgg22
 z31:=Tryz.sizeOf22
 v31:=Tryz.zeroValue22
 t37:=Tryz.underlying151
 a37:=Tryz.isAgg151
 z37:=Tryz.sizeOf151
 v37:=Tryz.zeroValue151
 t70:=Tryz.underlying282
 a70:=Tryz.isAgg282
 z70:=Tryz.sizeOf282
 v70:=Tryz.zeroValue282
 t72:=Tryz.underlying284
 a72:=Tryz.isAgg284
 z72:=Tryz.sizeOf284
 v72:=Tryz.zeroValue284
 t75:=Tryz.underlying201
 a75:=Tryz.isAgg201
 z75:=Tryz.sizeOf201
 v75:=Tryz.zeroValue201
 t76:=Tryz.underlying285
 a76:=Tryz.isAgg285
 z76:=Tryz.sizeOf285
 v76:=Tryz.zeroValue285
 t127:=Tryz.underlying290
 a127:=Tryz.isAgg290
 z127:=Tryz.sizeOf290
 v127:=Tryz.zeroValue290
 t164:=Tryz.underlying303
 a164:=Tryz.isAgg303
 z164:=Tryz.sizeOf303
 v164:=Tryz.zeroValue303 }
theorem Tryz.Builder_Extra_156:Builder.Extra Tryz.prog Tryz.lays156_ren:={
 sizeBuilder:=by kernel_rfl
 liesBuilder:=by kernel_rfl
 t5:=Tryz.underlying5
 a5:=Tryz.isAgg5
 z5:=Tryz.sizeOf5
 v5:=Tryz.zeroValue5
 infoByte:=by kernel_rfl
 cellsByte:=by kernel_rfl
 sizeByte:=by kernel_rfl
 neB5:=by decide }
open Go.RowKit in
theorem Tryz.strings_Join_none (a:Option Addr) (c:Nat) (sep:ByteArray) (w:World) :
 Calls Tryz.prog 215 #[.slice a 0 c,.string sep] w fun e w'=>e=.returned (.string ⟨#[]⟩)/\w'=w:=Any.strings_Join_none Tryz.lays156 Tryz.Builder_Extra_156 a c sep w
open Go.RowKit in
theorem Tryz.strings_Join (bk o c:Nat) (xs:List ByteArray) (sep:ByteArray) (w:World) (hcells:∀ (j:Nat) x,xs[j]?=some x->w.cell? ⟨bk,o+j,none⟩=some (.string x)) (hbk:bk<w.heap.size) (hN:xs.length<=140737488355328) (hcap:xs.length<=c) (hlen:(Lib.join (xs.map (·.data.toList)) sep.data.toList).length<=140737488355328) :
 Calls Tryz.prog 215 #[.slice (some ⟨bk,o,none⟩) xs.length c,.string sep] w fun e w'=>e=.returned (.string ⟨(Lib.join (xs.map (·.data.toList)) sep.data.toList).toArray⟩)/\Below w.heap.size w w':=Any.strings_Join Tryz.lays156 Tryz.Builder_Extra_156 bk o c xs sep w hcells hbk hN hcap hlen
def Tryz.lays106_ren:Go.Shelf.Ren:=⟨fun|106=>126|213=>163|265=>196|n=>n,fun|9=>9|3=>3|n=>n,fun|n=>n⟩
theorem Tryz.lays106:Go.Proofs.Lays.n106 Tryz.prog Tryz.lays106_ren:={
 mixed:=by kernel_rfl
 f106:=Tryz.func126.trans (congrArg some (by kernel_rfl))
 f213:=Tryz.func163.trans (congrArg some (by kernel_rfl))
 f265:=Tryz.func196.trans (congrArg some (by kernel_rfl))
 t3:=Tryz.underlying3
 a3:=Tryz.isAgg3
 z3:=Tryz.sizeOf3
 v3:=Tryz.zeroValue3
 t9:=Tryz.underlying9
 a9:=Tryz.isAgg9
 z9:=Tryz.sizeOf9
 v9:=Tryz.zeroValue9 }
open Go.RowKit in
theorem Tryz.strings_Compare (a b:ByteArray) (w:World) :
 Calls Tryz.prog 126 #[.string a,.string b] w fun e w'=>e=.returned (.int .i64 (Lib.compareBytes a.data.toList b.data.toList))/\w'=w:=Any.strings_Compare Tryz.lays106 a b w
def Tryz.lays137_ren:Go.Shelf.Ren:=⟨fun|137=>210|217=>192|266=>222|n=>n,fun|9=>9|5=>5|3=>3|n=>n,fun|n=>n⟩
theorem Tryz.lays137:Go.Proofs.Lays.n137 Tryz.prog Tryz.lays137_ren:={
 mixed:=by kernel_rfl
 f137:=Tryz.func210.trans (congrArg some (by kernel_rfl))
 f217:=Tryz.func192.trans (congrArg some (by kernel_rfl))
 f266:=Tryz.func222.trans (congrArg some (by kernel_rfl))
 t3:=Tryz.underlying3
 a3:=Tryz.isAgg3
 z3:=Tryz.sizeOf3
 v3:=Tryz.zeroValue3
 t5:=Tryz.underlying5
 a5:=Tryz.isAgg5
 z5:=Tryz.sizeOf5
 v5:=Tryz.zeroValue5
 t9:=Tryz.underlying9
 a9:=Tryz.isAgg9
 z9:=Tryz.sizeOf9
 v9:=Tryz.zeroValue9 }
open Go.RowKit in
theorem Tryz.strings_IndexByte (s:ByteArray) (c:Int) (w:World) :
 Calls Tryz.prog 210 #[.string s,.int .u8 c] w fun e w'=>e=.returned (.int .i64 (Lib.indexByte s.data.toList c.toNat.toUInt8))/\w'=w:=Any.strings_IndexByte Tryz.lays137 s c w
def Tryz.laysM173_ren:Go.Shelf.Ren:=⟨fun|173=>138|246=>173|283=>203|284=>204|285=>205|286=>206|129=>188|317=>229|318=>230|319=>231|320=>232|337=>241|338=>242|n=>n,fun|2=>2|3=>3|9=>9|4=>4|171=>256|0=>0|53=>232|37=>151|5=>5|173=>258|212=>276|51=>76|20=>20|213=>277|46=>176|232=>299|233=>300|n=>n,fun|17=>6|18=>7|19=>8|n=>n⟩
theorem Tryz.laysM173:Go.Proofs.LaysM.n173 Tryz.prog Tryz.laysM173_ren:={
 mixed:=by kernel_rfl
 f129:=Tryz.func188.trans (congrArg some (by kernel_rfl))
 f173:=Tryz.func138.trans (congrArg some (by kernel_rfl))
 f246:=Tryz.func173.trans (congrArg some (by kernel_rfl))
 f283:=Tryz.func203.trans (congrArg some (by kernel_rfl))
 f284:=Tryz.func204.trans (congrArg some (by kernel_rfl))
 f285:=Tryz.func205.trans (congrArg some (by kernel_rfl))
 f286:=Tryz.func206.trans (congrArg some (by kernel_rfl))
 f317:=Tryz.func229.trans (congrArg some (by kernel_rfl))
 f318:=Tryz.func230.trans (congrArg some (by kernel_rfl))
 f319:=Tryz.func231.trans (congrArg some (by kernel_rfl))
 f320:=Tryz.func232.trans (congrArg some (by kernel_rfl))
 f337:=Tryz.func241.trans (congrArg some (by kernel_rfl))
 f338:=Tryz.func242.trans (congrArg some (by kernel_rfl))
 t0:=Tryz.underlying0
 a0:=Tryz.isAgg0
 z0:=Tryz.sizeOf0
 v0:=Tryz.zeroValue0
 t2:=Tryz.underlying2
 a2:=Tryz.isAgg2
 z2:=Tryz.sizeOf2
 v2:=Tryz.zeroValue2
 t3:=Tryz.underlying3
 a3:=Tryz.isAgg3
 z3:=Tryz.sizeOf3
 v3:=Tryz.zeroValue3
 t4:=Tryz.underlying4
 a4:=Tryz.isAgg4
 z4:=Tryz.sizeOf4
 v4:=Tryz.zeroValue4
 t5:=Tryz.underlying5
 a5:=Tryz.isAgg5
 z5:=Tryz.sizeOf5
 v5:=Tryz.zeroValue5
 t9:=Tryz.underlying9
 a9:=Tryz.isAgg9
 z9:=Tryz.sizeOf9
 v9:=Tryz.zeroValue9
 t20:=Tryz.underlying20
 a20:=Tryz.isAgg20
 z20:=Tryz.sizeOf20
 v20:=Tryz.zeroValue20
 t37:=Tryz.underlying151
 a37:=Tryz.isAgg151
 z37:=Tryz.sizeOf151
 v37:=Tryz.zeroValue151
 t46:=Tryz.underlying176
 a46:=Tryz.isAgg176
 z46:=Tryz.sizeOf176
 v46:=Tryz.zeroValue176
 t51:=Tryz.underlying76
 a51:=Tryz.isAgg76
 z51:=Tryz.sizeOf76
 v51:=Tryz.zeroValue76
 t53:=Tryz.underlying232
 a53:=Tryz.isAgg232
 z53:=Tryz.sizeOf232
 v53:=Tryz.zeroValue232
 t171:=Tryz.underlying256
 a171:=Tryz.isAgg256
 z171:=Tryz.sizeOf256
 v171:=Tryz.zeroValue256
 t173:=Tryz.underlying258
 a173:=Tryz.isAgg258
 z173:=Tryz.sizeOf258
 v173:=Tryz.zeroValue258
 t212:=Tryz.underlying276
 a212:=Tryz.isAgg276
 z212:=Tryz.sizeOf276
 v212:=Tryz.zeroValue276
 t213:=Tryz.underlying277
 a213:=Tryz.isAgg277
 z213:=Tryz.sizeOf277
 t232:=Tryz.underlying299
 a232:=Tryz.isAgg299
 z232:=Tryz.sizeOf299
 v232:=Tryz.zeroValue299
 t233:=Tryz.underlying300
 a233:=Tryz.isAgg300
 z233:=Tryz.sizeOf300
 v233:=Tryz.zeroValue300
 g17:=by kernel_rfl
 g18:=by kernel_rfl
 g19:=by kernel_rfl
 i0:=by kernel_rfl
 i2:=by kernel_rfl
 i3:=by kernel_rfl
 i4:=by kernel_rfl
 i5:=by kernel_rfl
 i9:=by kernel_rfl
 i20:=by kernel_rfl
 i37:=by kernel_rfl
 i46:=by kernel_rfl
 i51:=by kernel_rfl
 i53:=by kernel_rfl
 i171:=by kernel_rfl
 i173:=by kernel_rfl
 i212:=by kernel_rfl
 i232:=by kernel_rfl
 i233:=by kernel_rfl
 m17:=by kernel_rfl
 m18:=by kernel_rfl
 m19:=by kernel_rfl }
open Go.RowKit Go.Sort Go.Lib in
theorem Tryz.strconv_FormatInt_10 (n:Int) (h0 : -9223372036854775808<=n) (h1:n<=9223372036854775807) (w:World) (htab:Lib.TabIs Tryz.prog w "internal/strconv.uint64pow10" .u64 Lib.pow10Tab) :
 Calls Tryz.prog 138 #[.int .i64 n,.int .i64 10] w fun e w'=>e=.returned (.string ⟨(Lib.itoa n).toArray⟩)/\∃ k os,w'=grow (w.drewN k) os:=Any.strconv_FormatInt_10 Tryz.laysM173 n h0 h1 w htab
def Tryz.laysC174_ren:Go.Shelf.Ren:=⟨fun|174=>137|247=>171|245=>172|287=>198|279=>199|280=>200|281=>201|282=>202|321=>224|322=>225|316=>226|171=>228|205=>227|243=>240|246=>173|283=>203|284=>204|285=>205|286=>206|129=>188|317=>229|318=>230|319=>231|320=>232|337=>241|338=>242|n=>n,fun|9=>9|3=>3|2=>2|75=>201|85=>202|4=>4|167=>249|5=>5|53=>232|175=>250|46=>176|168=>252|37=>151|0=>0|210=>274|21=>21|127=>290|145=>293|143=>291|171=>256|173=>258|212=>276|51=>76|20=>20|213=>277|232=>299|233=>300|80=>287|n=>n,fun|15=>4|16=>5|17=>6|18=>7|19=>8|n=>n⟩
theorem Tryz.laysC174:Go.Proofs.LaysC.n174 Tryz.prog Tryz.laysC174_ren:={
 mixed:=by kernel_rfl
 f129:=Tryz.func188.trans (congrArg some (by kernel_rfl))
 f171:=Tryz.func228.trans (congrArg some (by kernel_rfl))
 f174:=Tryz.func137.trans (congrArg some (by kernel_rfl))
 f205:=Tryz.func227.trans (congrArg some (by kernel_rfl))
 f243:=Tryz.func240.trans (congrArg some (by kernel_rfl))
 f245:=Tryz.func172.trans (congrArg some (by kernel_rfl))
 f246:=Tryz.func173.trans (congrArg some (by kernel_rfl))
 f247:=Tryz.func171.trans (congrArg some (by kernel_rfl))
 f279:=Tryz.func199.trans (congrArg some (by kernel_rfl))
 f280:=Tryz.func200.trans (congrArg some (by kernel_rfl))
 f281:=Tryz.func201.trans (congrArg some (by kernel_rfl))
 f282:=Tryz.func202.trans (congrArg some (by kernel_rfl))
 f283:=Tryz.func203.trans (congrArg some (by kernel_rfl))
 f284:=Tryz.func204.trans (congrArg some (by kernel_rfl))
 f285:=Tryz.func205.trans (congrArg some (by kernel_rfl))
 f286:=Tryz.func206.trans (congrArg some (by kernel_rfl))
 f287:=Tryz.func198.trans (congrArg some (by kernel_rfl))
 f316:=Tryz.func226.trans (congrArg some (by kernel_rfl))
 f317:=Tryz.func229.trans (congrArg some (by kernel_rfl))
 f318:=Tryz.func230.trans (congrArg some (by kernel_rfl))
 f319:=Tryz.func231.trans (congrArg some (by kernel_rfl))
 f320:=Tryz.func232.trans (congrArg some (by kernel_rfl))
 f321:=Tryz.func224.trans (congrArg some (by kernel_rfl))
 f322:=Tryz.func225.trans (congrArg some (by kernel_rfl))
 f337:=Tryz.func241.trans (congrArg some (by kernel_rfl))
 f338:=Tryz.func242.trans (congrArg some (by kernel_rfl))
 t0:=Tryz.underlying0
 a0:=Tryz.isAgg0
 z0:=Tryz.sizeOf0
 v0:=Tryz.zeroValue0
 t2:=Tryz.underlying2
 a2:=Tryz.isAgg2
 z2:=Tryz.sizeOf2
 v2:=Tryz.zeroValue2
 t3:=Tryz.underlying3
 a3:=Tryz.isAgg3
 z3:=Tryz.sizeOf3
 v3:=Tryz.zeroValue3
 t4:=Tryz.underlying4
 a4:=Tryz.isAgg4
 z4:=Tryz.sizeOf4
 v4:=Tryz.zeroValue4
 t5:=Tryz.underlying5
 a5:=Tryz.isAgg5
 z5:=Tryz.sizeOf5
 v5:=Tryz.zeroValue5
 t9:=Tryz.underlying9
 a9:=Tryz.isAgg9
 z9:=Tryz.sizeOf9
 v9:=Tryz.zeroValue9
 t20:=Tryz.underlying20
 a20:=Tryz.isAgg20
 z20:=Tryz.sizeOf20
 v20:=Tryz.zeroValue20
 t21:=Tryz.underlying21
 a21:=Tryz.isAgg21
 z21:=Tryz.sizeOf21
 v21:=Tryz.zeroValue21
 t37:=Tryz.underlying151
 a37:=Tryz.isAgg151
 z37:=Tryz.sizeOf151
 v37:=Tryz.zeroValue151
 t46:=Tryz.underlying176
 a46:=Tryz.isAgg176
 z46:=Tryz.sizeOf176
 v46:=Tryz.zeroValue176
 t51:=Tryz.underlying76
 a51:=Tryz.isAgg76
 z51:=Tryz.sizeOf76
 v51:=Tryz.zeroValue76
 t53:=Tryz.underlying232
 a53:=Tryz.isAgg232
 z53:=Tryz.sizeOf232
 v53:=Tryz.zeroValue232
 t75:=Tryz.underlying201
 a75:=Tryz.isAgg201
 z75:=Tryz.sizeOf201
 v75:=Tryz.zeroValue201
 t85:=Tryz.underlying202
 a85:=Tryz.isAgg202
 z85:=Tryz.sizeOf202
 v85:=Tryz.zeroValue202
 t127:=Tryz.underlying290
 a127:=Tryz.isAgg290
 z127:=Tryz.sizeOf290
 v127:=Tryz.zeroValue290
 t143:=Tryz.underlying291
 a143:=Tryz.isAgg291
 z143:=Tryz.sizeOf291
 v143:=Tryz.zeroValue291
 t145:=Tryz.underlying293
 a145:=Tryz.isAgg293
 z145:=Tryz.sizeOf293
 v145:=Tryz.zeroValue293
 t167:=Tryz.underlying249
 a167:=Tryz.isAgg249
 z167:=Tryz.sizeOf249
 v167:=Tryz.zeroValue249
 t168:=Tryz.underlying252
 a168:=Tryz.isAgg252
 z168:=Tryz.sizeOf252
 v168:=Tryz.zeroValue252
 t171:=Tryz.underlying256
 a171:=Tryz.isAgg256
 z171:=Tryz.sizeOf256
 v171:=Tryz.zeroValue256
 t173:=Tryz.underlying258
 a173:=Tryz.isAgg258
 z173:=Tryz.sizeOf258
 v173:=Tryz.zeroValue258
 t175:=Tryz.underlying250
 a175:=Tryz.isAgg250
 z175:=Tryz.sizeOf250
 v175:=Tryz.zeroValue250
 t210:=Tryz.underlying274
 a210:=Tryz.isAgg274
 z210:=Tryz.sizeOf274
 v210:=Tryz.zeroValue274
 t212:=Tryz.underlying276
 a212:=Tryz.isAgg276
 z212:=Tryz.sizeOf276
 v212:=Tryz.zeroValue276
 t213:=Tryz.underlying277
 a213:=Tryz.isAgg277
 z213:=Tryz.sizeOf277
 t232:=Tryz.underlying299
 a232:=Tryz.isAgg299
 z232:=Tryz.sizeOf299
 v232:=Tryz.zeroValue299
 t233:=Tryz.underlying300
 a233:=Tryz.isAgg300
 z233:=Tryz.sizeOf300
 v233:=Tryz.zeroValue300
 g15:=by kernel_rfl
 g16:=by kernel_rfl
 g17:=by kernel_rfl
 g18:=by kernel_rfl
 g19:=by kernel_rfl
 t80:=Tryz.underlying287
 a80:=Tryz.isAgg287
 z80:=Tryz.sizeOf287
 v80:=Tryz.zeroValue287
 i0:=by kernel_rfl
 i2:=by kernel_rfl
 i3:=by kernel_rfl
 i4:=by kernel_rfl
 i5:=by kernel_rfl
 i9:=by kernel_rfl
 i20:=by kernel_rfl
 i21:=by kernel_rfl
 i37:=by kernel_rfl
 i46:=by kernel_rfl
 i51:=by kernel_rfl
 i53:=by kernel_rfl
 i75:=by kernel_rfl
 i80:=by kernel_rfl
 i85:=by kernel_rfl
 i127:=by kernel_rfl
 i143:=by kernel_rfl
 i145:=by kernel_rfl
 i167:=by kernel_rfl
 i168:=by kernel_rfl
 i171:=by kernel_rfl
 i173:=by kernel_rfl
 i175:=by kernel_rfl
 i210:=by kernel_rfl
 i212:=by kernel_rfl
 i232:=by kernel_rfl
 i233:=by kernel_rfl
 m15:=by kernel_rfl
 m16:=by kernel_rfl
 m17:=by kernel_rfl
 m18:=by kernel_rfl
 m19:=by kernel_rfl
 c0:=by kernel_rfl
 c2:=by kernel_rfl
 c3:=by kernel_rfl
 c4:=by kernel_rfl
 c5:=by kernel_rfl
 c9:=by kernel_rfl
 c20:=by kernel_rfl
 c21:=by kernel_rfl
 c37:=by kernel_rfl
 c46:=by kernel_rfl
 c51:=by kernel_rfl
 c53:=by kernel_rfl
 c75:=by kernel_rfl
 c80:=by kernel_rfl
 c85:=by kernel_rfl
 c127:=by kernel_rfl
 c143:=by kernel_rfl
 c145:=by kernel_rfl
 c167:=by kernel_rfl
 c168:=by kernel_rfl
 c171:=by kernel_rfl
 c173:=by kernel_rfl
 c175:=by kernel_rfl
 c210:=by kernel_rfl
 c212:=by kernel_rfl
 c213:=by kernel_rfl
 c232:=by kernel_rfl
 c233:=by kernel_rfl }
open Go.RowKit in
theorem Tryz.strconv_ParseInt_10_at64_ok (s:ByteArray) (hmax:s.size<=9223372036854775806) (v:Int) (h:Lib.parseIntB 64 s.data.toList=.ok v) (w:World) :
 Calls Tryz.prog 137 #[.string s,.int .i64 10,.int .i64 64] w fun e w'=>e=.returned (.tuple #[.int .i64 v,.nilIface])/\(w'=w\/∃ t,w'=Lib.bytesWorld w 5 t):=Any.strconv_ParseInt_10_at64_ok Tryz.laysC174 s hmax v h w
open Go.RowKit in
theorem Tryz.strconv_ParseInt_10_at64_syntax (s:ByteArray) (hlim:s.size<=281474976710656) (h:Lib.parseIntB 64 s.data.toList=.syntax) (ev:Value) (w:World) (hv:w.cell? ⟨4,0,none⟩=some ev) (hev:ev=.nilIface\/∃ te pe,ev=.iface te pe) :
 Calls Tryz.prog 137 #[.string s,.int .i64 10,.int .i64 64] w fun e w'=>∃ N,e=.returned (.tuple #[.int .i64 (0),.iface 252 (.pointer (some ⟨N,0,none⟩))])/\w.heap.size<=N/\w'.heap[N]?=some (.cells #[.string ⟨#[80,97,114,115,101,73,110,116]⟩,.string s,ev] 274 (0,0))/\Below w.heap.size w w':=Any.strconv_ParseInt_10_at64_syntax Tryz.laysC174 s hlim h ev w hv hev
open Go.RowKit in
theorem Tryz.strconv_ParseInt_10_at64_range (s:ByteArray) (hlim:s.size<=281474976710656) (h:Lib.parseIntB 64 s.data.toList=.range) (ev:Value) (w:World) (hv:w.cell? ⟨5,0,none⟩=some ev) (hev:ev=.nilIface\/∃ te pe,ev=.iface te pe) :
 Calls Tryz.prog 137 #[.string s,.int .i64 10,.int .i64 64] w fun e w'=>∃ N,e=.returned (.tuple #[.int .i64 (Lib.intSat 64 s.data.toList),.iface 252 (.pointer (some ⟨N,0,none⟩))])/\w.heap.size<=N/\w'.heap[N]?=some (.cells #[.string ⟨#[80,97,114,115,101,73,110,116]⟩,.string s,ev] 274 (0,0))/\Below w.heap.size w w':=Any.strconv_ParseInt_10_at64_range Tryz.laysC174 s hlim h ev w hv hev
def Tryz.lays219_ren:Go.Shelf.Ren:=⟨fun|219=>159|217=>192|225=>193|224=>194|267=>195|266=>222|314=>223|n=>n,fun|9=>9|3=>3|4=>4|5=>5|46=>176|146=>271|51=>76|n=>n,fun|1=>3|n=>n⟩
theorem Tryz.lays219:Go.Proofs.Lays.n219 Tryz.prog Tryz.lays219_ren:={
 mixed:=by kernel_rfl
 f217:=Tryz.func192.trans (congrArg some (by kernel_rfl))
 f219:=Tryz.func159.trans (congrArg some (by kernel_rfl))
 f224:=Tryz.func194.trans (congrArg some (by kernel_rfl))
 f225:=Tryz.func193.trans (congrArg some (by kernel_rfl))
 f266:=Tryz.func222.trans (congrArg some (by kernel_rfl))
 f267:=Tryz.func195.trans (congrArg some (by kernel_rfl))
 f314:=Tryz.func223.trans (congrArg some (by kernel_rfl))
 t3:=Tryz.underlying3
 a3:=Tryz.isAgg3
 z3:=Tryz.sizeOf3
 v3:=Tryz.zeroValue3
 t4:=Tryz.underlying4
 a4:=Tryz.isAgg4
 z4:=Tryz.sizeOf4
 v4:=Tryz.zeroValue4
 t5:=Tryz.underlying5
 a5:=Tryz.isAgg5
 z5:=Tryz.sizeOf5
 v5:=Tryz.zeroValue5
 t9:=Tryz.underlying9
 a9:=Tryz.isAgg9
 z9:=Tryz.sizeOf9
 v9:=Tryz.zeroValue9
 t46:=Tryz.underlying176
 a46:=Tryz.isAgg176
 z46:=Tryz.sizeOf176
 v46:=Tryz.zeroValue176
 t51:=Tryz.underlying76
 a51:=Tryz.isAgg76
 z51:=Tryz.sizeOf76
 v51:=Tryz.zeroValue76
 t146:=Tryz.underlying271
 a146:=Tryz.isAgg271
 z146:=Tryz.sizeOf271
 v146:=Tryz.zeroValue271
 g1:=by kernel_rfl }
open Go.RowKit Go.Lib in
theorem Tryz.stringslite_Index_one (s:ByteArray) (c:UInt8) (w:World) :
 Calls Tryz.prog 159 #[.string s,.string ⟨#[c]⟩] w fun e w'=>e=.returned (.int .i64 (Lib.indexByte s.data.toList c))/\w'=w:=Any.stringslite_Index_one Tryz.lays219 s c w
def Tryz.lays189_ren:Go.Shelf.Ren:=⟨fun|189=>105|125=>149|257=>148|128=>187|129=>188|294=>179|295=>180|296=>181|297=>182|298=>183|299=>184|216=>117|300=>185|301=>186|328=>216|329=>217|330=>218|331=>219|332=>220|215=>154|343=>239|n=>n,fun|28=>43|3=>3|46=>176|0=>0|51=>76|53=>232|4=>4|183=>240|182=>239|131=>133|5=>5|9=>9|218=>265|222=>125|228=>288|229=>156|n=>n,fun|n=>n⟩
theorem Tryz.lays189:Go.Proofs.Lays.n189 Tryz.prog Tryz.lays189_ren:={
 mixed:=by kernel_rfl
 f125:=Tryz.func149.trans (congrArg some (by kernel_rfl))
 f128:=Tryz.func187.trans (congrArg some (by kernel_rfl))
 f129:=Tryz.func188.trans (congrArg some (by kernel_rfl))
 f189:=Tryz.func105.trans (congrArg some (by kernel_rfl))
 f215:=Tryz.func154.trans (congrArg some (by kernel_rfl))
 f216:=Tryz.func117.trans (congrArg some (by kernel_rfl))
 f257:=Tryz.func148.trans (congrArg some (by kernel_rfl))
 f294:=Tryz.func179.trans (congrArg some (by kernel_rfl))
 f295:=Tryz.func180.trans (congrArg some (by kernel_rfl))
 f296:=Tryz.func181.trans (congrArg some (by kernel_rfl))
 f297:=Tryz.func182.trans (congrArg some (by kernel_rfl))
 f298:=Tryz.func183.trans (congrArg some (by kernel_rfl))
 f299:=Tryz.func184.trans (congrArg some (by kernel_rfl))
 f300:=Tryz.func185.trans (congrArg some (by kernel_rfl))
 f301:=Tryz.func186.trans (congrArg some (by kernel_rfl))
 f328:=Tryz.func216.trans (congrArg some (by kernel_rfl))
 f329:=Tryz.func217.trans (congrArg some (by kernel_rfl))
 f330:=Tryz.func218.trans (congrArg some (by kernel_rfl))
 f331:=Tryz.func219.trans (congrArg some (by kernel_rfl))
 f332:=Tryz.func220.trans (congrArg some (by kernel_rfl))
 f343:=Tryz.func239.trans (congrArg some (by kernel_rfl))
 t0:=Tryz.underlying0
 a0:=Tryz.isAgg0
 z0:=Tryz.sizeOf0
 v0:=Tryz.zeroValue0
 t3:=Tryz.underlying3
 a3:=Tryz.isAgg3
 z3:=Tryz.sizeOf3
 v3:=Tryz.zeroValue3
 t4:=Tryz.underlying4
 a4:=Tryz.isAgg4
 z4:=Tryz.sizeOf4
 v4:=Tryz.zeroValue4
 t5:=Tryz.underlying5
 a5:=Tryz.isAgg5
 z5:=Tryz.sizeOf5
 v5:=Tryz.zeroValue5
 t9:=Tryz.underlying9
 a9:=Tryz.isAgg9
 z9:=Tryz.sizeOf9
 v9:=Tryz.zeroValue9
 t28:=Tryz.underlying43
 a28:=Tryz.isAgg43
 z28:=Tryz.sizeOf43
 v28:=Tryz.zeroValue43
 t46:=Tryz.underlying176
 a46:=Tryz.isAgg176
 z46:=Tryz.sizeOf176
 v46:=Tryz.zeroValue176
 t51:=Tryz.underlying76
 a51:=Tryz.isAgg76
 z51:=Tryz.sizeOf76
 v51:=Tryz.zeroValue76
 t53:=Tryz.underlying232
 a53:=Tryz.isAgg232
 z53:=Tryz.sizeOf232
 v53:=Tryz.zeroValue232
 t131:=Tryz.underlying133
 a131:=Tryz.isAgg133
 z131:=Tryz.sizeOf133
 v131:=Tryz.zeroValue133
 t182:=Tryz.underlying239
 a182:=Tryz.isAgg239
 z182:=Tryz.sizeOf239
 v182:=Tryz.zeroValue239
 t183:=Tryz.underlying240
 a183:=Tryz.isAgg240
 z183:=Tryz.sizeOf240
 v183:=Tryz.zeroValue240
 t218:=Tryz.underlying265
 a218:=Tryz.isAgg265
 z218:=Tryz.sizeOf265
 v218:=Tryz.zeroValue265
 t222:=Tryz.underlying125
 a222:=Tryz.isAgg125
 z222:=Tryz.sizeOf125
 v222:=Tryz.zeroValue125
 t228:=Tryz.underlying288
 a228:=Tryz.isAgg288
 z228:=Tryz.sizeOf288
 v228:=Tryz.zeroValue288
 t229:=Tryz.underlying156
 a229:=Tryz.isAgg156
 z229:=Tryz.sizeOf156
 v229:=Tryz.zeroValue156 }
open Go.Sort Go.RowKit in
theorem Tryz.slices_Sort_int (blk off cap:Nat) (zs:List Int) (w:World) (hH:Holds (Value.int .i64) w blk off zs.toArray) (hblk:blk<w.heap.size) (hsz:zs.length<4611686018427387904) :
 Calls Tryz.prog 105 #[.slice (some ⟨blk,off,none⟩) zs.length cap] w fun e w' =>
  e=.returned (.tuple #[])/\∃ n os,w'=grow (putRow (Value.int .i64) (Sort.ahead w n) blk off (zs.mergeSort fun x y=>decide (x<=y)).toArray) os:=Any.slices_Sort_int Tryz.lays189 blk off cap zs w hH hblk hsz
open Go.RowKit Go.Sort in
theorem Tryz.slices_Sort_int_none (p:Option Addr) (cap:Nat) (w:World) :
 Calls Tryz.prog 105 #[.slice p 0 cap] w fun e w'=>e=.returned (.tuple #[])/\w'=w:=Any.slices_Sort_int_none Tryz.lays189 p cap w
def Tryz.lays196_ren:Go.Shelf.Ren:=⟨fun|196=>96|259=>135|n=>n,fun|9=>9|4=>4|3=>3|5=>5|12=>12|119=>195|0=>0|46=>176|139=>198|138=>197|53=>232|n=>n,fun|3=>0|4=>1|n=>n⟩
theorem Tryz.lays196:Go.Proofs.Lays.n196 Tryz.prog Tryz.lays196_ren:={
 mixed:=by kernel_rfl
 f196:=Tryz.func96.trans (congrArg some (by kernel_rfl))
 f259:=Tryz.func135.trans (congrArg some (by kernel_rfl))
 t0:=Tryz.underlying0
 a0:=Tryz.isAgg0
 z0:=Tryz.sizeOf0
 v0:=Tryz.zeroValue0
 t3:=Tryz.underlying3
 a3:=Tryz.isAgg3
 z3:=Tryz.sizeOf3
 v3:=Tryz.zeroValue3
 t4:=Tryz.underlying4
 a4:=Tryz.isAgg4
 z4:=Tryz.sizeOf4
 v4:=Tryz.zeroValue4
 t5:=Tryz.underlying5
 a5:=Tryz.isAgg5
 z5:=Tryz.sizeOf5
 v5:=Tryz.zeroValue5
 t9:=Tryz.underlying9
 a9:=Tryz.isAgg9
 z9:=Tryz.sizeOf9
 v9:=Tryz.zeroValue9
 t12:=Tryz.underlying12
 a12:=Tryz.isAgg12
 z12:=Tryz.sizeOf12
 v12:=Tryz.zeroValue12
 t46:=Tryz.underlying176
 a46:=Tryz.isAgg176
 z46:=Tryz.sizeOf176
 v46:=Tryz.zeroValue176
 t53:=Tryz.underlying232
 a53:=Tryz.isAgg232
 z53:=Tryz.sizeOf232
 v53:=Tryz.zeroValue232
 t119:=Tryz.underlying195
 a119:=Tryz.isAgg195
 z119:=Tryz.sizeOf195
 t138:=Tryz.underlying197
 a138:=Tryz.isAgg197
 z138:=Tryz.sizeOf197
 v138:=Tryz.zeroValue197
 t139:=Tryz.underlying198
 a139:=Tryz.isAgg198
 z139:=Tryz.sizeOf198
 v139:=Tryz.zeroValue198
 g3:=by kernel_rfl
 g4:=by kernel_rfl }
def Tryz.keysA_ren:Go.Shelf.Ren:=⟨fun|7=>88|10=>129|n=>n,fun|23=>101|26=>3|3=>4|28=>122|0=>0|27=>121|33=>135|4=>4|n=>n,fun|n=>n⟩
theorem Tryz.keysA:Go.Proofs.SlLaysZI.n7 Tryz.prog Tryz.keysA_ren:={
 mixed:=by kernel_rfl
 f7:=⟨Tryz.f88.name,by decide,Tryz.func88.trans (congrArg some (by kernel_rfl))⟩
 f10:=⟨Tryz.f129.name,by decide,Tryz.func129.trans (congrArg some (by kernel_rfl))⟩
 t0:=Tryz.underlying0
 a0:=Tryz.isAgg0
 z0:=Tryz.sizeOf0
 v0:=Tryz.zeroValue0
 t4:=Tryz.underlying4
 a4:=Tryz.isAgg4
 z4:=Tryz.sizeOf4
 v4:=Tryz.zeroValue4
 t23:=Tryz.underlying101
 a23:=Tryz.isAgg101
 z23:=Tryz.sizeOf101
 v23:=Tryz.zeroValue101
 t26:=Tryz.underlying3
 a26:=Tryz.isAgg3
 z26:=Tryz.sizeOf3
 v26:=Tryz.zeroValue3
 t27:=Tryz.underlying121
 a27:=Tryz.isAgg121
 z27:=Tryz.sizeOf121
 v27:=Tryz.zeroValue121
 t28:=Tryz.underlying122
 a28:=Tryz.isAgg122
 z28:=Tryz.sizeOf122
 v28:=Tryz.zeroValue122
 t33:=Tryz.underlying135
 a33:=Tryz.isAgg135
 z33:=Tryz.sizeOf135
 v33:=Tryz.zeroValue135 }
def Tryz.sortedA_ren:Go.Shelf.Ren:=⟨fun|6=>55|8=>104|9=>105|11=>147|13=>149|12=>148|23=>187|24=>188|14=>179|15=>180|16=>181|17=>182|18=>183|19=>184|20=>117|21=>185|22=>186|25=>216|26=>217|27=>218|28=>219|29=>220|30=>154|31=>239|n=>n,fun|26=>3|28=>122|24=>43|0=>0|3=>3|37=>176|48=>76|50=>232|4=>4|40=>240|39=>239|45=>133|5=>5|9=>9|51=>265|55=>125|57=>288|58=>156|33=>135|n=>n,fun|n=>n⟩
theorem Tryz.sortedA:Go.Proofs.SlLaysZI.n6 Tryz.prog Tryz.sortedA_ren:={
 mixed:=by kernel_rfl
 f6:=⟨Tryz.f55.name,by decide,Tryz.func55.trans (congrArg some (by kernel_rfl))⟩
 f8:=⟨Tryz.f104.name,by decide,Tryz.func104.trans (congrArg some (by kernel_rfl))⟩
 f11:=⟨Tryz.f147.name,by decide,Tryz.func147.trans (congrArg some (by kernel_rfl))⟩
 t0:=Tryz.underlying0
 a0:=Tryz.isAgg0
 z0:=Tryz.sizeOf0
 v0:=Tryz.zeroValue0
 t24:=Tryz.underlying43
 a24:=Tryz.isAgg43
 z24:=Tryz.sizeOf43
 v24:=Tryz.zeroValue43
 t26:=Tryz.underlying3
 a26:=Tryz.isAgg3
 z26:=Tryz.sizeOf3
 v26:=Tryz.zeroValue3
 t28:=Tryz.underlying122
 a28:=Tryz.isAgg122
 z28:=Tryz.sizeOf122
 v28:=Tryz.zeroValue122
 i26:=by kernel_rfl }
def Tryz.cloneM_ren:Go.Shelf.Ren:=⟨fun|5=>40|7=>87|n=>n,fun|23=>101|25=>3|3=>4|4=>4|20=>20|n=>n,fun|n=>n⟩
theorem Tryz.cloneM:Go.Proofs.SlLaysW.n5 Tryz.prog Tryz.cloneM_ren:={
 mixed:=by kernel_rfl
 f5:=⟨Tryz.f40.name,by decide,Tryz.func40.trans (congrArg some (by kernel_rfl))⟩
 f7:=Tryz.func87.trans (congrArg some (by kernel_rfl))
 t4:=Tryz.underlying4
 a4:=Tryz.isAgg4
 z4:=Tryz.sizeOf4
 v4:=Tryz.zeroValue4
 t20:=Tryz.underlying20
 a20:=Tryz.isAgg20
 z20:=Tryz.sizeOf20
 v20:=Tryz.zeroValue20
 t23:=Tryz.underlying101
 a23:=Tryz.isAgg101
 z23:=Tryz.sizeOf101
 v23:=Tryz.zeroValue101 }
def Tryz.keysB_ren:Go.Shelf.Ren:=⟨fun|7=>56|10=>106|n=>n,fun|23=>94|26=>3|3=>46|28=>122|0=>0|27=>121|33=>135|4=>4|n=>n,fun|n=>n⟩
theorem Tryz.keysB:Go.Proofs.SlLaysZI.n7 Tryz.prog Tryz.keysB_ren:={
 mixed:=by kernel_rfl
 f7:=⟨Tryz.f56.name,by decide,Tryz.func56.trans (congrArg some (by kernel_rfl))⟩
 f10:=⟨Tryz.f106.name,by decide,Tryz.func106.trans (congrArg some (by kernel_rfl))⟩
 t0:=Tryz.underlying0
 a0:=Tryz.isAgg0
 z0:=Tryz.sizeOf0
 v0:=Tryz.zeroValue0
 t4:=Tryz.underlying4
 a4:=Tryz.isAgg4
 z4:=Tryz.sizeOf4
 v4:=Tryz.zeroValue4
 t23:=Tryz.underlying94
 a23:=Tryz.isAgg94
 z23:=Tryz.sizeOf94
 v23:=Tryz.zeroValue94
 t26:=Tryz.underlying3
 a26:=Tryz.isAgg3
 z26:=Tryz.sizeOf3
 v26:=Tryz.zeroValue3
 t27:=Tryz.underlying121
 a27:=Tryz.isAgg121
 z27:=Tryz.sizeOf121
 v27:=Tryz.zeroValue121
 t28:=Tryz.underlying122
 a28:=Tryz.isAgg122
 z28:=Tryz.sizeOf122
 v28:=Tryz.zeroValue122
 t33:=Tryz.underlying135
 a33:=Tryz.isAgg135
 z33:=Tryz.sizeOf135
 v33:=Tryz.zeroValue135 }
end Go.Proofs
