/- Joined texts of the walk, made small by a program. -/
import Derived.Shelf.Strings.Builder1
import Derived.Shelf.Strings.Builder2
import Derived.Shelf.Strings.OnBuilder
import Derived.Shelf.Strings.Trim
import Derived.Shelf.Small.Utf8
import Derived.Shelf.Small.Bits
import Derived.Shelf.Small.Strs
import Derived.Shelf.Strings.BuilderF
import Derived.Shelf.Strings.BuilderK
import Derived.Shelf.Strings.Builder2Cap
import Derived.Shelf.Strconv.Itoa0
import Derived.Shelf.Strings.Search1
import Derived.Shelf.Strings.Search2
import Derived.Shelf.Strings.Cut
import Derived.Shelf.LaysM
import Derived.Shelf.Strings.Shaped
import Derived.Shelf.Sort.Plain
import Derived.Shelf.Strings.Prefix
import Derived.Shelf.Strings.Runes
import Derived.Shelf.Strings.AsciiSet
import Derived.Shelf.Bits.Mul64
import Derived.Shelf.Strings.Repeat
import Derived.Shelf.Unicode.DecodeSlow
import Derived.Shelf.Unicode.DecodeAny
import Derived.Shelf.Unicode.DecodeLast
import Derived.Shelf.Strings.BuilderCap
import Derived.Shelf.Slices.Equal
import Derived.Ground.Names2Prog
import Derived.Shelf.Slices.Clone
import Derived.Shelf.Slices.In.SortNone
import Derived.Shelf.Slices.Empties2
import Derived.Ground.SlsfProg
import Derived.Shelf.SlSortCmp.Insertion
import Derived.Shelf.SlSortCmp.SiftDown1
import Derived.Shelf.SlSortCmp.HeapSort1
import Derived.Shelf.SlSortCmp.Insertion1
import Derived.Shelf.SlSortCmp.Median1
import Derived.Shelf.SlSortCmp.Pivot1
import Derived.Shelf.SlSortCmp.ReverseRange1
import Derived.Shelf.SlSortCmp.PartialInsertion1
import Derived.Shelf.SlSortCmp.PartitionEqual1
import Derived.Shelf.SlSortCmp.Partition1
import Derived.Shelf.SlSortCmp.Pdq1
import Derived.Shelf.SlSortCmp.Whole1
import Derived.Test.YtajkbcmleihaoaaGreatDoorProg
import Derived.Test.YtajkbcmleihaoaaGreatDoorZk4
import Derived.Test.YtajkbcmleihaoaaGreatDoorRows
import Derived.KernelRfl
import Derived.Test.YtajkbcmleihaoaaGreatDoorZk5
import Derived.Laws.RangeAny
import Derived.Laws.RangeString
set_option linter.unusedSimpArgs false
set_option linter.unusedVariables false
namespace Go.Proofs
open Go.Shelf
def Tryz.lays156_ren:Go.Shelf.Ren:=⟨λ|156=>95|165=>123|166=>124|169=>126|240=>158|241=>159|276=>184|277=>185|n=>n,λ|31=>56|9=>9|3=>3|4=>4|0=>0|20=>20|72=>195|76=>198|70=>193|37=>112|75=>197|127=>236|164=>254|5=>5|80=>157|n=>n,λ|n=>n⟩
theorem Tryz.lays156:Go.Proofs.Lays.n156 Tryz.prog Tryz.lays156_ren:={
 mixed:=by kernel_rfl
 f156:=Tryz.func95.trans (congrArg some (by kernel_rfl))
 f165:=Tryz.func123.trans (congrArg some (by kernel_rfl))
 f166:=Tryz.func124.trans (congrArg some (by kernel_rfl))
 f169:=Tryz.func126.trans (congrArg some (by kernel_rfl))
 f240:=Tryz.func158.trans (congrArg some (by kernel_rfl))
 f241:=Tryz.func159.trans (congrArg some (by kernel_rfl))
 f276:=Tryz.func184.trans (congrArg some (by kernel_rfl))
 f277:=Tryz.func185.trans (congrArg some (by kernel_rfl))
 t0:=Tryz.underlying0
 a0:=Tryz.isAgg0
 z0:=Tryz.sizeOf0
 v0:=Tryz.zeroValue0
 t3:=Tryz.underlying3
 a3:=Tryz.isAgg3
 z3:=Tryz.sizeOf3
 v3:=Tryz.zeroValue3
 t4:=Tryz.underlying4
 a4:=Tryz.isAgg4
 z4:=Tryz.sizeOf4
 v4:=Tryz.zeroValue4
 t9:=Tryz.underlying9
 a9:=Tryz.isAgg9
 z9:=Tryz.sizeOf9
 v9:=Tryz.zeroValue9
 t20:=Tryz.underlying20
 a20:=Tryz.isAgg20
 z20:=Tryz.sizeOf20
 v20:=Tryz.zeroValue20
 t31:=Tryz.underlying56
 a31:=Tryz.isAgg56
 z31:=Tryz.sizeOf56
 v31:=Tryz.zeroValue56
 t37:=Tryz.underlying112
 a37:=Tryz.isAgg112
 z37:=Tryz.sizeOf112
 v37:=Tryz.zeroValue112
 t70:=Tryz.underlying193
 a70:=Tryz.isAgg193
 z70:=Tryz.sizeOf193
 v70:=Tryz.zeroValue193
 t72:=Tryz.underlying195
 a72:=Tryz.isAgg195
 z72:=Tryz.sizeOf195
 v72:=Tryz.zeroValue195
 t75:=Tryz.underlying197
 a75:=Tryz.isAgg197
 z75:=Tryz.sizeOf197
 v75:=Tryz.zeroValue197
 t76:=Tryz.underlying198
 a76:=Tryz.isAgg198
 z76:=Tryz.sizeOf198
 v76:=Tryz.zeroValue198
 t127:=Tryz.underlying236
 a127:=Tryz.isAgg236
 z127:=Tryz.sizeOf236
 v127:=Tryz.zeroValue236
 t164:=Tryz.underlying254
 a164:=Tryz.isAgg254
 z164:=Tryz.sizeOf254
 v164:=Tryz.zeroValue254}
theorem Tryz.Builder_Extra_156:Builder.Extra Tryz.prog Tryz.lays156_ren:={
 sizeBuilder:=by kernel_rfl
 liesBuilder:=by kernel_rfl
 t5:=Tryz.underlying5
 a5:=Tryz.isAgg5
 z5:=Tryz.sizeOf5
 v5:=Tryz.zeroValue5
 infoByte:=by kernel_rfl
 cellsByte:=by kernel_rfl
 sizeByte:=by kernel_rfl
 neB5:=by decide}
open Go.RowKit in
theorem Tryz.strings_Join_none(a:Option Addr)(c:Nat)(sep:ByteArray)(w:World):
 Calls Tryz.prog 95 #[.slice a 0 c,.string sep] w λe w'=>e=.returned (.string ⟨#[]⟩)/\w'=w:=Any.strings_Join_none Tryz.lays156 Tryz.Builder_Extra_156 a c sep w
open Go.RowKit in
theorem Tryz.strings_Join(f o c:Nat)(xs:List ByteArray)(sep:ByteArray)(w:World)(a:∀(j:Nat) x,xs[j]?=some x->w.cell? ⟨f,o+j,none⟩=some (.string x))(g:f<w.heap.size)(h:xs.length<=140737488355328)(d:xs.length<=c)(b:(Lib.join (xs.map (·.data.toList)) sep.data.toList).length<=140737488355328):
 Calls Tryz.prog 95 #[.slice (some ⟨f,o,none⟩) xs.length c,.string sep] w λe w'=>e=.returned (.string ⟨(Lib.join (xs.map (·.data.toList)) sep.data.toList).toArray⟩)/\Below w.heap.size w w':=Any.strings_Join Tryz.lays156 Tryz.Builder_Extra_156 f o c xs sep w a g h d b
def Tryz.lays160_ren:Go.Shelf.Ren:=⟨λ|160=>84|232=>110|231=>109|227=>111|234=>113|233=>112|236=>115|235=>114|228=>148|271=>151|151=>150|197=>149|120=>180|152=>179|260=>178|137=>146|119=>191|224=>192|225=>193|217=>168|266=>187|n=>n,λ|9=>9|4=>4|3=>3|5=>5|117=>180|116=>179|0=>0|124=>183|21=>21|105=>225|46=>162|119=>262|139=>265|138=>264|n=>n,λ|3=>0|4=>1|n=>n⟩
theorem Tryz.lays160:Go.Proofs.Lays.n160 Tryz.prog Tryz.lays160_ren:={
 mixed:=by kernel_rfl
 f119:=Tryz.func191.trans (congrArg some (by kernel_rfl))
 f120:=Tryz.func180.trans (congrArg some (by kernel_rfl))
 f137:=Tryz.func146.trans (congrArg some (by kernel_rfl))
 f151:=Tryz.func150.trans (congrArg some (by kernel_rfl))
 f152:=Tryz.func179.trans (congrArg some (by kernel_rfl))
 f160:=Tryz.func84.trans (congrArg some (by kernel_rfl))
 f197:=Tryz.func149.trans (congrArg some (by kernel_rfl))
 f217:=Tryz.func168.trans (congrArg some (by kernel_rfl))
 f224:=Tryz.func192.trans (congrArg some (by kernel_rfl))
 f225:=Tryz.func193.trans (congrArg some (by kernel_rfl))
 f227:=Tryz.func111.trans (congrArg some (by kernel_rfl))
 f228:=Tryz.func148.trans (congrArg some (by kernel_rfl))
 f231:=Tryz.func109.trans (congrArg some (by kernel_rfl))
 f232:=Tryz.func110.trans (congrArg some (by kernel_rfl))
 f233:=Tryz.func112.trans (congrArg some (by kernel_rfl))
 f234:=Tryz.func113.trans (congrArg some (by kernel_rfl))
 f235:=Tryz.func114.trans (congrArg some (by kernel_rfl))
 f236:=Tryz.func115.trans (congrArg some (by kernel_rfl))
 f260:=Tryz.func178.trans (congrArg some (by kernel_rfl))
 f266:=Tryz.func187.trans (congrArg some (by kernel_rfl))
 f271:=Tryz.func151.trans (congrArg some (by kernel_rfl))
 t0:=Tryz.underlying0
 a0:=Tryz.isAgg0
 z0:=Tryz.sizeOf0
 v0:=Tryz.zeroValue0
 t3:=Tryz.underlying3
 a3:=Tryz.isAgg3
 z3:=Tryz.sizeOf3
 v3:=Tryz.zeroValue3
 t4:=Tryz.underlying4
 a4:=Tryz.isAgg4
 z4:=Tryz.sizeOf4
 v4:=Tryz.zeroValue4
 t5:=Tryz.underlying5
 a5:=Tryz.isAgg5
 z5:=Tryz.sizeOf5
 v5:=Tryz.zeroValue5
 t9:=Tryz.underlying9
 a9:=Tryz.isAgg9
 z9:=Tryz.sizeOf9
 v9:=Tryz.zeroValue9
 t21:=Tryz.underlying21
 a21:=Tryz.isAgg21
 z21:=Tryz.sizeOf21
 v21:=Tryz.zeroValue21
 t46:=Tryz.underlying162
 a46:=Tryz.isAgg162
 z46:=Tryz.sizeOf162
 v46:=Tryz.zeroValue162
 t105:=Tryz.underlying225
 a105:=Tryz.isAgg225
 z105:=Tryz.sizeOf225
 v105:=Tryz.zeroValue225
 t116:=Tryz.underlying179
 a116:=Tryz.isAgg179
 z116:=Tryz.sizeOf179
 t117:=Tryz.underlying180
 a117:=Tryz.isAgg180
 z117:=Tryz.sizeOf180
 v117:=Tryz.zeroValue180
 t119:=Tryz.underlying262
 a119:=Tryz.isAgg262
 z119:=Tryz.sizeOf262
 t124:=Tryz.underlying183
 a124:=Tryz.isAgg183
 z124:=Tryz.sizeOf183
 v124:=Tryz.zeroValue183
 t138:=Tryz.underlying264
 a138:=Tryz.isAgg264
 z138:=Tryz.sizeOf264
 v138:=Tryz.zeroValue264
 t139:=Tryz.underlying265
 a139:=Tryz.isAgg265
 z139:=Tryz.sizeOf265
 v139:=Tryz.zeroValue265
 g3:=by kernel_rfl
 g4:=by kernel_rfl}
open Go.RowKit in
theorem Tryz.strings_Trim_one(s:ByteArray)(c:UInt8)(b:c.toNat<128)(w:World)(a:s.size<=9223372036854775807):
 Calls Tryz.prog 84 #[.string s,.string ⟨#[c]⟩] w λe w'=>e=.returned (.string ⟨(Lib.trimB s.data.toList c).toArray⟩)/\(w'=w\/w'=w.drew):=Any.strings_Trim_one Tryz.lays160 s c b w a
def Tryz.lays137_ren:Go.Shelf.Ren:=⟨λ|137=>146|217=>168|266=>187|n=>n,λ|9=>9|5=>5|3=>3|n=>n,λ|n=>n⟩
theorem Tryz.lays137:Go.Proofs.Lays.n137 Tryz.prog Tryz.lays137_ren:={
 mixed:=by kernel_rfl
 f137:=Tryz.func146.trans (congrArg some (by kernel_rfl))
 f217:=Tryz.func168.trans (congrArg some (by kernel_rfl))
 f266:=Tryz.func187.trans (congrArg some (by kernel_rfl))
 t3:=Tryz.underlying3
 a3:=Tryz.isAgg3
 z3:=Tryz.sizeOf3
 v3:=Tryz.zeroValue3
 t5:=Tryz.underlying5
 a5:=Tryz.isAgg5
 z5:=Tryz.sizeOf5
 v5:=Tryz.zeroValue5
 t9:=Tryz.underlying9
 a9:=Tryz.isAgg9
 z9:=Tryz.sizeOf9
 v9:=Tryz.zeroValue9}
open Go.RowKit in
theorem Tryz.strings_IndexByte(s:ByteArray)(c:Int)(w:World):
 Calls Tryz.prog 146 #[.string s,.int .u8 c] w λe w'=>e=.returned (.int .i64 (Lib.indexByte s.data.toList c.toNat.toUInt8))/\w'=w:=Any.strings_IndexByte Tryz.lays137 s c w
def Tryz.lays219_ren:Go.Shelf.Ren:=⟨λ|219=>194|217=>168|225=>193|224=>192|267=>197|266=>187|314=>198|n=>n,λ|9=>9|3=>3|4=>4|5=>5|46=>162|146=>232|51=>160|n=>n,λ|1=>2|n=>n⟩
theorem Tryz.lays219:Go.Proofs.Lays.n219 Tryz.prog Tryz.lays219_ren:={
 mixed:=by kernel_rfl
 f217:=Tryz.func168.trans (congrArg some (by kernel_rfl))
 f219:=Tryz.func194.trans (congrArg some (by kernel_rfl))
 f224:=Tryz.func192.trans (congrArg some (by kernel_rfl))
 f225:=Tryz.func193.trans (congrArg some (by kernel_rfl))
 f266:=Tryz.func187.trans (congrArg some (by kernel_rfl))
 f267:=Tryz.func197.trans (congrArg some (by kernel_rfl))
 f314:=Tryz.func198.trans (congrArg some (by kernel_rfl))
 t3:=Tryz.underlying3
 a3:=Tryz.isAgg3
 z3:=Tryz.sizeOf3
 v3:=Tryz.zeroValue3
 t4:=Tryz.underlying4
 a4:=Tryz.isAgg4
 z4:=Tryz.sizeOf4
 v4:=Tryz.zeroValue4
 t5:=Tryz.underlying5
 a5:=Tryz.isAgg5
 z5:=Tryz.sizeOf5
 v5:=Tryz.zeroValue5
 t9:=Tryz.underlying9
 a9:=Tryz.isAgg9
 z9:=Tryz.sizeOf9
 v9:=Tryz.zeroValue9
 t46:=Tryz.underlying162
 a46:=Tryz.isAgg162
 z46:=Tryz.sizeOf162
 v46:=Tryz.zeroValue162
 t51:=Tryz.underlying160
 a51:=Tryz.isAgg160
 z51:=Tryz.sizeOf160
 v51:=Tryz.zeroValue160
 t146:=Tryz.underlying232
 a146:=Tryz.isAgg232
 z146:=Tryz.sizeOf232
 v146:=Tryz.zeroValue232
 g1:=by kernel_rfl}
open Go.RowKit Go.Lib in
theorem Tryz.stringslite_Index_one(s:ByteArray)(c:UInt8)(w:World):
 Calls Tryz.prog 194 #[.string s,.string ⟨#[c]⟩] w λe w'=>e=.returned (.int .i64 (Lib.indexByte s.data.toList c))/\w'=w:=Any.stringslite_Index_one Tryz.lays219 s c w
def Tryz.lays105_ren:Go.Shelf.Ren:=⟨λ|105=>91|212=>121|99=>122|165=>123|166=>124|170=>125|169=>126|263=>155|264=>156|206=>157|240=>158|241=>159|276=>184|277=>185|n=>n,λ|9=>9|3=>3|4=>4|20=>20|0=>0|46=>162|109=>190|5=>5|72=>195|76=>198|51=>160|146=>232|53=>58|148=>234|70=>193|37=>112|75=>197|127=>236|164=>254|80=>157|n=>n,λ|n=>n⟩
theorem Tryz.lays105:Go.Proofs.Lays.n105 Tryz.prog Tryz.lays105_ren:={
 mixed:=by kernel_rfl
 f99:=Tryz.func122.trans (congrArg some (by kernel_rfl))
 f105:=Tryz.func91.trans (congrArg some (by kernel_rfl))
 f165:=Tryz.func123.trans (congrArg some (by kernel_rfl))
 f166:=Tryz.func124.trans (congrArg some (by kernel_rfl))
 f169:=Tryz.func126.trans (congrArg some (by kernel_rfl))
 f170:=Tryz.func125.trans (congrArg some (by kernel_rfl))
 f206:=Tryz.func157.trans (congrArg some (by kernel_rfl))
 f212:=Tryz.func121.trans (congrArg some (by kernel_rfl))
 f240:=Tryz.func158.trans (congrArg some (by kernel_rfl))
 f241:=Tryz.func159.trans (congrArg some (by kernel_rfl))
 f263:=Tryz.func155.trans (congrArg some (by kernel_rfl))
 f264:=Tryz.func156.trans (congrArg some (by kernel_rfl))
 f276:=Tryz.func184.trans (congrArg some (by kernel_rfl))
 f277:=Tryz.func185.trans (congrArg some (by kernel_rfl))
 t0:=Tryz.underlying0
 a0:=Tryz.isAgg0
 z0:=Tryz.sizeOf0
 v0:=Tryz.zeroValue0
 t3:=Tryz.underlying3
 a3:=Tryz.isAgg3
 z3:=Tryz.sizeOf3
 v3:=Tryz.zeroValue3
 t4:=Tryz.underlying4
 a4:=Tryz.isAgg4
 z4:=Tryz.sizeOf4
 v4:=Tryz.zeroValue4
 t5:=Tryz.underlying5
 a5:=Tryz.isAgg5
 z5:=Tryz.sizeOf5
 v5:=Tryz.zeroValue5
 t9:=Tryz.underlying9
 a9:=Tryz.isAgg9
 z9:=Tryz.sizeOf9
 v9:=Tryz.zeroValue9
 t20:=Tryz.underlying20
 a20:=Tryz.isAgg20
 z20:=Tryz.sizeOf20
 v20:=Tryz.zeroValue20
 t37:=Tryz.underlying112
 a37:=Tryz.isAgg112
 z37:=Tryz.sizeOf112
 v37:=Tryz.zeroValue112
 t46:=Tryz.underlying162
 a46:=Tryz.isAgg162
 z46:=Tryz.sizeOf162
 v46:=Tryz.zeroValue162
 t51:=Tryz.underlying160
 a51:=Tryz.isAgg160
 z51:=Tryz.sizeOf160
 v51:=Tryz.zeroValue160
 t53:=Tryz.underlying58
 a53:=Tryz.isAgg58
 z53:=Tryz.sizeOf58
 v53:=Tryz.zeroValue58
 t70:=Tryz.underlying193
 a70:=Tryz.isAgg193
 z70:=Tryz.sizeOf193
 v70:=Tryz.zeroValue193
 t72:=Tryz.underlying195
 a72:=Tryz.isAgg195
 z72:=Tryz.sizeOf195
 v72:=Tryz.zeroValue195
 t75:=Tryz.underlying197
 a75:=Tryz.isAgg197
 z75:=Tryz.sizeOf197
 v75:=Tryz.zeroValue197
 t76:=Tryz.underlying198
 a76:=Tryz.isAgg198
 z76:=Tryz.sizeOf198
 v76:=Tryz.zeroValue198
 t109:=Tryz.underlying190
 a109:=Tryz.isAgg190
 z109:=Tryz.sizeOf190
 v109:=Tryz.zeroValue190
 t127:=Tryz.underlying236
 a127:=Tryz.isAgg236
 z127:=Tryz.sizeOf236
 v127:=Tryz.zeroValue236
 t146:=Tryz.underlying232
 a146:=Tryz.isAgg232
 z146:=Tryz.sizeOf232
 v146:=Tryz.zeroValue232
 t148:=Tryz.underlying234
 a148:=Tryz.isAgg234
 z148:=Tryz.sizeOf234
 v148:=Tryz.zeroValue234
 t164:=Tryz.underlying254
 a164:=Tryz.isAgg254
 z164:=Tryz.sizeOf254
 v164:=Tryz.zeroValue254}
theorem Tryz.Builder_Extra_105:Builder.Extra Tryz.prog Tryz.lays105_ren:={
 sizeBuilder:=by kernel_rfl
 liesBuilder:=by kernel_rfl
 t5:=Tryz.underlying5
 a5:=Tryz.isAgg5
 z5:=Tryz.sizeOf5
 v5:=Tryz.zeroValue5
 infoByte:=by kernel_rfl
 cellsByte:=by kernel_rfl
 sizeByte:=by kernel_rfl
 neB5:=by decide}
open Go.RowKit Go.Lib in
theorem Tryz.strings_Repeat(s:ByteArray)(c:Nat)(w:World)(b:c<=9223372036854775807)(a:s.size*c<=140737488355328):
 Calls Tryz.prog 91 #[.string s,.int .i64 c] w λe w'=>e=.returned (.string ⟨(Lib.repeatL s.data.toList c).toArray⟩)/\Below w.heap.size w w':=Any.strings_Repeat Tryz.lays105 Tryz.Builder_Extra_105 s c w b a
end Go.Proofs
set_option maxRecDepth 100000
namespace Go.Proofs.YtajkbcmleihaoaaGreatDoor.Av
open Go
variable {s typ b:List UInt8}{ip:Nat}{cap:Option Nat}{bl:Bool}{d:UInt8}
def Lc:LSO:=[As 2]
def Lb:LSO:=[Aa 5 0,BB 6 5,Aa 7 6,.grp none 7 false
 [Ai 8 7 0,BA 9 7 8,AI 10 7 9 32]
 11 (tm 10),Aa 12 11,.grp none 12 false
 [Ai 13 12 0,By 14 12 13 0,og 15 12 false (.conv .i32 (tm 14)),og 16 12 false (.call 143 [(tm 15)]),og 17 12 false (.un .not (tm 16))]
 18 (tm 17)]
def La:LSO:=[As 2]
def K9:LSO:=[Aa 19 0,o1 20 (.rangeS (tm 19))]
def K8:LSO:=[o1 21 (.nextS (tm 20)),Al 22 21]
def K7:LSO:=[AP 23 21,Aa 4 23]
def K6:LSO:=[Aa 24 4,Af 25 143 24,A5 26 25,Aa 27 26,.grp none 27 true
 [Ak 28 27 4,og 29 27 true (.bin .lss (tm 28) (.av (.int .i32 48))),Ak 30 27 29,.grp (some (27,true)) 30 false
 [Ai 31 30 4,og 32 30 false (.bin .gtr (tm 31) (.av (.int .i32 57)))]
 33 (tm 32)]
 34 (tm 33),Aa 35 34,.grp none 35 true
 [Ak 36 35 4,og 37 35 true (.bin .neq (tm 36) (.av (.int .i32 45)))]
 38 (tm 37)]
def K5:LSO:=[As 2]
def K4:LSO:=[AJ 2]
def Ks:aI:=⟨39,(aen Lc [] (.seq (aen Lb BZ (aep 18 (.sreg La []))) (.seq (aen K9 BU (aeq 0 (aen K8 [] (.seq (aer 22 0) (.block 1 (aen K7 BU (aen K6 BY (aep 38 (.sreg K5 []))))))))) (aen K4 [] .ret)))),[(.tmp 2)]⟩
attribute [push_cast] Lc Lb La K9 K8 K7 K6 K5 K4
theorem P3:aes 101=aet Ks:=aew
def Gp:LSO:=[As 2]
def Gn:LSO:=[Aa 3 0,o1 4 (.bin .geq (tm 3) (.av (.int .i32 97))),Aa 5 4,.grp none 5 true
 [Ak 6 5 0,og 7 5 true (.bin .leq (tm 6) (.av (.int .i32 122)))]
 8 (tm 7),Aa 9 8,.grp none 9 false
 [Ai 10 9 0,og 11 9 false (.bin .geq (tm 10) (.av (.int .i32 65))),Ai 12 9 11,.grp (some (9,false)) 12 true
 [Ak 13 12 0,og 14 12 true (.bin .leq (tm 13) (.av (.int .i32 90)))]
 15 (tm 14)]
 16 (tm 15),Aa 2 16]
def EA:aI:=⟨17,(aen Gp [] (aen Gn BY .ret)),[(.tmp 2)]⟩
attribute [push_cast] Gp Gn
theorem N6:aes 143=aet EA:=aew
def MO:LSO:=[A3 3 1,As 4]
def MN:LSO:=[Aa 5 0,o1 6 (.mkfn 145 [(tm 3)]),Ay 7 144 5 6,Aa 4 7]
def N7:aI:=⟨8,(aen MO [] (aen MN BW .ret)),[(.tmp 4)]⟩
attribute [push_cast] MO MN
theorem Rq:aes 102=aet N7:=aew
def ID:LSO:=[A3 2 0,As 3]
def IC:LSO:=[Ad 4 0 2,Ac 5 1 4,Af 6 103 5,Ac 7 1 1,Af 8 103 7,AZ 9 6 8,Aa 3 9]
def Hu:aI:=⟨10,(aen ID [] (.seq (.sdreg IC [.pure,(.read 0 0),(.read 0 0),(.read 0 0)] BY) .ret)),[(.tmp 3)]⟩
attribute [push_cast] ID IC
theorem OE:aes 145=aet Hu:=aew
def It:LSO:=[Ar 2,Ar 3,As 4]
def Is:LSO:=[Ao 5]
def Ir:LSO:=[As 6]
def Iq:LSO:=[Ab 7 0]
def Ip:LSO:=[Aa 11 7,Aa 12 0,A4 13 12,Au 14 11 13,Aa 15 14,.grp none 15 true
 [Ak 16 15 0,Ak 17 15 7,og 18 15 true (.idxS (tm 16) (tm 17)),og 19 15 true (.bin .neq (tm 18) (.av (.int .u8 44)))]
 20 (tm 19),Aa 21 20,.grp none 21 true
 [Ak 22 21 0,Ak 23 21 7,og 24 21 true (.idxS (tm 22) (tm 23)),og 25 21 true (.bin .neq (tm 24) (.av (.int .u8 43)))]
 26 (tm 25)]
def Io:LSO:=[Aa 27 0,Aa 28 7,B9 29 27 28,Aa 8 29]
def Im:LSO:=[Aa 30 8,o1 31 (.bin .eql (tm 30) (.av (.int .u8 32))),Aa 6 31]
def Il:LSO:=[Aa 33 8,o1 34 (.bin .neq (tm 33) (.av (.int .u8 92))),Aa 32 34]
def Ik:LSO:=[Aa 35 8,BN 36 35,Aa 37 36,.grp none 37 false
 [Ai 38 37 8,og 39 37 false (.call 146 [(.av (.str [34,59,60,62])),(tm 38)]),BI 40 37 39 0]
 41 (tm 40),Aa 42 41,.grp none 42 false
 [Ai 43 42 5,AS 44 42 43,Bn 45 42 44 0,Ai 46 42 45,.grp (some (42,false)) 46 true
 [Ak 47 46 8,B8 48 46 47,Ak 49 46 48,.grp (some (46,true)) 49 false
 [Ai 50 49 8,og 51 49 false (.bin .eql (tm 50) (.av (.int .u8 35)))]
 52 (tm 51)]
 53 (tm 52)]
 54 (tm 53)]
def Ij:LSO:=[Ar 2,Ar 3,As 4]
def Gk:LSO:=[Aa 56 7,Aj 57 56 1,Aa 58 0,A4 59 58,Au 60 57 59,Aa 61 60,.grp none 61 true
 [Ak 62 61 0,Ak 63 61 7,og 64 61 true (.bin .add (tm 63) (iv 1)),og 65 61 true (.idxS (tm 62) (tm 64)),
 og 66 61 true (.call 146 [(.av (.str [34,43,44,59,60,62,92,32,35,61])),(tm 65)]),og 67 61 true (.bin .geq (tm 66) (iv 0))]
 68 (tm 67),Aa 55 68]
def Gj:LSO:=[Aa 69 7,Aj 70 69 1,Aa 7 70]
def Gi:LSO:=[Aa 71 0,Aa 72 7,B9 73 71 72,Aa 8 73]
def Gh:LSO:=[Aa 75 7,Aj 76 75 2,Aa 77 0,A4 78 77,Au 79 76 78,Aa 74 79]
def Gg:LSO:=[Aa 81 0,Aa 82 7,Aj 83 82 1,Aa 84 7,Aj 85 84 3,o1 86 (.slS (tm 81) (some (tm 83)) (some (tm 85))),Af 87 183 86,Aa 80 87,Al 88 80,Am 89 80,Aa 9 88,Aa 10 89]
def Gf:LSO:=[Aa 90 10,A5 91 90]
def Ge:LSO:=[Ar 2,Ar 3,As 4]
def Gd:LSO:=[Aa 92 9,Ba 93 92 0,Aa 8 93]
def Gc:LSO:=[Aa 94 7,Aj 95 94 2,Aa 7 95]
def Gb:LSO:=[Ar 2,Ar 3,As 4]
def Ga:LSO:=[Aa 96 5,Aa 97 8,B7 98 97,Bk 99 96 98,Aa 5 99]
def F9:LSO:=[Aa 100 7,Aj 101 100 1,Aa 7 101]
def F8:LSO:=[Aa 102 5,Bf 103 102,Aa 104 0,Aa 105 7,B5 106 104 105,Aa 107 6,A5 108 107,Aa 2 103,Aa 3 106,Aa 4 108]
def Ht:aI:=⟨109,(aen It [] (aen Is [] (aen Ir [] (aen Iq [] (.seq (aeq 0 (.seq (aen Ip Cb (aer 26 0)) (.block 1 (aen Io BW (aen Im BV (.seq (.block 2 (aen Il BV (aeo 32 (aen Ik BZ (aep 54 (.sreg Ij []))) (aen Gk Cb (aeo 55 (aen Gj BV (.sreg Gi BW)) (aen Gh BZ (aeo 74 (aen Gg Cz (.seq (aen Gf BU (aep 91 (.sreg Ge []))) (aen Gd BV (.sreg Gc BV)))) (aen Gb [] .ret)))))))) (aen Ga BX (.sreg F9 BV)))))))) (.seq (.sdreg F8 [.pure,(.read 0 0),.pure,.pure,(.read 0 0),.pure,.pure,.pure,.pure] [true,true,true,false,false,false,false,false,false,false]) .ret)))))),[(.tmp 2),(.tmp 3),(.tmp 4)]⟩
attribute [push_cast] It Is Ir Iq Ip Io Im Il Ik Ij Gk Gj Gi Gh Gg Gf Ge Gd Gc Gb Ga F9 F8
theorem OD:aes 154=aet Ht:=aew
def Je:LSO:=[Ao 2,Ab 3 0]
def Jd:LSO:=[Aa 10 0,A4 11 10,AB 12 11 4096]
def Jc:LSO:=[Ao 2,Ab 3 5]
def Jb:LSO:=[Aa 13 0,BB 14 13]
def Ja:LSO:=[Ao 2,Ab 3 0]
def I9:LSO:=[Ao 4]
def I8:LSO:=[Ao 5]
def I7:LSO:=[Aa 15 4,Ah 16 15,Az 17 16 32,Aa 18 17,.grp none 18 false
 [Ai 19 18 5,AS 20 18 19,Bn 21 18 20 8]
 22 (tm 21)]
def I6:LSO:=[Ao 2,Ab 3 9]
def I5:LSO:=[Aa 24 0,o1 25 (.call 153 [(tm 24),(.av (.str [61]))]),Aa 23 25,Al 26 23,Am 27 23,AP 28 23,Aa 6 26,Aa 7 27,Aa 8 28]
def G0:LSO:=[Aa 29 8,A5 30 29,Aa 31 30,.grp none 31 false
 [Ai 32 31 6,og 33 31 false (.call 101 [(tm 32)]),og 34 31 false (.un .not (tm 33))]
 35 (tm 34)]
def GZ:LSO:=[Ao 2,Ab 3 4]
def GY:LSO:=[Aa 36 5,Aa 37 6,Ay 38 102 36 37]
def GX:LSO:=[Ao 2,Ab 3 21]
def GW:LSO:=[Aa 40 7,Af 41 154 40,Aa 39 41,Al 42 39,Am 43 39,AP 44 39,Aa 9 42,Aa 7 43,Aa 8 44]
def GV:LSO:=[Aa 45 8,A5 46 45]
def GU:LSO:=[Ao 2,Ab 3 4]
def GT:LSO:=[Aa 47 5,Aa 48 6,Aa 49 9,o1 50 (.build [(.str []),(.str [])] [(0,(1,(tm 48))),(1,(1,(tm 49)))]),
 o1 51 (.bslice false 2 1 [(.str []),(.str [])] [(0,(2,(tm 50)))]),o1 52 (.app 1 2 32 [(.str []),(.str [])] (tm 47) (tm 51)),Aa 5 52]
def GS:LSO:=[Aa 53 7,BB 54 53]
def GR:LSO:=[Aa 55 4,Aa 56 5,Bg 57 56,Bu 58 55 57,Aa 2 58,Ab 3 0]
def GP:LSO:=[Aa 59 7,Ba 60 59 0,o1 61 (.bin .eql (tm 60) (.av (.int .u8 44)))]
def GN:LSO:=[Aa 62 4,Aa 63 5,Bg 64 63,Bu 65 62 64,Aa 4 65,Ao 5]
def GM:LSO:=[Aa 66 7,BF 67 66 1,Aa 0 67]
def Hx:aI:=⟨68,(aen Je [] (.seq (aen Jd BV (aep 12 (.sreg Jc []))) (.seq (aen Jb BU (aep 14 (.sreg Ja []))) (aen I9 [] (aen I8 [] (aeq 0 (.block 1 (.seq (aen I7 BX (aep 22 (.sreg I6 []))) (aen I5 Ci (.seq (aen G0 BW (aep 35 (.sreg GZ []))) (.seq (aen GY BV (aep 38 (.sreg GX []))) (aen GW Ci (.seq (aen GV BU (aep 46 (.sreg GU []))) (aen GT BY (.seq (aen GS BU (aep 54 (.sreg GR Cr))) (.seq (aen GP BV (aeo 61 (.sreg GN Cr) .skip)) (.sreg GM BV))))))))))))))))),[(.tmp 2),(.tmp 3)]⟩
attribute [push_cast] Je Jd Jc Jb Ja I9 I8 I7 I6 I5 G0 GZ GY GX GW GV GU GT GS GR GP GN GM
theorem OH:aes 118=aet Hx:=aew
def Eh:LSO:=[Ar 2]
def Eg:LSO:=[Ao 3]
def Ef:LSO:=[Aa 7 0,o1 8 (.s2b (tm 7)),Ah 9 8,Ab 10 0]
def Ee:LSO:=[Au 11 10 9]
def Ed:LSO:=[Aa 12 10,Aw 13 1 8 10,Ac 14 1 13,Aa 4 12,Aa 5 14]
def Ec:LSO:=[Aa 15 4,Az 16 15 0,Aa 17 16,.grp none 17 true
 [Ak 18 17 5,B8 19 17 18,Ak 20 17 19,.grp (some (17,true)) 20 false
 [Ai 21 20 5,og 22 20 false (.bin .eql (tm 21) (.av (.int .u8 35)))]
 23 (tm 22)]
 24 (tm 23),Aa 25 24,.grp none 25 false
 [Ai 26 25 4,Ai 27 25 0,BA 28 25 27,og 29 25 false (.bin .sub (tm 28) (iv 1)),og 30 25 false (.bin .eql (tm 26) (tm 29)),Ai 31 25 30,.grp (some (25,false)) 31 true
 [Ak 32 31 5,B8 33 31 32]
 34 (tm 33)]
 35 (tm 34),Aa 6 35]
def Eb:LSO:=[Aa 37 5,BN 38 37,Aa 36 38]
def Ea:LSO:=[Aa 39 3,o1 40 (.app 1 1 1 [(.int .u8 0)] (tm 39) (.av (.str [92,48,48]))),Aa 3 40]
def D9:LSO:=[Aa 42 6,Aa 43 42,.grp none 43 false
 [Ai 44 43 5,og 45 43 false (.call 146 [(.av (.str [34,43,44,59,60,62,92])),(tm 44)]),BI 46 43 45 0]
 47 (tm 46),Aa 41 47]
def D8:LSO:=[Aa 48 3,o1 49 (.bslice false 1 1 [(.int .u8 0)] [(0,(1,(.av (.int .u8 92))))]),Bk 50 48 49,Aa 3 50]
def zO:LSO:=[Aa 51 3,Aa 52 5,B7 53 52,Bk 54 51 53,Aa 3 54]
def zN:LSO:=[Aj 55 10 1,Aa 10 55]
def zM:LSO:=[Aa 56 3,Bf 57 56,Aa 2 57]
def yh:aI:=⟨58,(aen Eh [] (aen Eg [] (.seq (aen Ef Cf (aeq 0 (aen Ee [] (.seq (aer 11 0) (.seq (.block 1 (aen Ed Ce (aen Ec BY (.seq (.block 2 (aen Eb BV (aeo 36 (aen Ea BV (.exit 1)) (aen D9 BW (aeo 41 (.sreg D8 BW) .skip))))) (.sreg zO BX))))) (.sreg zN BU)))))) (aen zM BV .ret)))),[(.tmp 2)]⟩
attribute [push_cast] Eh Eg Ef Ee Ed Ec Eb Ea D9 D8 zO zN zM
theorem Ma:aes 105=aet yh:=aew
def IN:LSO:=[Ab 2 0]
def IM:LSO:=[Aa 7 0,Ah 8 7,Ab 9 0]
def IL:LSO:=[Au 10 9 8]
def IK:LSO:=[Aa 11 9,Aw 12 1 7 9,Ac 13 1 12,Aa 3 11,Aa 4 13]
def IJ:LSO:=[Aa 15 3,Az 16 15 32,Aa 14 16]
def II:LSO:=[Ab 2 9]
def IH:LSO:=[Aa 18 4,Ah 19 18,Az 20 19 0,Aa 17 20]
def IG:LSO:=[Ab 2 2]
def IF:LSO:=[Aa 21 4,Ah 22 21,Ab 23 0]
def IE:LSO:=[Au 24 23 22]
def Gz:LSO:=[Aa 25 23,Aw 26 2 21 23,A0 27 2 26,BT 6,Aa 5 25,Ag 2 6 27]
def Gy:LSO:=[Aa 29 5,Az 30 29 8,Aa 28 30]
def Gx:LSO:=[Ab 2 9]
def Gw:LSO:=[Ad 32 0 6,Ac 33 1 32,Af 34 101 33,A5 35 34,Aa 31 35]
def Gv:LSO:=[Ab 2 20]
def Gu:LSO:=[Aa 37 4,Aa 38 5,o1 39 (.slV 2 (tm 37) none (some (tm 38)) none),Ad 40 0 6,Ac 41 1 40,Ay 42 102 39 41,Aa 36 42]
def Gt:LSO:=[Ab 2 21]
def Gs:LSO:=[Aj 43 23 1,Aa 23 43]
def Gr:LSO:=[Aj 44 9 1,Aa 9 44]
def Gq:LSO:=[Ab 2 0]
def Hv:aI:=⟨45,(aen IN [] (.seq (aen IM [] (aeq 0 (aen IL [] (.seq (aer 10 0) (.seq (.block 1 (aen IK Ce (.seq (.block 2 (aen IJ BV (aeo 14 (aen II [] .ret) (aen IH BW (aep 17 (.sreg IG [])))))) (aen IF [] (aeq 3 (aen IE [] (.seq (aer 24 3) (.seq (.block 4 (aen Gz Ce (.block 5 (aen Gy BV (aeo 28 (aen Gx [] .ret) (aen Gw BX (aeo 31 (aen Gv [] .ret) (.seq (.sdreg Gu [.pure,.pure,(.read 0 0),.pure,(.read 0 0)] BY) (aep 36 (.sreg Gt [])))))))))) (.sreg Gs BU))))))))) (.sreg Gr BU)))))) (aen Gq [] .ret))),[(.tmp 2)]⟩
attribute [push_cast] IN IM IL IK IJ II IH IG IF IE Gz Gy Gx Gw Gv Gu Gt Gs Gr Gq
theorem OF:aes 75=aet Hv:=aew
def I4:LSO:=[Ar 2,Ab 3 0]
def I3:LSO:=[Aa 11 0,Af 12 75 11,Aa 4 12]
def I2:LSO:=[Aa 13 4,Ax 14 13 0]
def I1:LSO:=[Aa 15 4,Ar 2,Aa 3 15]
def I0:LSO:=[Ab 5 0]
def IZ:LSO:=[Aa 16 0,Ah 17 16,Ab 18 0]
def IY:LSO:=[Au 19 18 17]
def IX:LSO:=[Aw 20 1 16 18,Ac 21 1 20,Aa 7 21]
def IW:LSO:=[Aa 22 7,Ah 23 22,Ab 24 0]
def IV:LSO:=[Au 25 24 23]
def GK:LSO:=[Aw 26 2 22 24,A0 27 2 26,BT 9,Ag 2 9 27]
def GJ:LSO:=[Ad 28 1 9,Ac 29 1 28,A4 30 29,AB 31 30 4096]
def GI:LSO:=[Ar 2,Ab 3 5]
def GH:LSO:=[Aa 32 5,Aj 33 32 1,Aa 5 33]
def GF:LSO:=[Aj 34 24 1,Aa 24 34]
def GE:LSO:=[Aj 35 18 1,Aa 18 35]
def GD:LSO:=[Aa 36 0,o1 37 (.call 76 [(tm 36),(.av (.bool false))]),Aa 10 37]
def GC:LSO:=[Aa 38 10,A4 39 38,AB 40 39 4096]
def GB:LSO:=[Ar 2,Ab 3 5]
def GA:LSO:=[Aa 41 10,Aa 2 41,Ab 3 0]
def Hw:aI:=⟨42,(aen I4 [] (.seq (aen I3 BV (aen I2 BU (aep 14 (.sreg I1 Ca)))) (aen I0 [] (.seq (aen IZ [] (aeq 0 (aen IY [] (.seq (aer 19 0) (.seq (.block 1 (aen IX BV (aen IW [] (aeq 2 (aen IV [] (.seq (aer 25 2) (.seq (.block 3 (aen GK BV (.seq (aen GJ BW (aep 31 (.sreg GI []))) (.sreg GH BV)))) (.sreg GF BU)))))))) (.sreg GE BU)))))) (aen GD BV (.seq (aen GC BV (aep 40 (.sreg GB []))) (aen GA Ca .ret))))))),[(.tmp 2),(.tmp 3)]⟩
attribute [push_cast] I4 I3 I2 I1 I0 IZ IY IX IW IV GK GJ GI GH GF GE GD GC GB GA
theorem OG:aes 35=aet Hw:=aew
def Lh:LSO:=[Ar 2,Ab 3 0]
def Lg:LSO:=[Aa 7 0,Af 8 35 7,Aa 6 8,Al 9 6,Am 10 6,Aa 4 9,Aa 5 10]
def Lf:LSO:=[Aa 11 5,Ax 12 11 0]
def Le:LSO:=[Aa 13 5,Ar 2,Aa 3 13]
def Ld:LSO:=[Aa 14 0,o1 15 (.call 76 [(tm 14),(.av (.bool true))]),Aa 2 15,Ab 3 0]
def Kt:aI:=⟨16,(aen Lh [] (.seq (aen Lg BY (aen Lf BU (aep 12 (.sreg Le Ca)))) (aen Ld Cj .ret))),[(.tmp 2),(.tmp 3)]⟩
attribute [push_cast] Lh Lg Lf Le Ld
theorem P4:aes 61=aet Kt:=aew
def cu:LSO:=[As 4]
def cr:LSO:=[Aa 5 0,Aa 6 1,Ay 7 167 5 6,Bd 8 7 0,Aa 4 8]
def bw:aI:=⟨9,(aen cu [] (aen cr BX .ret)),[(.tmp 4)]⟩
attribute [push_cast] cu cr
theorem fY:aes 144=aet bw:=aew
def cN:LSO:=[Ab 4 0]
def cM:LSO:=[Aa 6 0,Ah 7 6,Ab 8 0]
def cL:LSO:=[Au 9 8 7]
def cK:LSO:=[Aa 10 8,Aa 5 10]
def cJ:LSO:=[Aa 11 1,Aa 12 0,Aa 13 5,Aw 14 2 12 13,A0 15 2 14,BE 16 11 15]
def cI:LSO:=[Aa 17 5,Aa 4 17]
def cH:LSO:=[Aj 18 8 1,Aa 8 18]
def cG:LSO:=[Ab 4 (-1)]
def bI:aI:=⟨19,(aen cN [] (.seq (aen cM Ca (aeq 0 (aen cL [] (.seq (aer 9 0) (.seq (.block 1 (aen cK BU (aen cJ BZ (aep 16 (.sreg cI BU))))) (.sreg cH BU)))))) (aen cG [] .ret))),[(.tmp 4)]⟩
attribute [push_cast] cN cM cL cK cJ cI cH cG
theorem iK:aes 167=aet bI:=aew
def yy:LSO:=[Ar 4,Ar 5,As 6]
def yx:LSO:=[Aa 7 0,Aa 8 1,Ay 9 182 7 8,Al 10 9,Am 11 9,AP 12 9,Aa 4 10,Aa 5 11,Aa 6 12]
def jq:aI:=⟨13,(aen yy [] (aen yx Ci .ret)),[(.tmp 4),(.tmp 5),(.tmp 6)]⟩
attribute [push_cast] yy yx
theorem xz:aes 153=aet jq:=aew
def fH:LSO:=[Ar 4,Ar 5,As 6]
def fG:LSO:=[Aa 8 0,Aa 9 1,Ay 10 194 8 9,Aa 7 10]
def fF:LSO:=[Aa 11 7,Bd 12 11 0]
def fE:LSO:=[Aa 13 0,Aa 14 7,o1 15 (.slS (tm 13) none (some (tm 14))),Aa 16 0,Aa 17 7,Aa 18 1,A4 19 18,A7 20 17 19,B5 21 16 20,Aa 4 15,Aa 5 21,AJ 6]
def fD:LSO:=[Aa 22 0,Aa 4 22,Ar 5,As 6]
def bt:aI:=⟨23,(aen fH [] (.seq (aen fG BW (aen fF BU (aep 12 (.sdreg fE [.pure,.pure,(.read 0 0),.pure,.pure,.pure,(.read 0 0),.pure,(.read 0 0),.pure] [true,true,true,false,false,false,false,false,false,false,false,false])))) (aen fD Cf .ret))),[(.tmp 4),(.tmp 5),(.tmp 6)]⟩
attribute [push_cast] fH fG fF fE fD
theorem fp:aes 182=aet bt:=aew
attribute [push_cast] EA N7 Ht yh Hv Hw Kt bw bI jq
set_option maxHeartbeats 8000000
set_option maxRecDepth 100000
theorem RJ{n:Int}(a : -2147483648<=n)(b:n<2147483648):IntKind.i32.wrap n=n:=by simp only[IntKind.wrap,IntKind.bits,IntKind.signed];simp;omega
theorem SO{p:Nat}(h:p<s.length)(a:(s.getD p 0).toNat<128):NR s p=((s.getD p 0).toNat,1):=by
 have e:s.getD p 0=s[p]:=by simp[h]
 rw[e]at a⊢;exact decode_ascii ⟨⟨s⟩⟩ p h a
theorem U7{p:Nat}(h:p<s.length)(a:128<=(s.getD p 0).toNat):128<=(NR s p).1:=by
 have e:s.getD p 0=s[p]:=by simp[h]
 rw[e]at a;exact(decode_high ⟨⟨s⟩⟩ p h a).1
def rR(x:Int):Bool:=(decide (97<=x)&&decide (x<=122)) ||(decide (65<=x)&&decide (x<=90))
theorem mY{x:Int}{L:List Blk}{K:abx}(h:K (.bool (rR x)) L):abw 143 [.int .i32 x] L K:=by
 refine abv N6 ?_
 all_goals (first|refine ae rfl (Kto h ?_)|refine ag (Kto h ?_)|refine ae (by simp only[AV.refs,AV.refsL, *];rfl) (Kto h ?_)|refine aB (ae rfl (Kto h ?_))|(trace_state;fail))
 all_goals (first|(simp[rR, *];done)|(simp[rR, *];omega)|(simp[rR, *];intros;omega)|(simp_all[Hid,rR];done)|(simp_all[Hid,rR];omega))
def LO(x:Int):Bool:=rR x ||(decide (48<=x)&&decide (x<=57)) ||decide (x=45)
def vu(s:List UInt8):Bool:=decide (1<=s.length)&&decide (s.length<=32)&&rR ((s.getD 0 0).toNat:Int)&&s.all λc=>LO (c.toNat:Int)
theorem OP{x:Int}(h:128<=x):LO x=false:=by simp only[LO,rR,adD,Bool.and_eq_false_iff,decide_eq_false_iff_not];omega
theorem RO{s:List UInt8}{L:List Blk}{K:abx}(h:K (.bool (vu s)) L):abw 101 [.str s] L K:=by
 have no:vu s=false->K (.bool false) L:=λe=>by rw[<- e];exact h
 replace no:=hid no;replace h:=hid h;refine aa P3 (by simp[Ks]) ?_;simp only[Ks,am];by_cases z:s=[];subst z;refine wk ?_;exact ag (no.o rfl);have A:0<s.length:=acr.2 z;by_cases H:(32:Int)<(s.length:Int);refine wk ?_;exact ag (no.o (by simp[vu];omega));obtain⟨t,m⟩:=abr (s.getD 0 0);have hr:=t.toNat_lt;have w0:IntKind.i32.wrap (t.toNat:Int)=(t.toNat:Int):=RJ aeu aeu;cases hl0:rR (t.toNat:Int)with
 | false =>
   have kk1:=@hid _ @mY;refine wk ?_;refine ag (no.o ?_);simp only[vu,m,hl0,ad4,adA]
 | true =>
   have kk1:=@hid _ @mY;refine wk ?_;refine ar (λn T' L'=>∃p,n=s.length-p/\p<=s.length/\Hid (∀c∈s.take p,LO (c.toNat:Int)=true)/\T'=[(20,.ptr L.length 0)]/\L'=L++[.siter s p]) aey ⟨0,rfl,abJ _,hid aev,rfl,rfl⟩ ?_;rintro _ _ _ ⟨p,rfl,E,b,rfl,rfl⟩;by_cases a:p<s.length
   .obtain⟨c,hc⟩:=abr (s.getD p 0);have g:c∈s:=(by rw[<- hc];simp[a]);have j:s.take (p+1)=s.take p++[c]:=(by rw[ab6 a,<- hc];simp[a]);replace j:=hid j;have f:LO (c.toNat:Int)=false->K (.bool false) L:=λe=>no.o (by have:(s.all λc=>LO (c.toNat:Int))=false:=List.all_eq_false.2 ⟨c,g,by rw[e];simp⟩;simp only[vu,this,ad4])
    replace f:=hid f;by_cases y:c.toNat<128
    .have hd:=SO a (by rw[hc];exact y);rw[hc]at hd;obtain⟨x,w⟩:∃x:Nat,c.toNat=x:=⟨_,rfl⟩;rw[w]at hd f;have r:=hid w;clear w hc g y hr w0;cases k:rR (x:Int)with
     | true =>
       have kk1:=@hid _ @mY;refine wk ?_;refine aez aeu aey ⟨p+1,rfl,a,hid λd i=>?_,rfl,rfl⟩;rw[j.o]at i;rcases abD.1 i with h|h
       .exact b.o d h
       .rw[abV.1 h,r.o,LO,k];rfl
     | false =>
       repeat' first
        |refine kY ?_
        | (first|refine jz aew ?_|refine fM aew ?_|refine fP ?_|refine zT ?_|refine nD (fun _=>?_)|refine dP ?_|refine jB ?_|refine mY ?_|refine dr (mY ⟨rfl,rfl⟩) (mY ⟨rfl,rfl⟩) ?_|refine bp (mY ⟨rfl,rfl⟩) ?_)
          refine sm ?_
        | (first|refine jv aew ?_|refine iN ?_|refine fO ?_|refine jA ?_|refine nI (dO ?_))
          refine sl ?_
        |exact nE
        |first|apply nF|apply jw|apply nG|apply jx|apply nH|apply jy
        |refine fS ?_
        |refine fN ?_
        |first|refine fQ rfl ?_|refine fR rfl ?_|refine cE rfl ?_ ?_|refine iD rfl (λ_=>?_) (λ_=>?_)|refine iC rfl (λ_=>?_) (λ_=>?_)
        |((first|refine cD (λ_=>?_) (λ_=>?_)|refine dN (λ_=>?_) (λ_=>?_))<;>try refine sm ?_)
        |refine And.intro trivial ?_
        |refine And.intro aeu ?_
        |refine eQ rfl (λ_=>?_) (λ_=>?_)
        |refine And.intro ?_ ?_
       .rename_i hb;refine ae rfl (f.o ?_);simp only[LO,k,adw,adD,Bool.and_eq_false_iff,decide_eq_false_iff_not];omega
       .rename_i hb;refine aez aeu aey ⟨p+1,rfl,a,hid λd i=>?_,rfl,rfl⟩;rw[j.o]at i;rcases abD.1 i with h|h
        .exact b.o d h
        .rw[abV.1 h,r.o];simp only[LO,k,adw,acn,abH,decide_eq_true_eq];omega
    .have hh:=U7 a (by rw[hc];omega);obtain⟨⟨x,G⟩,hd⟩:∃q,NR s p=q:=⟨_,rfl⟩;rw[hd]at hh;simp only at hh;have l:=hid (f.o (OP (show(128:Int)<=(c.toNat:Int)by omega)));have k:rR (x:Int)=false:=by have:=OP (show(128:Int)<=(x:Int)by omega);simp only[LO,adD]at this;exact this.1.1
     have C:¬(x:Int)<48:=aeu;have D:(57:Int)<(x:Int):=aeu;have F:¬(x:Int)=45:=aeu;clear hc g hr w0;have kk1:=@hid _ @mY;refine wk ?_;exact ae rfl l.o
   .have hke:p=s.length:=aeu;subst hke;have u:=h.o;have e:vu s=true:=by
     have B:(s.all λc=>LO (c.toNat:Int))=true:=abL.2 λc v=>b.o c (by rw[abX];exact v)
     simp only[vu,B,m,hl0,adg];simp;omega
    rw[e]at u;replace u:=hid u;clear e;refine wk ?_;exact ae rfl u.o
variable {L:List Blk}{K:abx}
abbrev Ava:=List UInt8×List UInt8
variable {r:List Ava}
def JR(a:Ava):List AV:=[.str a.1,.str a.2]
def bU(r:List Ava):List AV:=r.flatMap JR
abbrev V7(r:List Ava)(cap:Option Nat):AV:=.sl (bU r) r.length cap
def zV(r:List Ava)(typ:List UInt8):Bool:=r.any λa=>decide (aE a.1=aE typ)
theorem Z5{a:Ava}(d:(a.1.length:Int)<=100000)(e:(typ.length:Int)<=100000)(c:L[ip]?=some (.cells [.str typ]))(h:K (.bool (decide (aE a.1=aE typ))) L):
  abw 145 [.agg (JR a),.ptr ip 0] L K:=by
 obtain⟨t,v⟩:=a;replace h:=hid h;have b:ip<L.length:=(aby.1 c).1;have g1:(L++[Blk.cells [.str t,.str v]])[ip]?=some (.cells [.str typ]):=by rw[abC b];exact c
 simp only[JR];refine aa OE (by simp[Hu]) ?_;simp only[Hu,am];have kk1:=@aeB _ _ _ _ (Em d);have kk2:=@aeB _ _ _ _ (Em e);refine wk ?_;exact ae rfl h.o
theorem l8(r:List Ava):(bU r).length=r.length*2:=by
 induction r with
 |nil=>rfl
 |cons a r ih=>simp only[bU,ady,abP,JR,abU,ack]at ih⊢;omega
theorem xD:∀{r:List Ava}{k:Nat},k<r.length->((bU r).drop (k*2)).take 2=JR (r.getD k ([],[]))
 |a::r,0,_=>rfl
 |a::r,k+1,h=>by have b:=@xD r k (by simpa using h);rw[show(k+1)*2=k*2+1+1 by omega];simpa[bU,JR]using b
theorem WG(A:r.length<=100000)(p:∀a∈r,(a.1.length:Int)<=100000)(v:(typ.length:Int)<=100000)(x:L[ip]?=some (.cells [.str typ]))(i:zV r typ=false->K (.int .i64 (-1)) L)(d:∀k:Nat,zV r typ=true->K (.int .i64 k) L):abw 167 [V7 r cap,.func 145 [.ptr ip 0]] L K:=by
 replace i:=hid i;replace d:=hid d;replace p:=hid p;refine abv iK ?_;refine ar (λn T' L'=>∃(k:Nat),n=r.length-k/\k<=r.length/\Hid (zV (r.take k) typ=false)/\T'=[(8,.int .i64 (k:Int)),(7,.int .i64 r.length),(0,V7 r cap),(1,.func 145 [.ptr ip 0])]/\L=L') (CutS (b:=abA _)) ⟨0,rfl,abJ _,hid rfl,rfl,rfl⟩ ?_;rintro _ _ _ ⟨k,rfl,z,u,rfl,rfl⟩;by_cases f:k<r.length;have g1:(k:Int)<(r.length:Int):=aeu;have y:=abu k aeu;have w:=xD f;have B:k*2+2<=(bU r).length:=by rw[l8];omega
 obtain⟨a,l⟩:=abr (r.getD k ([],[]));have g:a∈r:=by rw[<- l];simp[f]
 have h:r.take (k+1)=r.take k++[a]:=by rw[ab6 f,<- l];simp[f]
 rw[l]at w;have q:zV (r.take (k+1)) typ=decide (aE a.1=aE typ):=by have:=u.o;simp only[zV]at this⊢;rw[h,List.any_append,this];simp
 have c:decide (aE a.1=aE typ)=true->zV r typ=true:=λe=>ac5.2 ⟨a,g,e⟩
 replace c:=hid c;replace q:=hid q;replace h:=hid h;have m:=hid (p.o a g);clear l g;refine wk ?_;refine Z5 m.o v x ?_;refine sk ?_;cases hd:decide (aE a.1=aE typ)with
 | true =>
   have s:=hid (d.o k (c.o hd));replace hd:=hid hd;refine wk ?_;exact ag s.o
 | false =>
   replace hd:=hid hd;refine wk ?_;exact aez aeu (CutS (b:=abA _)) ⟨k+1,rfl,f,hid (by rw[q.o,hd.o]),rfl,rfl⟩
 have t:k=r.length:=aeu;subst t;have g1:¬(r.length:Int)<(r.length:Int):=aeu;have j:=u.o;rw[abX]at j;have s:=hid (i.o j);clear j;refine wk ?_;exact ag s.o
theorem Rn(f:r.length<=100000)(c:∀a∈r,(a.1.length:Int)<=100000)(d:(typ.length:Int)<=100000)(i:L[ip]?=some (.cells [.str typ]))(h:K (.bool (zV r typ)) L):
  abw 144 [V7 r cap,.func 145 [.ptr ip 0]] L K:=by
 replace h:=hid h;refine abv fY ?_;refine WG f c d i (λe=>?_) (λk e=>?_);have b:=h.o;rw[e]at b;replace b:=hid b;refine aeC ?_;exact ag b.o;have b:=h.o;rw[e]at b;replace b:=hid b;have g:(0:Int)<=(k:Int):=aeu;refine aeC ?_;exact ag b.o
theorem Zl(b:r.length<=100000)(c:∀a∈r,(a.1.length:Int)<=100000)(d:(typ.length:Int)<=100000)(h:K (.bool (zV r typ)) L):
  abw 102 [V7 r cap,.str typ] L K:=by
 replace h:=hid h;refine abv Rq ?_;refine Rn b c d aev ?_;refine aeC ?_;exact ae rfl h.o
theorem fL{a:List UInt8}{c:UInt8}{L:List Blk}{K:abx}(h:K (.int .i64 (Lib.indexByte a c)) L):abw 146 [.str a,.int .u8 c.toNat] L K :=
 iE Tryz.func146 rfl aew (λw0 S0 E w vs g b=>by simp only[VRL,VR]at b;obtain⟨_,_,rfl,rfl,_,_,rfl,rfl,rfl⟩:=b;exact(Tryz.strings_IndexByte ⟨⟨a⟩⟩ c.toNat w).mono λe w' ⟨f,d⟩=>⟨_,f,by simp[VR],by subst d;exact Ol.refl _⟩) h
theorem qf(a:List UInt8)(c:UInt8):(0<=Lib.indexByte a c)↔c∈a:=by
 induction a with
 |nil=>simp[Lib.indexByte]
 | cons b l ih =>
   have f:=Lib.indexByte_ge l c;unfold Lib.indexByte;by_cases d:b=c
   .simp[d]
   .have e1:(b == c)=false:=(by simpa using d);rw[e1];simp only[abT,if_false];have e:c∈b::l↔c∈l:=(by simp[Ne.symm d]);rw[e,<- ih];split
    .rename_i h;simp at h;omega
    .rename_i h;simp at h;omega
theorem dL(c d:UInt8):(c.toNat:Int)=(d.toNat:Int)↔c=d:=by constructor;intro h;exact adB.1 aeu;rintro rfl;rfl
def wrB(i n:Nat)(c:UInt8):List UInt8 :=
 if c=0 then[92,48,48]else if(i=0/\(c=32\/c=35))\/(i+1=n/\c=32)\/c∈[34,43,44,59,60,62,92]then[92,c]else[c]
def wrL(n:Nat):Nat->List UInt8->List UInt8
 |_,[]=>[]
 |i,c::s=>wrB i n c++wrL n (i+1) s
def ki(s:List UInt8):List UInt8:=wrL s.length 0 s
theorem XQ(i n:Nat)(c:UInt8):(wrB i n c).length<=3:=by unfold wrB;split;simp;split<;>simp
theorem fT(A:s.length<=100000)(h:K (.str (ki s)) L):abw 105 [.str s] L K:=by
 replace h:=hid h;have C:IntKind.i64.wrap ((s.length:Int)-1)=(s.length:Int)-1:=af aeu aeu;refine abv Ma ?_;refine cB (l:=[]) (n:=0) 3 1 rfl (acg 1).symm ?_;refine ar (λn T' L'=>∃(i m:Nat) (b:List UInt8),n=s.length-i/\i<=s.length/\m<=3*i/\Hid (m=b.length/\b++wrL s.length i (s.drop i)=ki s)/\T'=[(10,.int .i64 (i:Int)),(9,.int .i64 s.length),(8,.sl (u8s s) s.length none),(3,.gsl (u8s b) m L.length 1),(0,.str s)]/\L'=L++[.spare m 1]) aey ⟨0,0,[],rfl,abJ _,aeu,hid ⟨rfl,rfl⟩,rfl,rfl⟩ ?_;rintro _ _ _ ⟨i,m,b,rfl,B,x,k,rfl,rfl⟩;by_cases d:i<s.length
 .have g1:(i:Int)<(s.length:Int):=aeu;have y:=abu i aeu;obtain⟨c,u⟩:=abr (s.getD i 0);have g3:(u8s s).getD i .undef=.int .u8 c.toNat:=(by rw[<- u];simp[u8s,d]);have q:s.drop i=c::s.drop (i+1):=(by rw[acA d,<- u];simp[d]);have a:=k.o.2;rw[q]at a;simp only[wrL]at a;have g4:=EK;have z:(u8s s).length=s.length:=(by simp[u8s]);clear u q;replace a:=hid a
  repeat' first
   |refine kY ?_
   | (first|refine jz aew ?_|refine fM aew ?_|refine fP ?_|refine zT ?_|refine nD (fun _=>?_)|refine dP ?_|refine jB ?_|refine fL ?_|refine dr (fL ⟨rfl,rfl⟩) (fL ⟨rfl,rfl⟩) ?_|refine bp (fL ⟨rfl,rfl⟩) ?_)
     refine sm ?_
   | (first|refine jv aew ?_|refine iN ?_|refine fO ?_|refine jA ?_|refine nI (dO ?_))
     refine sl ?_
   |exact nE
   |first|apply nF|apply jw|apply nG|apply jx|apply nH|apply jy
   |refine fS ?_
   |refine fN ?_
   |first|refine fQ rfl ?_|refine fR rfl ?_|refine cE rfl ?_ ?_|refine iD rfl (λ_=>?_) (λ_=>?_)|refine iC rfl (λ_=>?_) (λ_=>?_)
   |((first|refine cD (λ_=>?_) (λ_=>?_)|refine dN (λ_=>?_) (λ_=>?_))<;>try refine sm ?_)
   |refine And.intro trivial ?_
   |refine And.intro aeu ?_
   |refine eQ rfl (λ_=>?_) (λ_=>?_)
   |refine And.intro ?_ ?_
  rfl;omega;rename_i j;have f:=(dL c 0).1 j;rw[show u8s b++AV.frzL (u8s [92,48,48])=u8s (b++[92,48,48])by simp[u8s,AV.frzL,AV.frz]];refine aez aeu aex ⟨i+1,m+3,b++[92,48,48],rfl,d,aeu,hid ⟨by simp[k.o.1],?_⟩,rfl,rfl⟩;rw[<- a.o,wrB,if_pos f,abK];rename_i j v;have f:¬c=0:=λe=>j ((dL c 0).2 e)
  have p:(i=0/\(c=32\/c=35))\/(i+1=s.length/\c=32)\/c∈[34,43,44,59,60,62,92]:=by rcases v with(⟨r,g⟩|⟨r,g⟩)|e;exact .inl ⟨aeu,g.imp (dL c 32).1 (dL c 35).1⟩;exact .inr (.inl ⟨aeu,(dL c 32).1 g⟩);exact .inr (.inr ((qf _ _).1 e))
  rw[show u8s b++[AV.int IntKind.u8 92,AV.int IntKind.u8 (c.toNat:Int)]=u8s (b++[92,c])by simp[u8s]];refine aez aeu aex ⟨i+1,m+1+1,b++[92,c],rfl,d,aeu,hid ⟨by simp[k.o.1],?_⟩,rfl,rfl⟩;rw[<- a.o,wrB,if_neg f,if_pos p,abK];rename_i j v;have f:¬c=0:=λe=>j ((dL c 0).2 e)
  have p:¬((i=0/\(c=32\/c=35))\/(i+1=s.length/\c=32)\/c∈[34,43,44,59,60,62,92]):=λp=>v (by rcases p with⟨r,g⟩|⟨r,g⟩|e;exact .inl (.inl ⟨aeu,g.imp (dL c 32).2 (dL c 35).2⟩);exact .inl (.inr ⟨aeu,(dL c 32).2 g⟩);exact .inr ((qf _ _).2 e))
  rw[show u8s b++[AV.int IntKind.u8 (c.toNat:Int)]=u8s (b++[c])by simp[u8s]];refine aez aeu aex ⟨i+1,m+1,b++[c],rfl,d,aeu,hid ⟨by simp[k.o.1],?_⟩,rfl,rfl⟩;rw[<- a.o,wrB,if_neg f,if_neg p,abK]
 have w:i=s.length:=aeu;subst w;have g1:¬(s.length:Int)<(s.length:Int):=aeu;have r:=EK b;have g:=At b;have e:=k.o.2;rw[adH,wrL,ab1]at e;have t:=h.o;rw[<- e]at t;replace t:=hid t;clear e;refine wk ?_;exact ae rfl t.o
abbrev HM:List UInt8:=[34,43,44,59,60,62,92,32,35,61]
def j8:List UInt8->Bool->List UInt8->Option (List UInt8×List UInt8×Bool)
 |b,bl,[]=>some (b,[], !bl)
 | b,bl,c::s=>if c=44\/c=43 then some (b,c::s, !bl)
   else if c≠92 then(if c=0\/c∈([34,59,60,62]:List UInt8)\/(b=[]/\(c=32\/c=35))then none else j8 (b++[c]) (decide (c=32)) s)
   else match s with
    |[]=>none
    | d::s1=>if d∈HM then j8 (b++[d]) false s1 else match s1 with
      |[]=>none
      | e::s2=>match So d e with
        |none=>none
        |some x=>j8 (b++[x]) false s2
def Ub(o:Option (List UInt8×List UInt8×Bool)):AV:=match o with
 |none=>.tup [.str [],.str [],.bool false]
 |some (v,r,f)=>.tup [.str v,.str r,.bool f]
theorem MB  :j8 b bl []=some (b,[], !bl):=by rw[j8.eq_def]
theorem JY{c:UInt8}(h:c=44\/c=43):j8 b bl (c::s)=some (b,c::s, !bl):=by rw[j8.eq_def];simp only[if_pos h]
theorem G5{c:UInt8}(h:¬(c=44\/c=43))(a:c≠92):j8 b bl (c::s)=if c=0\/c∈([34,59,60,62]:List UInt8)\/(b=[]/\(c=32\/c=35))then none else j8 (b++[c]) (decide (c=32)) s:=by rw[j8.eq_def];simp only[if_neg h,if_pos a]
theorem OO  :j8 b bl [92]=none:=by rw[j8.eq_def];rfl
theorem JZ(h:d∈HM):j8 b bl (92::d::s)=j8 (b++[d]) false s:=by rw[j8.eq_def];simp only[show ¬((92:UInt8)=44\/(92:UInt8)=43)by decide,if_false,ne_eq,not_true_eq_false,if_pos h]
theorem ON(h:¬d∈HM):j8 b bl [92,d]=none:=by rw[j8.eq_def];simp only[show ¬((92:UInt8)=44\/(92:UInt8)=43)by decide,if_false,ne_eq,not_true_eq_false,if_neg h]
theorem Ql{e:UInt8}(h:¬d∈HM):j8 b bl (92::d::e::s)=match So d e with|none=>none|some x=>j8 (b++[x]) false s:=by rw[j8.eq_def];simp only[show ¬((92:UInt8)=44\/(92:UInt8)=43)by decide,if_false,ne_eq,not_true_eq_false,if_neg h]
theorem WZ{i:Nat}(h:i<s.length):s.drop i=s.getD i 0::s.drop (i+1):=by rw[acA h];simp[h]
theorem XU(hs:s.length<=100000)(h:K (Ub (j8 [] false s)) L):abw 154 [.str s] L K:=by
 replace h:=hid h;refine abv OD ?_;refine cB (l:=[]) (n:=0) 5 1 rfl (acg 1).symm ?_;refine ar (λn T' L'=>∃(i m:Nat) (b:List UInt8) (bl:Bool),n=s.length-i/\i<=s.length/\m<=i/\Hid (m=b.length/\j8 b bl (s.drop i)=j8 [] false s)/\T'=[(7,.int .i64 (i:Int)),(6,.bool bl),(5,.gsl (u8s b) m L.length 1),(0,.str s)]/\L'=L++[.spare m 1]) aey ⟨0,0,[],false,rfl,abJ _,aeu,hid ⟨rfl,rfl⟩,rfl,rfl⟩ ?_;rintro _ _ _ ⟨i,m,b,bl,rfl,hi,Q,w,rfl,rfl⟩;have Z:=EK b;have T:=At b;by_cases z:i<s.length
 .have g1:(i:Int)<(s.length:Int):=aeu;have W:=abu i aeu;obtain⟨c,J⟩:=abr (s.getD i 0);have j:=WZ z;rw[J]at j;have a:=w.o.2;rw[j]at a;have C:(s.drop i).take (s.length-i)=s.drop i:=ab7 aev;have O:(i:Int)<=(s.length:Int):=aeu;by_cases p:c=44\/c=43;rw[JY p]at a;have f:=h.o;rw[<- a]at f;simp only[Ub]at f;rw[<- j]at f;replace f:=hid f;have B:((c.toNat:Int)=44)\/((c.toNat:Int)=43):=p.imp (dL c 44).2 (dL c 43).2;clear a p j;rcases B with B|B;refine wk ?_;exact ae rfl f.o;refine wk ?_;exact ae rfl f.o
  .have B:¬(c.toNat:Int)=44:=λe=>p (.inl ((dL c 44).1 e))
   have V:¬(c.toNat:Int)=43:=λe=>p (.inr ((dL c 43).1 e))
   by_cases y:c=92;subst y;have g3:IntKind.i64.wrap ((i:Int)+2)=(i:Int)+2:=af aeu aeu;have g4:IntKind.i64.wrap ((i:Int)+3)=(i:Int)+3:=af aeu aeu;have R:IntKind.i64.wrap ((i:Int)+1+1)=(i:Int)+1+1:=af aeu aeu;have X:IntKind.i64.wrap ((i:Int)+2+1)=(i:Int)+2+1:=af aeu aeu;have Y:((i:Int)+1).toNat=i+1:=aeu;have t3:((i:Int)+3).toNat=i+3:=aeu;by_cases I:i+1<s.length;have M:(i:Int)+1<(s.length:Int):=aeu;obtain⟨d,hd⟩:=abr (s.getD (i+1) 0);have g:=WZ I;rw[hd]at g;rw[g]at a;by_cases q:d∈HM;rw[JZ q]at a;have N:=(qf HM d).2 q;clear j g;replace a:=hid a;have kk1:=@hid _ @fL;refine wk ?_;rw[show u8s b++[AV.int IntKind.u8 (d.toNat:Int)]=u8s (b++[d])by simp[u8s],show decide (((UInt8.toNat 92:Nat):Int)=32)=false from rfl];refine aez aeu aex ⟨i+1+1,m+1,b++[d],false,rfl,I,aeu,hid ⟨by simp[w.o.1],a.o⟩,rfl,rfl⟩;have N:¬0<=Lib.indexByte HM d:=λe=>q ((qf HM d).1 e)
   by_cases G:i+2<s.length;have H:(i:Int)+2<(s.length:Int):=aeu;have f4:(i:Int)+1<=(i:Int)+3:=aeu;have U:(i:Int)+3<=(s.length:Int):=aeu;have f6:(0:Int)<=(i:Int)+1:=aeu;obtain⟨e,P⟩:=abr (s.getD (i+2) 0);have k:=WZ G;rw[P]at k;rw[k,Ql q]at a;have F:(s.drop (i+1)).take (i+3-(i+1))=[d,e]:=by rw[g,k,show i+3-(i+1)=2 by omega];rfl
   clear j g k;replace a:=hid a;have kk1:=@hid _ @fL;refine wk ?_;refine Vz ?_;rcases v:So d e with _|x;rw[show Q1 d e=.tup [.str [],.bool false]by simp only[Q1,v]];have f:=h.o;rw[<- a.o,v]at f;simp only[Ub]at f;replace f:=hid f;clear v;refine aeC ?_;exact ae rfl f.o;rw[show Q1 d e=.tup [.str [x],.bool true]by simp only[Q1,v]];have u:=a.o;rw[v]at u;simp only at u;replace u:=hid u;have S:[x].getD 0 0=x:=rfl;clear v a;refine aeC ?_;rw[show u8s b++[AV.int IntKind.u8 (x.toNat:Int)]=u8s (b++[x])by simp[u8s],show decide (((UInt8.toNat 92:Nat):Int)=32)=false from rfl];refine aez aeu aex ⟨i+2+1,m+1,b++[x],false,rfl,G,aeu,hid ⟨by simp[w.o.1],u.o⟩,rfl,rfl⟩;have H:¬(i:Int)+2<(s.length:Int):=aeu;have t:s.drop (i+1+1)=[]:=ad6 aeu;rw[t,ON q]at a;have f:=h.o;rw[<- a]at f;replace f:=hid f;clear j g a;have kk1:=@hid _ @fL;refine wk ?_;exact ae rfl f.o;have M:¬(i:Int)+1<(s.length:Int):=aeu;have H:¬(i:Int)+2<(s.length:Int):=aeu;have t:s.drop (i+1)=[]:=ad6 aeu;rw[t,OO]at a;have f:=h.o;rw[<- a]at f;replace f:=hid f;clear j a;have kk1:=@hid _ @fL;refine wk ?_;exact ae rfl f.o
   .rw[G5 p y]at a;have k3:¬(c.toNat:Int)=92:=λe=>y ((dL c 92).1 e)
    clear j;replace a:=hid a
    repeat' first
     |refine kY ?_
     | (first|refine jz aew ?_|refine fM aew ?_|refine fP ?_|refine zT ?_|refine nD (fun _=>?_)|refine dP ?_|refine jB ?_|refine fL ?_|refine dr (fL ⟨rfl,rfl⟩) (fL ⟨rfl,rfl⟩) ?_|refine bp (fL ⟨rfl,rfl⟩) ?_)
       refine sm ?_
     | (first|refine jv aew ?_|refine iN ?_|refine fO ?_|refine jA ?_|refine nI (dO ?_))
       refine sl ?_
     |exact nE
     |first|apply nF|apply jw|apply nG|apply jx|apply nH|apply jy
     |refine fS ?_
     |refine fN ?_
     |first|refine fQ rfl ?_|refine fR rfl ?_|refine cE rfl ?_ ?_|refine iD rfl (λ_=>?_) (λ_=>?_)|refine iC rfl (λ_=>?_) (λ_=>?_)
     |((first|refine cD (λ_=>?_) (λ_=>?_)|refine dN (λ_=>?_) (λ_=>?_))<;>try refine sm ?_)
     |refine And.intro trivial ?_
     |refine And.intro aeu ?_
     |refine eQ rfl (λ_=>?_) (λ_=>?_)
     |refine And.intro ?_ ?_
    rename_i v;have r:c=0\/c∈([34,59,60,62]:List UInt8)\/(b=[]/\(c=32\/c=35)):=by rcases v with(e|e)|⟨e,D⟩;exact .inl ((dL c 0).1 e);exact .inr (.inl ((qf _ _).1 e));refine .inr (.inr ⟨acm.1 ?_,D.imp (dL c 32).1 (dL c 35).1⟩);have:=w.o.1;omega
    have f:=h.o;rw[<- a.o,if_pos r]at f;exact ae rfl f;rename_i v;have r:¬(c=0\/c∈([34,59,60,62]:List UInt8)\/(b=[]/\(c=32\/c=35))):=λe=>v (by rcases e with e|e|⟨e,D⟩;exact .inl (.inl ((dL c 0).2 e));exact .inl (.inr ((qf _ _).2 e));refine .inr ⟨?_,D.imp (dL c 32).2 (dL c 35).2⟩;have:=w.o.1;rw[e]at this;simp at this;omega)
    have A:decide ((c.toNat:Int)=32)=decide (c=32):=by have:=dL c 32;simp only[decide_eq_decide];exact this
    rw[show u8s b++[AV.int IntKind.u8 (c.toNat:Int)]=u8s (b++[c])by simp[u8s],A];refine aez aeu aex ⟨i+1,m+1,b++[c],decide (c=32),rfl,z,aeu,hid ⟨by simp[w.o.1],?_⟩,rfl,rfl⟩;rw[<- a.o,if_neg r]
 have E:i=s.length:=aeu;subst E;have g1:¬(s.length:Int)<(s.length:Int):=aeu;have f:=h.o;rw[<- w.o.2,adH,MB]at f;simp only[Ub]at f;replace f:=hid f;have C:(s.drop s.length).take (s.length-s.length)=[]:=aev;refine wk ?_;exact ae rfl f.o
def Hk:List UInt8->Option (List UInt8×List UInt8)
 |[]=>none
 | c::s=>if c=61 then some ([],s) else match Hk s with
   |none=>none
   |some (a,b)=>some (c::a,b)
theorem NT:∀s:List UInt8,(Lib.indexByte s 61=-1/\Hk s=none)\/∃n:Nat,n<s.length/\Lib.indexByte s 61=(n:Int)/\Hk s=some (s.take n,s.drop (n+1))
 |[]=>.inl ⟨rfl,rfl⟩
 | c::s=>by
   by_cases d:c=61
   .subst d;exact .inr ⟨0,aev,by simp[Lib.indexByte],by simp[Hk]⟩
   .have e1:(c == 61)=false:=(by simpa using d);unfold Lib.indexByte;rw[e1];simp only[abT,if_false,Hk,if_neg d];rcases NT s with⟨a,b⟩|⟨n,e,a,b⟩
    .exact .inl ⟨by rw[a];rfl,by rw[b]⟩
    .refine .inr ⟨n+1,by simp;omega,?_,by rw[b];simp⟩;rw[a];have:((n:Int) == -1)=false:=aev;rw[this];simp
def NS(s:List UInt8):AV:=match Hk s with
 |some (a,b)=>.tup [.str a,.str b,.bool true]
 |none=>.tup [.str s,.str [],.bool false]
theorem Q0{a:List UInt8}{c:UInt8}{L:List Blk}{K:abx}(h:K (.int .i64 (Lib.indexByte a c)) L):abw 194 [.str a,.str [c]] L K :=
 iE Tryz.func194 rfl aew (λw0 S0 E w vs g b=>by simp only[VRL,VR]at b;obtain⟨_,_,rfl,rfl,_,_,rfl,rfl,rfl⟩:=b;exact(Tryz.stringslite_Index_one ⟨⟨a⟩⟩ c w).mono λe w' ⟨f,d⟩=>⟨_,f,by simp[VR],by subst d;exact Ol.refl _⟩) h
theorem W7(i:s.length<=100000)(h:K (NS s) L):abw 182 [.str s,.str [61]] L K:=by have j:[(61:UInt8)].length=1:=rfl;rcases NT s with⟨b,a⟩|⟨n,c,b,a⟩;simp only[NS,a]at h;replace h:=hid h;clear a;refine aa fp (by simp[bt]) ?_;simp only[bt,am];have kk1:=@hid _ @Q0;refine wk ?_;exact ag h.o;simp only[NS,a]at h;replace h:=hid h;have g1:(0:Int)<=(n:Int):=aeu;have d:=abu n aeu;have g3:(n:Int)<=(s.length:Int):=aeu;have g4:(n:Int)+1<=(s.length:Int):=aeu;have f:(0:Int)<=(n:Int)+1:=aeu;have g:((n:Int)+1).toNat=n+1:=aeu;have e:(s.drop (n+1)).take (s.length-(n+1))=s.drop (n+1):=ab7 aev;clear a;refine aa fp (by simp[bt]) ?_;simp only[bt,am];have kk1:=@hid _ @Q0;refine wk ?_;exact ag h.o
theorem aaX(c:s.length<=100000)(h:K (NS s) L):abw 153 [.str s,.str [61]] L K:=by
 rcases hc:Hk s with _|⟨a,b⟩
 all_goals
  simp only[NS,hc]at h;replace h:=hid h
 refine abv xz ?_;refine W7 c ?_;simp only[NS,hc];refine aeC ?_;exact ag h.o;refine abv xz ?_;refine W7 c ?_;simp only[NS,hc];refine aeC ?_;exact ag h.o
abbrev Rdn:=List Ava
abbrev aJ(r:Rdn):AV:=V7 r none
def LR:Nat->List Rdn->Rdn->List UInt8->List Rdn×Int
 |0,_,_,_=>([],4)
 | f+1,out,now,s=>if out.length=32\/now.length=8 then ([],9) else match Hk s with
   |none=>([],4)
   | some (typ,rest)=>if vu typ=false then ([],4) else if zV now typ=true then ([],21) else match j8 [] false rest with
     |none=>([],4)
     | some (v,r2,ok)=>if ok=false then ([],4) else match r2 with
       |[]=>(out++[now++[(typ,v)]],0)
       |c::s'=>if c=44 then LR f (out++[now++[(typ,v)]]) [] s' else LR f out (now++[(typ,v)]) s'
def kI(s:List UInt8):List Rdn×Int:=if 4096<s.length then([],5)else if s=[]then([],0)else LR (s.length+1) [] [] s
def ZS(p:List Rdn×Int):AV:=.tup [.sl (p.1.map aJ) p.1.length none,.int .i64 p.2]
theorem Rh:∀{s a b:List UInt8},Hk s=some (a,b)->b.length<s.length/\a.length<=s.length
 |[],a,b,h=>by simp[Hk]at h
 | c::s,a,b,h=>by
   simp only[Hk]at h;split at h
   .simp only[abz,abI]at h;obtain⟨rfl,rfl⟩:=h;simp
   .split at h
    .cases h
    .rename_i a' b' hc;simp only[abz,abI]at h;obtain⟨rfl,rfl⟩:=h;have:=Rh hc;simp;omega
theorem Vy:∀(n:Nat){s b:List UInt8}{bl:Bool}{v r:List UInt8}{ok:Bool},s.length<=n->j8 b bl s=some (v,r,ok)->r.length<=s.length:=by
 intro n;induction n with
 | zero =>
   intro s b bl v r ok a h;obtain rfl:=acm.1 (Nat.le_zero.1 a);rw[MB]at h;cases h;simp
 | succ n ih =>
   intro s b bl v r ok a h;cases s with
   |nil=>rw[MB]at h;cases h;simp
   | cons c s =>
     simp only[abU]at a;by_cases g:c=44\/c=43
     .rw[JY g]at h;cases h;simp
     by_cases f:c=92
     .subst f;cases s with
      |nil=>rw[OO]at h;cases h
      | cons d s =>
        by_cases hd:d∈HM
        .rw[JZ hd]at h;have:=ih (by simp at a;omega) h;simp;omega
        .cases s with
         |nil=>rw[ON hd]at h;cases h
         | cons e s =>
           rw[Ql hd]at h;split at h
           .cases h
           .have:=ih (by simp at a;omega) h;simp;omega
     .rw[G5 g f]at h;split at h
      .cases h
      .have:=ih aeu h;simp;omega
section
variable {P:Program}{N:Nat}{own:Nat->Nat->Nat}{Q:Exit->Tm->List Blk->Prop}{T:Tm}{L:List Blk}
theorem Y9{lc:aS}(t sz B:Nat){l:List AV}{n:Nat}{v:AV}(b:aq T t=some v)(f:B<L.length)(j:(v=.sl [] 0 (some 0)/\l=[]/\n=0)\/∃i,B<i/\v=.gsl l n i sz/\L[i]?=some (.spare n sz))(h:∀i X,B<i->(L++X)[i]?=some (.spare n sz)->AW P N own lc Q ((t,.gsl l n i sz)::T) (L++X)):AW P N own lc Q T L:=by
 rcases j with⟨rfl,rfl,rfl⟩|⟨i,a,rfl,g⟩;exact cB t sz b aev (h L.length [.spare 0 sz] f aev);have c:=h i [] a (by simpa using g);rw[ab1]at c;refine c.weakT λt' k e=>?_
 simp only[aq]at e;split at e;rename_i d;subst d;cases e;exact b;exact e
end
variable {L:List Blk}{K:abx}
set_option maxHeartbeats 8000000
set_option maxRecDepth 100000
def abo(B:Nat)(r:Rdn)(v:AV)(L:List Blk):Prop:=(v=.sl [] 0 (some 0)/\bU r=[]/\r.length=0)\/∃i,B<i/\v=.gsl (bU r) r.length i 2/\L[i]?=some (.spare r.length 2)
theorem Ve(r:Rdn)(t v:List UInt8):bU (r++[(t,v)])=bU r++[.str t,.str v]:=by simp[bU,JR]
theorem xC(r:Rdn):AV.frzL (bU r)=bU r:=by
 induction r with
 |nil=>rfl
 |cons a r ih=>simpa[bU,JR,AV.frzL,AV.frz]using ih
theorem xX{L0 X:List Blk}{e:Int}{K:abx}(h:K (ZS ([],e)) L0):Fin L0 (.tup [.sl [] 0 (some 0),.int .i64 e]) (L0++X) K:=aB (ae rfl h)
theorem cF(d:List Rdn):AV.frzL (d.map aJ)=d.map aJ:=by
 rw[AV.frzL_eq,abW];refine acB λr _=>?_
 simp only[Function.comp,AV.frz,xC]
theorem Vd(q:Nat->Bool)(r:Rdn):AV.refsL q (bU r)=true:=by
 induction r with
 |nil=>rfl
 |cons a r ih=>simpa[bU,JR,AV.refsL,AV.refs]using ih
theorem fV(q:Nat->Bool):∀d:List Rdn,AV.refsL q (d.map aJ)=true
 |[]=>rfl
 |r::d=>by simp only[abO,AV.refsL,AV.refs,Vd,fV q d,Bool.and_self]
theorem MD(h:vu s=true):s.length<=32:=by simp only[vu,abH,decide_eq_true_eq]at h;exact h.1.1.2
theorem Z4{r:Rdn}{i n:Nat}(hr:r.length=n)(d:n<=8)(c:∀a∈r,a.1.length<=32)(e:typ.length<=4096)(h:K (.bool (zV r typ)) L):
  abw 102 [.gsl (bU r) n i 2,.str typ] L K:=by
 subst hr;exact dQ (by simpa only[AV.frzL,AV.frz,xC]using Zl (cap:=none) aeu (λa b=>by have:=c a b;omega) aeu h)
theorem Tu(h:K (ZS (kI s)) L):abw 118 [.str s] L K:=by
 refine aa OH (by simp[Hx]) ?_;simp only[Hx,am];by_cases P:4096<s.length;have f1:(4096:Int)<(s.length:Int):=aeu;rw[kI,if_pos P]at h;replace h:=hid h;clear P;refine wk ?_;exact aB (ag h.o);have f1:¬(4096:Int)<(s.length:Int):=aeu;rw[kI,if_neg P]at h;by_cases V:s=[];rw[if_pos V]at h;replace h:=hid h;refine wk ?_;exact aB (ag h.o);rw[if_neg V]at h;replace h:=hid h;have hs:=hid (show s.length<=4096 by omega);clear P;obtain⟨R,T⟩:=abr (LR (s.length+1) [] [] s);rw[T]at h;refine wk ?_;refine cB (l:=[]) (n:=0) 4 1 rfl (acg 1).symm ?_;refine ar (λn T' L'=>∃(f m:Nat) (p:List Rdn) (j:Rdn) (u:List UInt8) (v:AV) (X:List Blk),f=n/\u.length<=4096/\m=p.length/\m<=32/\j.length<=8/\Hid (u.length<f/\LR f p j u=R/\(∀a∈j,a.1.length<=32)/\abo L.length j v L')/\L'[L.length]?=some (.spare m 1)/\T'=[(5,v),(4,.gsl (p.map aJ) m L.length 1),(0,.str u)]/\L'=L++X) aey ⟨s.length+1,0,[],[],s,_,[.spare 0 1],rfl,hs.o,rfl,aeu,aev,hid ⟨aeu,T,aev,.inl ⟨rfl,rfl,rfl⟩⟩,aev,rfl,rfl⟩ ?_;clear V;clear hs;rintro _ _ _ ⟨f,m,p,j,u,v,X,rfl,hu,E,F,G,hI,ho,rfl,rfl⟩;obtain⟨hf,D,M,hv⟩:=hI.o;clear hI;clear T;obtain⟨f,rfl⟩:∃g,f=g+1:=⟨f-1,aeu⟩;have hB:L.length<(L++X).length:=(aby.1 ho).1;refine Y9 5 2 L.length rfl hB hv λi Y al S=>?_
 rw[abK]at S⊢;have C:(L++(X++Y))[L.length]?=some (.spare m 1):=by rw[<- abK,abC hB];exact ho
 generalize X++Y=Z at S C⊢;clear ho hB hv;have s5:∀A,(L++Z).set i A=L++Z.set (i-L.length) A:=λA=>ach _ _ aeu
 have s4:∀(W:List Blk) A,(L++W).set L.length A=L++W.set 0 A:=λW A=>by rw[ach _ _ (abA _),adb]
 have hz:i-L.length≠0:=aeu;have ad:∀A,(L++Z.set (i-L.length) A)[L.length]?=some (.spare m 1):=λA=>by rw[<- s5,abE aeu];exact C
 have U:∀A,(L++Z.set (i-L.length) A)[i]?=some A:=λA=>by rw[<- s5,ace,if_pos rfl,if_pos (aby.1 S).1]
 have ap:=hu;obtain⟨c,I⟩:∃c:Nat,j.length=c:=⟨_,rfl⟩;rw[LR]at D;rw[I]at D S G⊢;by_cases y:p.length=32\/c=8;rw[if_pos y]at D;have d:=h.o;rw[<- D]at d;replace d:=hid d;have k:(m:Int)=32\/(m:Int)≠32/\(c:Int)=8:=aeu;clear D y;clear E;rcases k with k|⟨k,k'⟩;refine wk ?_;exact xX d.o;refine wk ?_;exact xX d.o;rw[if_neg y]at D;have k1:¬(m:Int)=32:=aeu;have k2:¬(c:Int)=8:=aeu;replace E:=hid E;clear y;replace D:=hid D;replace M:=hid M;refine wk ?_;refine aaX aeu ?_;rcases hcut:Hk u with _|⟨typ,rest⟩;rw[show NS u=.tup [.str u,.str [],.bool false]by simp only[NS,hcut]];have d:=h.o;rw[<- D.o,hcut]at d;simp only at d;replace d:=hid d;refine aeC ?_;exact xX d.o;rw[show NS u=.tup [.str typ,.str rest,.bool true]by simp only[NS,hcut]];have t:=D.o;rw[hcut]at t;simp only at t;have an:=Rh hcut;replace t:=hid t;clear hcut D;refine sk ?_;cases hty:vu typ with
 | false =>
   have d:=h.o;rw[<- t.o,if_pos hty]at d;replace d:=hid d;have kk1:=@hid _ @RO;refine wk ?_;exact xX d.o
 | true =>
   have z:=t.o;rw[if_neg (by rw[hty];simp)]at z;replace z:=hid z;clear t;have kk1:=@hid _ @RO;refine wk ?_;refine Z4 I G M.o aeu ?_;cases hha:zV j typ with
   | true =>
     have d:=h.o;rw[<- z.o,if_pos hha]at d;replace d:=hid d;refine aeC ?_;exact xX d.o
   | false =>
     have B:=z.o;rw[if_neg (by rw[hha];simp)]at B;replace B:=hid B;clear z;refine aeC ?_;refine XU aeu ?_;rcases hvl:j8 [] false rest with _|⟨w,r2,ai⟩
     .have d:=h.o;rw[<- B.o,hvl]at d;simp only at d;replace d:=hid d;simp only[Ub];refine aeC ?_;exact xX d.o
     .have r:=B.o;rw[hvl]at r;simp only at r;have ab:=Vy _ (abA _) hvl;replace r:=hid r;clear B hvl;simp only[Ub];refine sk ?_;cases ai with
      | false =>
        have d:=h.o;rw[<- r.o,if_pos rfl]at d;replace d:=hid d;refine wk ?_;exact xX d.o
      | true =>
        have q:=r.o;rw[if_neg aev]at q;replace q:=hid q;clear r;have q1:(c+1)*32<=140737488355328:=aeu;have q2:c+1<=140737488355328:=aeu;have q3:(m+1)*24<=140737488355328:=aeu;have q4:m+1<=140737488355328:=aeu;have O:bU j++[AV.str typ,AV.str w]=bU (j++[(typ,w)]):=(Ve _ _ _).symm;have Q:p.map aJ++[AV.sl (AV.frzL (bU j++[AV.str typ,AV.str w])) (c+1) none]=(p++[j++[(typ,w)]]).map aJ:=by rw[O,xC,abS];simp[I]
        have J:(p++[j++[(typ,w)]]).length=m+1:=(by simp[E.o]);have H:(j++[(typ,w)]).length=c+1:=(by simp[I]);have e5:∀a∈j++[(typ,w)],a.1.length<=32:=λa ha=>by
         rcases abD.1 ha with h|h
         .exact M.o a h
         .rw[abV.1 h];exact MD hty
        replace O:=hid O;replace Q:=hid Q;replace J:=hid J;replace H:=hid H;replace e5:=hid e5;cases r2 with
        | nil =>
          have d:=h.o;rw[<- q.o]at d;simp only at d;replace d:=hid d;refine wk ?_;rw[Q.o];refine aB (ae ?_ ?_)
          .simp only[AV.frz,AV.frzL,cF,AV.refs,AV.refsL,fV,Bool.and_self]
          .simp only[AV.frz,AV.frzL,cF];have:=d.o;simp only[ZS,J.o]at this;exact this
        | cons x s' =>
          simp only at q;have q5:¬(x::s'=[]):=aev;have q7:((s'.length:Int)+1).toNat-1=s'.length:=aeu;have N:s'.take (((s'.length:Int)+1).toNat-1)=s':=(by rw[q7,abX]);simp only[abU]at ab;clear q7;replace N:=hid N;by_cases hx:x=44
          .subst hx;refine wk ?_;rw[N.o,Q.o];refine aez ?_ (CutS (b:=?_)) ⟨f,m+1,p++[j++[(typ,w)]],[],s',.sl [] 0 (some 0),_,rfl,aeu,J.o.symm,aeu,aev,hid ⟨aeu,?_,aev,.inl ⟨rfl,rfl,rfl⟩⟩,?_,rfl,rfl⟩
           .omega
           .have:=(aby.1 C).1;simp at this⊢;omega
           .rw[<- q.o,if_pos rfl]
           .have:=(aby.1 C).1;rw[<- s4,ace,if_pos rfl,if_pos (by simp at this⊢;omega)]
          .have q6:¬(x.toNat:Int)=44:=λe=>hx ((dL x 44).1 e)
           refine wk ?_;rw[N.o,O.o];refine aez ?_ (CutS (b:=?_)) ⟨f,m,p,j++[(typ,w)],s',.gsl (bU (j++[(typ,w)])) (c+1) i 2,_,rfl,aeu,E.o,F,by rw[H.o];omega,hid ⟨aeu,?_,e5.o,.inr ⟨i,al,by rw[H.o],by rw[H.o];exact U _⟩⟩,ad _,rfl,rfl⟩
           .omega
           .have:=(aby.1 C).1;simp at this⊢;omega
           .rw[<- q.o,if_neg hx]
def eo:Rdn->Rdn->Int
 |_,[]=>0
 |done,a::t=>if done.length=8 then 9 else if vu a.1=false then 20 else if zV done a.1=true then 21 else eo (done++[a]) t
def nr:Nat->List Rdn->Int
 |_,[]=>0
 |i,r::t=>if i=32 then 9 else if r=[]then 2 else if eo [] r≠0 then eo [] r else nr (i+1) t
theorem G9{d:List Rdn}{k:Nat}(h:k<d.length):(d.map aJ).getD k .undef=aJ (d.getD k []):=by simp[h]
theorem Vc{r:Rdn}{k:Nat}:(bU r).take (k*2)=bU (r.take k):=by
 induction r generalizing k with
 |nil=>simp[bU]
 | cons a r ih =>
   cases k with
   |zero=>simp[bU]
   | succ k =>
     have:=@ih k;simp only[bU]at this;rw[show(k+1)*2=k*2+1+1 by omega];simp[bU,JR,this]
theorem Z3{r:Rdn}{n:Nat}(hr:r.length=n)(d:n<=8)(c:∀a∈r,a.1.length<=32)(e:typ.length<=32)(h:K (.bool (zV r typ)) L):
  abw 102 [.sl (bU r) n cap,.str typ] L K:=by
 subst hr;exact Zl aeu (λa b=>by have:=c a b;omega) aeu h
theorem YK{d:List Rdn}(W:d.length<=1100000)(hr:∀r∈d,r.length<=1100000)(h:K (.int .i64 (nr 0 d)) L):abw 75 [.sl (d.map aJ) d.length cap] L K:=by
 replace h:=hid h;have G:=hid (λk=>@G9 d k);replace hr:=hid hr;refine abv OF ?_;refine ar (λn T' L'=>∃(i:Nat) (X:List Blk),n=d.length-i/\i<=d.length/\i<=32/\Hid (nr i (d.drop i)=nr 0 d)/\T'=[(9,.int .i64 (i:Int)),(8,.int .i64 d.length),(7,.sl (d.map aJ) d.length cap)]/\L'=L++X) aey ⟨0,[],rfl,abJ _,aeu,hid rfl,rfl,aev⟩ ?_;rintro _ _ _ ⟨i,X,rfl,hi,J,N,rfl,rfl⟩;by_cases p:i<d.length
 .have g1:(i:Int)<(d.length:Int):=aeu;have g2:=abu i aeu;have Q:=G.o i p;have F:=hr.o (d.getD i []) (by rw[abR,ab0 p];exact acN _);obtain⟨r,x⟩:=abr (d.getD i []);have D:d.drop i=r::d.drop (i+1):=(by rw[acA p,<- x];simp[p]);rw[x]at Q F;have b:=N.o;rw[D,nr]at b;clear D x;by_cases s:i=32;rw[if_pos s]at b;have c:=h.o;rw[<- b]at c;replace c:=hid c;have O:(i:Int)=32:=aeu;have U:(32:Int)<(d.length:Int):=aeu;clear s b;refine wk ?_;exact ae rfl c.o;rw[if_neg s]at b;have O:¬(i:Int)=32:=aeu;by_cases v:r=[];rw[if_pos v]at b;subst v;have c:=h.o;rw[<- b]at c;replace c:=hid c;clear s b;refine wk ?_;exact ae rfl c.o;rw[if_neg v]at b;have k2:¬(r.length:Int)=0:=(by have:=acr.2 v;omega);have g:∀e:Int,eo [] r=e->e≠0->K (.int .i64 e) L:=λe M S=>by rw[if_pos (by rw[M];exact S),M]at b;rw[b];exact h.o
  replace g:=hid g;replace b:=hid b;clear s;refine wk ?_;refine ar (λn T' L'=>∃(k:Nat) (Y:List Blk),n=r.length-k/\k<=r.length/\k<=8/\Hid (eo (r.take k) (r.drop k)=eo [] r/\∀a∈r.take k,a.1.length<=32)/\T'=[(23,.int .i64 (k:Int)),(22,.int .i64 r.length),(21,aJ r),(4,aJ r),(9,.int .i64 (i:Int)),(8,.int .i64 d.length),(7,.sl (d.map aJ) d.length cap)]/\L'=L++(X++Y)) aey ⟨0,[],rfl,abJ _,aeu,hid ⟨rfl,aev⟩,rfl,aev⟩ ?_;rintro _ _ _ ⟨k,Y,rfl,hk,P,m,rfl,rfl⟩;by_cases j:k<r.length
  .have g3:(k:Int)<(r.length:Int):=aeu;have g4:=abu k aeu;have I:=xD j;have Z:k*2+2<=(bU r).length:=(by rw[l8];omega);obtain⟨⟨ty,H⟩,y⟩:∃a,r.getD k ([],[])=a:=⟨_,rfl⟩;have B:r.drop k=(ty,H)::r.drop (k+1):=(by rw[acA j,<- y];simp[j]);have u:r.take (k+1)=r.take k++[(ty,H)]:=(by rw[ab6 j,<- y];simp[j]);rw[y]at I;simp only[JR]at I;obtain⟨l,t⟩:=m.o;rw[B,eo]at l;have z:(r.take k).length=k:=(by simp;omega);rw[z]at l;clear B y m;have e5:(bU r).take (k*2)=bU (r.take k):=Vc;have V:(k:Int)<=(r.length:Int):=aeu;replace l:=hid l;replace t:=hid t;replace u:=hid u;have R:=hid z;clear z
   repeat' first
    |refine kY ?_
    | (first|refine jz aew ?_|refine fM aew ?_|refine fP ?_|refine zT ?_|refine nD (fun _=>?_)|refine dP ?_|refine jB ?_)
      refine sm ?_
    | (first|refine jv aew ?_|refine iN ?_|refine fO ?_|refine jA ?_|refine nI (dO ?_))
      refine sl ?_
    |exact nE
    |first|apply nF|apply jw|apply nG|apply jx|apply nH|apply jy
    |refine fS ?_
    |refine fN ?_
    |first|refine fQ rfl ?_|refine fR rfl ?_|refine cE rfl ?_ ?_|refine iD rfl (λ_=>?_) (λ_=>?_)|refine iC rfl (λ_=>?_) (λ_=>?_)
    |((first|refine cD (λ_=>?_) (λ_=>?_)|refine dN (λ_=>?_) (λ_=>?_))<;>try refine sm ?_)
    |refine And.intro trivial ?_
    |refine And.intro aeu ?_
    |refine eQ rfl (λ_=>?_) (λ_=>?_)
    |refine And.intro ?_ ?_
   rename_i T;have c:=g.o 9 (by rw[<- l.o,if_pos aeu]) (by decide);exact ae rfl c;rename_i T;have f:=l.o;rw[if_neg aeu]at f;refine RO ?_;cases hty:vu ty with
   | false =>
     have c:=hid (g.o 20 (by rw[<- f,if_pos hty]) (by decide));clear f;refine aeC ?_;exact ae rfl c.o
   | true =>
     rw[if_neg (by rw[hty];simp)]at f;replace f:=hid f;have C:=MD hty;refine aeC ?_;refine bp (Z3 R.o aeu t.o C ⟨rfl,rfl⟩) ?_;cases hha:zV (r.take k) ty with
     | true =>
       have c:=hid (g.o 21 (by rw[<- f.o,if_pos hha]) (by decide));refine aeC ?_;exact ae rfl c.o
     | false =>
       have w:=f.o;rw[if_neg (by rw[hha];simp),<- u.o]at w;replace w:=hid w;clear f;refine aeC ?_;refine aez aeu aey ⟨k+1,Y++[.cells [.str ty,.str H]],rfl,j,aeu,hid ⟨w.o,λa y=>?_⟩,rfl,aev⟩;rw[u.o]at y;rcases abD.1 y with h|h
       .exact t.o a h
       .rw[abV.1 h];exact C
  have A:k=r.length:=aeu;subst A;have g3:¬(r.length:Int)<(r.length:Int):=aeu;have E:=m.o.1;rw[adH,eo]at E;have q:=b.o;rw[<- E]at q;simp only[ne_eq,not_true_eq_false,if_false]at q;replace q:=hid q;clear E;refine wk ?_;exact aez aeu aey ⟨i+1,X++Y,rfl,p,aeu,hid q.o,rfl,rfl⟩
 have A:i=d.length:=aeu;subst A;have g1:¬(d.length:Int)<(d.length:Int):=aeu;have c:=h.o;rw[<- N.o,adH,nr]at c;replace c:=hid c;refine wk ?_;exact ae rfl c.o
end Go.Proofs.YtajkbcmleihaoaaGreatDoor.Av
namespace Go.Proofs
open Go.Shelf
def Tryz.lays190_ren:Go.Shelf.Ren:=⟨λ|190=>106|125=>99|258=>147|128=>140|129=>141|302=>169|303=>170|304=>171|305=>172|306=>173|307=>174|308=>175|309=>176|310=>177|333=>188|329=>163|330=>164|334=>189|335=>190|336=>142|344=>196|n=>n,λ|31=>56|9=>9|3=>3|46=>162|0=>0|51=>160|53=>58|4=>4|183=>211|182=>210|131=>215|5=>5|218=>239|222=>243|228=>257|229=>258|n=>n,λ|n=>n⟩
theorem Tryz.lays190:Go.Proofs.Lays.n190 Tryz.prog Tryz.lays190_ren:={
 mixed:=by kernel_rfl
 f125:=Tryz.func99.trans (congrArg some (by kernel_rfl))
 f128:=Tryz.func140.trans (congrArg some (by kernel_rfl))
 f129:=Tryz.func141.trans (congrArg some (by kernel_rfl))
 f190:=Tryz.func106.trans (congrArg some (by kernel_rfl))
 f258:=Tryz.func147.trans (congrArg some (by kernel_rfl))
 f302:=Tryz.func169.trans (congrArg some (by kernel_rfl))
 f303:=Tryz.func170.trans (congrArg some (by kernel_rfl))
 f304:=Tryz.func171.trans (congrArg some (by kernel_rfl))
 f305:=Tryz.func172.trans (congrArg some (by kernel_rfl))
 f306:=Tryz.func173.trans (congrArg some (by kernel_rfl))
 f307:=Tryz.func174.trans (congrArg some (by kernel_rfl))
 f308:=Tryz.func175.trans (congrArg some (by kernel_rfl))
 f309:=Tryz.func176.trans (congrArg some (by kernel_rfl))
 f310:=Tryz.func177.trans (congrArg some (by kernel_rfl))
 f329:=Tryz.func163.trans (congrArg some (by kernel_rfl))
 f330:=Tryz.func164.trans (congrArg some (by kernel_rfl))
 f333:=Tryz.func188.trans (congrArg some (by kernel_rfl))
 f334:=Tryz.func189.trans (congrArg some (by kernel_rfl))
 f335:=Tryz.func190.trans (congrArg some (by kernel_rfl))
 f336:=Tryz.func142.trans (congrArg some (by kernel_rfl))
 f344:=Tryz.func196.trans (congrArg some (by kernel_rfl))
 t0:=Tryz.underlying0
 a0:=Tryz.isAgg0
 z0:=Tryz.sizeOf0
 v0:=Tryz.zeroValue0
 t3:=Tryz.underlying3
 a3:=Tryz.isAgg3
 z3:=Tryz.sizeOf3
 v3:=Tryz.zeroValue3
 t4:=Tryz.underlying4
 a4:=Tryz.isAgg4
 z4:=Tryz.sizeOf4
 v4:=Tryz.zeroValue4
 t5:=Tryz.underlying5
 a5:=Tryz.isAgg5
 z5:=Tryz.sizeOf5
 v5:=Tryz.zeroValue5
 t9:=Tryz.underlying9
 a9:=Tryz.isAgg9
 z9:=Tryz.sizeOf9
 v9:=Tryz.zeroValue9
 t31:=Tryz.underlying56
 a31:=Tryz.isAgg56
 z31:=Tryz.sizeOf56
 v31:=Tryz.zeroValue56
 t46:=Tryz.underlying162
 a46:=Tryz.isAgg162
 z46:=Tryz.sizeOf162
 v46:=Tryz.zeroValue162
 t51:=Tryz.underlying160
 a51:=Tryz.isAgg160
 z51:=Tryz.sizeOf160
 v51:=Tryz.zeroValue160
 t53:=Tryz.underlying58
 a53:=Tryz.isAgg58
 z53:=Tryz.sizeOf58
 v53:=Tryz.zeroValue58
 t131:=Tryz.underlying215
 a131:=Tryz.isAgg215
 z131:=Tryz.sizeOf215
 v131:=Tryz.zeroValue215
 t182:=Tryz.underlying210
 a182:=Tryz.isAgg210
 z182:=Tryz.sizeOf210
 v182:=Tryz.zeroValue210
 t183:=Tryz.underlying211
 a183:=Tryz.isAgg211
 z183:=Tryz.sizeOf211
 v183:=Tryz.zeroValue211
 t218:=Tryz.underlying239
 a218:=Tryz.isAgg239
 z218:=Tryz.sizeOf239
 v218:=Tryz.zeroValue239
 t222:=Tryz.underlying243
 a222:=Tryz.isAgg243
 z222:=Tryz.sizeOf243
 v222:=Tryz.zeroValue243
 t228:=Tryz.underlying257
 a228:=Tryz.isAgg257
 z228:=Tryz.sizeOf257
 v228:=Tryz.zeroValue257
 t229:=Tryz.underlying258
 a229:=Tryz.isAgg258
 z229:=Tryz.sizeOf258
 v229:=Tryz.zeroValue258}
open Go.Sort Go.RowKit in
theorem Tryz.slices_Sort_string(blk off cap:Nat)(ss:List (List UInt8))(w:World)(c:Holds encStr w blk off ss.toArray)(a:blk<w.heap.size)(b:ss.length<4611686018427387904):
 Calls Tryz.prog 106 #[.slice (some ⟨blk,off,none⟩) ss.length cap] w λe w' =>
  e=.returned (.tuple #[])/\∃n os,w'=grow (putRow encStr (Sort.ahead w n) blk off (ss.mergeSort λx y=>decide (x<=y)).toArray) os:=Any.slices_Sort_string Tryz.lays190 blk off cap ss w c a b
open Go.RowKit Go.Sort in
theorem Tryz.slices_Sort_string_none(p:Option Addr)(cap:Nat)(w:World):
 Calls Tryz.prog 106 #[.slice p 0 cap] w λe w'=>e=.returned (.tuple #[])/\w'=w:=Any.slices_Sort_string_none Tryz.lays190 p cap w
end Go.Proofs
namespace Go.Proofs.YtajkbcmleihaoaaGreatDoor.Av
open Go Go.Sort
variable {L:List Blk}{K:abx}
abbrev ax(xs:List (List UInt8)):List AV:=xs.map AV.str
theorem JE{xs:List (List UInt8)}{sep:List UInt8}{cap:Option Nat}(G:xs.length<=1100000)(C:(Lib.join xs sep).length<=140737488355328)(h:K (.str (Lib.join xs sep)) L):
  abw 95 [.sl (ax xs) xs.length cap,.str sep] L K :=
 iE Tryz.func95 rfl aew (λw0 S0 E w vs F D=>by
  obtain⟨_,_,rfl,⟨p,c,rfl,t,_,z⟩,_,_,rfl,rfl,rfl⟩:=D;by_cases u:xs=[];subst u;exact(Tryz.strings_Join_none p c ⟨⟨sep⟩⟩ w).mono λe w' ⟨q,B⟩=>⟨_,q,by simp[VR,Lib.join],by subst B;exact Ol.refl _⟩
  rcases z with⟨H,_⟩|⟨b,o,rfl,f⟩;simp_all;have k:∀(j:Nat) x,(xs.map λs=>(⟨⟨s⟩⟩:ByteArray))[j]?=some x->w.cell? ⟨b,o+j,none⟩=some (.string x):=λj x m=>by rw[acy]at m;rcases hxs:xs[j]? with _|s;simp_all;rw[hxs]at m;simp only[abQ,abz]at m;subst m;obtain⟨v,g1,A⟩:=f.get (i:=j) (a:=.str s) (by rw[acy,hxs];rfl);subst A;exact F.mem _ _ _ g1
  have n:b<w.heap.size:=by have r:0<xs.length:=acr.2 u;have y:=k 0 ⟨⟨xs[0]⟩⟩ (by rw[acy,ab0 r];rfl);rcases ab5 b w.heap.size with g|g;omega;simp[World.cell?,Array.getElem?_eq_none g]at y
  have l:(xs.map λs=>(⟨⟨s⟩⟩:ByteArray)).map (·.data.toList)=xs:=(by rw[abW];exact List.map_id'' (λ_=>rfl) xs);have key:=Tryz.strings_Join b o c (xs.map λs=>(⟨⟨s⟩⟩:ByteArray)) ⟨⟨sep⟩⟩ w k n (by rw[abM];omega) (by rw[abM];exact t) (by rw[l];exact C);rw[l]at key;simp only[abM]at key;exact key.mono λe w' ⟨q,d⟩=>⟨_,q,by simp[VR],⟨λb n=>d.block b n,d.size,d.os,d.tape,d.output⟩⟩) h
theorem Rel.putStrs{w0:World}{S0:SB}{E:Env}{L:List Blk}{w:World}(h:Rel w0 S0 E L w){i:Nat}{xs d:List (List UInt8)}{rest:List AV}{c:Loc}(n:L[i]?=some (.cells (ax xs++rest)))(f:E.loc i=some c)(hd:d.length=xs.length)(q:Nat):
  Rel w0 S0 E (L.set i (.cells (ax d++rest))) (putRow encStr (Sort.ahead w q) c.blk c.off d.toArray):=by
 obtain⟨c',cs,ty,fr,m,o,x,h4,y,p⟩:=h.blk i _ n;rw[f]at m;cases m;have v:(putRow encStr (Sort.ahead w q) c.blk c.off d.toArray).heap[c.blk]?=some (.cells (putCells encStr c.off d.toArray cs) ty fr):=by simp[putRow,mapBlock,Sort.ahead,adf,o,onCells]
 have l:(ax xs++rest).length=xs.length+rest.length:=aev;refine h.turn (k':=.cells (ax d++rest)) n rfl f aev (λb s=>?_) rfl rfl rfl ⟨c,_,ty,fr,f,v,by simp[putCells,x],?_,λj a z=>?_,p⟩ (λ_ _ e=>by cases e);have:c.blk≠b:=λe=>s e.symm
 simp[putRow,mapBlock,Sort.ahead,adf,this];simp_all;have A:j<d.length+rest.length:=by grind
 have g:c.off+j<cs.size:=aeu;have t:(putCells encStr c.off d.toArray cs)[c.off+j]?=some (if c.off<=c.off+j/\c.off+j<c.off+d.length then encStr (d.toArray[c.off+j-c.off]!)else cs[c.off+j]):=by simp[putCells,g]
 by_cases k:j<d.length;have r:a=.str d[j]:=by grind
 subst r;refine⟨_,t,?_⟩;simp[VR,encStr,k];have u:(ax xs++rest)[j]?=some a:=by simp_all
 grind
theorem MJ{w0:World}{S0:SB}{E:Env}{L:List Blk}{w:World}(h:Rel w0 S0 E L w){i:Nat}{xs:List (List UInt8)}{rest:List AV}{c:Loc}(k:L[i]?=some (.cells (ax xs++rest)))(e:E.loc i=some c):
  Holds encStr w c.blk c.off xs.toArray/\c.blk<w.heap.size:=by
 obtain⟨c',cs,ty,fr,d,b,o,h4,l,m⟩:=h.blk i _ k;rw[e]at d;cases d;refine⟨λj g=>?_,(acl.1 b).1⟩;have a:j<xs.length:=by simpa using g
 obtain⟨v,g1,f⟩:=l j (.str xs[j]) (by rw[abC (by simpa using a)];simp[a]);subst f;refine⟨by simp[World.cell?,encStr,b,g1,a],?_⟩;have n:=m (c.off+j) aeu (by simp only[abP,abM]at h4;omega);simp only[World.frozen?,b];simp_all
theorem ju{P:Program}{f:FuncId}{fn:Func}(d:P.funcs[f]?=some fn)(b:fn.body.isSome=true)(a:(fn.name == "runtime.NumGoroutine")=false)(args:Array Value)(w:World):(callFunc f args).run P w=.ok (.enter f args) w:=by
 simp only[callFunc,abF,run_program,abG,d,a];cases h:fn.body with
 |none=>simp[h]at b
 |some c=>simp
def dR(xs:List (List UInt8)):List (List UInt8):=xs.mergeSort λx y=>decide (x<=y)
theorem X2{xs:List (List UInt8)}{i:Nat}{cp:Option Nat}{rest:List AV}(p:xs≠[])(u:xs.length<=1100000)(l:L[i]?=some (.cells (ax xs++rest)))(h:K (.tup []) (L.set i (.cells (ax (dR xs)++rest)))):
  abw 106 [.lsl i 0 xs.length cp 1] L K:=λw0 S0 E w vs j s=>by
 obtain⟨_,_,rfl,⟨c,r,d,g,rfl,hd,t,_,_⟩,rfl⟩:=s;have k:0<xs.length:=acr.2 p;have f:d=c.off:=by have:=hd aeu;omega
 subst f;obtain⟨o,a⟩:=MJ j l g;refine .inl ⟨ju Tryz.func106 rfl aew _ _,(Tryz.slices_Sort_string c.blk c.off r xs w o a aeu).mono ?_⟩;rintro e w' ⟨rfl,q,os,rfl⟩;have n:=j.putStrs l g (d:=dR xs) (by simp[dR]) q;refine⟨E,_,_,_,rfl,.refl E,h,by simp[VR,VRL],n.grown ?_⟩;exact⟨λb m=>ad1 m,by simp[grow],rfl,rfl,rfl⟩
theorem VL{cap:Option Nat}(h:K (.tup []) L):abw 106 [.sl [] 0 cap] L K :=
 iE Tryz.func106 rfl aew (λw0 S0 E w vs f b=>by obtain⟨_,_,rfl,⟨p,c,rfl,_⟩,rfl⟩:=b;exact(Tryz.slices_Sort_string_none p c w).mono λe w' ⟨d,a⟩=>⟨_,d,by simp[VR,VRL],by subst a;exact Ol.refl _⟩) h
theorem Yw{xs:List (List UInt8)}{sep:List UInt8}{i:Nat}{cp:Option Nat}(z:xs≠[])(C:xs.length<=1100000)(r:(Lib.join xs sep).length<=140737488355328)(u:L[i]?=some (.cells (ax xs)))(h:K (.str (Lib.join xs sep)) L):
  abw 95 [.lsl i 0 xs.length cp 1,.str sep] L K:=λw0 S0 E w vs o A=>by
 obtain⟨_,_,rfl,⟨c,v,d,q,rfl,hd,n,_,_⟩,_,_,rfl,rfl,rfl⟩:=A;have p:0<xs.length:=acr.2 z;have m:d=c.off:=by have:=hd aeu;omega
 subst m;obtain⟨t,l⟩:=MJ (rest:=[]) o (by simpa using u) q;have g:∀(j:Nat) x,(xs.map λs=>(⟨⟨s⟩⟩:ByteArray))[j]?=some x->w.cell? ⟨c.blk,c.off+j,none⟩=some (.string x):=λj x B=>by have k:j<xs.length:=(by have:=(aby.1 B).1;simpa using this);have e:=(t j (by simpa using k)).1;simp_all
 have f:(xs.map λs=>(⟨⟨s⟩⟩:ByteArray)).map (·.data.toList)=xs:=by rw[abW];exact List.map_id'' (λ_=>rfl) xs
 have key:=Tryz.strings_Join c.blk c.off v (xs.map λs=>(⟨⟨s⟩⟩:ByteArray)) ⟨⟨sep⟩⟩ w g l (by rw[abM];omega) (by rw[abM];exact n) (by rw[f];exact r);rw[f]at key;simp only[abM]at key;refine .inl ⟨ju Tryz.func95 rfl aew _ _,key.mono ?_⟩;rintro e w' ⟨rfl,a⟩;exact⟨E,_,_,_,rfl,.refl E,h,by simp[VR],o.grown ⟨λb y=>a.block b y,a.size,a.os,a.tape,a.output⟩⟩
end Go.Proofs.YtajkbcmleihaoaaGreatDoor.Av
set_option maxRecDepth 100000
namespace Go.Proofs.YtajkbcmleihaoaaGreatDoor.Av
open Go
def K3:LSO:=[Ar 4]
def K1:LSO:=[Ao 5]
def K0:LSO:=[Aa 11 0,Ah 12 11,Ab 13 0]
def KZ:LSO:=[Au 14 13 12]
def KY:LSO:=[Aw 15 1 11 13,Ac 16 1 15,Aa 7 16]
def KX:LSO:=[Ao 8]
def KW:LSO:=[Aa 17 7,Ah 18 17,Ab 19 0]
def KV:LSO:=[Au 20 19 18]
def KU:LSO:=[Aw 21 2 17 19,A0 22 2 21,BT 10,Ag 2 10 22]
def KT:LSO:=[Aa 23 1]
def IB:List (aj×Kd):=
 [Ap 24 0 10,Aq 25 1 24 0 0,AN 26 103 25 0 0,Ap 27 1 10,Aq 28 1 27 0 0]
def Gm:List aj :=
 [⟨(some 29),(.call 104 [(tm 28)]),none⟩,⟨(some 30),(.build [(.str []),(.str [])] [(0,(1,(tm 26))),(1,(1,(tm 29)))]),none⟩,⟨none,(.store 2 (tm 10) (tm 30)),none⟩]
def IA:List (aj×Kd):=
 [An 31 8,Ap 32 0 10,Aq 33 1 32 0 0,od 34 (.bin .add (tm 33) (.av (.str [61]))) .pure,Ap 35 1 10,Aq 36 1 35 0 0,AN 37 105 36 0 0,Be 38 34 37,
 od 39 (.bslice false 1 1 [(.str [])] [(0,(1,(tm 38)))]) (.read 0 0)]
def Gl:List aj :=
 [⟨(some 40),(.app 2 1 16 [(.str [])] (tm 31) (tm 39)),none⟩,⟨(some 8),(.mv (tm 40)),none⟩]
def Iz:LSO:=[Aj 41 19 1,Aa 19 41]
def Iy:LSO:=[Aa 42 1]
def Ix:LSO:=[Aa 43 8,Af 44 106 43]
def Iw:LSO:=[Aa 45 5,Aa 46 8,o1 47 (.call 95 [(tm 46),(.av (.str [43]))]),AK 48 47,Bc 49 45 48,Aa 5 49]
def Iv:LSO:=[Aj 50 13 1,Aa 13 50]
def Iu:LSO:=[Aa 51 5,o1 52 (.call 95 [(tm 51),(.av (.str [44]))]),Aa 4 52]
def xA:aI:=⟨53,(aen K3 [] (aen K1 [] (.seq (aen K0 [] (aeq 0 (aen KZ [] (.seq (aer 14 0) (.seq (.block 1 (aen KY BV (aen KX [] (.seq (aen KW [] (aeq 2 (aen KV [] (.seq (aer 20 2) (.seq (.block 3 (aen KU BV (.seq (aen KT [] (aeo 23 (.dregM IB Gm Cs) .skip)) (.dregM IA Gl Co)))) (.sreg Iz BU)))))) (.seq (aen Iy [] (aeo 42 (.sreg Ix Cq) .skip)) (.sreg Iw BZ)))))) (.sreg Iv BU)))))) (aen Iu BV .ret)))),[(.tmp 4)]⟩
attribute [push_cast] K3 K1 K0 KZ KY KX KW KV KU KT IB Gm IA Gl Iz Iy Ix Iw Iv Iu
theorem JO:aM Tryz.prog (λr i=>if r=11/\i=9 then 2 else 1) 76=some xA.raw:=aew
attribute [push_cast] xA
variable {L:List Blk}{K:abx}
set_option maxHeartbeats 8000000
set_option maxRecDepth 100000
def avT(key:Bool)(a:Ava):List UInt8:=if key=true then aE a.1++[61]++ki (bC a.2)else a.1++[61]++ki a.2
def cC(key:Bool)(r:Rdn):List UInt8:=Lib.join (if key=true then dR (r.map (avT key))else r.map (avT key)) [43]
def aN(key:Bool)(d:List Rdn):List UInt8:=Lib.join (d.map (cC key)) [44]
theorem Md(n:Nat):∀(s:List UInt8) (i:Nat),(wrL n i s).length<=3*s.length
 |[],_=>by simp[wrL]
 |c::s,i=>by have a:=Md n s (i+1);have b:=XQ i n c;simp only[wrL,abP,abU];omega
theorem Uf(l:List (List UInt8)):AV.frzL (ax l)=ax l:=by rw[AV.frzL_eq,abW];rfl
theorem TI{xs:List (List UInt8)}{sep:List UInt8}{i n:Nat}(c:n=xs.length)(b:xs.length<=1100000)(a:(Lib.join xs sep).length<=140737488355328)(h:K (.str (Lib.join xs sep)) L):
  abw 95 [.gsl (ax xs) n i 1,.str sep] L K:=by
 subst c;exact dQ (by simpa only[AV.frzL,AV.frz,Uf]using JE (cap:=none) b a h)
theorem QY{xs:List (List UInt8)}{sep:List UInt8}{i n:Nat}{cp:Option Nat}(e:n=xs.length)(b:xs≠[])(a:xs.length<=1100000)(c:(Lib.join xs sep).length<=140737488355328)(d:L[i]?=some (.cells (ax xs)))(h:K (.str (Lib.join xs sep)) L):
  abw 95 [.lsl i 0 n cp 1,.str sep] L K:=by
 subst e;exact Yw b a c d h
theorem XZ{d:List Rdn}{cap:Option Nat}(hn:d.length<=1000)(hr:∀r∈d,r.length<=1000/\∀a∈r,a.1.length<=10000/\a.2.length<=10000)(J:∀r∈d,(cC false r).length<=140737488355328)(R:(aN false d).length<=140737488355328)(h:K (.str (aN false d)) L):
  abw 76 [.sl (d.map aJ) d.length cap,.bool false] L K:=by
 replace h:=hid h;have ai:=hid (λk=>@G9 d k);replace hr:=hid hr;replace J:=hid J;have T:∀(W:List Blk) (j:Nat) (A:Blk),L.length<=j->(L++W).set j A=L++W.set (j-L.length) A:=λW j A D=>ach _ _ D
 replace T:=hid T;refine abv JO ?_;refine cB (l:=[]) (n:=0) 5 1 rfl (acg 1).symm ?_;refine ar (λn T' L'=>∃(i:Nat) (all:List (List UInt8)) (Z:List Blk),n=d.length-i/\i<=d.length/\Hid (all=(d.take i).map (cC false))/\L'[L.length]?=some (.spare i 1)/\T'=[(13,.int .i64 (i:Int)),(12,.int .i64 d.length),(11,.sl (d.map aJ) d.length cap),(5,.gsl (ax all) i L.length 1),(1,.bool false)]/\L'=L++Z) aey ⟨0,[],[.spare 0 1],rfl,abJ _,hid rfl,aev,rfl,rfl⟩ ?_;rintro _ _ _ ⟨i,all,X,rfl,hi,x,ho,rfl,rfl⟩;by_cases u:i<d.length
 .have g1:(i:Int)<(d.length:Int):=aeu;have g2:=abu i aeu;have e2:=ai.o i u;have E:d.getD i []∈d:=(by rw[abR,ab0 u];exact acN _);have Q:=hr.o _ E;have G:=J.o _ E;obtain⟨r,F⟩:=abr (d.getD i []);have I:d.take (i+1)=d.take i++[r]:=(by rw[ab6 u,<- F];simp[u]);rw[F]at e2 Q G;clear F E;obtain⟨an,B⟩:=Q;replace B:=hid B;replace I:=hid I;have U:=(aby.1 ho).1;rw[abP]at U;replace U:=hid U;refine wk ?_;refine ar (λn T' L'=>∃(k:Nat) (v:AV) (Z:List Blk),n=r.length-k/\k<=r.length/\X.length<=Z.length/\L'[L.length]?=some (.spare i 1)/\Hid ((v=.sl [] 0 (some 0)/\k=0)\/∃j,(0<k/\L.length<j)/\v=.lsl j 0 k none 1/\L'[j]?=some (.cells (ax ((r.take k).map (avT false)))))/\T'=[(19,.int .i64 (k:Int)),(18,.int .i64 r.length),(17,aJ r),(8,v),(13,.int .i64 (i:Int)),(12,.int .i64 d.length),(11,.sl (d.map aJ) d.length cap),(5,.gsl (ax all) i L.length 1),(1,.bool false)]/\L'=L++Z) aey ⟨0,_,X,rfl,abJ _,abA _,ho,hid (.inl ⟨rfl,rfl⟩),rfl,rfl⟩ ?_;rintro _ _ _ ⟨k,v,Z,rfl,hk,t,m,hv,rfl,rfl⟩;replace t:=hid t;by_cases w:k<r.length
  .have g3:(k:Int)<(r.length:Int):=aeu;have g4:=abu k aeu;have e3:=xD w;have e4:k*2+2<=(bU r).length:=(by rw[l8];omega);obtain⟨⟨ty,z⟩,S⟩:∃a,r.getD k ([],[])=a:=⟨_,rfl⟩;have N:(ty,z)∈r:=(by rw[<- S];simp[w]);have s:(r.take (k+1)).map (avT false)=(r.take k).map (avT false)++[ty++61::ki z]:=by rw[ab6 w];have:r[k]=(ty,z):=(by rw[<- S];simp[w]);rw[this];simp[avT]
   rw[S]at e3;simp only[JR]at e3;have O:=B.o _ N;simp only at O;have g:z.length<=100000:=aeu;have Y:=Md z.length z 0;have b1:(ty.length:Int)+1<=9223372036854775807:=aeu;have b2:(ty.length:Int)+1+((ki z).length:Int)<=9223372036854775807:=(by unfold ki;omega);clear Y S N O;replace s:=hid s;have q1:(k+1)*16<=140737488355328:=aeu;have q2:k+1<=140737488355328:=aeu;have q3:k<=140737488355327:=aeu;rcases hv.o with⟨rfl,f⟩|⟨j,⟨H,ab⟩,rfl,D⟩;replace f:=hid f;have kk1:=@aeB _ _ _ _ (fT g);refine wk ?_;refine aez aeu (CutL (b:=?_)) ⟨k+1,.lsl (L.length+(Z.length+1)) 0 1 none 1,_,rfl,w,?_,?_,hid (.inr ⟨L.length+(Z.length+1),⟨aeu,aeu⟩,by rw[f.o],?_⟩),rfl,rfl⟩;have:=t.o;simp;omega;have:=t.o;simp;omega;rw[<- abK,abC (aby.1 m).1];exact m;rw[xW,xW,s.o,f.o];rfl
   .obtain⟨cur,c⟩:=abr ((r.take k).map (avT false));have y:cur.length=k:=(by rw[<- c];simp;omega);rw[c]at D;have P:(L++(Z++[Blk.cells [.str ty,.str z]]))[j]?=some (.cells (ax cur)):=by rw[<- abK,abC (aby.1 D).1];exact D
    have f2:(L++(Z++[Blk.cells [.str ty,.str z]])).set j .dead=L++(Z++[Blk.cells [.str ty,.str z]]).set (j-L.length) .dead:=T.o _ _ _ aeu;have f3:k<=(ax cur).length:=(by simp[y]);have f4:(ax cur).take k=ax cur:=ab7 (by simp[y]);replace c:=hid c;replace y:=hid y;have al:=hid (show j≠L.length by omega);have ad:=hid f2
    repeat' first
     |refine kY ?_
     | (first|refine jz aew ?_|refine fM aew ?_|refine fP ?_|refine zT ?_|refine nD (fun _=>?_)|refine dP ?_|refine jB ?_|refine fT g ?_|refine dr (fT g ⟨rfl,rfl⟩) (fT g ⟨rfl,rfl⟩) ?_|refine bp (fT g ⟨rfl,rfl⟩) ?_)
       refine sm ?_
     | (first|refine jv aew ?_|refine iN ?_|refine fO ?_|refine jA ?_|refine nI (dO ?_))
       refine sl ?_
     |exact nE
     |first|apply nF|apply jw|apply nG|apply jx|apply nH|apply jy
     |refine fS ?_
     |refine fN ?_
     |first|refine fQ rfl ?_|refine fR rfl ?_|refine cE rfl ?_ ?_|refine iD rfl (λ_=>?_) (λ_=>?_)|refine iC rfl (λ_=>?_) (λ_=>?_)
     |((first|refine cD (λ_=>?_) (λ_=>?_)|refine dN (λ_=>?_) (λ_=>?_))<;>try refine sm ?_)
     |refine And.intro trivial ?_
     |refine And.intro aeu ?_
     |refine eQ rfl (λ_=>?_) (λ_=>?_)
     |refine And.intro ?_ ?_
    rw[y.o];exact abA _;have hA:((Z++[Blk.cells [.str ty,.str z]]).set (j-L.length) .dead).length=Z.length+1:=aev;refine aez aeu (CutL (b:=?_)) ⟨k+1,.lsl (L.length+(Z.length+1)) 0 (k+1) none 1,_,rfl,w,?_,?_,hid (.inr ⟨L.length+(Z.length+1),⟨aeu,aeu⟩,rfl,?_⟩),rfl,rfl⟩;have:=t.o;simp;omega;have:=t.o;simp;omega;rw[<- abK,<- ad.o,abC aev,abE al.o,<- abK,abC (aby.1 m).1];exact m;rw[xW,<- hA,PS,s.o,c.o];simp
  have M:k=r.length:=aeu;subst M;have g3:¬(r.length:Int)<(r.length:Int):=aeu;have q4:(i+1)*16<=140737488355328:=aeu;have q5:i+1<=140737488355328:=aeu;have q:cC false r=Lib.join (r.map (avT false)) [43]:=(by simp[cC]);rw[q]at G;have p:(d.take (i+1)).map (cC false)=all++[Lib.join (r.map (avT false)) [43]]:=by rw[I.o,abS,<- x.o,<- q];rfl
  have f0:(L++Z).set L.length (.spare (i+1) 1)=L++Z.set 0 (.spare (i+1) 1):=(by rw[T.o _ _ _ (abA _),adb]);have P:(L++Z.set 0 (.spare (i+1) 1))[L.length]?=some (.spare (i+1) 1):=by rw[<- f0,ace,if_pos rfl,if_pos (aby.1 m).1]
  replace q:=hid q;replace p:=hid p;replace P:=hid P;rcases hv.o with⟨rfl,f⟩|⟨j,⟨H,ab⟩,rfl,D⟩;have C:r=[]:=acm.1 f;replace f:=hid f;refine wk ?_;refine JE (xs:=[]) aev (by simp[Lib.join]) ?_;refine aeC ?_;rw[show ax all++[AV.str (Lib.join [] [43])]=ax (all++[Lib.join [] [43]])by simp];exact aez aeu (CutL (b:=by have:=U.o;have h0:=(aby.1 m).1;simp at h0⊢;omega)) ⟨i+1,all++[Lib.join [] [43]],_,rfl,u,hid (by rw[p.o,C];rfl),P.o,rfl,rfl⟩;rw[abX]at D;by_cases C:r=[];rw[C]at H;cases H;refine wk ?_;refine QY (xs:=r.map (avT false)) aev (by simpa using C) (by simp;omega) G (by simpa using D) ?_;refine aeC ?_;rw[show ax all++[AV.str (Lib.join (r.map (avT false)) [43])]=ax (all++[Lib.join (r.map (avT false)) [43]])by simp];exact aez aeu (CutL (b:=by have h0:=(aby.1 m).1;simp at h0⊢;omega)) ⟨i+1,all++[Lib.join (r.map (avT false)) [43]],_,rfl,u,hid p.o.symm,P.o,rfl,rfl⟩
 have M:i=d.length:=aeu;subst M;have g1:¬(d.length:Int)<(d.length:Int):=aeu;have e:=x.o;rw[abX]at e;have V:=h.o;simp only[aN]at V R;replace V:=hid V;clear x;subst e;refine wk ?_;refine TI aev (by simp;omega) R ?_;refine aeC ?_;exact ae rfl V.o
theorem R5(s:List UInt8):(bL s).length<=s.length:=by have:=xo s s.length;rwa[abX]at this
theorem O3(s:List UInt8):(bC s).length<=s.length:=by
 have b:=R5 (aE s);have a:(aE s).length=s.length:=by simp[aE]
 unfold bC ev;split;simp only[List.length_dropLast];omega;omega
theorem VK{xs:List (List UInt8)}{i n:Nat}{cp:Option Nat}(d:n=xs.length)(b:xs≠[])(a:xs.length<=1100000)(c:L[i]?=some (.cells (ax xs)))(h:K (.tup []) (L.set i (.cells (ax (dR xs))))):
  abw 106 [.lsl i 0 n cp 1] L K:=by
 subst d;exact X2 (rest:=[]) b a (by simpa using c) (by simpa using h)
theorem OS(xs:List (List UInt8)):(dR xs).length=xs.length:=by simp[dR]
theorem Th{d:List Rdn}{cap:Option Nat}(hn:d.length<=1000)(hr:∀r∈d,r.length<=1000/\∀a∈r,a.1.length<=10000/\a.2.length<=10000)(T:∀r∈d,(cC true r).length<=140737488355328)(al:(aN true d).length<=140737488355328)(h:K (.str (aN true d)) L):
  abw 76 [.sl (d.map aJ) d.length cap,.bool true] L K:=by
 replace h:=hid h;have a0:=hid (λk=>@G9 d k);replace hr:=hid hr;replace T:=hid T;have Y:∀(W:List Blk) (j:Nat) (A:Blk),L.length<=j->(L++W).set j A=L++W.set (j-L.length) A:=λW j A D=>ach _ _ D
 replace Y:=hid Y;refine abv JO ?_;refine cB (l:=[]) (n:=0) 5 1 rfl (acg 1).symm ?_;refine ar (λn T' L'=>∃(i:Nat) (all:List (List UInt8)) (Z:List Blk),n=d.length-i/\i<=d.length/\Hid (all=(d.take i).map (cC true))/\L'[L.length]?=some (.spare i 1)/\T'=[(13,.int .i64 (i:Int)),(12,.int .i64 d.length),(11,.sl (d.map aJ) d.length cap),(5,.gsl (ax all) i L.length 1),(1,.bool true)]/\L'=L++Z) aey ⟨0,[],[.spare 0 1],rfl,abJ _,hid rfl,aev,rfl,rfl⟩ ?_;rintro _ _ _ ⟨i,all,X,rfl,hi,E,ho,rfl,rfl⟩;by_cases z:i<d.length
 .have g1:(i:Int)<(d.length:Int):=aeu;have g2:=abu i aeu;have e2:=a0.o i z;have O:d.getD i []∈d:=(by rw[abR,ab0 z];exact acN _);have ai:=hr.o _ O;have I:=T.o _ O;obtain⟨r,Q⟩:=abr (d.getD i []);have S:d.take (i+1)=d.take i++[r]:=(by rw[ab6 z,<- Q];simp[z]);rw[Q]at e2 ai I;clear Q O;obtain⟨a4,G⟩:=ai;replace G:=hid G;replace S:=hid S;have hX:=(aby.1 ho).1;rw[abP]at hX;replace hX:=hid hX;refine wk ?_;refine ar (λn T' L'=>∃(k:Nat) (v:AV) (Z:List Blk),n=r.length-k/\k<=r.length/\X.length<=Z.length/\L'[L.length]?=some (.spare i 1)/\Hid ((v=.sl [] 0 (some 0)/\k=0)\/∃j,(0<k/\L.length<j)/\v=.lsl j 0 k none 1/\L'[j]?=some (.cells (ax ((r.take k).map (avT true)))))/\T'=[(19,.int .i64 (k:Int)),(18,.int .i64 r.length),(17,aJ r),(8,v),(13,.int .i64 (i:Int)),(12,.int .i64 d.length),(11,.sl (d.map aJ) d.length cap),(5,.gsl (ax all) i L.length 1),(1,.bool true)]/\L'=L++Z) aey ⟨0,_,X,rfl,abJ _,abA _,ho,hid (.inl ⟨rfl,rfl⟩),rfl,rfl⟩ ?_;rintro _ _ _ ⟨k,v,Z,rfl,hk,y,m,hv,rfl,rfl⟩;replace y:=hid y;by_cases C:k<r.length
  .have g3:(k:Int)<(r.length:Int):=aeu;have g4:=abu k aeu;have e3:=xD C;have e4:k*2+2<=(bU r).length:=(by rw[l8];omega);obtain⟨⟨ty,B⟩,ha⟩:∃a,r.getD k ([],[])=a:=⟨_,rfl⟩;have ab:(ty,B)∈r:=(by rw[<- ha];simp[C]);have x:(r.take (k+1)).map (avT true)=(r.take k).map (avT true)++[aE ty++61::ki (bC B)]:=by rw[ab6 C];have:r[k]=(ty,B):=(by rw[<- ha];simp[C]);rw[this];simp[avT]
   rw[ha]at e3;simp only[JR]at e3;have ad:=G.o _ ab;simp only at ad;have a2:=O3 B;have q:(bC B).length<=100000:=aeu;have s:(B.length:Int)<=100000:=aeu;have g:(ty.length:Int)<=100000:=aeu;have an:=Md (bC B).length (bC B) 0;have a1:(aE ty).length=ty.length:=(by simp[aE]);have b1:((aE ty).length:Int)+1<=9223372036854775807:=aeu;have b2:((aE ty).length:Int)+1+((ki (bC B)).length:Int)<=9223372036854775807:=(by unfold ki;omega);clear an ha ab ad a1 a2;replace x:=hid x;have q1:(k+1)*16<=140737488355328:=aeu;have q2:k+1<=140737488355328:=aeu;have q3:k<=140737488355327:=aeu;rcases hv.o with⟨rfl,p⟩|⟨j,⟨R,ap⟩,rfl,D⟩;replace p:=hid p;have kk1:=@aeB _ _ _ _ (Em g);have kk2:=@aeB _ _ _ _ (MQ s);have kk3:=@aeB _ _ _ _ (fT q);refine wk ?_;refine aez aeu (CutL (b:=?_)) ⟨k+1,.lsl (L.length+(Z.length+1)) 0 1 none 1,_,rfl,C,?_,?_,hid (.inr ⟨L.length+(Z.length+1),⟨aeu,aeu⟩,by rw[p.o],?_⟩),rfl,rfl⟩;have:=y.o;simp;omega;have:=y.o;simp;omega;rw[<- abK,abC (aby.1 m).1];exact m;rw[xW,xW,x.o,p.o];rfl
   .obtain⟨cur,f⟩:=abr ((r.take k).map (avT true));have F:cur.length=k:=(by rw[<- f];simp;omega);rw[f]at D;have N:(L++(Z++[Blk.cells [.str (aE ty),.str (bC B)]]))[j]?=some (.cells (ax cur)):=by rw[<- abK,abC (aby.1 D).1];exact D
    have M:(L++(Z++[Blk.cells [.str (aE ty),.str (bC B)]])).set j .dead=L++(Z++[Blk.cells [.str (aE ty),.str (bC B)]]).set (j-L.length) .dead:=Y.o _ _ _ aeu;have f3:k<=(ax cur).length:=(by simp[F]);have f4:(ax cur).take k=ax cur:=ab7 (by simp[F]);replace f:=hid f;replace F:=hid F;have a3:=hid (show j≠L.length by omega);have av:=hid M
    repeat' first
     |refine kY ?_
     | (first|refine jz aew ?_|refine fM aew ?_|refine fP ?_|refine zT ?_|refine nD (fun _=>?_)|refine dP ?_|refine jB ?_|refine Em g ?_|refine MQ s ?_|refine fT q ?_|refine dr (Em g ⟨rfl,rfl⟩) (Em g ⟨rfl,rfl⟩) ?_|refine dr (MQ s ⟨rfl,rfl⟩) (MQ s ⟨rfl,rfl⟩) ?_|refine dr (fT q ⟨rfl,rfl⟩) (fT q ⟨rfl,rfl⟩) ?_|refine bp (Em g ⟨rfl,rfl⟩) ?_|refine bp (MQ s ⟨rfl,rfl⟩) ?_|refine bp (fT q ⟨rfl,rfl⟩) ?_)
       refine sm ?_
     | (first|refine jv aew ?_|refine iN ?_|refine fO ?_|refine jA ?_|refine nI (dO ?_))
       refine sl ?_
     |exact nE
     |first|apply nF|apply jw|apply nG|apply jx|apply nH|apply jy
     |refine fS ?_
     |refine fN ?_
     |first|refine fQ rfl ?_|refine fR rfl ?_|refine cE rfl ?_ ?_|refine iD rfl (λ_=>?_) (λ_=>?_)|refine iC rfl (λ_=>?_) (λ_=>?_)
     |((first|refine cD (λ_=>?_) (λ_=>?_)|refine dN (λ_=>?_) (λ_=>?_))<;>try refine sm ?_)
     |refine And.intro trivial ?_
     |refine And.intro aeu ?_
     |refine eQ rfl (λ_=>?_) (λ_=>?_)
     |refine And.intro ?_ ?_
    rw[F.o];exact abA _;have hA:((Z++[Blk.cells [.str (aE ty),.str (bC B)]]).set (j-L.length) .dead).length=Z.length+1:=aev;refine aez aeu (CutL (b:=?_)) ⟨k+1,.lsl (L.length+(Z.length+1)) 0 (k+1) none 1,_,rfl,C,?_,?_,hid (.inr ⟨L.length+(Z.length+1),⟨aeu,aeu⟩,rfl,?_⟩),rfl,rfl⟩;have:=y.o;simp;omega;have:=y.o;simp;omega;rw[<- abK,<- av.o,abC aev,abE a3.o,<- abK,abC (aby.1 m).1];exact m;rw[xW,<- hA,PS,x.o,f.o];simp
  have V:k=r.length:=aeu;subst V;have g3:¬(r.length:Int)<(r.length:Int):=aeu;have q4:(i+1)*16<=140737488355328:=aeu;have q5:i+1<=140737488355328:=aeu;have w:cC true r=Lib.join (dR (r.map (avT true))) [43]:=(by simp[cC]);rw[w]at I;have c:(d.take (i+1)).map (cC true)=all++[Lib.join (dR (r.map (avT true))) [43]]:=by rw[S.o,abS,<- E.o,<- w];rfl
  replace w:=hid w;replace c:=hid c;rcases hv.o with⟨rfl,p⟩|⟨j,⟨R,ap⟩,rfl,D⟩;have U:r=[]:=acm.1 p;have f0:(L++Z).set L.length (.spare (i+1) 1)=L++Z.set 0 (.spare (i+1) 1):=(by rw[Y.o _ _ _ (abA _),adb]);have N:(L++Z.set 0 (.spare (i+1) 1))[L.length]?=some (.spare (i+1) 1):=by rw[<- f0,ace,if_pos rfl,if_pos (aby.1 m).1]
  replace N:=hid N;replace p:=hid p;refine wk ?_;refine VL ?_;refine aeC ?_;refine JE (xs:=[]) aev (by simp[Lib.join]) ?_;refine aeC ?_;rw[show ax all++[AV.str (Lib.join [] [43])]=ax (all++[Lib.join [] [43]])by simp];exact aez aeu (CutL (b:=by have:=hX.o;have h0:=(aby.1 m).1;simp at h0⊢;omega)) ⟨i+1,all++[Lib.join [] [43]],_,rfl,z,hid (by rw[c.o,U];simp[dR]),N.o,rfl,rfl⟩;rw[abX]at D;have U:r≠[]:=λe=>by rw[e]at R;cases R
  obtain⟨xs,J⟩:=abr (r.map (avT true));have t:r.length=xs.length:=(by rw[<- J];simp);have u:xs≠[]:=λe=>U (by have:=t;rw[e]at this;exact acm.1 this)
  rw[J]at D I c;have H:=OS xs;have a5:L.length+(j-L.length)=j:=aeu;have M:(L++Z).set j (.cells (ax (dR xs)))=L++Z.set (j-L.length) (.cells (ax (dR xs))):=Y.o _ _ _ aeu;have f3:(L++Z.set (j-L.length) (.cells (ax (dR xs))))[j]?=some (.cells (ax (dR xs))):=by rw[<- M,ace,if_pos rfl,if_pos (aby.1 D).1]
  have P:(L++Z.set (j-L.length) (.cells (ax (dR xs))))[L.length]?=some (.spare i 1):=by rw[<- M,abE aeu];exact m
  clear m;replace D:=hid D;generalize hZ1:Z.set (j-L.length) (.cells (ax (dR xs)))=Z1 at M f3 P;have f0:(L++Z1).set L.length (.spare (i+1) 1)=L++Z1.set 0 (.spare (i+1) 1):=(by rw[Y.o _ _ _ (abA _),adb]);have N:(L++Z1.set 0 (.spare (i+1) 1))[L.length]?=some (.spare (i+1) 1):=by rw[<- f0,ace,if_pos rfl,if_pos (aby.1 P).1]
  replace N:=hid N;replace M:=hid M;replace f3:=hid f3;replace J:=hid J;replace t:=hid t;replace H:=hid H;clear hZ1;replace u:=hid u;refine wk ?_;refine VK t.o u.o (by have:=t.o;omega) D.o ?_;rw[M.o];refine aeC ?_;refine QY (xs:=dR xs) (by rw[H.o];exact t.o) (λe=>u.o (by have:=H.o;rw[e]at this;exact acm.1 this.symm)) (by have:=t.o;rw[H.o];omega) I f3.o ?_;refine aeC ?_;rw[show ax all++[AV.str (Lib.join (dR xs) [43])]=ax (all++[Lib.join (dR xs) [43]])by simp];exact aez aeu (CutL (b:=by have h0:=(aby.1 P).1;simp at h0⊢;omega)) ⟨i+1,all++[Lib.join (dR xs) [43]],_,rfl,z,hid c.o.symm,N.o,rfl,rfl⟩
 have V:i=d.length:=aeu;subst V;have g1:¬(d.length:Int)<(d.length:Int):=aeu;have e:=E.o;rw[abX]at e;have h':=h.o;simp only[aN]at h' al;replace h':=hid h';clear E;subst e;refine wk ?_;refine TI aev (by simp;omega) al ?_;refine aeC ?_;exact ae rfl h'.o
def G1(r:Rdn):Bool:=r.any λa=>decide (4096<a.2.length)
def JA(d:List Rdn):Bool:=d.any G1
theorem Pn:∀(t done:Rdn),eo done t=0->done.length<=8->(done++t).length<=8/\∀a∈t,a.1.length<=32
 |[],done,_,h=>by simp;exact h
 | a::t,done,h,hd=>by
   simp only[eo]at h;split at h
   .cases h
   .split at h
    .cases h
    .split at h
     .cases h
     .rename_i h1 h2 h3;have:=Pn t (done++[a]) h (by simp;omega);refine⟨by simpa using this.1,λb c=>?_⟩;rcases abY.1 c with rfl|c
      .exact MD (by simpa using h2)
      .exact this.2 b c
theorem PZ:∀(d:List Rdn) (i:Nat),nr i d=0->i<=32->i+d.length<=32/\∀r∈d,r.length<=8/\∀a∈r,a.1.length<=32
 |[],i,_,h=>by simp;exact h
 | r::d,i,h,hi=>by
   simp only[nr]at h;split at h
   .cases h
   .split at h
    .cases h
    .split at h
     .rename_i h3;exact absurd h h3
     .rename_i h1 h2 h3;have c:eo [] r=0:=(by simpa using h3);have e:=Pn r [] c aev;have f:=PZ d (i+1) h aeu;refine⟨by simp;omega,λq b=>?_⟩;rcases abY.1 b with rfl|b
      .exact⟨by simpa using e.1,e.2⟩
      .exact f.2 q b
theorem OM(s:List UInt8):(ki s).length<=3*s.length:=Md _ _ _
theorem YV{key:Bool}{a:Ava}(f:a.1.length<=32)(g:a.2.length<=4096):(avT key a).length<=20000:=by
 have d:=OM a.2;have e:=OM (bC a.2);have b:=O3 a.2;have c:(aE a.1).length=a.1.length:=by simp[aE]
 unfold avT;split;simp;omega;simp;omega
theorem Nn{B:Nat}{sep:List UInt8}:∀xs:List (List UInt8),(∀x∈xs,x.length<=B)->(Lib.join xs sep).length<=xs.length*(B+sep.length)
 |[],_=>by simp[Lib.join]
 |[x],h=>by have:=h x aev;simp[Lib.join,List.intercalate];omega
 | x::y::l,h=>by
   have b:=Nn (sep:=sep) (y::l) λz a=>h z (adq _ a)
   have c:=h x aev;have e:Lib.join (x::y::l) sep=x++(sep++Lib.join (y::l) sep):=(by simp[Lib.join,List.intercalate]);rw[e];simp only[abP,abU,Nat.succ_mul]at b⊢;omega
theorem HP{key:Bool}{r:Rdn}(g:r.length<=8)(j:∀a∈r,a.1.length<=32)(k:∀a∈r,a.2.length<=4096):(cC key r).length<=200000:=by
 have e:∀xs:List (List UInt8),xs.length<=8->(∀x∈xs,x.length<=20000)->(Lib.join xs [43]).length<=200000:=λxs a b=>by have c:=Nn (sep:=[43]) xs b;have d:xs.length*(20000+[(43:UInt8)].length)<=8*(20000+1):=acO _ a;omega
 have h:∀x∈r.map (avT key),x.length<=20000:=λx f=>by obtain⟨a,i,rfl⟩:=abB.1 f;exact YV (j a i) (k a i)
 unfold cC;split;refine e _ (by rw[OS];simpa using g) λx f=>h x ?_
 exact(acZ (r.map (avT key)) _).mem_iff.1 f;exact e _ (by simpa using g) h
theorem HI{key:Bool}{d:List Rdn}(a:d.length<=32)(f:∀r∈d,(cC key r).length<=200000):(aN key d).length<=10000000:=by
 have c:=Nn (sep:=[44]) (B:=200000) (d.map (cC key)) λx b=>by obtain⟨r,hr,rfl⟩:=abB.1 b;exact f r hr
 have e:(d.map (cC key)).length*(200000+[(44:UInt8)].length)<=32*(200000+1):=acO _ (by simpa using a);unfold aN;omega
def prS(d:List Rdn):List UInt8×Int:=if nr 0 d≠0 then([],nr 0 d)else if JA d=true then([],5)else if 4096<(aN false d).length then([],5)else(aN false d,0)
def RT(p:List UInt8×Int):AV:=.tup [.str p.1,.int .i64 p.2]
def PJ(d:List Rdn):List UInt8×Int:=if(prS d).2≠0 then([],(prS d).2)else(aN true d,0)
theorem xK{d:List Rdn}{cap:Option Nat}(N:d.length<=1100000)(hr:∀r∈d,r.length<=1100000)(h:K (RT (prS d)) L):
  abw 35 [.sl (d.map aJ) d.length cap] L K:=by
 have J:=hid (λk=>@G9 d k);unfold prS RT at h;refine abv OG ?_;refine YK N hr ?_;by_cases E:nr 0 d=0;rotate_left;rw[if_pos E]at h;replace h:=hid h;refine aeC ?_;exact ag h.o;rw[if_neg (by simpa using E)]at h;obtain⟨Q,f⟩:=PZ d 0 E aeu;rw[E];replace f:=hid f;replace h:=hid h;clear hr N E;refine aeC ?_;refine ar (λn T' L'=>∃(i:Nat) (c:Int) (Z:List Blk),n=d.length-i/\i<=d.length/\Hid (JA (d.take i)=false/\0<=c/\c<=8*i)/\T'=[(18,.int .i64 (i:Int)),(17,.int .i64 d.length),(16,.sl (d.map aJ) d.length cap),(5,.int .i64 c),(0,.sl (d.map aJ) d.length cap)]/\L'=L++Z) aey ⟨0,0,[],rfl,abJ _,hid ⟨rfl,aeu,aeu⟩,rfl,aev⟩ ?_;rintro _ _ _ ⟨i,c,X,rfl,hi,F,rfl,rfl⟩;by_cases j:i<d.length;have g1:(i:Int)<(d.length:Int):=aeu;have g2:=abu i aeu;have T:=J.o i j;have q:d.getD i []∈d:=by rw[abR,ab0 j];exact acN _
 obtain⟨r,z⟩:=abr (d.getD i []);have y:d.take (i+1)=d.take i++[r]:=by rw[ab6 j,<- z];simp[j]
 rw[z]at T q;have U:=(f.o r q).1;have A:G1 r=true->K (.tup [.str [],.int .i64 5]) L:=λe=>by have p:=h.o;rw[if_pos (show JA d=true from ac5.2 ⟨r,q,e⟩)]at p;exact p
 replace A:=hid A;replace y:=hid y;clear z q;refine wk ?_;refine ar (λn T' L'=>∃(k:Nat) (c':Int) (Z:List Blk),n=r.length-k/\k<=r.length/\X.length<=Z.length/\Hid (G1 (r.take k)=false/\c'=c+k)/\T'=[(24,.int .i64 (k:Int)),(23,.int .i64 r.length),(22,aJ r),(18,.int .i64 (i:Int)),(17,.int .i64 d.length),(16,.sl (d.map aJ) d.length cap),(5,.int .i64 c'),(0,.sl (d.map aJ) d.length cap)]/\L'=L++Z) aey ⟨0,c,X,rfl,abJ _,abA _,hid ⟨rfl,aeu⟩,rfl,rfl⟩ ?_;rintro _ _ _ ⟨k,c',Z,rfl,hk,t,C,rfl,rfl⟩;replace t:=hid t;by_cases m:k<r.length;have g3:(k:Int)<(r.length:Int):=aeu;have g4:=abu k aeu;have Y:IntKind.i64.wrap (c'+1)=c'+1:=by obtain⟨_,M,P⟩:=F.o;have:=C.o.2;exact af aeu aeu
 have O:=xD m;have e4:k*2+2<=(bU r).length:=by rw[l8];omega
 obtain⟨⟨ty,I⟩,v⟩:∃a,r.getD k ([],[])=a:=⟨_,rfl⟩;have D:(ty,I)∈r:=by rw[<- v];simp[m]
 have l:r.take (k+1)=r.take k++[(ty,I)]:=by rw[ab6 m,<- v];simp[m]
 rw[v]at O;simp only[JR]at O;have Va:4096<I.length->G1 r=true:=λe=>ac5.2 ⟨_,D,by simpa using e⟩
 replace Va:=hid Va;replace l:=hid l;clear v D;by_cases V:(4096:Int)<(I.length:Int);have p:=hid (A.o (Va.o aeu));refine wk ?_;exact ae rfl p.o;refine wk ?_;refine aez aeu (CutL (b:=?_)) ⟨k+1,c'+1,_,rfl,m,?_,hid ⟨?_,by have:=C.o.2;omega⟩,rfl,rfl⟩;have:=t.o;simp;omega;have:=t.o;simp;omega;rw[l.o,G1,List.any_append,show(r.take k).any _=G1 (r.take k)from rfl,C.o.1];simp;omega;have B:k=r.length:=aeu;subst B;have g3:¬(r.length:Int)<(r.length:Int):=aeu;have s:=C.o.1;rw[abX]at s;replace s:=hid s;refine wk ?_;refine aez aeu aex ⟨i+1,c',_,rfl,j,hid ⟨?_,?_,?_⟩,rfl,rfl⟩;rw[y.o,JA,List.any_append,show(d.take i).any _=JA (d.take i)from rfl,F.o.1];simp[s.o];obtain⟨_,M,P⟩:=F.o;have:=C.o.2;omega;obtain⟨_,M,P⟩:=F.o;have:=C.o.2;omega;have B:i=d.length:=aeu;subst B;have g1:¬(d.length:Int)<(d.length:Int):=aeu;have x:=F.o.1;rw[abX]at x;have p:=h.o;rw[if_neg (by rw[x];simp)]at p;have H:∀r∈d,∀a∈r,a.2.length<=4096:=λr hr a v=>by have W:=adc.1 x r hr;have G:G1 r=false:=(by simpa using W);unfold G1 at G;have g:=adc.1 G a v;simpa using g
 have u:∀r∈d,(cC false r).length<=200000:=λr hr=>HP (f.o r hr).1 (f.o r hr).2 (H r hr)
 have R:=HI aeu u;replace p:=hid p;clear x;replace H:=hid H;replace u:=hid u;refine wk ?_;refine XZ aeu (λr hr=>⟨by have:=(f.o r hr).1;omega,λa v=>⟨by have:=(f.o r hr).2 a v;omega,by have:=H.o r hr a v;omega⟩⟩) (λr hr=>by have:=u.o r hr;omega) aeu ?_;by_cases w:4096<(aN false d).length;have S:(4096:Int)<((aN false d).length:Int):=aeu;have g:=p.o;rw[if_pos w]at g;replace g:=hid g;clear w;refine aeC ?_;exact ae rfl g.o;have S:¬(4096:Int)<((aN false d).length:Int):=aeu;have g:=p.o;rw[if_neg w]at g;replace g:=hid g;clear w;refine aeC ?_;exact ae rfl g.o
theorem PC{d:List Rdn}(h:(prS d).2=0):d.length<=32/\∀r∈d,r.length<=8/\∀a∈r,a.1.length<=32/\a.2.length<=4096:=by
 unfold prS at h;split at h;rename_i c;exact absurd h c;rename_i c;split at h;cases h;rename_i l;have i:nr 0 d=0:=by simpa using c
 obtain⟨m,g⟩:=PZ d 0 i aeu;have e:JA d=false:=by simpa using l
 refine⟨aeu,λr hr=>⟨(g r hr).1,λa f=>⟨(g r hr).2 a f,?_⟩⟩⟩;have j:=adc.1 e r hr;have b:G1 r=false:=by simpa using j
 unfold G1 at b;have k:=adc.1 b a f;simpa using k
theorem J7{d:List Rdn}{cap:Option Nat}(i:d.length<=1100000)(hr:∀r∈d,r.length<=1100000)(h:K (RT (PJ d)) L):
  abw 61 [.sl (d.map aJ) d.length cap] L K:=by
 unfold PJ RT at h;refine abv P4 ?_;refine xK i hr ?_;unfold RT;obtain⟨⟨ps,j⟩,f⟩:∃p,prS d=p:=⟨_,rfl⟩;rw[f]at h⊢;simp only at h⊢;by_cases g:j=0;subst g;obtain⟨l,c⟩:=PC (by rw[f]);rw[if_neg aev]at h;have b:∀r∈d,(cC true r).length<=200000:=λr hr=>HP (c r hr).1 (λa e=>((c r hr).2 a e).1) (λa e=>((c r hr).2 a e).2)
 have k:=HI aeu b;replace h:=hid h;replace c:=hid c;replace b:=hid b;clear f hr;refine aeC ?_;refine Th aeu (λr hr=>⟨by have:=(c.o r hr).1;omega,λa e=>⟨by have:=((c.o r hr).2 a e).1;omega,by have:=((c.o r hr).2 a e).2;omega⟩⟩) (λr hr=>by have:=b.o r hr;omega) aeu ?_;refine aeC ?_;exact ag h.o;rw[if_pos g]at h;replace h:=hid h;clear f hr;refine aeC ?_;exact ag h.o
theorem PF:∀(f:Nat) (a:List Rdn) (b:Rdn) (s:List UInt8),a.length<=32->b.length<=8->(∀r∈a,r.length<=8)->(LR f a b s).1.length<=33/\∀r∈(LR f a b s).1,r.length<=8
 |0,_,_,_,_,_,_=>by simp[LR]
 | f+1,a,b,s,h1,h2,h3=>by
   rw[LR];split
   .simp
   rename_i e;have c:∀t v:List UInt8,(b++[(t,v)]).length<=8:=λt v=>by simp;omega
   have d:∀t v:List UInt8,∀r∈a++[b++[(t,v)]],r.length<=8:=λt v r hr=>by
    rcases abD.1 hr with h|h
    .exact h3 r h
    .rw[abV.1 h];exact c t v
   split
   .simp
   split
   .simp
   split
   .simp
   split
   .simp
   split
   .simp
   split
   .exact⟨by simp;omega,d _ _⟩
   split
   .exact PF f _ _ _ (by simp;omega) aev (d _ _)
   .exact PF f _ _ _ h1 (c _ _) h3
theorem Tw(s:List UInt8):(kI s).1.length<=33/\∀r∈(kI s).1,r.length<=8:=by unfold kI;split;simp;split;simp;exact PF _ _ _ _ aev aev aev
theorem qe(b:List UInt8)(c:UInt8):ev (b++[c])=if c=32 then b else b++[c]:=by simp[ev]
end Go.Proofs.YtajkbcmleihaoaaGreatDoor.Av
