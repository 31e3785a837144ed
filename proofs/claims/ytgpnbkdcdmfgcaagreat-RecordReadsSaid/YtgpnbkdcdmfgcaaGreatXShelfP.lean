/- Joined texts of the walk, made small by a program. -/
import Derived.Shelf.Strings.Builder1
import Derived.Shelf.Strings.Builder2
import Derived.Shelf.Strings.OnBuilder
import Derived.Shelf.Small.Strs
import Derived.Shelf.Strings.Search1
import Derived.Shelf.Strings.Search2
import Derived.Shelf.Strings.Cut
import Derived.Shelf.LaysM
import Derived.Shelf.Strings.Shaped
import Derived.Shelf.Sort.Plain
import Derived.Shelf.Slices.In.SortNone
import Derived.Test.YtgpnbkdcdmfgcaaGreatProg
set_option linter.unusedSimpArgs false
set_option linter.unusedVariables false
namespace Go.Proofs
open Go.Shelf
def Tryz.lays156_ren:Go.Shelf.Ren:=⟨fun|156=>68|165=>96|166=>97|169=>98|240=>125|241=>126|276=>146|277=>147|n=>n,fun|31=>63|9=>9|3=>3|4=>4|0=>0|20=>20|72=>158|76=>162|70=>156|37=>41|75=>161|127=>192|164=>208|5=>5|80=>164|n=>n,fun|n=>n⟩
theorem Tryz.lays156:Go.Proofs.Lays.n156 Tryz.prog Tryz.lays156_ren:={
 mixed:=by kernel_rfl
 f156:=Tryz.func68.trans (congrArg some (by kernel_rfl))
 f165:=Tryz.func96.trans (congrArg some (by kernel_rfl))
 f166:=Tryz.func97.trans (congrArg some (by kernel_rfl))
 f169:=Tryz.func98.trans (congrArg some (by kernel_rfl))
 f240:=Tryz.func125.trans (congrArg some (by kernel_rfl))
 f241:=Tryz.func126.trans (congrArg some (by kernel_rfl))
 f276:=Tryz.func146.trans (congrArg some (by kernel_rfl))
 f277:=Tryz.func147.trans (congrArg some (by kernel_rfl))
 t0:=Tryz.underlying0
 a0:=Tryz.isAgg0
 z0:=Tryz.sizeOf0
 v0:=Tryz.zeroValue0
 t3:=Tryz.underlying3
 a3:=Tryz.isAgg3
 z3:=Tryz.sizeOf3
 v3:=Tryz.zeroValue3
 t4:=Tryz.underlying4
 a4:=Tryz.isAgg4
 z4:=Tryz.sizeOf4
 v4:=Tryz.zeroValue4
 t9:=Tryz.underlying9
 a9:=Tryz.isAgg9
 z9:=Tryz.sizeOf9
 v9:=Tryz.zeroValue9
 t20:=Tryz.underlying20
 a20:=Tryz.isAgg20
 z20:=Tryz.sizeOf20
 v20:=Tryz.zeroValue20
 t31:=Tryz.underlying63
 a31:=Tryz.isAgg63
 z31:=Tryz.sizeOf63
 v31:=Tryz.zeroValue63
 t37:=Tryz.underlying41
 a37:=Tryz.isAgg41
 z37:=Tryz.sizeOf41
 v37:=Tryz.zeroValue41
 t70:=Tryz.underlying156
 a70:=Tryz.isAgg156
 z70:=Tryz.sizeOf156
 v70:=Tryz.zeroValue156
 t72:=Tryz.underlying158
 a72:=Tryz.isAgg158
 z72:=Tryz.sizeOf158
 v72:=Tryz.zeroValue158
 t75:=Tryz.underlying161
 a75:=Tryz.isAgg161
 z75:=Tryz.sizeOf161
 v75:=Tryz.zeroValue161
 t76:=Tryz.underlying162
 a76:=Tryz.isAgg162
 z76:=Tryz.sizeOf162
 v76:=Tryz.zeroValue162
 t127:=Tryz.underlying192
 a127:=Tryz.isAgg192
 z127:=Tryz.sizeOf192
 v127:=Tryz.zeroValue192
 t164:=Tryz.underlying208
 a164:=Tryz.isAgg208
 z164:=Tryz.sizeOf208
 v164:=Tryz.zeroValue208 }
theorem Tryz.Builder_Extra_156:Builder.Extra Tryz.prog Tryz.lays156_ren:={
 sizeBuilder:=by kernel_rfl
 liesBuilder:=by kernel_rfl
 t5:=Tryz.underlying5
 a5:=Tryz.isAgg5
 z5:=Tryz.sizeOf5
 v5:=Tryz.zeroValue5
 infoByte:=by kernel_rfl
 cellsByte:=by kernel_rfl
 sizeByte:=by kernel_rfl
 neB5:=by decide }
open Go.RowKit in
theorem Tryz.strings_Join_none (a:Option Addr) (c:Nat) (sep:ByteArray) (w:World) :
   Calls Tryz.prog 68 #[.slice a 0 c,.string sep] w fun e w'=>e=.returned (.string ⟨#[]⟩)∧w'=w:=Any.strings_Join_none Tryz.lays156 Tryz.Builder_Extra_156 a c sep w
open Go.RowKit in
theorem Tryz.strings_Join (bk o c:Nat) (xs:List ByteArray) (sep:ByteArray) (w:World) (hcells:∀ (j:Nat) x,xs[j]?=some x→w.cell? ⟨bk,o+j,none⟩=some (.string x)) (hbk:bk<w.heap.size) (hN:xs.length≤140737488355328) (hcap:xs.length≤c) (hlen:(Lib.join (xs.map (·.data.toList)) sep.data.toList).length≤140737488355328) :
   Calls Tryz.prog 68 #[.slice (some ⟨bk,o,none⟩) xs.length c,.string sep] w fun e w'=>e=.returned (.string ⟨(Lib.join (xs.map (·.data.toList)) sep.data.toList).toArray⟩)∧Below w.heap.size w w':=Any.strings_Join Tryz.lays156 Tryz.Builder_Extra_156 bk o c xs sep w hcells hbk hN hcap hlen
def Tryz.lays137_ren:Go.Shelf.Ren:=⟨fun|137=>93|217=>113|266=>140|n=>n,fun|9=>9|5=>5|3=>3|n=>n,fun|n=>n⟩
theorem Tryz.lays137:Go.Proofs.Lays.n137 Tryz.prog Tryz.lays137_ren:={
 mixed:=by kernel_rfl
 f137:=Tryz.func93.trans (congrArg some (by kernel_rfl))
 f217:=Tryz.func113.trans (congrArg some (by kernel_rfl))
 f266:=Tryz.func140.trans (congrArg some (by kernel_rfl))
 t3:=Tryz.underlying3
 a3:=Tryz.isAgg3
 z3:=Tryz.sizeOf3
 v3:=Tryz.zeroValue3
 t5:=Tryz.underlying5
 a5:=Tryz.isAgg5
 z5:=Tryz.sizeOf5
 v5:=Tryz.zeroValue5
 t9:=Tryz.underlying9
 a9:=Tryz.isAgg9
 z9:=Tryz.sizeOf9
 v9:=Tryz.zeroValue9 }
open Go.RowKit in
theorem Tryz.strings_IndexByte (s:ByteArray) (c:Int) (w:World) :
   Calls Tryz.prog 93 #[.string s,.int .u8 c] w fun e w'=>e=.returned (.int .i64 (Lib.indexByte s.data.toList c.toNat.toUInt8))∧w'=w:=Any.strings_IndexByte Tryz.lays137 s c w
open Go.RowKit Go.Lib in
def Tryz.lays219_ren:Go.Shelf.Ren:=⟨fun|219=>127|217=>113|225=>148|224=>149|267=>150|266=>140|314=>155|n=>n,fun|9=>9|3=>3|4=>4|5=>5|46=>42|146=>217|51=>190|n=>n,fun|1=>0|n=>n⟩
theorem Tryz.lays219:Go.Proofs.Lays.n219 Tryz.prog Tryz.lays219_ren:={
 mixed:=by kernel_rfl
 f217:=Tryz.func113.trans (congrArg some (by kernel_rfl))
 f219:=Tryz.func127.trans (congrArg some (by kernel_rfl))
 f224:=Tryz.func149.trans (congrArg some (by kernel_rfl))
 f225:=Tryz.func148.trans (congrArg some (by kernel_rfl))
 f266:=Tryz.func140.trans (congrArg some (by kernel_rfl))
 f267:=Tryz.func150.trans (congrArg some (by kernel_rfl))
 f314:=Tryz.func155.trans (congrArg some (by kernel_rfl))
 t3:=Tryz.underlying3
 a3:=Tryz.isAgg3
 z3:=Tryz.sizeOf3
 v3:=Tryz.zeroValue3
 t4:=Tryz.underlying4
 a4:=Tryz.isAgg4
 z4:=Tryz.sizeOf4
 v4:=Tryz.zeroValue4
 t5:=Tryz.underlying5
 a5:=Tryz.isAgg5
 z5:=Tryz.sizeOf5
 v5:=Tryz.zeroValue5
 t9:=Tryz.underlying9
 a9:=Tryz.isAgg9
 z9:=Tryz.sizeOf9
 v9:=Tryz.zeroValue9
 t46:=Tryz.underlying42
 a46:=Tryz.isAgg42
 z46:=Tryz.sizeOf42
 v46:=Tryz.zeroValue42
 t51:=Tryz.underlying190
 a51:=Tryz.isAgg190
 z51:=Tryz.sizeOf190
 v51:=Tryz.zeroValue190
 t146:=Tryz.underlying217
 a146:=Tryz.isAgg217
 z146:=Tryz.sizeOf217
 v146:=Tryz.zeroValue217
 g1:=by kernel_rfl }
open Go.RowKit Go.Lib in
theorem Tryz.stringslite_Index_one (s:ByteArray) (c:UInt8) (w:World) :
   Calls Tryz.prog 127 #[.string s,.string ⟨#[c]⟩] w fun e w'=>e=.returned (.int .i64 (Lib.indexByte s.data.toList c))∧w'=w:=Any.stringslite_Index_one Tryz.lays219 s c w
open Go.RowKit Go.Lib in
def Tryz.lays190_ren:Go.Shelf.Ren:=⟨fun|190=>67|125=>95|258=>94|128=>123|129=>124|302=>114|303=>115|304=>116|305=>117|306=>118|307=>119|308=>120|309=>121|310=>122|333=>141|329=>142|330=>143|334=>144|335=>145|336=>139|344=>154|n=>n,fun|31=>63|9=>9|3=>3|46=>42|0=>0|51=>190|53=>95|4=>4|183=>182|182=>181|131=>187|5=>5|218=>202|222=>206|228=>214|229=>215|n=>n,fun|n=>n⟩
theorem Tryz.lays190:Go.Proofs.Lays.n190 Tryz.prog Tryz.lays190_ren:={
 mixed:=by kernel_rfl
 f125:=Tryz.func95.trans (congrArg some (by kernel_rfl))
 f128:=Tryz.func123.trans (congrArg some (by kernel_rfl))
 f129:=Tryz.func124.trans (congrArg some (by kernel_rfl))
 f190:=Tryz.func67.trans (congrArg some (by kernel_rfl))
 f258:=Tryz.func94.trans (congrArg some (by kernel_rfl))
 f302:=Tryz.func114.trans (congrArg some (by kernel_rfl))
 f303:=Tryz.func115.trans (congrArg some (by kernel_rfl))
 f304:=Tryz.func116.trans (congrArg some (by kernel_rfl))
 f305:=Tryz.func117.trans (congrArg some (by kernel_rfl))
 f306:=Tryz.func118.trans (congrArg some (by kernel_rfl))
 f307:=Tryz.func119.trans (congrArg some (by kernel_rfl))
 f308:=Tryz.func120.trans (congrArg some (by kernel_rfl))
 f309:=Tryz.func121.trans (congrArg some (by kernel_rfl))
 f310:=Tryz.func122.trans (congrArg some (by kernel_rfl))
 f329:=Tryz.func142.trans (congrArg some (by kernel_rfl))
 f330:=Tryz.func143.trans (congrArg some (by kernel_rfl))
 f333:=Tryz.func141.trans (congrArg some (by kernel_rfl))
 f334:=Tryz.func144.trans (congrArg some (by kernel_rfl))
 f335:=Tryz.func145.trans (congrArg some (by kernel_rfl))
 f336:=Tryz.func139.trans (congrArg some (by kernel_rfl))
 f344:=Tryz.func154.trans (congrArg some (by kernel_rfl))
 t0:=Tryz.underlying0
 a0:=Tryz.isAgg0
 z0:=Tryz.sizeOf0
 v0:=Tryz.zeroValue0
 t3:=Tryz.underlying3
 a3:=Tryz.isAgg3
 z3:=Tryz.sizeOf3
 v3:=Tryz.zeroValue3
 t4:=Tryz.underlying4
 a4:=Tryz.isAgg4
 z4:=Tryz.sizeOf4
 v4:=Tryz.zeroValue4
 t5:=Tryz.underlying5
 a5:=Tryz.isAgg5
 z5:=Tryz.sizeOf5
 v5:=Tryz.zeroValue5
 t9:=Tryz.underlying9
 a9:=Tryz.isAgg9
 z9:=Tryz.sizeOf9
 v9:=Tryz.zeroValue9
 t31:=Tryz.underlying63
 a31:=Tryz.isAgg63
 z31:=Tryz.sizeOf63
 v31:=Tryz.zeroValue63
 t46:=Tryz.underlying42
 a46:=Tryz.isAgg42
 z46:=Tryz.sizeOf42
 v46:=Tryz.zeroValue42
 t51:=Tryz.underlying190
 a51:=Tryz.isAgg190
 z51:=Tryz.sizeOf190
 v51:=Tryz.zeroValue190
 t53:=Tryz.underlying95
 a53:=Tryz.isAgg95
 z53:=Tryz.sizeOf95
 v53:=Tryz.zeroValue95
 t131:=Tryz.underlying187
 a131:=Tryz.isAgg187
 z131:=Tryz.sizeOf187
 v131:=Tryz.zeroValue187
 t182:=Tryz.underlying181
 a182:=Tryz.isAgg181
 z182:=Tryz.sizeOf181
 v182:=Tryz.zeroValue181
 t183:=Tryz.underlying182
 a183:=Tryz.isAgg182
 z183:=Tryz.sizeOf182
 v183:=Tryz.zeroValue182
 t218:=Tryz.underlying202
 a218:=Tryz.isAgg202
 z218:=Tryz.sizeOf202
 v218:=Tryz.zeroValue202
 t222:=Tryz.underlying206
 a222:=Tryz.isAgg206
 z222:=Tryz.sizeOf206
 v222:=Tryz.zeroValue206
 t228:=Tryz.underlying214
 a228:=Tryz.isAgg214
 z228:=Tryz.sizeOf214
 v228:=Tryz.zeroValue214
 t229:=Tryz.underlying215
 a229:=Tryz.isAgg215
 z229:=Tryz.sizeOf215
 v229:=Tryz.zeroValue215 }
open Go.Sort Go.RowKit in
theorem Tryz.slices_Sort_string (blk off cap:Nat) (ss:List (List UInt8)) (w:World) (hH:Holds encStr w blk off ss.toArray) (hblk:blk<w.heap.size) (hsz:ss.length<4611686018427387904) :
   Calls Tryz.prog 67 #[.slice (some ⟨blk,off,none⟩) ss.length cap] w fun e w' =>
     e=.returned (.tuple #[])∧∃ n os,w'=grow (putRow encStr (Sort.ahead w n) blk off (ss.mergeSort fun x y=>decide (x≤y)).toArray) os:=Any.slices_Sort_string Tryz.lays190 blk off cap ss w hH hblk hsz
open Go.RowKit Go.Sort in
theorem Tryz.slices_Sort_string_none (p:Option Addr) (cap:Nat) (w:World) :
   Calls Tryz.prog 67 #[.slice p 0 cap] w fun e w'=>e=.returned (.tuple #[])∧w'=w:=Any.slices_Sort_string_none Tryz.lays190 p cap w
end Go.Proofs
