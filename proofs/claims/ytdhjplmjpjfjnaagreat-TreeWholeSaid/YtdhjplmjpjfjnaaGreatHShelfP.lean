/- Joined texts of the walk, made small by a program. -/
import Derived.Shelf.Strings.Builder1
import Derived.Shelf.Strings.Builder2
import Derived.Shelf.Strings.OnBuilder
import Derived.Shelf.Small.Bits
import Derived.Shelf.Small.Strs
import Derived.Shelf.Strconv.Itoa0
import Derived.Shelf.Strings.Search1
import Derived.Shelf.Strings.Search2
import Derived.Shelf.Strings.Cut
import Derived.Shelf.LaysM
import Derived.Shelf.Strings.Shaped
import Derived.Shelf.Sort.Plain
import Derived.Shelf.Slices.Equal
import Derived.Shelf.Slices.In.SortNone
import Derived.Test.YtdhjplmjpjfjnaaGreatProg
set_option linter.unusedSimpArgs false
set_option linter.unusedVariables false
namespace Go.Proofs
open Go.Shelf
def Tryz.lays156_ren:Go.Shelf.Ren:=⟨fun|156=>83|165=>122|166=>123|169=>124|240=>147|241=>148|276=>169|277=>170|n=>n,fun|31=>68|9=>9|3=>3|4=>4|0=>0|20=>20|72=>172|76=>176|70=>170|37=>109|75=>175|127=>209|164=>233|5=>5|80=>178|n=>n,fun|n=>n⟩
theorem Tryz.lays156:Go.Proofs.Lays.n156 Tryz.prog Tryz.lays156_ren:={
 mixed:=by kernel_rfl
 f156:=Tryz.func83.trans (congrArg some (by kernel_rfl))
 f165:=Tryz.func122.trans (congrArg some (by kernel_rfl))
 f166:=Tryz.func123.trans (congrArg some (by kernel_rfl))
 f169:=Tryz.func124.trans (congrArg some (by kernel_rfl))
 f240:=Tryz.func147.trans (congrArg some (by kernel_rfl))
 f241:=Tryz.func148.trans (congrArg some (by kernel_rfl))
 f276:=Tryz.func169.trans (congrArg some (by kernel_rfl))
 f277:=Tryz.func170.trans (congrArg some (by kernel_rfl))
 t0:=Tryz.underlying0
 a0:=Tryz.isAgg0
 z0:=Tryz.sizeOf0
 v0:=Tryz.zeroValue0
 t3:=Tryz.underlying3
 a3:=Tryz.isAgg3
 z3:=Tryz.sizeOf3
 v3:=Tryz.zeroValue3
 t4:=Tryz.underlying4
 a4:=Tryz.isAgg4
 z4:=Tryz.sizeOf4
 v4:=Tryz.zeroValue4
 t9:=Tryz.underlying9
 a9:=Tryz.isAgg9
 z9:=Tryz.sizeOf9
 v9:=Tryz.zeroValue9
 t20:=Tryz.underlying20
 a20:=Tryz.isAgg20
 z20:=Tryz.sizeOf20
 v20:=Tryz.zeroValue20
 t31:=Tryz.underlying68
 a31:=Tryz.isAgg68
 z31:=Tryz.sizeOf68
 v31:=Tryz.zeroValue68
 t37:=Tryz.underlying109
 a37:=Tryz.isAgg109
 z37:=Tryz.sizeOf109
 v37:=Tryz.zeroValue109
 t70:=Tryz.underlying170
 a70:=Tryz.isAgg170
 z70:=Tryz.sizeOf170
 v70:=Tryz.zeroValue170
 t72:=Tryz.underlying172
 a72:=Tryz.isAgg172
 z72:=Tryz.sizeOf172
 v72:=Tryz.zeroValue172
 t75:=Tryz.underlying175
 a75:=Tryz.isAgg175
 z75:=Tryz.sizeOf175
 v75:=Tryz.zeroValue175
 t76:=Tryz.underlying176
 a76:=Tryz.isAgg176
 z76:=Tryz.sizeOf176
 v76:=Tryz.zeroValue176
 t127:=Tryz.underlying209
 a127:=Tryz.isAgg209
 z127:=Tryz.sizeOf209
 v127:=Tryz.zeroValue209
 t164:=Tryz.underlying233
 a164:=Tryz.isAgg233
 z164:=Tryz.sizeOf233
 v164:=Tryz.zeroValue233 }
theorem Tryz.Builder_Extra_156:Builder.Extra Tryz.prog Tryz.lays156_ren:={
 sizeBuilder:=by kernel_rfl
 liesBuilder:=by kernel_rfl
 t5:=Tryz.underlying5
 a5:=Tryz.isAgg5
 z5:=Tryz.sizeOf5
 v5:=Tryz.zeroValue5
 infoByte:=by kernel_rfl
 cellsByte:=by kernel_rfl
 sizeByte:=by kernel_rfl
 neB5:=by decide }
open Go.RowKit in
theorem Tryz.strings_Join_none (a:Option Addr) (c:Nat) (sep:ByteArray) (w:World) :
   Calls Tryz.prog 83 #[.slice a 0 c,.string sep] w fun e w'=>e=.returned (.string ⟨#[]⟩)∧w'=w:=Any.strings_Join_none Tryz.lays156 Tryz.Builder_Extra_156 a c sep w
open Go.RowKit in
theorem Tryz.strings_Join (bk o c:Nat) (xs:List ByteArray) (sep:ByteArray) (w:World) (hcells:∀ (j:Nat) x,xs[j]?=some x→w.cell? ⟨bk,o+j,none⟩=some (.string x)) (hbk:bk<w.heap.size) (hN:xs.length≤140737488355328) (hcap:xs.length≤c) (hlen:(Lib.join (xs.map (·.data.toList)) sep.data.toList).length≤140737488355328) :
   Calls Tryz.prog 83 #[.slice (some ⟨bk,o,none⟩) xs.length c,.string sep] w fun e w'=>e=.returned (.string ⟨(Lib.join (xs.map (·.data.toList)) sep.data.toList).toArray⟩)∧Below w.heap.size w w':=Any.strings_Join Tryz.lays156 Tryz.Builder_Extra_156 bk o c xs sep w hcells hbk hN hcap hlen
def Tryz.lays137_ren:Go.Shelf.Ren:=⟨fun|137=>141|217=>158|266=>177|n=>n,fun|9=>9|5=>5|3=>3|n=>n,fun|n=>n⟩
theorem Tryz.lays137:Go.Proofs.Lays.n137 Tryz.prog Tryz.lays137_ren:={
 mixed:=by kernel_rfl
 f137:=Tryz.func141.trans (congrArg some (by kernel_rfl))
 f217:=Tryz.func158.trans (congrArg some (by kernel_rfl))
 f266:=Tryz.func177.trans (congrArg some (by kernel_rfl))
 t3:=Tryz.underlying3
 a3:=Tryz.isAgg3
 z3:=Tryz.sizeOf3
 v3:=Tryz.zeroValue3
 t5:=Tryz.underlying5
 a5:=Tryz.isAgg5
 z5:=Tryz.sizeOf5
 v5:=Tryz.zeroValue5
 t9:=Tryz.underlying9
 a9:=Tryz.isAgg9
 z9:=Tryz.sizeOf9
 v9:=Tryz.zeroValue9 }
open Go.RowKit in
theorem Tryz.strings_IndexByte (s:ByteArray) (c:Int) (w:World) :
   Calls Tryz.prog 141 #[.string s,.int .u8 c] w fun e w'=>e=.returned (.int .i64 (Lib.indexByte s.data.toList c.toNat.toUInt8))∧w'=w:=Any.strings_IndexByte Tryz.lays137 s c w
open Go.RowKit Go.Lib in
open Go.RowKit Go.Lib in
open Go.RowKit Go.Lib in
def Tryz.lays190_ren:Go.Shelf.Ren:=⟨fun|190=>116|125=>71|258=>142|128=>110|129=>111|302=>159|303=>160|304=>161|305=>162|306=>163|307=>164|308=>165|309=>166|310=>167|333=>178|329=>137|330=>138|334=>179|335=>180|336=>112|344=>183|n=>n,fun|31=>68|9=>9|3=>3|46=>119|0=>0|51=>161|53=>163|4=>4|183=>154|182=>153|131=>158|5=>5|218=>197|222=>201|228=>224|229=>76|n=>n,fun|n=>n⟩
theorem Tryz.lays190:Go.Proofs.Lays.n190 Tryz.prog Tryz.lays190_ren:={
 mixed:=by kernel_rfl
 f125:=Tryz.func71.trans (congrArg some (by kernel_rfl))
 f128:=Tryz.func110.trans (congrArg some (by kernel_rfl))
 f129:=Tryz.func111.trans (congrArg some (by kernel_rfl))
 f190:=Tryz.func116.trans (congrArg some (by kernel_rfl))
 f258:=Tryz.func142.trans (congrArg some (by kernel_rfl))
 f302:=Tryz.func159.trans (congrArg some (by kernel_rfl))
 f303:=Tryz.func160.trans (congrArg some (by kernel_rfl))
 f304:=Tryz.func161.trans (congrArg some (by kernel_rfl))
 f305:=Tryz.func162.trans (congrArg some (by kernel_rfl))
 f306:=Tryz.func163.trans (congrArg some (by kernel_rfl))
 f307:=Tryz.func164.trans (congrArg some (by kernel_rfl))
 f308:=Tryz.func165.trans (congrArg some (by kernel_rfl))
 f309:=Tryz.func166.trans (congrArg some (by kernel_rfl))
 f310:=Tryz.func167.trans (congrArg some (by kernel_rfl))
 f329:=Tryz.func137.trans (congrArg some (by kernel_rfl))
 f330:=Tryz.func138.trans (congrArg some (by kernel_rfl))
 f333:=Tryz.func178.trans (congrArg some (by kernel_rfl))
 f334:=Tryz.func179.trans (congrArg some (by kernel_rfl))
 f335:=Tryz.func180.trans (congrArg some (by kernel_rfl))
 f336:=Tryz.func112.trans (congrArg some (by kernel_rfl))
 f344:=Tryz.func183.trans (congrArg some (by kernel_rfl))
 t0:=Tryz.underlying0
 a0:=Tryz.isAgg0
 z0:=Tryz.sizeOf0
 v0:=Tryz.zeroValue0
 t3:=Tryz.underlying3
 a3:=Tryz.isAgg3
 z3:=Tryz.sizeOf3
 v3:=Tryz.zeroValue3
 t4:=Tryz.underlying4
 a4:=Tryz.isAgg4
 z4:=Tryz.sizeOf4
 v4:=Tryz.zeroValue4
 t5:=Tryz.underlying5
 a5:=Tryz.isAgg5
 z5:=Tryz.sizeOf5
 v5:=Tryz.zeroValue5
 t9:=Tryz.underlying9
 a9:=Tryz.isAgg9
 z9:=Tryz.sizeOf9
 v9:=Tryz.zeroValue9
 t31:=Tryz.underlying68
 a31:=Tryz.isAgg68
 z31:=Tryz.sizeOf68
 v31:=Tryz.zeroValue68
 t46:=Tryz.underlying119
 a46:=Tryz.isAgg119
 z46:=Tryz.sizeOf119
 v46:=Tryz.zeroValue119
 t51:=Tryz.underlying161
 a51:=Tryz.isAgg161
 z51:=Tryz.sizeOf161
 v51:=Tryz.zeroValue161
 t53:=Tryz.underlying163
 a53:=Tryz.isAgg163
 z53:=Tryz.sizeOf163
 v53:=Tryz.zeroValue163
 t131:=Tryz.underlying158
 a131:=Tryz.isAgg158
 z131:=Tryz.sizeOf158
 v131:=Tryz.zeroValue158
 t182:=Tryz.underlying153
 a182:=Tryz.isAgg153
 z182:=Tryz.sizeOf153
 v182:=Tryz.zeroValue153
 t183:=Tryz.underlying154
 a183:=Tryz.isAgg154
 z183:=Tryz.sizeOf154
 v183:=Tryz.zeroValue154
 t218:=Tryz.underlying197
 a218:=Tryz.isAgg197
 z218:=Tryz.sizeOf197
 v218:=Tryz.zeroValue197
 t222:=Tryz.underlying201
 a222:=Tryz.isAgg201
 z222:=Tryz.sizeOf201
 v222:=Tryz.zeroValue201
 t228:=Tryz.underlying224
 a228:=Tryz.isAgg224
 z228:=Tryz.sizeOf224
 v228:=Tryz.zeroValue224
 t229:=Tryz.underlying76
 a229:=Tryz.isAgg76
 z229:=Tryz.sizeOf76
 v229:=Tryz.zeroValue76 }
open Go.Sort Go.RowKit in
theorem Tryz.slices_Sort_string (blk off cap:Nat) (ss:List (List UInt8)) (w:World) (hH:Holds encStr w blk off ss.toArray) (hblk:blk<w.heap.size) (hsz:ss.length<4611686018427387904) :
   Calls Tryz.prog 116 #[.slice (some ⟨blk,off,none⟩) ss.length cap] w fun e w' =>
     e=.returned (.tuple #[])∧∃ n os,w'=grow (putRow encStr (Sort.ahead w n) blk off (ss.mergeSort fun x y=>decide (x≤y)).toArray) os:=Any.slices_Sort_string Tryz.lays190 blk off cap ss w hH hblk hsz
open Go.RowKit Go.Sort in
theorem Tryz.slices_Sort_string_none (p:Option Addr) (cap:Nat) (w:World) :
   Calls Tryz.prog 116 #[.slice p 0 cap] w fun e w'=>e=.returned (.tuple #[])∧w'=w:=Any.slices_Sort_string_none Tryz.lays190 p cap w
end Go.Proofs
