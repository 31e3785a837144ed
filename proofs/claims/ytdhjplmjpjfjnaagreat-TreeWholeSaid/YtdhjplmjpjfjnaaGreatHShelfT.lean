/- Joined texts of the walk, made small by a program. -/
import Derived.Shelf.Strings.Builder1
import Derived.Shelf.Strings.Builder2
import Derived.Shelf.Strings.OnBuilder
import Derived.Shelf.Small.Bits
import Derived.Shelf.Small.Strs
import Derived.Shelf.Strconv.Itoa0
import Derived.Shelf.Strings.Search1
import Derived.Shelf.Strings.Search2
import Derived.Shelf.Strings.Cut
import Derived.Shelf.LaysM
import Derived.Shelf.Strings.Shaped
import Derived.Shelf.Sort.Plain
import Derived.Shelf.Slices.Equal
import Derived.Shelf.Slices.In.SortNone
import Derived.Shelf.SlSortCmp.NoneTotal
import Derived.Ground.SlsfProg
import Derived.Test.YtdhjplmjpjfjnaaGreatProg
set_option linter.unusedSimpArgs false
set_option linter.unusedVariables false
namespace Go.Proofs
open Go.Shelf
def Tryz.srtF_ren:Go.Shelf.Ren:=⟨fun|6=>40|15=>71|14=>70|28=>110|29=>111|20=>102|21=>103|22=>104|23=>105|24=>106|25=>107|26=>108|27=>109|46=>136|47=>137|48=>138|49=>139|50=>140|57=>157|n=>n,fun|22=>38|24=>3|25=>93|3=>3|39=>119|0=>0|53=>161|55=>163|4=>4|46=>154|45=>153|50=>158|5=>5|9=>9|66=>197|70=>201|76=>224|77=>76|n=>n,fun|n=>n⟩
theorem Tryz.srtF:Go.Proofs.SlLaysF.n6 Tryz.prog Tryz.srtF_ren:={
 mixed:=by kernel_rfl
 f6:=⟨Tryz.f40.name,by decide,Tryz.func40.trans (congrArg some (by kernel_rfl))⟩
 f14:=⟨Tryz.f70.name,by decide,Tryz.func70.trans (congrArg some (by kernel_rfl))⟩
 f15:=Tryz.func71.trans (congrArg some (by kernel_rfl))
 f20:=⟨Tryz.f102.name,by decide,Tryz.func102.trans (congrArg some (by kernel_rfl))⟩
 f21:=⟨Tryz.f103.name,by decide,Tryz.func103.trans (congrArg some (by kernel_rfl))⟩
 f22:=⟨Tryz.f104.name,by decide,Tryz.func104.trans (congrArg some (by kernel_rfl))⟩
 f23:=⟨Tryz.f105.name,by decide,Tryz.func105.trans (congrArg some (by kernel_rfl))⟩
 f24:=⟨Tryz.f106.name,by decide,Tryz.func106.trans (congrArg some (by kernel_rfl))⟩
 f25:=⟨Tryz.f107.name,by decide,Tryz.func107.trans (congrArg some (by kernel_rfl))⟩
 f26:=⟨Tryz.f108.name,by decide,Tryz.func108.trans (congrArg some (by kernel_rfl))⟩
 f27:=⟨Tryz.f109.name,by decide,Tryz.func109.trans (congrArg some (by kernel_rfl))⟩
 f28:=Tryz.func110.trans (congrArg some (by kernel_rfl))
 f29:=Tryz.func111.trans (congrArg some (by kernel_rfl))
 f46:=⟨Tryz.f136.name,by decide,Tryz.func136.trans (congrArg some (by kernel_rfl))⟩
 f47:=Tryz.func137.trans (congrArg some (by kernel_rfl))
 f48:=Tryz.func138.trans (congrArg some (by kernel_rfl))
 f49:=⟨Tryz.f139.name,by decide,Tryz.func139.trans (congrArg some (by kernel_rfl))⟩
 f50:=⟨Tryz.f140.name,by decide,Tryz.func140.trans (congrArg some (by kernel_rfl))⟩
 f57:=⟨Tryz.f157.name,by decide,Tryz.func157.trans (congrArg some (by kernel_rfl))⟩
 t0:=Tryz.underlying0
 a0:=Tryz.isAgg0
 z0:=Tryz.sizeOf0
 v0:=Tryz.zeroValue0
 t3:=Tryz.underlying3
 a3:=Tryz.isAgg3
 z3:=Tryz.sizeOf3
 v3:=Tryz.zeroValue3
 t4:=Tryz.underlying4
 a4:=Tryz.isAgg4
 z4:=Tryz.sizeOf4
 v4:=Tryz.zeroValue4
 t5:=Tryz.underlying5
 a5:=Tryz.isAgg5
 z5:=Tryz.sizeOf5
 v5:=Tryz.zeroValue5
 t9:=Tryz.underlying9
 a9:=Tryz.isAgg9
 z9:=Tryz.sizeOf9
 v9:=Tryz.zeroValue9
 t22:=Tryz.underlying38
 a22:=Tryz.isAgg38
 z22:=Tryz.sizeOf38
 v22:=Tryz.zeroValue38
 a24:=Tryz.isAgg3
 z24:=Tryz.sizeOf3
 t25:=Tryz.underlying93
 a25:=Tryz.isAgg93
 z25:=Tryz.sizeOf93
 v25:=Tryz.zeroValue93
 t39:=Tryz.underlying119
 a39:=Tryz.isAgg119
 z39:=Tryz.sizeOf119
 v39:=Tryz.zeroValue119
 t45:=Tryz.underlying153
 a45:=Tryz.isAgg153
 z45:=Tryz.sizeOf153
 v45:=Tryz.zeroValue153
 t46:=Tryz.underlying154
 a46:=Tryz.isAgg154
 z46:=Tryz.sizeOf154
 v46:=Tryz.zeroValue154
 t50:=Tryz.underlying158
 a50:=Tryz.isAgg158
 z50:=Tryz.sizeOf158
 v50:=Tryz.zeroValue158
 t53:=Tryz.underlying161
 a53:=Tryz.isAgg161
 z53:=Tryz.sizeOf161
 v53:=Tryz.zeroValue161
 t55:=Tryz.underlying163
 a55:=Tryz.isAgg163
 z55:=Tryz.sizeOf163
 v55:=Tryz.zeroValue163
 t66:=Tryz.underlying197
 a66:=Tryz.isAgg197
 z66:=Tryz.sizeOf197
 v66:=Tryz.zeroValue197
 t70:=Tryz.underlying201
 a70:=Tryz.isAgg201
 z70:=Tryz.sizeOf201
 v70:=Tryz.zeroValue201
 t76:=Tryz.underlying224
 a76:=Tryz.isAgg224
 z76:=Tryz.sizeOf224
 v76:=Tryz.zeroValue224
 t77:=Tryz.underlying76
 a77:=Tryz.isAgg76
 z77:=Tryz.sizeOf76
 v77:=Tryz.zeroValue76 }
end Go.Proofs
