/- Closed facts of the law IndexNil's row, each reckoned by the kernel alone. -/
import Derived.Test.YtpednpndahgleaaGreatDoorCards
import Derived.Test.YtpednpndahgleaaGreatDoorChecked
import Derived.KernelRfl
import Derived.JoinedOf
import Derived.SevenTiedAt
import Derived.Test.YtpednpndahgleaaGreatDoorAvBr
set_option linter.unusedSimpArgs false
set_option linter.unusedVariables false
namespace Go.Proofs.YtpednpndahgleaaGreatDoor.Av
open Go
set_option maxRecDepth 100000
theorem factIndexNil_1 : (Rows.indexNilRow.inPlace == Tryz.prog.inPlace 4) = true := by kernel_rfl
theorem factIndexNil_2 : (Rows.indexNilRow.unfollowed == Tryz.prog.unfollowed 4) = true := by kernel_rfl
theorem factIndexNil_3 : (Rows.indexNilRow.recurses == Tryz.prog.recurses 4) = true := by kernel_rfl
theorem factIndexNil_4 : (Rows.indexNilRow.named == Tryz.prog.varsNamed 4) = true := by kernel_rfl
theorem factIndexNil_5 : laidOutB Tryz.prog = true := by kernel_rfl
theorem factIndexNil_6 : mapsRowed Tryz.prog = true := by kernel_rfl
theorem factIndexNil_7 : slicesFull Tryz.prog = true := by kernel_rfl
theorem factIndexNil_8 : Tryz.prog.looks [] = true := by kernel_rfl
theorem factIndexNil_9 : false = Rows.indexNilRow.goesBy Tryz.prog := by kernel_rfl
theorem factIndexNil_10 : Tryz.prog.mainIs = some (true, ("948d8838da1d5230734eb5b2056f7f40048d98f355a1e0648a41a7238aed9cca").toList) := by kernel_rfl
theorem factIndexNil_11 : Tryz.prog.funcNamed "castellan/castellanlaw19.IndexNil" = some 4 := by kernel_rfl
theorem factIndexNil_12 : Tryz.f4.params.toList.all (fun t => !Tryz.prog.wantsStandIn t) = true := by kernel_rfl
theorem factIndexNil_closed : joinedFacts Tryz.prog 4 Tryz.f4 (OpenSpec.ofChange Rows.indexNilSpec).bare Rows.indexNilRow = true := by
  unfold joinedFacts
  rw [factIndexNil_1, factIndexNil_2, factIndexNil_3, factIndexNil_4, factIndexNil_5, factIndexNil_6]
  kernel_rfl
end Go.Proofs.YtpednpndahgleaaGreatDoor.Av
