/- Closed facts of the law PlanOwn's row, each reckoned by the kernel alone. -/
import Derived.Test.YtpednpndahgleaaGreatDoorCards
import Derived.Test.YtpednpndahgleaaGreatDoorChecked
import Derived.KernelRfl
import Derived.JoinedOf
import Derived.SevenTiedAt
import Derived.Test.YtpednpndahgleaaGreatDoorAvBr
set_option linter.unusedSimpArgs false
set_option linter.unusedVariables false
namespace Go.Proofs.YtpednpndahgleaaGreatDoor.Av
open Go
set_option maxRecDepth 100000
theorem factPlanOwn_1 : (Rows.planOwnRow.inPlace == Tryz.prog.inPlace 6) = true := by kernel_rfl
theorem factPlanOwn_2 : (Rows.planOwnRow.unfollowed == Tryz.prog.unfollowed 6) = true := by kernel_rfl
theorem factPlanOwn_3 : (Rows.planOwnRow.recurses == Tryz.prog.recurses 6) = true := by kernel_rfl
theorem factPlanOwn_4 : (Rows.planOwnRow.named == Tryz.prog.varsNamed 6) = true := by kernel_rfl
theorem factPlanOwn_5 : laidOutB Tryz.prog = true := by kernel_rfl
theorem factPlanOwn_6 : mapsRowed Tryz.prog = true := by kernel_rfl
theorem factPlanOwn_7 : slicesFull Tryz.prog = true := by kernel_rfl
theorem factPlanOwn_8 : Tryz.prog.looks [] = true := by kernel_rfl
theorem factPlanOwn_9 : false = Rows.planOwnRow.goesBy Tryz.prog := by kernel_rfl
theorem factPlanOwn_10 : Tryz.prog.mainIs = some (true, ("948d8838da1d5230734eb5b2056f7f40048d98f355a1e0648a41a7238aed9cca").toList) := by kernel_rfl
theorem factPlanOwn_11 : Tryz.prog.funcNamed "castellan/castellanlaw20.PlanOwn" = some 6 := by kernel_rfl
theorem factPlanOwn_12 : Tryz.f6.params.toList.all (fun t => !Tryz.prog.wantsStandIn t) = true := by kernel_rfl
theorem factPlanOwn_closed : joinedFacts Tryz.prog 6 Tryz.f6 (OpenSpec.ofChange Rows.planOwnSpec).bare Rows.planOwnRow = true := by
  unfold joinedFacts
  rw [factPlanOwn_1, factPlanOwn_2, factPlanOwn_3, factPlanOwn_4, factPlanOwn_5, factPlanOwn_6]
  kernel_rfl
end Go.Proofs.YtpednpndahgleaaGreatDoor.Av
