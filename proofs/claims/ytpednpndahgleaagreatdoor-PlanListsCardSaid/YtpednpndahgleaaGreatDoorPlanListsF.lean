/- Closed facts of the law PlanLists's row, each reckoned by the kernel alone. -/
import Derived.Test.YtpednpndahgleaaGreatDoorCards
import Derived.Test.YtpednpndahgleaaGreatDoorChecked
import Derived.KernelRfl
import Derived.JoinedOf
import Derived.SevenTiedAt
import Derived.Test.YtpednpndahgleaaGreatDoorAvBr
set_option linter.unusedSimpArgs false
set_option linter.unusedVariables false
namespace Go.Proofs.YtpednpndahgleaaGreatDoor.Av
open Go
set_option maxRecDepth 100000
theorem factPlanLists_1 : (Rows.planListsRow.inPlace == Tryz.prog.inPlace 5) = true := by kernel_rfl
theorem factPlanLists_2 : (Rows.planListsRow.unfollowed == Tryz.prog.unfollowed 5) = true := by kernel_rfl
theorem factPlanLists_3 : (Rows.planListsRow.recurses == Tryz.prog.recurses 5) = true := by kernel_rfl
theorem factPlanLists_4 : (Rows.planListsRow.named == Tryz.prog.varsNamed 5) = true := by kernel_rfl
theorem factPlanLists_5 : laidOutB Tryz.prog = true := by kernel_rfl
theorem factPlanLists_6 : mapsRowed Tryz.prog = true := by kernel_rfl
theorem factPlanLists_7 : slicesFull Tryz.prog = true := by kernel_rfl
theorem factPlanLists_8 : Tryz.prog.looks [] = true := by kernel_rfl
theorem factPlanLists_9 : false = Rows.planListsRow.goesBy Tryz.prog := by kernel_rfl
theorem factPlanLists_10 : Tryz.prog.mainIs = some (true, ("948d8838da1d5230734eb5b2056f7f40048d98f355a1e0648a41a7238aed9cca").toList) := by kernel_rfl
theorem factPlanLists_11 : Tryz.prog.funcNamed "castellan/castellanlaw20.PlanLists" = some 5 := by kernel_rfl
theorem factPlanLists_12 : Tryz.f5.params.toList.all (fun t => !Tryz.prog.wantsStandIn t) = true := by kernel_rfl
theorem factPlanLists_closed : joinedFacts Tryz.prog 5 Tryz.f5 (OpenSpec.ofChange Rows.planListsSpec).bare Rows.planListsRow = true := by
  unfold joinedFacts
  rw [factPlanLists_1, factPlanLists_2, factPlanLists_3, factPlanLists_4, factPlanLists_5, factPlanLists_6]
  kernel_rfl
end Go.Proofs.YtpednpndahgleaaGreatDoor.Av
