/- The chapter's examples of layer 20 are as the chapter says: reckoned. -/
import Derived.Test.YtpednpndahgleaaGreatDoorExR
import Derived.KernelRfl
set_option linter.unusedSimpArgs false
set_option linter.unusedVariables false
namespace Go.Proofs.YtpednpndahgleaaGreatDoor.Av
open Go
set_option maxRecDepth 1000000
theorem awake20_run : runN xtab 100 20 [] = some (.bool true) := by kernel_rfl
theorem awake20_k {L : List Blk} {K : AV → List Blk → Prop} (h : K (.bool true) L) : ACall Tryz.prog 20 [] L K := run_ACall xtab_ok awake20_run h
end Go.Proofs.YtpednpndahgleaaGreatDoor.Av
