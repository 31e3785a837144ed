/- The chapter's examples of layer 12 are as the chapter says: reckoned. -/
import Derived.Test.YtpednpndahgleaaGreatDoorExQ
import Derived.KernelRfl
set_option linter.unusedSimpArgs false
set_option linter.unusedVariables false
namespace Go.Proofs.YtpednpndahgleaaGreatDoor.Av
open Go
set_option maxRecDepth 1000000
theorem awake12_run : runN xtab 100 10 [] = some (.bool true) := by kernel_rfl
theorem awake12_k {L : List Blk} {K : AV → List Blk → Prop} (h : K (.bool true) L) : ACall Tryz.prog 10 [] L K := run_ACall xtab_ok awake12_run h
end Go.Proofs.YtpednpndahgleaaGreatDoor.Av
