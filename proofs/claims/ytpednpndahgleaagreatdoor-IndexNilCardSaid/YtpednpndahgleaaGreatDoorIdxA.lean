/- What is none, of an index: reckoned. -/
import Derived.Test.YtpednpndahgleaaGreatDoorExS
import Derived.KernelRfl
set_option linter.unusedSimpArgs false
set_option linter.unusedVariables false
namespace Go.Proofs.YtpednpndahgleaaGreatDoor.Av
open Go
set_option maxRecDepth 1000000
theorem indexNil_run : runN xtab 100 4 [] = some (.bool true) := by kernel_rfl
theorem indexNil_k {L : List Blk} {K : AV → List Blk → Prop} (h : K (.bool true) L) : ACall Tryz.prog 4 [] L K := run_ACall xtab_ok indexNil_run h
end Go.Proofs.YtpednpndahgleaaGreatDoor.Av
