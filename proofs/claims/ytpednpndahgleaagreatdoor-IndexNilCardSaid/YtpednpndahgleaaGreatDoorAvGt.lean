/- What the listed package-level variables hold, as abstract cells. -/
import Derived.Test.YtpednpndahgleaaGreatDoorAvA0
import GoSem.PinnedTables
set_option linter.unusedSimpArgs false
set_option linter.unusedVariables false
namespace Go.Proofs.YtpednpndahgleaaGreatDoor.Av
open Go
def gtab_0 : List AV := [.int .u64 1, .int .u64 10, .int .u64 100, .int .u64 1000, .int .u64 10000, .int .u64 100000, .int .u64 1000000, .int .u64 10000000, .int .u64 100000000, .int .u64 1000000000, .int .u64 10000000000, .int .u64 100000000000, .int .u64 1000000000000, .int .u64 10000000000000, .int .u64 100000000000000, .int .u64 1000000000000000, .int .u64 10000000000000000, .int .u64 100000000000000000, .int .u64 1000000000000000000, .int .u64 10000000000000000000]
def gtab_1 : List AV := [.iface 230 (.undef)]
def gtab_2 : List AV := [.iface 230 (.undef)]
def globTab : List (Nat × List AV) := [(3, gtab_0), (8, gtab_1), (7, gtab_2)]
def globOf (g : Nat) : Option (List AV) := (globTab.find? fun p => p.1 == g).map (·.2)
theorem globOf_0 : globOf 3 = some gtab_0 := by rfl
attribute [push_cast] globOf_0
theorem globOf_1 : globOf 8 = some gtab_1 := by rfl
attribute [push_cast] globOf_1
theorem globOf_2 : globOf 7 = some gtab_2 := by rfl
attribute [push_cast] globOf_2
end Go.Proofs.YtpednpndahgleaaGreatDoor.Av
