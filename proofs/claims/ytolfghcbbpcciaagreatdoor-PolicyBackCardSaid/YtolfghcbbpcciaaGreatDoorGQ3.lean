/- Joined texts of the walk, made small by a program. -/
import Derived.Test.YtolfghcbbpcciaaGreatDoorGP5
import Derived.Lib.ItoaNum
set_option linter.unusedSimpArgs false
set_option linter.unusedVariables false
namespace Go.Proofs.YtolfghcbbpcciaaGreatDoor.Av
open Go
def cnt (fs:List Int) (i:Nat):Nat:=((fs.take i).filter (fun x=>decide (x=fs.getD i 0))).length
end Go.Proofs.YtolfghcbbpcciaaGreatDoor.Av
