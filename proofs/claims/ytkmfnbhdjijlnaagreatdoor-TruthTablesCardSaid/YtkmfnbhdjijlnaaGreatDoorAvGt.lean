/- What the listed package-level variables hold, as abstract cells. -/
import Derived.Test.YtkmfnbhdjijlnaaGreatDoorAvA0
import GoSem.PinnedTables
set_option linter.unusedSimpArgs false
set_option linter.unusedVariables false
namespace Go.Proofs.YtkmfnbhdjijlnaaGreatDoor.Av
open Go
def globTab : List (Nat × List AV) := []
def globOf (g : Nat) : Option (List AV) := (globTab.find? fun p => p.1 == g).map (·.2)
end Go.Proofs.YtkmfnbhdjijlnaaGreatDoor.Av
