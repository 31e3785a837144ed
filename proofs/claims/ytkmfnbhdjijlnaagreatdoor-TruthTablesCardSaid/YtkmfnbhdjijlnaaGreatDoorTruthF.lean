/- Closed facts of the law TruthTables's row, each reckoned by the kernel alone. -/
import Derived.Test.YtkmfnbhdjijlnaaGreatDoorCards
import Derived.Test.YtkmfnbhdjijlnaaGreatDoorChecked
import Derived.KernelRfl
import Derived.JoinedOf
import Derived.SevenTiedAt
import Derived.Test.YtkmfnbhdjijlnaaGreatDoorAvBr
set_option linter.unusedSimpArgs false
set_option linter.unusedVariables false
namespace Go.Proofs.YtkmfnbhdjijlnaaGreatDoor.Av
open Go
set_option maxRecDepth 100000
theorem factTruthTables_1 : (Rows.truthTablesRow.inPlace == Tryz.prog.inPlace 4) = true := by kernel_rfl
theorem factTruthTables_2 : (Rows.truthTablesRow.unfollowed == Tryz.prog.unfollowed 4) = true := by kernel_rfl
theorem factTruthTables_3 : (Rows.truthTablesRow.recurses == Tryz.prog.recurses 4) = true := by kernel_rfl
theorem factTruthTables_4 : (Rows.truthTablesRow.named == Tryz.prog.varsNamed 4) = true := by kernel_rfl
theorem factTruthTables_5 : laidOutB Tryz.prog = true := by kernel_rfl
theorem factTruthTables_6 : mapsRowed Tryz.prog = true := by kernel_rfl
theorem factTruthTables_7 : slicesFull Tryz.prog = true := by kernel_rfl
theorem factTruthTables_8 : Tryz.prog.looks [] = true := by kernel_rfl
theorem factTruthTables_9 : false = Rows.truthTablesRow.goesBy Tryz.prog := by kernel_rfl
theorem factTruthTables_10 : Tryz.prog.mainIs = some (true, ("de5feeaea3c6997814251008239d40aec5691029742cbe8699034cb7aa74233e").toList) := by kernel_rfl
theorem factTruthTables_11 : Tryz.prog.funcNamed "castellan/castellanlaw21.TruthTables" = some 4 := by kernel_rfl
theorem factTruthTables_12 : Tryz.f4.params.toList.all (fun t => !Tryz.prog.wantsStandIn t) = true := by kernel_rfl
theorem factTruthTables_closed : joinedFacts Tryz.prog 4 Tryz.f4 (OpenSpec.ofChange Rows.truthTablesSpec).bare Rows.truthTablesRow = true := by
  unfold joinedFacts
  rw [factTruthTables_1, factTruthTables_2, factTruthTables_3, factTruthTables_4, factTruthTables_5, factTruthTables_6]
  kernel_rfl
end Go.Proofs.YtkmfnbhdjijlnaaGreatDoor.Av
