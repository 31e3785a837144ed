/- Closed facts of the law SyntaxRanks's row, each reckoned by the kernel alone. -/
import Derived.Test.YtffnflplocbpiaaGreatDoorCards
import Derived.Test.YtffnflplocbpiaaGreatDoorChecked
import Derived.KernelRfl
import Derived.JoinedOf
import Derived.SevenTiedAt
import Derived.Test.YtffnflplocbpiaaGreatDoorQP5
set_option linter.unusedSimpArgs false
set_option linter.unusedVariables false
namespace Go.Proofs.YtffnflplocbpiaaGreatDoor.Av
open Go
set_option maxRecDepth 100000
theorem factSyntaxRanks_1 : (Rows.syntaxRanksRow.inPlace == Tryz.prog.inPlace 6) = true := by kernel_rfl
theorem factSyntaxRanks_2 : (Rows.syntaxRanksRow.unfollowed == Tryz.prog.unfollowed 6) = true := by kernel_rfl
theorem factSyntaxRanks_3 : (Rows.syntaxRanksRow.recurses == Tryz.prog.recurses 6) = true := by kernel_rfl
theorem factSyntaxRanks_4 : (Rows.syntaxRanksRow.named == Tryz.prog.varsNamed 6) = true := by kernel_rfl
theorem factSyntaxRanks_5 : laidOutB Tryz.prog = true := by kernel_rfl
theorem factSyntaxRanks_6 : mapsRowed Tryz.prog = true := by kernel_rfl
theorem factSyntaxRanks_7 : slicesFull Tryz.prog = true := by kernel_rfl
theorem factSyntaxRanks_8 : Tryz.prog.looks [] = true := by kernel_rfl
theorem factSyntaxRanks_9 : false = Rows.syntaxRanksRow.goesBy Tryz.prog := by kernel_rfl
theorem factSyntaxRanks_10 : Tryz.prog.mainIs = some (true, ("aeb6c2798fd8f70b1936da9205b4c0045d5642cb3c098dc7f07a53672b7bf5e2").toList) := by kernel_rfl
theorem factSyntaxRanks_11 : Tryz.prog.funcNamed "castellan/castellanlaw12.SyntaxRanks" = some 6 := by kernel_rfl
theorem factSyntaxRanks_12 : Tryz.f6.params.toList.all (fun t => !Tryz.prog.wantsStandIn t) = true := by kernel_rfl
theorem factSyntaxRanks_closed : joinedFacts Tryz.prog 6 Tryz.f6 (OpenSpec.ofChange Rows.syntaxRanksSpec).bare Rows.syntaxRanksRow = true := by
  unfold joinedFacts
  rw [factSyntaxRanks_1, factSyntaxRanks_2, factSyntaxRanks_3, factSyntaxRanks_4, factSyntaxRanks_5, factSyntaxRanks_6]
  kernel_rfl
end Go.Proofs.YtffnflplocbpiaaGreatDoor.Av
