/- Closed facts of the law SyntaxOrders's row, each reckoned by the kernel alone. -/
import Derived.Test.YtffnflplocbpiaaGreatDoorCards
import Derived.Test.YtffnflplocbpiaaGreatDoorChecked
import Derived.KernelRfl
import Derived.JoinedOf
import Derived.SevenTiedAt
import Derived.Test.YtffnflplocbpiaaGreatDoorQP5
set_option linter.unusedSimpArgs false
set_option linter.unusedVariables false
namespace Go.Proofs.YtffnflplocbpiaaGreatDoor.Av
open Go
set_option maxRecDepth 100000
theorem factSyntaxOrders_1 : (Rows.syntaxOrdersRow.inPlace == Tryz.prog.inPlace 4) = true := by kernel_rfl
theorem factSyntaxOrders_2 : (Rows.syntaxOrdersRow.unfollowed == Tryz.prog.unfollowed 4) = true := by kernel_rfl
theorem factSyntaxOrders_3 : (Rows.syntaxOrdersRow.recurses == Tryz.prog.recurses 4) = true := by kernel_rfl
theorem factSyntaxOrders_4 : (Rows.syntaxOrdersRow.named == Tryz.prog.varsNamed 4) = true := by kernel_rfl
theorem factSyntaxOrders_5 : laidOutB Tryz.prog = true := by kernel_rfl
theorem factSyntaxOrders_6 : mapsRowed Tryz.prog = true := by kernel_rfl
theorem factSyntaxOrders_7 : slicesFull Tryz.prog = true := by kernel_rfl
theorem factSyntaxOrders_8 : Tryz.prog.looks [] = true := by kernel_rfl
theorem factSyntaxOrders_9 : false = Rows.syntaxOrdersRow.goesBy Tryz.prog := by kernel_rfl
theorem factSyntaxOrders_10 : Tryz.prog.mainIs = some (true, ("aeb6c2798fd8f70b1936da9205b4c0045d5642cb3c098dc7f07a53672b7bf5e2").toList) := by kernel_rfl
theorem factSyntaxOrders_11 : Tryz.prog.funcNamed "castellan/castellanlaw12.SyntaxOrders" = some 4 := by kernel_rfl
theorem factSyntaxOrders_12 : Tryz.f4.params.toList.all (fun t => !Tryz.prog.wantsStandIn t) = true := by kernel_rfl
theorem factSyntaxOrders_closed : joinedFacts Tryz.prog 4 Tryz.f4 (OpenSpec.ofChange Rows.syntaxOrdersSpec).bare Rows.syntaxOrdersRow = true := by
  unfold joinedFacts
  rw [factSyntaxOrders_1, factSyntaxOrders_2, factSyntaxOrders_3, factSyntaxOrders_4, factSyntaxOrders_5, factSyntaxOrders_6]
  kernel_rfl
end Go.Proofs.YtffnflplocbpiaaGreatDoor.Av
