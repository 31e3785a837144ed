/- Closed facts of the law SyntaxTwice's row, each reckoned by the kernel alone. -/
import Derived.Test.YtffnflplocbpiaaGreatDoorCards
import Derived.Test.YtffnflplocbpiaaGreatDoorChecked
import Derived.KernelRfl
import Derived.JoinedOf
import Derived.SevenTiedAt
import Derived.Test.YtffnflplocbpiaaGreatDoorQP5
set_option linter.unusedSimpArgs false
set_option linter.unusedVariables false
namespace Go.Proofs.YtffnflplocbpiaaGreatDoor.Av
open Go
set_option maxRecDepth 100000
theorem factSyntaxTwice_1 : (Rows.syntaxTwiceRow.inPlace == Tryz.prog.inPlace 7) = true := by kernel_rfl
theorem factSyntaxTwice_2 : (Rows.syntaxTwiceRow.unfollowed == Tryz.prog.unfollowed 7) = true := by kernel_rfl
theorem factSyntaxTwice_3 : (Rows.syntaxTwiceRow.recurses == Tryz.prog.recurses 7) = true := by kernel_rfl
theorem factSyntaxTwice_4 : (Rows.syntaxTwiceRow.named == Tryz.prog.varsNamed 7) = true := by kernel_rfl
theorem factSyntaxTwice_5 : laidOutB Tryz.prog = true := by kernel_rfl
theorem factSyntaxTwice_6 : mapsRowed Tryz.prog = true := by kernel_rfl
theorem factSyntaxTwice_7 : slicesFull Tryz.prog = true := by kernel_rfl
theorem factSyntaxTwice_8 : Tryz.prog.looks [] = true := by kernel_rfl
theorem factSyntaxTwice_9 : false = Rows.syntaxTwiceRow.goesBy Tryz.prog := by kernel_rfl
theorem factSyntaxTwice_10 : Tryz.prog.mainIs = some (true, ("aeb6c2798fd8f70b1936da9205b4c0045d5642cb3c098dc7f07a53672b7bf5e2").toList) := by kernel_rfl
theorem factSyntaxTwice_11 : Tryz.prog.funcNamed "castellan/castellanlaw12.SyntaxTwice" = some 7 := by kernel_rfl
theorem factSyntaxTwice_12 : Tryz.f7.params.toList.all (fun t => !Tryz.prog.wantsStandIn t) = true := by kernel_rfl
theorem factSyntaxTwice_closed : joinedFacts Tryz.prog 7 Tryz.f7 (OpenSpec.ofChange Rows.syntaxTwiceSpec).bare Rows.syntaxTwiceRow = true := by
  unfold joinedFacts
  rw [factSyntaxTwice_1, factSyntaxTwice_2, factSyntaxTwice_3, factSyntaxTwice_4, factSyntaxTwice_5, factSyntaxTwice_6]
  kernel_rfl
end Go.Proofs.YtffnflplocbpiaaGreatDoor.Av
