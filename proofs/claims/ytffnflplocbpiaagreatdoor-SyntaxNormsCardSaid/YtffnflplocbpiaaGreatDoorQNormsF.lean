/- Closed facts of the law SyntaxNorms's row, each reckoned by the kernel alone. -/
import Derived.Test.YtffnflplocbpiaaGreatDoorCards
import Derived.Test.YtffnflplocbpiaaGreatDoorChecked
import Derived.KernelRfl
import Derived.JoinedOf
import Derived.SevenTiedAt
import Derived.Test.YtffnflplocbpiaaGreatDoorQP5
set_option linter.unusedSimpArgs false
set_option linter.unusedVariables false
namespace Go.Proofs.YtffnflplocbpiaaGreatDoor.Av
open Go
set_option maxRecDepth 100000
theorem factSyntaxNorms_1 : (Rows.syntaxNormsRow.inPlace == Tryz.prog.inPlace 3) = true := by kernel_rfl
theorem factSyntaxNorms_2 : (Rows.syntaxNormsRow.unfollowed == Tryz.prog.unfollowed 3) = true := by kernel_rfl
theorem factSyntaxNorms_3 : (Rows.syntaxNormsRow.recurses == Tryz.prog.recurses 3) = true := by kernel_rfl
theorem factSyntaxNorms_4 : (Rows.syntaxNormsRow.named == Tryz.prog.varsNamed 3) = true := by kernel_rfl
theorem factSyntaxNorms_5 : laidOutB Tryz.prog = true := by kernel_rfl
theorem factSyntaxNorms_6 : mapsRowed Tryz.prog = true := by kernel_rfl
theorem factSyntaxNorms_7 : slicesFull Tryz.prog = true := by kernel_rfl
theorem factSyntaxNorms_8 : Tryz.prog.looks [] = true := by kernel_rfl
theorem factSyntaxNorms_9 : false = Rows.syntaxNormsRow.goesBy Tryz.prog := by kernel_rfl
theorem factSyntaxNorms_10 : Tryz.prog.mainIs = some (true, ("aeb6c2798fd8f70b1936da9205b4c0045d5642cb3c098dc7f07a53672b7bf5e2").toList) := by kernel_rfl
theorem factSyntaxNorms_11 : Tryz.prog.funcNamed "castellan/castellanlaw12.SyntaxNorms" = some 3 := by kernel_rfl
theorem factSyntaxNorms_12 : Tryz.f3.params.toList.all (fun t => !Tryz.prog.wantsStandIn t) = true := by kernel_rfl
theorem factSyntaxNorms_closed : joinedFacts Tryz.prog 3 Tryz.f3 (OpenSpec.ofChange Rows.syntaxNormsSpec).bare Rows.syntaxNormsRow = true := by
  unfold joinedFacts
  rw [factSyntaxNorms_1, factSyntaxNorms_2, factSyntaxNorms_3, factSyntaxNorms_4, factSyntaxNorms_5, factSyntaxNorms_6]
  kernel_rfl
end Go.Proofs.YtffnflplocbpiaaGreatDoor.Av
