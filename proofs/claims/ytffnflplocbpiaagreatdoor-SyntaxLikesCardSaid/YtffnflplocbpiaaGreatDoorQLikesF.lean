/- Closed facts of the law SyntaxLikes's row, each reckoned by the kernel alone. -/
import Derived.Test.YtffnflplocbpiaaGreatDoorCards
import Derived.Test.YtffnflplocbpiaaGreatDoorChecked
import Derived.KernelRfl
import Derived.JoinedOf
import Derived.SevenTiedAt
import Derived.Test.YtffnflplocbpiaaGreatDoorQP5
set_option linter.unusedSimpArgs false
set_option linter.unusedVariables false
namespace Go.Proofs.YtffnflplocbpiaaGreatDoor.Av
open Go
set_option maxRecDepth 100000
theorem factSyntaxLikes_1 : (Rows.syntaxLikesRow.inPlace == Tryz.prog.inPlace 5) = true := by kernel_rfl
theorem factSyntaxLikes_2 : (Rows.syntaxLikesRow.unfollowed == Tryz.prog.unfollowed 5) = true := by kernel_rfl
theorem factSyntaxLikes_3 : (Rows.syntaxLikesRow.recurses == Tryz.prog.recurses 5) = true := by kernel_rfl
theorem factSyntaxLikes_4 : (Rows.syntaxLikesRow.named == Tryz.prog.varsNamed 5) = true := by kernel_rfl
theorem factSyntaxLikes_5 : laidOutB Tryz.prog = true := by kernel_rfl
theorem factSyntaxLikes_6 : mapsRowed Tryz.prog = true := by kernel_rfl
theorem factSyntaxLikes_7 : slicesFull Tryz.prog = true := by kernel_rfl
theorem factSyntaxLikes_8 : Tryz.prog.looks [] = true := by kernel_rfl
theorem factSyntaxLikes_9 : false = Rows.syntaxLikesRow.goesBy Tryz.prog := by kernel_rfl
theorem factSyntaxLikes_10 : Tryz.prog.mainIs = some (true, ("aeb6c2798fd8f70b1936da9205b4c0045d5642cb3c098dc7f07a53672b7bf5e2").toList) := by kernel_rfl
theorem factSyntaxLikes_11 : Tryz.prog.funcNamed "castellan/castellanlaw12.SyntaxLikes" = some 5 := by kernel_rfl
theorem factSyntaxLikes_12 : Tryz.f5.params.toList.all (fun t => !Tryz.prog.wantsStandIn t) = true := by kernel_rfl
theorem factSyntaxLikes_closed : joinedFacts Tryz.prog 5 Tryz.f5 (OpenSpec.ofChange Rows.syntaxLikesSpec).bare Rows.syntaxLikesRow = true := by
  unfold joinedFacts
  rw [factSyntaxLikes_1, factSyntaxLikes_2, factSyntaxLikes_3, factSyntaxLikes_4, factSyntaxLikes_5, factSyntaxLikes_6]
  kernel_rfl
end Go.Proofs.YtffnflplocbpiaaGreatDoor.Av
