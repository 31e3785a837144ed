/- Closed facts of the law SyntaxNumbers's row, each reckoned by the kernel alone. -/
import Derived.Test.YtpednpndahgleaaGreatDoorCards
import Derived.Test.YtpednpndahgleaaGreatDoorChecked
import Derived.KernelRfl
import Derived.JoinedOf
import Derived.SevenTiedAt
import Derived.Test.YtpednpndahgleaaGreatDoorAvBr
set_option linter.unusedSimpArgs false
set_option linter.unusedVariables false
namespace Go.Proofs.YtpednpndahgleaaGreatDoor.Av
open Go
set_option maxRecDepth 100000
theorem factSyntaxNumbers_1 : (Rows.syntaxNumbersRow.inPlace == Tryz.prog.inPlace 3) = true := by kernel_rfl
theorem factSyntaxNumbers_2 : (Rows.syntaxNumbersRow.unfollowed == Tryz.prog.unfollowed 3) = true := by kernel_rfl
theorem factSyntaxNumbers_3 : (Rows.syntaxNumbersRow.recurses == Tryz.prog.recurses 3) = true := by kernel_rfl
theorem factSyntaxNumbers_4 : (Rows.syntaxNumbersRow.named == Tryz.prog.varsNamed 3) = true := by kernel_rfl
theorem factSyntaxNumbers_5 : laidOutB Tryz.prog = true := by kernel_rfl
theorem factSyntaxNumbers_6 : mapsRowed Tryz.prog = true := by kernel_rfl
theorem factSyntaxNumbers_7 : slicesFull Tryz.prog = true := by kernel_rfl
theorem factSyntaxNumbers_8 : Tryz.prog.looks [] = true := by kernel_rfl
theorem factSyntaxNumbers_9 : false = Rows.syntaxNumbersRow.goesBy Tryz.prog := by kernel_rfl
theorem factSyntaxNumbers_10 : Tryz.prog.mainIs = some (true, ("948d8838da1d5230734eb5b2056f7f40048d98f355a1e0648a41a7238aed9cca").toList) := by kernel_rfl
theorem factSyntaxNumbers_11 : Tryz.prog.funcNamed "castellan/castellanlaw12.SyntaxNumbers" = some 3 := by kernel_rfl
theorem factSyntaxNumbers_12 : Tryz.f3.params.toList.all (fun t => !Tryz.prog.wantsStandIn t) = true := by kernel_rfl
theorem factSyntaxNumbers_closed : joinedFacts Tryz.prog 3 Tryz.f3 (OpenSpec.ofChange Rows.syntaxNumbersSpec).bare Rows.syntaxNumbersRow = true := by
  unfold joinedFacts
  rw [factSyntaxNumbers_1, factSyntaxNumbers_2, factSyntaxNumbers_3, factSyntaxNumbers_4, factSyntaxNumbers_5, factSyntaxNumbers_6]
  kernel_rfl
end Go.Proofs.YtpednpndahgleaaGreatDoor.Av
