/- Joined texts of the walk, made small by a program. -/
import Derived.Test.YtigifoeopopnbaaGreatDoorCards
import Derived.Test.YtigifoeopopnbaaGreatDoorChecked
import Derived.KernelRfl
import Derived.JoinedOf
import Derived.SevenTiedAt
import Derived.Test.YtigifoeopopnbaaGreatDoorQk6
set_option linter.unusedSimpArgs false
set_option linter.unusedVariables false
namespace Go.Proofs.YtigifoeopopnbaaGreatDoor.Av
open Go
set_option maxRecDepth 100000
theorem aiU:(Rows.checkNamedUptoRow.inPlace == Tryz.prog.inPlace 4)=true:=by kernel_rfl
theorem aiT:(Rows.checkNamedUptoRow.unfollowed == Tryz.prog.unfollowed 4)=true:=by kernel_rfl
theorem aiS:(Rows.checkNamedUptoRow.recurses == Tryz.prog.recurses 4)=true:=by kernel_rfl
theorem aiR:(Rows.checkNamedUptoRow.named == Tryz.prog.varsNamed 4)=true:=by kernel_rfl
theorem aib:laidOutB Tryz.prog=true:=by kernel_rfl
theorem aia:mapsRowed Tryz.prog=true:=by kernel_rfl
theorem aiQ:K5 Tryz.prog=true:=by kernel_rfl
theorem aiP:Tryz.prog.looks []=true:=by kernel_rfl
theorem aiO:false=Rows.checkNamedUptoRow.goesBy Tryz.prog:=by kernel_rfl
theorem aiL:Tryz.prog.mainIs=some (true,("01b0b17f52527856041cb56e334af7502bcf33c1b4f7c9d4746bfcb76cf4a3aa").toList):=by kernel_rfl
theorem ahX:Tryz.prog.funcNamed "castellan/castellanlaw15.CheckNamed" = some 4:=by kernel_rfl
theorem aiK:Tryz.f4.params.toList.all (fun t => !Tryz.prog.wantsStandIn t)=true:=by kernel_rfl
theorem ail:joinedFacts Tryz.prog 4 Tryz.f4 (Rows.OpenSpec.upto Rows.checkNamedSpec).bare Rows.checkNamedUptoRow=true:=by
 unfold joinedFacts;rw [aiU,aiT,aiS,aiR,aib,aia]
 kernel_rfl
end Go.Proofs.YtigifoeopopnbaaGreatDoor.Av
