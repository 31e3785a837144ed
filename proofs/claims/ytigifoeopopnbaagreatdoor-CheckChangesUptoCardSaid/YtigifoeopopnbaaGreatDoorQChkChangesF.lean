/- Joined texts of the walk, made small by a program. -/
import Derived.Test.YtigifoeopopnbaaGreatDoorCards
import Derived.Test.YtigifoeopopnbaaGreatDoorChecked
import Derived.KernelRfl
import Derived.JoinedOf
import Derived.SevenTiedAt
import Derived.Test.YtigifoeopopnbaaGreatDoorQk6
set_option linter.unusedSimpArgs false
set_option linter.unusedVariables false
namespace Go.Proofs.YtigifoeopopnbaaGreatDoor.Av
open Go
set_option maxRecDepth 100000
theorem aiq:(Rows.checkChangesUptoRow.inPlace == Tryz.prog.inPlace 5)=true:=by kernel_rfl
theorem aip:(Rows.checkChangesUptoRow.unfollowed == Tryz.prog.unfollowed 5)=true:=by kernel_rfl
theorem aio:(Rows.checkChangesUptoRow.recurses == Tryz.prog.recurses 5)=true:=by kernel_rfl
theorem ain:(Rows.checkChangesUptoRow.named == Tryz.prog.varsNamed 5)=true:=by kernel_rfl
theorem ahO:laidOutB Tryz.prog=true:=by kernel_rfl
theorem ahN:mapsRowed Tryz.prog=true:=by kernel_rfl
theorem aim:K5 Tryz.prog=true:=by kernel_rfl
theorem ail:Tryz.prog.looks []=true:=by kernel_rfl
theorem aik:false=Rows.checkChangesUptoRow.goesBy Tryz.prog:=by kernel_rfl
theorem aij:Tryz.prog.mainIs=some (true,("01b0b17f52527856041cb56e334af7502bcf33c1b4f7c9d4746bfcb76cf4a3aa").toList):=by kernel_rfl
theorem ahL:Tryz.prog.funcNamed "castellan/castellanlaw15.CheckChanges" = some 5:=by kernel_rfl
theorem aii:Tryz.f5.params.toList.all (fun t => !Tryz.prog.wantsStandIn t)=true:=by kernel_rfl
theorem ah3:joinedFacts Tryz.prog 5 Tryz.f5 (Rows.OpenSpec.upto Rows.checkChangesSpec).bare Rows.checkChangesUptoRow=true:=by
 unfold joinedFacts;rw [aiq,aip,aio,ain,ahO,ahN]
 kernel_rfl
end Go.Proofs.YtigifoeopopnbaaGreatDoor.Av
