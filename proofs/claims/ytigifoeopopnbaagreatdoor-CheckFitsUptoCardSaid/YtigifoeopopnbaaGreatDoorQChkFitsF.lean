/- Joined texts of the walk, made small by a program. -/
import Derived.Test.YtigifoeopopnbaaGreatDoorCards
import Derived.Test.YtigifoeopopnbaaGreatDoorChecked
import Derived.KernelRfl
import Derived.JoinedOf
import Derived.SevenTiedAt
import Derived.Test.YtigifoeopopnbaaGreatDoorQk6
set_option linter.unusedSimpArgs false
set_option linter.unusedVariables false
namespace Go.Proofs.YtigifoeopopnbaaGreatDoor.Av
open Go
set_option maxRecDepth 100000
theorem PF:(Rows.checkFitsUptoRow.inPlace == Tryz.prog.inPlace 3)=true:=by kernel_rfl
theorem PE:(Rows.checkFitsUptoRow.unfollowed == Tryz.prog.unfollowed 3)=true:=by kernel_rfl
theorem PD:(Rows.checkFitsUptoRow.recurses == Tryz.prog.recurses 3)=true:=by kernel_rfl
theorem PC:(Rows.checkFitsUptoRow.named == Tryz.prog.varsNamed 3)=true:=by kernel_rfl
theorem Dv:laidOutB Tryz.prog=true:=by kernel_rfl
theorem Du:mapsRowed Tryz.prog=true:=by kernel_rfl
theorem PB:K5 Tryz.prog=true:=by kernel_rfl
theorem PA:Tryz.prog.looks []=true:=by kernel_rfl
theorem Pz:false=Rows.checkFitsUptoRow.goesBy Tryz.prog:=by kernel_rfl
theorem On:Tryz.prog.mainIs=some (true,("01b0b17f52527856041cb56e334af7502bcf33c1b4f7c9d4746bfcb76cf4a3aa").toList):=by kernel_rfl
theorem tX:Tryz.prog.funcNamed "castellan/castellanlaw15.CheckFits" = some 3:=by kernel_rfl
theorem Om:Tryz.f3.params.toList.all (fun t => !Tryz.prog.wantsStandIn t)=true:=by kernel_rfl
theorem HH:joinedFacts Tryz.prog 3 Tryz.f3 (Rows.OpenSpec.upto Rows.checkFitsSpec).bare Rows.checkFitsUptoRow=true:=by
 unfold joinedFacts;rw [PF,PE,PD,PC,Dv,Du]
 kernel_rfl
end Go.Proofs.YtigifoeopopnbaaGreatDoor.Av
