/- Joined texts of the walk, made small by a program. -/
import Derived.Test.YtolfghcbbpcciaaGreatDoorCards
import Derived.Test.YtolfghcbbpcciaaGreatDoorChecked
import Derived.KernelRfl
import Derived.JoinedOf
import Derived.SevenTiedAt
import Derived.Test.YtolfghcbbpcciaaGreatDoorGP5
set_option linter.unusedSimpArgs false
set_option linter.unusedVariables false
namespace Go.Proofs.YtolfghcbbpcciaaGreatDoor.Av
open Go
set_option maxRecDepth 100000
theorem IZ:(Rows.policyBackRow.inPlace == Tryz.prog.inPlace 4)=true:=by kernel_rfl
theorem IY:(Rows.policyBackRow.unfollowed == Tryz.prog.unfollowed 4)=true:=by kernel_rfl
theorem IX:(Rows.policyBackRow.recurses == Tryz.prog.recurses 4)=true:=by kernel_rfl
theorem IW:(Rows.policyBackRow.named == Tryz.prog.varsNamed 4)=true:=by kernel_rfl
theorem pA:laidOutB Tryz.prog=true:=by kernel_rfl
theorem pz:mapsRowed Tryz.prog=true:=by kernel_rfl
theorem IV:pK Tryz.prog=true:=by kernel_rfl
theorem IU:Tryz.prog.looks []=true:=by kernel_rfl
theorem IT:false=Rows.policyBackRow.goesBy Tryz.prog:=by kernel_rfl
theorem Ik:Tryz.prog.mainIs=some (true,("0b7ed06adca81f6c59d2705d0516816da53834932c83c16a36fcbcd6da96ee20").toList):=by kernel_rfl
theorem kO:Tryz.prog.funcNamed "castellan/castellanlaw23.PolicyBack" = some 4:=by kernel_rfl
theorem Ij:Tryz.f4.params.toList.all (fun t => !Tryz.prog.wantsStandIn t)=true:=by kernel_rfl
theorem vl:joinedFacts Tryz.prog 4 Tryz.f4 (OpenSpec.ofChange Rows.policyBackSpec).bare Rows.policyBackRow=true:=by
 unfold joinedFacts
 rw [IZ,IY,IX,IW,pA,pz]
 kernel_rfl
end Go.Proofs.YtolfghcbbpcciaaGreatDoor.Av
