/- Joined texts of the walk, made small by a program. -/
import Derived.Test.YtolfghcbbpcciaaGreatDoorCards
import Derived.Test.YtolfghcbbpcciaaGreatDoorChecked
import Derived.KernelRfl
import Derived.JoinedOf
import Derived.SevenTiedAt
import Derived.Test.YtolfghcbbpcciaaGreatDoorGP5
set_option linter.unusedSimpArgs false
set_option linter.unusedVariables false
namespace Go.Proofs.YtolfghcbbpcciaaGreatDoor.Av
open Go
set_option maxRecDepth 100000
theorem Ii:(Rows.policyReadsRow.inPlace == Tryz.prog.inPlace 3)=true:=by kernel_rfl
theorem Ih:(Rows.policyReadsRow.unfollowed == Tryz.prog.unfollowed 3)=true:=by kernel_rfl
theorem Ig:(Rows.policyReadsRow.recurses == Tryz.prog.recurses 3)=true:=by kernel_rfl
theorem If:(Rows.policyReadsRow.named == Tryz.prog.varsNamed 3)=true:=by kernel_rfl
theorem kN:laidOutB Tryz.prog=true:=by kernel_rfl
theorem kM:mapsRowed Tryz.prog=true:=by kernel_rfl
theorem Ie:pK Tryz.prog=true:=by kernel_rfl
theorem Ic:Tryz.prog.looks []=true:=by kernel_rfl
theorem Ib:false=Rows.policyReadsRow.goesBy Tryz.prog:=by kernel_rfl
theorem F1:Tryz.prog.mainIs=some (true,("0b7ed06adca81f6c59d2705d0516816da53834932c83c16a36fcbcd6da96ee20").toList):=by kernel_rfl
theorem jz:Tryz.prog.funcNamed "castellan/castellanlaw23.PolicyReads" = some 3:=by kernel_rfl
theorem F0:Tryz.f3.params.toList.all (fun t => !Tryz.prog.wantsStandIn t)=true:=by kernel_rfl
theorem pV:joinedFacts Tryz.prog 3 Tryz.f3 (OpenSpec.ofChange Rows.policyReadsSpec).bare Rows.policyReadsRow=true:=by
 unfold joinedFacts
 rw [Ii,Ih,Ig,If,kN,kM]
 kernel_rfl
end Go.Proofs.YtolfghcbbpcciaaGreatDoor.Av
