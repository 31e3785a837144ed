/- Joined texts of the walk, made small by a program. -/
import Derived.Test.YtcmfcpjnhephaaaGreatDoorCards
import Derived.Test.YtcmfcpjnhephaaaGreatDoorChecked
import Derived.KernelRfl
import Derived.JoinedOf
import Derived.SevenTiedAt
import Derived.Test.YtcmfcpjnhephaaaGreatDoorJk6
set_option linter.unusedSimpArgs false
set_option linter.unusedVariables false
namespace Go.Proofs.YtcmfcpjnhephaaaGreatDoor.Av
open Go
set_option maxRecDepth 100000
theorem Kp:(Rows.indexCoversRow.inPlace == Tryz.prog.inPlace 3)=true:=by kernel_rfl
theorem Ko:(Rows.indexCoversRow.unfollowed == Tryz.prog.unfollowed 3)=true:=by kernel_rfl
theorem Kn:(Rows.indexCoversRow.recurses == Tryz.prog.recurses 3)=true:=by kernel_rfl
theorem Km:(Rows.indexCoversRow.named == Tryz.prog.varsNamed 3)=true:=by kernel_rfl
theorem nU:laidOutB Tryz.prog=true:=by kernel_rfl
theorem nT:mapsRowed Tryz.prog=true:=by kernel_rfl
theorem Kl:HR Tryz.prog=true:=by kernel_rfl
theorem Kk:Tryz.prog.looks []=true:=by kernel_rfl
theorem Kj:false=Rows.indexCoversRow.goesBy Tryz.prog:=by kernel_rfl
theorem H9:Tryz.prog.mainIs=some (true,("7e03bcf94e61eb8c66a63b01e1edef9d34d84bce1d3316d3f0cd5bd62f737d6a").toList):=by kernel_rfl
theorem mN:Tryz.prog.funcNamed "castellan/castellanlaw19.IndexCovers" = some 3:=by kernel_rfl
theorem H8:Tryz.f3.params.toList.all (fun t => !Tryz.prog.wantsStandIn t)=true:=by kernel_rfl
theorem sD:joinedFacts Tryz.prog 3 Tryz.f3 (OpenSpec.ofChange Rows.indexCoversSpec).bare Rows.indexCoversRow=true:=by
 unfold joinedFacts;rw [Kp,Ko,Kn,Km,nU,nT]
 kernel_rfl
end Go.Proofs.YtcmfcpjnhephaaaGreatDoor.Av
