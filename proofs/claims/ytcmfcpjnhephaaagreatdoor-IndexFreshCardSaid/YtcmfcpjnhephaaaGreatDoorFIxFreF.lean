/- Joined texts of the walk, made small by a program. -/
import Derived.Test.YtcmfcpjnhephaaaGreatDoorCards
import Derived.Test.YtcmfcpjnhephaaaGreatDoorChecked
import Derived.KernelRfl
import Derived.JoinedOf
import Derived.SevenTiedAt
import Derived.Test.YtcmfcpjnhephaaaGreatDoorFk6
set_option linter.unusedSimpArgs false
set_option linter.unusedVariables false
namespace Go.Proofs.YtcmfcpjnhephaaaGreatDoor.Av
open Go
set_option maxRecDepth 100000
theorem Jo:(Rows.indexFreshRow.inPlace == Tryz.prog.inPlace 4)=true:=by kernel_rfl
theorem Jn:(Rows.indexFreshRow.unfollowed == Tryz.prog.unfollowed 4)=true:=by kernel_rfl
theorem Jm:(Rows.indexFreshRow.recurses == Tryz.prog.recurses 4)=true:=by kernel_rfl
theorem Jl:(Rows.indexFreshRow.named == Tryz.prog.varsNamed 4)=true:=by kernel_rfl
theorem qT:laidOutB Tryz.prog=true:=by kernel_rfl
theorem qS:mapsRowed Tryz.prog=true:=by kernel_rfl
theorem Jk:Gj Tryz.prog=true:=by kernel_rfl
theorem Jj:Tryz.prog.looks []=true:=by kernel_rfl
theorem Ji:false=Rows.indexFreshRow.goesBy Tryz.prog:=by kernel_rfl
theorem IG:Tryz.prog.mainIs=some (true,("7e03bcf94e61eb8c66a63b01e1edef9d34d84bce1d3316d3f0cd5bd62f737d6a").toList):=by kernel_rfl
theorem nE:Tryz.prog.funcNamed "castellan/castellanlaw19.IndexFresh" = some 4:=by kernel_rfl
theorem IF:Tryz.f4.params.toList.all (fun t => !Tryz.prog.wantsStandIn t)=true:=by kernel_rfl
theorem vX:joinedFacts Tryz.prog 4 Tryz.f4 (OpenSpec.ofChange Rows.indexFreshSpec).bare Rows.indexFreshRow=true:=by
 unfold joinedFacts;rw [Jo,Jn,Jm,Jl,qT,qS]
 kernel_rfl
end Go.Proofs.YtcmfcpjnhephaaaGreatDoor.Av
