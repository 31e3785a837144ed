/- Joined texts of the walk, made small by a program. -/
import Derived.Test.YtcmfcpjnhephaaaGreatDoorCards
import Derived.Test.YtcmfcpjnhephaaaGreatDoorChecked
import Derived.KernelRfl
import Derived.JoinedOf
import Derived.SevenTiedAt
import Derived.Test.YtcmfcpjnhephaaaGreatDoorPk5
set_option linter.unusedSimpArgs false
set_option linter.unusedVariables false
namespace Go.Proofs.YtcmfcpjnhephaaaGreatDoor.Av
open Go
set_option maxRecDepth 100000
theorem SU:(Rows.planAmongsRow.inPlace == Tryz.prog.inPlace 5)=true:=aoB
theorem ST:(Rows.planAmongsRow.unfollowed == Tryz.prog.unfollowed 5)=true:=aoB
theorem SS:(Rows.planAmongsRow.recurses == Tryz.prog.recurses 5)=true:=aoB
theorem SR:(Rows.planAmongsRow.named == Tryz.prog.varsNamed 5)=true:=aoB
theorem xZ:laidOutB Tryz.prog=true:=aoB
theorem xY:mapsRowed Tryz.prog=true:=aoB
theorem SQ:Pz Tryz.prog=true:=aoB
theorem SP:Tryz.prog.looks []=true:=aoB
theorem SO:false=Rows.planAmongsRow.goesBy Tryz.prog:=aoB
theorem R6:Tryz.prog.mainIs=some (true,("7e03bcf94e61eb8c66a63b01e1edef9d34d84bce1d3316d3f0cd5bd62f737d6a").toList):=aoB
theorem td:Tryz.prog.funcNamed "castellan/castellanlaw20.PlanAmongs" = some 5:=aoB
theorem R5:Tryz.f5.params.toList.all (λt => !Tryz.prog.wantsStandIn t)=true:=aoB
theorem GT:joinedFacts Tryz.prog 5 Tryz.f5 (OpenSpec.ofChange Rows.planAmongsSpec).bare Rows.planAmongsRow=true:=by
 unfold joinedFacts;rw[SU,ST,SS,SR,xZ,xY]
 kernel_rfl
end Go.Proofs.YtcmfcpjnhephaaaGreatDoor.Av
