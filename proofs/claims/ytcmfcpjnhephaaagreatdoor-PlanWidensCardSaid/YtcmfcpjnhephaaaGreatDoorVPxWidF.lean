/- Joined texts of the walk, made small by a program. -/
import Derived.Test.YtcmfcpjnhephaaaGreatDoorCards
import Derived.Test.YtcmfcpjnhephaaaGreatDoorChecked
import Derived.KernelRfl
import Derived.JoinedOf
import Derived.SevenTiedAt
import Derived.Test.YtcmfcpjnhephaaaGreatDoorVk5
set_option linter.unusedSimpArgs false
set_option linter.unusedVariables false
namespace Go.Proofs.YtcmfcpjnhephaaaGreatDoor.Av
open Go
set_option maxRecDepth 100000
theorem OS:(Rows.planWidensRow.inPlace == Tryz.prog.inPlace 6)=true:=by kernel_rfl
theorem OR:(Rows.planWidensRow.unfollowed == Tryz.prog.unfollowed 6)=true:=by kernel_rfl
theorem OQ:(Rows.planWidensRow.recurses == Tryz.prog.recurses 6)=true:=by kernel_rfl
theorem OP:(Rows.planWidensRow.named == Tryz.prog.varsNamed 6)=true:=by kernel_rfl
theorem vo:laidOutB Tryz.prog=true:=by kernel_rfl
theorem vn:mapsRowed Tryz.prog=true:=by kernel_rfl
theorem OO:LC Tryz.prog=true:=by kernel_rfl
theorem ON:Tryz.prog.looks []=true:=by kernel_rfl
theorem OM:false=Rows.planWidensRow.goesBy Tryz.prog:=by kernel_rfl
theorem N7:Tryz.prog.mainIs=some (true,("7e03bcf94e61eb8c66a63b01e1edef9d34d84bce1d3316d3f0cd5bd62f737d6a").toList):=by kernel_rfl
theorem rp:Tryz.prog.funcNamed "castellan/castellanlaw20.PlanWidens" = some 6:=by kernel_rfl
theorem N6:Tryz.f6.params.toList.all (λt => !Tryz.prog.wantsStandIn t)=true:=by kernel_rfl
theorem DO:joinedFacts Tryz.prog 6 Tryz.f6 (OpenSpec.ofChange Rows.planWidensSpec).bare Rows.planWidensRow=true:=by
 unfold joinedFacts;rw[OS,OR,OQ,OP,vo,vn]
 kernel_rfl
end Go.Proofs.YtcmfcpjnhephaaaGreatDoor.Av
