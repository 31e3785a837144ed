/- Joined texts of the walk, made small by a program. -/
import Derived.Test.YtcmfcpjnhephaaaGreatDoorCards
import Derived.Test.YtcmfcpjnhephaaaGreatDoorChecked
import Derived.KernelRfl
import Derived.JoinedOf
import Derived.SevenTiedAt
import Derived.Test.YtcmfcpjnhephaaaGreatDoorUk5
set_option linter.unusedSimpArgs false
set_option linter.unusedVariables false
namespace Go.Proofs.YtcmfcpjnhephaaaGreatDoor.Av
open Go
set_option maxRecDepth 100000
theorem Sd:(Rows.truthCoversRow.inPlace == Tryz.prog.inPlace 7)=true:=aoL
theorem Sc:(Rows.truthCoversRow.unfollowed == Tryz.prog.unfollowed 7)=true:=aoL
theorem Sb:(Rows.truthCoversRow.recurses == Tryz.prog.recurses 7)=true:=aoL
theorem Sa:(Rows.truthCoversRow.named == Tryz.prog.varsNamed 7)=true:=aoL
theorem tF:laidOutB Tryz.prog=true:=aoL
theorem tE:mapsRowed Tryz.prog=true:=aoL
theorem R9:Pf Tryz.prog=true:=aoL
theorem R8:Tryz.prog.looks []=true:=aoL
theorem R7:false=Rows.truthCoversRow.goesBy Tryz.prog:=aoL
theorem Pv:Tryz.prog.mainIs=some (true,("7e03bcf94e61eb8c66a63b01e1edef9d34d84bce1d3316d3f0cd5bd62f737d6a").toList):=aoL
theorem sb:Tryz.prog.funcNamed "castellan/castellanlaw21.TruthCovers" = some 7:=aoL
theorem Pu:Tryz.f7.params.toList.all (λt => !Tryz.prog.wantsStandIn t)=true:=aoL
theorem ya:joinedFacts Tryz.prog 7 Tryz.f7 (OpenSpec.ofChange Rows.truthCoversSpec).bare Rows.truthCoversRow=true:=by
 unfold joinedFacts;rw[Sd,Sc,Sb,Sa,tF,tE]
 kernel_rfl
end Go.Proofs.YtcmfcpjnhephaaaGreatDoor.Av
