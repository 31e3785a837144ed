/- Joined texts of the walk, made small by a program. -/
import Derived.Test.YtajkbcmleihaoaaGreatDoorCards
import Derived.Test.YtajkbcmleihaoaaGreatDoorChecked
import Derived.KernelRfl
import Derived.JoinedOf
import Derived.SevenTiedAt
import Derived.Test.YtajkbcmleihaoaaGreatDoorVk5
set_option linter.unusedSimpArgs false
set_option linter.unusedVariables false
namespace Go.Proofs.YtajkbcmleihaoaaGreatDoor.Av
open Go
set_option maxRecDepth 100000
theorem MX:(Rows.storeAgainRow.inPlace == Tryz.prog.inPlace 4)=true:=ah5
theorem MW:(Rows.storeAgainRow.unfollowed == Tryz.prog.unfollowed 4)=true:=ah5
theorem MV:(Rows.storeAgainRow.recurses == Tryz.prog.recurses 4)=true:=ah5
theorem MU:(Rows.storeAgainRow.named == Tryz.prog.varsNamed 4)=true:=ah5
theorem yL:laidOutB Tryz.prog=true:=ah5
theorem yK:mapsRowed Tryz.prog=true:=ah5
theorem MT:Jq Tryz.prog=true:=ah5
theorem MS:Tryz.prog.looks []=false:=ah5
theorem MR:false=Rows.storeAgainRow.goesBy Tryz.prog:=ah5
theorem Mf:Tryz.prog.mainIs=some (true,("c9464f097b4dbea129268afc679ba76a32ec93db05d29edf4de38246d376a106").toList):=ah5
theorem vV:Tryz.prog.funcNamed "castellan/castellanlaw18.StoreAgain" = some 4:=ah5
theorem Me:Tryz.f4.params.toList.all (λt => !Tryz.prog.wantsStandIn t)=true:=ah5
theorem Ee:joinedFacts Tryz.prog 4 Tryz.f4 (OpenSpec.ofChange Rows.storeAgainSpec).bare Rows.storeAgainRow=true:=by
 unfold joinedFacts;rw[MX,MW,MV,MU,yL,yK]
 kernel_rfl
end Go.Proofs.YtajkbcmleihaoaaGreatDoor.Av
