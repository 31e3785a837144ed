/- Joined texts of the walk, made small by a program. -/
import Derived.Test.YtajkbcmleihaoaaGreatDoorCards
import Derived.Test.YtajkbcmleihaoaaGreatDoorChecked
import Derived.KernelRfl
import Derived.JoinedOf
import Derived.SevenTiedAt
import Derived.Test.YtajkbcmleihaoaaGreatDoorWk5
set_option linter.unusedSimpArgs false
set_option linter.unusedVariables false
namespace Go.Proofs.YtajkbcmleihaoaaGreatDoor.Av
open Go
set_option maxRecDepth 100000
theorem Om:(Rows.storeFullRow.inPlace == Tryz.prog.inPlace 3)=true:=ahf
theorem Ol:(Rows.storeFullRow.unfollowed == Tryz.prog.unfollowed 3)=true:=ahf
theorem Ok:(Rows.storeFullRow.recurses == Tryz.prog.recurses 3)=true:=ahf
theorem Oj:(Rows.storeFullRow.named == Tryz.prog.varsNamed 3)=true:=ahf
theorem DP:laidOutB Tryz.prog=true:=ahf
theorem DO:mapsRowed Tryz.prog=true:=ahf
theorem Oi:I8 Tryz.prog=true:=ahf
theorem Oh:Tryz.prog.looks []=false:=ahf
theorem Og:false=Rows.storeFullRow.goesBy Tryz.prog:=ahf
theorem Mt:Tryz.prog.mainIs=some (true,("c9464f097b4dbea129268afc679ba76a32ec93db05d29edf4de38246d376a106").toList):=ahf
theorem yq:Tryz.prog.funcNamed "castellan/castellanlaw18.StoreFull" = some 3:=ahf
theorem Mr:Tryz.f3.params.toList.all (λt => !Tryz.prog.wantsStandIn t)=true:=ahf
theorem Gh:joinedFacts Tryz.prog 3 Tryz.f3 (OpenSpec.ofChange Rows.storeFullSpec).bare Rows.storeFullRow=true:=by
 unfold joinedFacts;rw[Om,Ol,Ok,Oj,DP,DO]
 kernel_rfl
end Go.Proofs.YtajkbcmleihaoaaGreatDoor.Av
