/- Joined texts of the walk, made small by a program. -/
import Derived.Test.YtajkbcmleihaoaaGreatDoorCards
import Derived.Test.YtajkbcmleihaoaaGreatDoorChecked
import Derived.KernelRfl
import Derived.JoinedOf
import Derived.SevenTiedAt
import Derived.Test.YtajkbcmleihaoaaGreatDoorZk5
set_option linter.unusedSimpArgs false
set_option linter.unusedVariables false
namespace Go.Proofs.YtajkbcmleihaoaaGreatDoor.Av
open Go
set_option maxRecDepth 100000
theorem NH:(Rows.storeNilRow.inPlace == Tryz.prog.inPlace 5)=true:=aew
theorem NG:(Rows.storeNilRow.unfollowed == Tryz.prog.unfollowed 5)=true:=aew
theorem NF:(Rows.storeNilRow.recurses == Tryz.prog.recurses 5)=true:=aew
theorem NE:(Rows.storeNilRow.named == Tryz.prog.varsNamed 5)=true:=aew
theorem Ep:laidOutB Tryz.prog=true:=aew
theorem Eo:mapsRowed Tryz.prog=true:=aew
theorem ND:G7 Tryz.prog=true:=aew
theorem NC:Tryz.prog.looks []=false:=aew
theorem NB:false=Rows.storeNilRow.goesBy Tryz.prog:=aew
theorem LV:Tryz.prog.mainIs=some (true,("c9464f097b4dbea129268afc679ba76a32ec93db05d29edf4de38246d376a106").toList):=aew
theorem zR:Tryz.prog.funcNamed "castellan/castellanlaw18.StoreNil" = some 5:=aew
theorem LU:Tryz.f5.params.toList.all (λt => !Tryz.prog.wantsStandIn t)=true:=aew
theorem EZ:joinedFacts Tryz.prog 5 Tryz.f5 (OpenSpec.ofChange Rows.storeNilSpec).bare Rows.storeNilRow=true:=by
 unfold joinedFacts;rw[NH,NG,NF,NE,Ep,Eo]
 kernel_rfl
end Go.Proofs.YtajkbcmleihaoaaGreatDoor.Av
