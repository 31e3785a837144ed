/- Joined texts of the walk, made small by a program. -/
import Derived.Test.YtdnfjhflkkpokaaGreatDoorCards
import Derived.Test.YtdnfjhflkkpokaaGreatDoorChecked
import Derived.KernelRfl
import Derived.JoinedOf
import Derived.SevenTiedAt
import Derived.Test.YtdnfjhflkkpokaaGreatDoorGk5
set_option linter.unusedSimpArgs false
set_option linter.unusedVariables false
namespace Go.Proofs.YtdnfjhflkkpokaaGreatDoor.Av
open Go
set_option maxRecDepth 100000
theorem XX:(Rows.scanExactRow.inPlace == Tryz.prog.inPlace 6)=true:=asq
theorem XW:(Rows.scanExactRow.unfollowed == Tryz.prog.unfollowed 6)=true:=asq
theorem XV:(Rows.scanExactRow.recurses == Tryz.prog.recurses 6)=true:=asq
theorem XU:(Rows.scanExactRow.named == Tryz.prog.varsNamed 6)=true:=asq
theorem JH:laidOutB Tryz.prog=true:=asq
theorem JG:mapsRowed Tryz.prog=true:=asq
theorem XT:R4 Tryz.prog=true:=asq
theorem XS:Tryz.prog.looks []=true:=asq
theorem XR:false=Rows.scanExactRow.goesBy Tryz.prog:=asq
theorem Wo:Tryz.prog.mainIs=some (true,("81ea981b1c8019b3a622f0953f98979c701b2ed56ef4bb17e48fd5016d917f26").toList):=asq
theorem Ej:Tryz.prog.funcNamed "castellan/castellanlaw24.ScanExact" = some 6:=asq
theorem Wn:Tryz.f6.params.toList.all (λt => !Tryz.prog.wantsStandIn t)=true:=asq
theorem NE:joinedFacts Tryz.prog 6 Tryz.f6 (OpenSpec.ofChange Rows.scanExactSpec).bare Rows.scanExactRow=true:=by
 unfold joinedFacts;rw[XX,XW,XV,XU,JH,JG]
 kernel_rfl
end Go.Proofs.YtdnfjhflkkpokaaGreatDoor.Av
