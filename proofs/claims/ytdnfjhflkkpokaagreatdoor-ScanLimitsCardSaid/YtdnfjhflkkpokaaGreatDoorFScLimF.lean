/- Joined texts of the walk, made small by a program. -/
import Derived.Test.YtdnfjhflkkpokaaGreatDoorCards
import Derived.Test.YtdnfjhflkkpokaaGreatDoorChecked
import Derived.KernelRfl
import Derived.JoinedOf
import Derived.SevenTiedAt
import Derived.Test.YtdnfjhflkkpokaaGreatDoorFk5
set_option linter.unusedSimpArgs false
set_option linter.unusedVariables false
namespace Go.Proofs.YtdnfjhflkkpokaaGreatDoor.Av
open Go
set_option maxRecDepth 100000
theorem WU:(Rows.scanLimitsRow.inPlace == Tryz.prog.inPlace 5)=true:=asR
theorem WT:(Rows.scanLimitsRow.unfollowed == Tryz.prog.unfollowed 5)=true:=asR
theorem WS:(Rows.scanLimitsRow.recurses == Tryz.prog.recurses 5)=true:=asR
theorem WR:(Rows.scanLimitsRow.named == Tryz.prog.varsNamed 5)=true:=asR
theorem El:laidOutB Tryz.prog=true:=asR
theorem Ek:mapsRowed Tryz.prog=true:=asR
theorem WQ:Sw Tryz.prog=true:=asR
theorem WP:Tryz.prog.looks []=true:=asR
theorem WO:false=Rows.scanLimitsRow.goesBy Tryz.prog:=asR
theorem Wb:Tryz.prog.mainIs=some (true,("81ea981b1c8019b3a622f0953f98979c701b2ed56ef4bb17e48fd5016d917f26").toList):=asR
theorem wc:Tryz.prog.funcNamed "castellan/castellanlaw24.ScanLimits" = some 5:=asR
theorem Wa:Tryz.f5.params.toList.all (λt => !Tryz.prog.wantsStandIn t)=true:=asR
theorem J4:joinedFacts Tryz.prog 5 Tryz.f5 (OpenSpec.ofChange Rows.scanLimitsSpec).bare Rows.scanLimitsRow=true:=by
 unfold joinedFacts;rw[WU,WT,WS,WR,El,Ek]
 kernel_rfl
end Go.Proofs.YtdnfjhflkkpokaaGreatDoor.Av
