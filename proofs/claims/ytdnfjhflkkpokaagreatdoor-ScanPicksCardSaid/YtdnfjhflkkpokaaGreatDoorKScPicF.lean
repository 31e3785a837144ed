/- Joined texts of the walk, made small by a program. -/
import Derived.Test.YtdnfjhflkkpokaaGreatDoorCards
import Derived.Test.YtdnfjhflkkpokaaGreatDoorChecked
import Derived.KernelRfl
import Derived.JoinedOf
import Derived.SevenTiedAt
import Derived.Test.YtdnfjhflkkpokaaGreatDoorKk5
set_option linter.unusedSimpArgs false
set_option linter.unusedVariables false
namespace Go.Proofs.YtdnfjhflkkpokaaGreatDoor.Av
open Go
set_option maxRecDepth 100000
theorem Ts:(Rows.scanPicksRow.inPlace == Tryz.prog.inPlace 4)=true:=amO
theorem Tr:(Rows.scanPicksRow.unfollowed == Tryz.prog.unfollowed 4)=true:=amO
theorem Tq:(Rows.scanPicksRow.recurses == Tryz.prog.recurses 4)=true:=amO
theorem Tp:(Rows.scanPicksRow.named == Tryz.prog.varsNamed 4)=true:=amO
theorem Fn:laidOutB Tryz.prog=true:=amO
theorem Fm:mapsRowed Tryz.prog=true:=amO
theorem To:xN Tryz.prog=true:=amO
theorem Tn:Tryz.prog.looks []=true:=amO
theorem Tl:false=Rows.scanPicksRow.goesBy Tryz.prog:=amO
theorem RM:Tryz.prog.mainIs=some (true,("81ea981b1c8019b3a622f0953f98979c701b2ed56ef4bb17e48fd5016d917f26").toList):=amO
theorem xz:Tryz.prog.funcNamed "castellan/castellanlaw24.ScanPicks" = some 4:=amO
theorem RL:Tryz.f4.params.toList.all (λt => !Tryz.prog.wantsStandIn t)=true:=amO
theorem Jw:joinedFacts Tryz.prog 4 Tryz.f4 (OpenSpec.ofChange Rows.scanPicksSpec).bare Rows.scanPicksRow=true:=by
 unfold joinedFacts;rw[Ts,Tr,Tq,Tp,Fn,Fm]
 kernel_rfl
end Go.Proofs.YtdnfjhflkkpokaaGreatDoor.Av
