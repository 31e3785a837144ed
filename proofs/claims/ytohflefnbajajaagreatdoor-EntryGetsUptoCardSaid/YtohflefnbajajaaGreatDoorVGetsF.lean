/- Joined texts of the walk, made small by a program. -/
import Derived.Test.YtohflefnbajajaaGreatDoorCards
import Derived.Test.YtohflefnbajajaaGreatDoorChecked
import Derived.KernelRfl
import Derived.JoinedOf
import Derived.SevenTiedAt
import Derived.Test.YtohflefnbajajaaGreatDoorVP5
set_option linter.unusedSimpArgs false
set_option linter.unusedVariables false
namespace Go.Proofs.YtohflefnbajajaaGreatDoor.Av
open Go
set_option maxRecDepth 100000
theorem M3:(Rows.entryGetsUptoRow.inPlace == Tryz.prog.inPlace 8)=true:=by kernel_rfl
theorem M2:(Rows.entryGetsUptoRow.unfollowed == Tryz.prog.unfollowed 8)=true:=by kernel_rfl
theorem M1:(Rows.entryGetsUptoRow.recurses == Tryz.prog.recurses 8)=true:=by kernel_rfl
theorem MM:(Rows.entryGetsUptoRow.named == Tryz.prog.varsNamed 8)=true:=by kernel_rfl
theorem xR:laidOutB Tryz.prog=true:=by kernel_rfl
theorem xO:mapsRowed Tryz.prog=true:=by kernel_rfl
theorem Mt:zZ Tryz.prog=true:=by kernel_rfl
theorem Mr:Tryz.prog.looks []=true:=by kernel_rfl
theorem Mq:false=Rows.entryGetsUptoRow.goesBy Tryz.prog:=by kernel_rfl
theorem KO:Tryz.prog.mainIs=some (true,("97b1544473b9a2ae069a1c0eda15086372a29ac17eba2bff59c26832b8dcdf9a").toList):=by kernel_rfl
theorem kC:Tryz.prog.funcNamed "castellan/castellanlaw14.EntryGets" = some 8:=by kernel_rfl
theorem Kz:Tryz.f8.params.toList.all (fun t => !Tryz.prog.wantsStandIn t)=true:=by kernel_rfl
theorem DB:joinedFacts Tryz.prog 8 Tryz.f8 (Rows.OpenSpec.upto Rows.entryGetsSpec).bare Rows.entryGetsUptoRow=true:=by
 unfold joinedFacts
 rw [M3,M2,M1,MM,xR,xO]
 kernel_rfl
end Go.Proofs.YtohflefnbajajaaGreatDoor.Av
