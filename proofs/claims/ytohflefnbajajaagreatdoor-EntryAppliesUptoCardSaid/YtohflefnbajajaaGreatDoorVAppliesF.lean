/- Joined texts of the walk, made small by a program. -/
import Derived.Test.YtohflefnbajajaaGreatDoorCards
import Derived.Test.YtohflefnbajajaaGreatDoorChecked
import Derived.KernelRfl
import Derived.JoinedOf
import Derived.SevenTiedAt
import Derived.Test.YtohflefnbajajaaGreatDoorVP5
set_option linter.unusedSimpArgs false
set_option linter.unusedVariables false
namespace Go.Proofs.YtohflefnbajajaaGreatDoor.Av
open Go
set_option maxRecDepth 100000
theorem ID:(Rows.entryAppliesUptoRow.inPlace == Tryz.prog.inPlace 5)=true:=by kernel_rfl
theorem IB:(Rows.entryAppliesUptoRow.unfollowed == Tryz.prog.unfollowed 5)=true:=by kernel_rfl
theorem Iu:(Rows.entryAppliesUptoRow.recurses == Tryz.prog.recurses 5)=true:=by kernel_rfl
theorem H5:(Rows.entryAppliesUptoRow.named == Tryz.prog.varsNamed 5)=true:=by kernel_rfl
theorem gU:laidOutB Tryz.prog=true:=by kernel_rfl
theorem gT:mapsRowed Tryz.prog=true:=by kernel_rfl
theorem H4:zZ Tryz.prog=true:=by kernel_rfl
theorem H1:Tryz.prog.looks []=true:=by kernel_rfl
theorem H0:false=Rows.entryAppliesUptoRow.goesBy Tryz.prog:=by kernel_rfl
theorem GM:Tryz.prog.mainIs=some (true,("97b1544473b9a2ae069a1c0eda15086372a29ac17eba2bff59c26832b8dcdf9a").toList):=by kernel_rfl
theorem gP:Tryz.prog.funcNamed "castellan/castellanlaw14.EntryApplies" = some 5:=by kernel_rfl
theorem GB:Tryz.f5.params.toList.all (fun t => !Tryz.prog.wantsStandIn t)=true:=by kernel_rfl
theorem oq:joinedFacts Tryz.prog 5 Tryz.f5 (Rows.OpenSpec.upto Rows.entryAppliesSpec).bare Rows.entryAppliesUptoRow=true:=by
 unfold joinedFacts
 rw [ID,IB,Iu,H5,gU,gT]
 kernel_rfl
end Go.Proofs.YtohflefnbajajaaGreatDoor.Av
