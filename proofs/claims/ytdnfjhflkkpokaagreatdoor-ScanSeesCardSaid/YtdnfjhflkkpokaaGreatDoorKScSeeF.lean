/- Joined texts of the walk, made small by a program. -/
import Derived.Test.YtdnfjhflkkpokaaGreatDoorCards
import Derived.Test.YtdnfjhflkkpokaaGreatDoorChecked
import Derived.KernelRfl
import Derived.JoinedOf
import Derived.SevenTiedAt
import Derived.Test.YtdnfjhflkkpokaaGreatDoorKk5
set_option linter.unusedSimpArgs false
set_option linter.unusedVariables false
namespace Go.Proofs.YtdnfjhflkkpokaaGreatDoor.Av
open Go
set_option maxRecDepth 100000
theorem Vh:(Rows.scanSeesRow.inPlace == Tryz.prog.inPlace 3)=true:=amO
theorem Vg:(Rows.scanSeesRow.unfollowed == Tryz.prog.unfollowed 3)=true:=amO
theorem Vf:(Rows.scanSeesRow.recurses == Tryz.prog.recurses 3)=true:=amO
theorem Ve:(Rows.scanSeesRow.named == Tryz.prog.varsNamed 3)=true:=amO
theorem Jv:laidOutB Tryz.prog=true:=amO
theorem Ju:mapsRowed Tryz.prog=true:=amO
theorem Vd:xN Tryz.prog=true:=amO
theorem Vc:Tryz.prog.looks []=true:=amO
theorem Vb:false=Rows.scanSeesRow.goesBy Tryz.prog:=amO
theorem Tk:Tryz.prog.mainIs=some (true,("81ea981b1c8019b3a622f0953f98979c701b2ed56ef4bb17e48fd5016d917f26").toList):=amO
theorem Fl:Tryz.prog.funcNamed "castellan/castellanlaw24.ScanSees" = some 3:=amO
theorem Tj:Tryz.f3.params.toList.all (λt => !Tryz.prog.wantsStandIn t)=true:=amO
theorem Kl:joinedFacts Tryz.prog 3 Tryz.f3 (OpenSpec.ofChange Rows.scanSeesSpec).bare Rows.scanSeesRow=true:=by
 unfold joinedFacts;rw[Vh,Vg,Vf,Ve,Jv,Ju]
 kernel_rfl
end Go.Proofs.YtdnfjhflkkpokaaGreatDoor.Av
