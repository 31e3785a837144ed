/- Joined texts of the walk, made small by a program. -/
import Derived.Test.YtkkgmgmgcgiffaaGreatDoorCards
import Derived.Test.YtkkgmgmgcgiffaaGreatDoorChecked
import Derived.KernelRfl
import Derived.JoinedOf
import Derived.SevenTiedAt
import Derived.Test.YtkkgmgmgcgiffaaGreatDoorUP5
set_option linter.unusedSimpArgs false
set_option linter.unusedVariables false
namespace Go.Proofs.YtkkgmgmgcgiffaaGreatDoor.Av
open Go
set_option maxRecDepth 100000
theorem Le:(Rows.truthLawsUptoRow.inPlace == Tryz.prog.inPlace 4)=true:=by kernel_rfl
theorem Ld:(Rows.truthLawsUptoRow.unfollowed == Tryz.prog.unfollowed 4)=true:=by kernel_rfl
theorem Lc:(Rows.truthLawsUptoRow.recurses == Tryz.prog.recurses 4)=true:=by kernel_rfl
theorem Lb:(Rows.truthLawsUptoRow.named == Tryz.prog.varsNamed 4)=true:=by kernel_rfl
theorem wO:laidOutB Tryz.prog=true:=by kernel_rfl
theorem wN:mapsRowed Tryz.prog=true:=by kernel_rfl
theorem La:GW Tryz.prog=true:=by kernel_rfl
theorem K9:Tryz.prog.looks []=true:=by kernel_rfl
theorem K8:false=Rows.truthLawsUptoRow.goesBy Tryz.prog:=by kernel_rfl
theorem JZ:Tryz.prog.mainIs=some (true,("c8220138d0c3b063dec7db437180877e7bf0087c0910bf89110565802f1afbc2").toList):=by kernel_rfl
theorem qU:Tryz.prog.funcNamed "castellan/castellanlaw21.TruthLaws" = some 4:=by kernel_rfl
theorem JY:Tryz.f4.params.toList.all (fun t => !Tryz.prog.wantsStandIn t)=true:=by kernel_rfl
theorem CV:joinedFacts Tryz.prog 4 Tryz.f4 (Rows.OpenSpec.upto Rows.truthLawsSpec).bare Rows.truthLawsUptoRow=true:=by
 unfold joinedFacts
 rw [Le,Ld,Lc,Lb,wO,wN]
 kernel_rfl
end Go.Proofs.YtkkgmgmgcgiffaaGreatDoor.Av
