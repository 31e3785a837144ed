/- Joined texts of the walk, made small by a program. -/
import Derived.Test.YtkkgmgmgcgiffaaGreatDoorCards
import Derived.Test.YtkkgmgmgcgiffaaGreatDoorChecked
import Derived.KernelRfl
import Derived.JoinedOf
import Derived.SevenTiedAt
import Derived.Test.YtkkgmgmgcgiffaaGreatDoorUP5
set_option linter.unusedSimpArgs false
set_option linter.unusedVariables false
namespace Go.Proofs.YtkkgmgmgcgiffaaGreatDoor.Av
open Go
set_option maxRecDepth 100000
theorem akF:(Rows.truthOfsUptoRow.inPlace == Tryz.prog.inPlace 3)=true:=by kernel_rfl
theorem akE:(Rows.truthOfsUptoRow.unfollowed == Tryz.prog.unfollowed 3)=true:=by kernel_rfl
theorem akD:(Rows.truthOfsUptoRow.recurses == Tryz.prog.recurses 3)=true:=by kernel_rfl
theorem akC:(Rows.truthOfsUptoRow.named == Tryz.prog.varsNamed 3)=true:=by kernel_rfl
theorem aka:laidOutB Tryz.prog=true:=by kernel_rfl
theorem aj9:mapsRowed Tryz.prog=true:=by kernel_rfl
theorem akB:GW Tryz.prog=true:=by kernel_rfl
theorem akA:Tryz.prog.looks []=true:=by kernel_rfl
theorem akz:false=Rows.truthOfsUptoRow.goesBy Tryz.prog:=by kernel_rfl
theorem akv:Tryz.prog.mainIs=some (true,("c8220138d0c3b063dec7db437180877e7bf0087c0910bf89110565802f1afbc2").toList):=by kernel_rfl
theorem ajL:Tryz.prog.funcNamed "castellan/castellanlaw21.TruthOfs" = some 3:=by kernel_rfl
theorem aku:Tryz.f3.params.toList.all (fun t => !Tryz.prog.wantsStandIn t)=true:=by kernel_rfl
theorem ake:joinedFacts Tryz.prog 3 Tryz.f3 (Rows.OpenSpec.upto Rows.truthOfsSpec).bare Rows.truthOfsUptoRow=true:=by
 unfold joinedFacts
 rw [akF,akE,akD,akC,aka,aj9]
 kernel_rfl
end Go.Proofs.YtkkgmgmgcgiffaaGreatDoor.Av
