/- Joined texts of the walk, made small by a program. -/
import Derived.Test.YtkkgmgmgcgiffaaGreatDoorCards
import Derived.Test.YtkkgmgmgcgiffaaGreatDoorChecked
import Derived.KernelRfl
import Derived.JoinedOf
import Derived.SevenTiedAt
import Derived.Test.YtkkgmgmgcgiffaaGreatDoorUP5
set_option linter.unusedSimpArgs false
set_option linter.unusedVariables false
namespace Go.Proofs.YtkkgmgmgcgiffaaGreatDoor.Av
open Go
set_option maxRecDepth 100000
theorem ajs:(Rows.truthMoreUptoRow.inPlace == Tryz.prog.inPlace 5)=true:=by kernel_rfl
theorem ajr:(Rows.truthMoreUptoRow.unfollowed == Tryz.prog.unfollowed 5)=true:=by kernel_rfl
theorem ajq:(Rows.truthMoreUptoRow.recurses == Tryz.prog.recurses 5)=true:=by kernel_rfl
theorem ajp:(Rows.truthMoreUptoRow.named == Tryz.prog.varsNamed 5)=true:=by kernel_rfl
theorem aiY:laidOutB Tryz.prog=true:=by kernel_rfl
theorem aiX:mapsRowed Tryz.prog=true:=by kernel_rfl
theorem ajo:GW Tryz.prog=true:=by kernel_rfl
theorem ajn:Tryz.prog.looks []=true:=by kernel_rfl
theorem ajm:false=Rows.truthMoreUptoRow.goesBy Tryz.prog:=by kernel_rfl
theorem ajk:Tryz.prog.mainIs=some (true,("c8220138d0c3b063dec7db437180877e7bf0087c0910bf89110565802f1afbc2").toList):=by kernel_rfl
theorem aiV:Tryz.prog.funcNamed "castellan/castellanlaw21.TruthMore" = some 5:=by kernel_rfl
theorem ajj:Tryz.f5.params.toList.all (fun t => !Tryz.prog.wantsStandIn t)=true:=by kernel_rfl
theorem ai2:joinedFacts Tryz.prog 5 Tryz.f5 (Rows.OpenSpec.upto Rows.truthMoreSpec).bare Rows.truthMoreUptoRow=true:=by
 unfold joinedFacts
 rw [ajs,ajr,ajq,ajp,aiY,aiX]
 kernel_rfl
end Go.Proofs.YtkkgmgmgcgiffaaGreatDoor.Av
