/- Joined texts of the walk, made small by a program. -/
import Derived.Test.YtdnlpmegogejpaaGreatDoorCards
import Derived.Test.YtdnlpmegogejpaaGreatDoorChecked
import Derived.KernelRfl
import Derived.JoinedOf
import Derived.SevenTiedAt
import Derived.Test.YtdnlpmegogejpaaGreatDoorWP5
set_option linter.unusedSimpArgs false
set_option linter.unusedVariables false
namespace Go.Proofs.YtdnlpmegogejpaaGreatDoor.Av
open Go
set_option maxRecDepth 100000
theorem De:(Rows.entryMakesUptoRow.inPlace == Tryz.prog.inPlace 5)=true:=by kernel_rfl
theorem Dd:(Rows.entryMakesUptoRow.unfollowed == Tryz.prog.unfollowed 5)=true:=by kernel_rfl
theorem Dc:(Rows.entryMakesUptoRow.recurses == Tryz.prog.recurses 5)=true:=by kernel_rfl
theorem Db:(Rows.entryMakesUptoRow.named == Tryz.prog.varsNamed 5)=true:=by kernel_rfl
theorem oq:laidOutB Tryz.prog=true:=by kernel_rfl
theorem oo:mapsRowed Tryz.prog=true:=by kernel_rfl
theorem Da:zZ Tryz.prog=true:=by kernel_rfl
theorem C9:Tryz.prog.looks []=true:=by kernel_rfl
theorem C8:false=Rows.entryMakesUptoRow.goesBy Tryz.prog:=by kernel_rfl
theorem Cy:Tryz.prog.mainIs=some (true,("2dce50ab4040213a7ba11f4b4a60d84c3f228b34242960e2b0b6678ac76c9f06").toList):=by kernel_rfl
theorem kC:Tryz.prog.funcNamed "castellan/castellanlaw14.EntryMakes" = some 5:=by kernel_rfl
theorem Cx:Tryz.f5.params.toList.all (fun t => !Tryz.prog.wantsStandIn t)=true:=by kernel_rfl
theorem sW:joinedFacts Tryz.prog 5 Tryz.f5 (Rows.OpenSpec.upto Rows.entryMakesSpec).bare Rows.entryMakesUptoRow=true:=by
 unfold joinedFacts
 rw [De,Dd,Dc,Db,oq,oo]
 kernel_rfl
end Go.Proofs.YtdnlpmegogejpaaGreatDoor.Av
