/- Joined texts of the walk, made small by a program. -/
import Derived.Test.YtohflefnbajajaaGreatDoorCards
import Derived.Test.YtohflefnbajajaaGreatDoorChecked
import Derived.KernelRfl
import Derived.JoinedOf
import Derived.SevenTiedAt
import Derived.Test.YtohflefnbajajaaGreatDoorVP5
set_option linter.unusedSimpArgs false
set_option linter.unusedVariables false
namespace Go.Proofs.YtohflefnbajajaaGreatDoor.Av
open Go
set_option maxRecDepth 100000
theorem LF:(Rows.entryFormsUptoRow.inPlace == Tryz.prog.inPlace 6)=true:=by kernel_rfl
theorem K8:(Rows.entryFormsUptoRow.unfollowed == Tryz.prog.unfollowed 6)=true:=by kernel_rfl
theorem K4:(Rows.entryFormsUptoRow.recurses == Tryz.prog.recurses 6)=true:=by kernel_rfl
theorem K3:(Rows.entryFormsUptoRow.named == Tryz.prog.varsNamed 6)=true:=by kernel_rfl
theorem oj:laidOutB Tryz.prog=true:=by kernel_rfl
theorem kU:mapsRowed Tryz.prog=true:=by kernel_rfl
theorem KZ:zZ Tryz.prog=true:=by kernel_rfl
theorem KX:Tryz.prog.looks []=true:=by kernel_rfl
theorem KW:false=Rows.entryFormsUptoRow.goesBy Tryz.prog:=by kernel_rfl
theorem Ks:Tryz.prog.mainIs=some (true,("97b1544473b9a2ae069a1c0eda15086372a29ac17eba2bff59c26832b8dcdf9a").toList):=by kernel_rfl
theorem iP:Tryz.prog.funcNamed "castellan/castellanlaw14.EntryForms" = some 6:=by kernel_rfl
theorem Kr:Tryz.f6.params.toList.all (fun t => !Tryz.prog.wantsStandIn t)=true:=by kernel_rfl
theorem Ce:joinedFacts Tryz.prog 6 Tryz.f6 (Rows.OpenSpec.upto Rows.entryFormsSpec).bare Rows.entryFormsUptoRow=true:=by
 unfold joinedFacts
 rw [LF,K8,K4,K3,oj,kU]
 kernel_rfl
end Go.Proofs.YtohflefnbajajaaGreatDoor.Av
