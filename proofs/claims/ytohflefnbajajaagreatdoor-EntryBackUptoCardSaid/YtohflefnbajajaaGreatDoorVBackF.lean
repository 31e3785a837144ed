/- Joined texts of the walk, made small by a program. -/
import Derived.Test.YtohflefnbajajaaGreatDoorCards
import Derived.Test.YtohflefnbajajaaGreatDoorChecked
import Derived.KernelRfl
import Derived.JoinedOf
import Derived.SevenTiedAt
import Derived.Test.YtohflefnbajajaaGreatDoorVP5
set_option linter.unusedSimpArgs false
set_option linter.unusedVariables false
namespace Go.Proofs.YtohflefnbajajaaGreatDoor.Av
open Go
set_option maxRecDepth 100000
theorem Nt:(Rows.entryBackUptoRow.inPlace == Tryz.prog.inPlace 7)=true:=by kernel_rfl
theorem Nr:(Rows.entryBackUptoRow.unfollowed == Tryz.prog.unfollowed 7)=true:=by kernel_rfl
theorem Nq:(Rows.entryBackUptoRow.recurses == Tryz.prog.recurses 7)=true:=by kernel_rfl
theorem Np:(Rows.entryBackUptoRow.named == Tryz.prog.varsNamed 7)=true:=by kernel_rfl
theorem zV:laidOutB Tryz.prog=true:=by kernel_rfl
theorem xT:mapsRowed Tryz.prog=true:=by kernel_rfl
theorem No:zZ Tryz.prog=true:=by kernel_rfl
theorem Nn:Tryz.prog.looks []=true:=by kernel_rfl
theorem Nb:false=Rows.entryBackUptoRow.goesBy Tryz.prog:=by kernel_rfl
theorem Mh:Tryz.prog.mainIs=some (true,("97b1544473b9a2ae069a1c0eda15086372a29ac17eba2bff59c26832b8dcdf9a").toList):=by kernel_rfl
theorem oo:Tryz.prog.funcNamed "castellan/castellanlaw14.EntryBack" = some 7:=by kernel_rfl
theorem Md:Tryz.f7.params.toList.all (fun t => !Tryz.prog.wantsStandIn t)=true:=by kernel_rfl
theorem Em:joinedFacts Tryz.prog 7 Tryz.f7 (Rows.OpenSpec.upto Rows.entryBackSpec).bare Rows.entryBackUptoRow=true:=by
 unfold joinedFacts
 rw [Nt,Nr,Nq,Np,zV,xT]
 kernel_rfl
end Go.Proofs.YtohflefnbajajaaGreatDoor.Av
