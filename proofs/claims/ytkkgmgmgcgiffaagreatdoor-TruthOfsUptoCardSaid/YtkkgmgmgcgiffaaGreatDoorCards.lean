/-
  DERIVED. GIVEN WITH THE SEED: THE CARDS: each row of YtkkgmgmgcgiffaaGreatDoorRows.lean that lists a variable, with what it lists TIED to the program's text (the seventh form; the later family's looks); each row that meets fmt, with fmt's text TOLD by the authors' own Lean function (tested against real Go, not proved from fmt's source: count such statements apart). THE CARD IS WHAT COUNTS. Prove the row's statement (the work); the ties are given (YtkkgmgmgcgiffaaGreatDoorTie.lean); close each card by the builder's one call (the guide's Derived/Test/ToyasCard.lean, 'card_holds'). Laid BY PROGRAM, IN A SANDBOX (cutbox-door.mjs). By AI agents, Wed Nov 11 2026. No macro, syntax, notation, axiom, sorry.
-/
import Derived.Test.YtkkgmgmgcgiffaaGreatDoorRows
import GoSem.ClaimSeven
namespace Go.Proofs.YtkkgmgmgcgiffaaGreatDoor
namespace Rows

/-- THE TIED CARD OF 'castellanlaw21.TruthOfs'. -/
def truthOfsCard : Claim7 := { stood := { row := truthOfsRow, standIns := [], harness := (true, "c8220138d0c3b063dec7db437180877e7bf0087c0910bf89110565802f1afbc2"), looks := true }, kinds := [], alts := [], laidByText := true, laidKinds := [.data, .data, .data, .data, .sentinel, .sentinel, .data, .pinned], laidTests := true, laidLooks := .later }
def TruthOfsCardSaid : Prop := Claim7.holds Tryz.pinned (.plain (OpenSpec.ofChange truthOfsSpec)) truthOfsCard

/-- THE TIED CARD OF 'castellanlaw21.TruthLaws'. -/
def truthLawsCard : Claim7 := { stood := { row := truthLawsRow, standIns := [], harness := (true, "c8220138d0c3b063dec7db437180877e7bf0087c0910bf89110565802f1afbc2"), looks := true }, kinds := [], alts := [], laidByText := true, laidKinds := [.data, .data, .data, .data, .sentinel, .sentinel, .data, .pinned], laidTests := true, laidLooks := .later }
def TruthLawsCardSaid : Prop := Claim7.holds Tryz.pinned (.plain (OpenSpec.ofChange truthLawsSpec)) truthLawsCard

/-- THE TIED CARD OF 'castellanlaw21.TruthMore'. -/
def truthMoreCard : Claim7 := { stood := { row := truthMoreRow, standIns := [], harness := (true, "c8220138d0c3b063dec7db437180877e7bf0087c0910bf89110565802f1afbc2"), looks := true }, kinds := [], alts := [], laidByText := true, laidKinds := [.data, .data, .data, .data, .sentinel, .sentinel, .data, .pinned], laidTests := true, laidLooks := .later }
def TruthMoreCardSaid : Prop := Claim7.holds Tryz.pinned (.plain (OpenSpec.ofChange truthMoreSpec)) truthMoreCard

/-- THE TIED CARD OF 'castellanlaw15.CheckFits'. -/
def checkFitsCard : Claim7 := { stood := { row := checkFitsRow, standIns := [], harness := (true, "c8220138d0c3b063dec7db437180877e7bf0087c0910bf89110565802f1afbc2"), looks := true }, kinds := [], alts := [], laidByText := true, laidKinds := [.data, .data, .data, .data, .sentinel, .sentinel, .data, .pinned], laidTests := true, laidLooks := .later }
def CheckFitsCardSaid : Prop := Claim7.holds Tryz.pinned (.plain (OpenSpec.ofChange checkFitsSpec)) checkFitsCard

/-- THE TIED CARD OF 'castellanlaw15.CheckNamed'. -/
def checkNamedCard : Claim7 := { stood := { row := checkNamedRow, standIns := [], harness := (true, "c8220138d0c3b063dec7db437180877e7bf0087c0910bf89110565802f1afbc2"), looks := true }, kinds := [], alts := [], laidByText := true, laidKinds := [.data, .data, .data, .data, .sentinel, .sentinel, .data, .pinned], laidTests := true, laidLooks := .later }
def CheckNamedCardSaid : Prop := Claim7.holds Tryz.pinned (.plain (OpenSpec.ofChange checkNamedSpec)) checkNamedCard

/-- THE TIED CARD OF 'castellanlaw15.CheckChanges'. -/
def checkChangesCard : Claim7 := { stood := { row := checkChangesRow, standIns := [], harness := (true, "c8220138d0c3b063dec7db437180877e7bf0087c0910bf89110565802f1afbc2"), looks := true }, kinds := [], alts := [], laidByText := true, laidKinds := [.data, .data, .data, .data, .sentinel, .sentinel, .data, .pinned], laidTests := true, laidLooks := .later }
def CheckChangesCardSaid : Prop := Claim7.holds Tryz.pinned (.plain (OpenSpec.ofChange checkChangesSpec)) checkChangesCard

/-- THE SECOND FORM's CARD OF 'castellanlaw21.TruthOfs'. -/
def truthOfsUptoCard : Claim7 := { stood := { row := truthOfsUptoRow, standIns := [], harness := (true, "c8220138d0c3b063dec7db437180877e7bf0087c0910bf89110565802f1afbc2"), looks := true }, kinds := [], alts := [], laidByText := true, laidKinds := [.data, .data, .data, .data, .sentinel, .sentinel, .data, .pinned], laidTests := true, laidLooks := .later }
def TruthOfsUptoCardSaid : Prop := Claim7.holds Tryz.pinned (.plain (OpenSpec.upto truthOfsSpec)) truthOfsUptoCard

/-- THE SECOND FORM's CARD OF 'castellanlaw21.TruthLaws'. -/
def truthLawsUptoCard : Claim7 := { stood := { row := truthLawsUptoRow, standIns := [], harness := (true, "c8220138d0c3b063dec7db437180877e7bf0087c0910bf89110565802f1afbc2"), looks := true }, kinds := [], alts := [], laidByText := true, laidKinds := [.data, .data, .data, .data, .sentinel, .sentinel, .data, .pinned], laidTests := true, laidLooks := .later }
def TruthLawsUptoCardSaid : Prop := Claim7.holds Tryz.pinned (.plain (OpenSpec.upto truthLawsSpec)) truthLawsUptoCard

/-- THE SECOND FORM's CARD OF 'castellanlaw21.TruthMore'. -/
def truthMoreUptoCard : Claim7 := { stood := { row := truthMoreUptoRow, standIns := [], harness := (true, "c8220138d0c3b063dec7db437180877e7bf0087c0910bf89110565802f1afbc2"), looks := true }, kinds := [], alts := [], laidByText := true, laidKinds := [.data, .data, .data, .data, .sentinel, .sentinel, .data, .pinned], laidTests := true, laidLooks := .later }
def TruthMoreUptoCardSaid : Prop := Claim7.holds Tryz.pinned (.plain (OpenSpec.upto truthMoreSpec)) truthMoreUptoCard

/-- THE SECOND FORM's CARD OF 'castellanlaw15.CheckFits'. -/
def checkFitsUptoCard : Claim7 := { stood := { row := checkFitsUptoRow, standIns := [], harness := (true, "c8220138d0c3b063dec7db437180877e7bf0087c0910bf89110565802f1afbc2"), looks := true }, kinds := [], alts := [], laidByText := true, laidKinds := [.data, .data, .data, .data, .sentinel, .sentinel, .data, .pinned], laidTests := true, laidLooks := .later }
def CheckFitsUptoCardSaid : Prop := Claim7.holds Tryz.pinned (.plain (OpenSpec.upto checkFitsSpec)) checkFitsUptoCard

/-- THE SECOND FORM's CARD OF 'castellanlaw15.CheckNamed'. -/
def checkNamedUptoCard : Claim7 := { stood := { row := checkNamedUptoRow, standIns := [], harness := (true, "c8220138d0c3b063dec7db437180877e7bf0087c0910bf89110565802f1afbc2"), looks := true }, kinds := [], alts := [], laidByText := true, laidKinds := [.data, .data, .data, .data, .sentinel, .sentinel, .data, .pinned], laidTests := true, laidLooks := .later }
def CheckNamedUptoCardSaid : Prop := Claim7.holds Tryz.pinned (.plain (OpenSpec.upto checkNamedSpec)) checkNamedUptoCard

/-- THE SECOND FORM's CARD OF 'castellanlaw15.CheckChanges'. -/
def checkChangesUptoCard : Claim7 := { stood := { row := checkChangesUptoRow, standIns := [], harness := (true, "c8220138d0c3b063dec7db437180877e7bf0087c0910bf89110565802f1afbc2"), looks := true }, kinds := [], alts := [], laidByText := true, laidKinds := [.data, .data, .data, .data, .sentinel, .sentinel, .data, .pinned], laidTests := true, laidLooks := .later }
def CheckChangesUptoCardSaid : Prop := Claim7.holds Tryz.pinned (.plain (OpenSpec.upto checkChangesSpec)) checkChangesUptoCard
end Rows
end Go.Proofs.YtkkgmgmgcgiffaaGreatDoor
