/-
  DERIVED. GIVEN WITH THE SEED: THE CARDS: each row of YtigifoeopopnbaaGreatDoorRows.lean that lists a variable, with what it lists TIED to the program's text (the seventh form; the later family's looks); each row that meets fmt, with fmt's text TOLD by the authors' own Lean function (tested against real Go, not proved from fmt's source: count such statements apart). THE CARD IS WHAT COUNTS. Prove the row's statement (the work); the ties are given (YtigifoeopopnbaaGreatDoorTie.lean); close each card by the builder's one call (the guide's Derived/Test/ToyasCard.lean, 'card_holds'). Laid BY PROGRAM, IN A SANDBOX (cutbox-door.mjs). By AI agents, Wed Nov 11 2026. No macro, syntax, notation, axiom, sorry.
-/
import Derived.Test.YtigifoeopopnbaaGreatDoorRows
import GoSem.ClaimSeven
namespace Go.Proofs.YtigifoeopopnbaaGreatDoor
namespace Rows

/-- THE TIED CARD OF 'castellanlaw15.CheckFits'. -/
def checkFitsCard : Claim7 := { stood := { row := checkFitsRow, standIns := [], harness := (true, "01b0b17f52527856041cb56e334af7502bcf33c1b4f7c9d4746bfcb76cf4a3aa"), looks := true }, kinds := [], alts := [], laidByText := true, laidKinds := [.data, .data, .data, .data, .sentinel, .sentinel, .data, .pinned], laidTests := true, laidLooks := .later }
def CheckFitsCardSaid : Prop := Claim7.holds Tryz.pinned (.plain (OpenSpec.ofChange checkFitsSpec)) checkFitsCard

/-- THE TIED CARD OF 'castellanlaw15.CheckNamed'. -/
def checkNamedCard : Claim7 := { stood := { row := checkNamedRow, standIns := [], harness := (true, "01b0b17f52527856041cb56e334af7502bcf33c1b4f7c9d4746bfcb76cf4a3aa"), looks := true }, kinds := [], alts := [], laidByText := true, laidKinds := [.data, .data, .data, .data, .sentinel, .sentinel, .data, .pinned], laidTests := true, laidLooks := .later }
def CheckNamedCardSaid : Prop := Claim7.holds Tryz.pinned (.plain (OpenSpec.ofChange checkNamedSpec)) checkNamedCard

/-- THE TIED CARD OF 'castellanlaw15.CheckChanges'. -/
def checkChangesCard : Claim7 := { stood := { row := checkChangesRow, standIns := [], harness := (true, "01b0b17f52527856041cb56e334af7502bcf33c1b4f7c9d4746bfcb76cf4a3aa"), looks := true }, kinds := [], alts := [], laidByText := true, laidKinds := [.data, .data, .data, .data, .sentinel, .sentinel, .data, .pinned], laidTests := true, laidLooks := .later }
def CheckChangesCardSaid : Prop := Claim7.holds Tryz.pinned (.plain (OpenSpec.ofChange checkChangesSpec)) checkChangesCard

/-- THE SECOND FORM's CARD OF 'castellanlaw15.CheckFits'. -/
def checkFitsUptoCard : Claim7 := { stood := { row := checkFitsUptoRow, standIns := [], harness := (true, "01b0b17f52527856041cb56e334af7502bcf33c1b4f7c9d4746bfcb76cf4a3aa"), looks := true }, kinds := [], alts := [], laidByText := true, laidKinds := [.data, .data, .data, .data, .sentinel, .sentinel, .data, .pinned], laidTests := true, laidLooks := .later }
def CheckFitsUptoCardSaid : Prop := Claim7.holds Tryz.pinned (.plain (OpenSpec.upto checkFitsSpec)) checkFitsUptoCard

/-- THE SECOND FORM's CARD OF 'castellanlaw15.CheckNamed'. -/
def checkNamedUptoCard : Claim7 := { stood := { row := checkNamedUptoRow, standIns := [], harness := (true, "01b0b17f52527856041cb56e334af7502bcf33c1b4f7c9d4746bfcb76cf4a3aa"), looks := true }, kinds := [], alts := [], laidByText := true, laidKinds := [.data, .data, .data, .data, .sentinel, .sentinel, .data, .pinned], laidTests := true, laidLooks := .later }
def CheckNamedUptoCardSaid : Prop := Claim7.holds Tryz.pinned (.plain (OpenSpec.upto checkNamedSpec)) checkNamedUptoCard

/-- THE SECOND FORM's CARD OF 'castellanlaw15.CheckChanges'. -/
def checkChangesUptoCard : Claim7 := { stood := { row := checkChangesUptoRow, standIns := [], harness := (true, "01b0b17f52527856041cb56e334af7502bcf33c1b4f7c9d4746bfcb76cf4a3aa"), looks := true }, kinds := [], alts := [], laidByText := true, laidKinds := [.data, .data, .data, .data, .sentinel, .sentinel, .data, .pinned], laidTests := true, laidLooks := .later }
def CheckChangesUptoCardSaid : Prop := Claim7.holds Tryz.pinned (.plain (OpenSpec.upto checkChangesSpec)) checkChangesUptoCard
end Rows
end Go.Proofs.YtigifoeopopnbaaGreatDoor
