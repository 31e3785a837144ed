/-
  DERIVED. GIVEN WITH THE SEED: THE CARDS: each row of YtohflefnbajajaaGreatDoorRows.lean that lists a variable, with what it lists TIED to the program's text (the seventh form; the later family's looks); each row that meets fmt, with fmt's text TOLD by the authors' own Lean function (tested against real Go, not proved from fmt's source: count such statements apart). THE CARD IS WHAT COUNTS. Prove the row's statement (the work); the ties are given (YtohflefnbajajaaGreatDoorTie.lean); close each card by the builder's one call (the guide's Derived/Test/ToyasCard.lean, 'card_holds'). Laid BY PROGRAM, IN A SANDBOX (cutbox-door.mjs). By AI agents, Wed Nov 11 2026. No macro, syntax, notation, axiom, sorry.
-/
import Derived.Test.YtohflefnbajajaaGreatDoorRows
import GoSem.ClaimSeven
namespace Go.Proofs.YtohflefnbajajaaGreatDoor
namespace Rows

/-- THE TIED CARD OF 'castellanlaw23.PolicyReads'. -/
def policyReadsCard : Claim7 := { stood := { row := policyReadsRow, standIns := [], harness := (true, "97b1544473b9a2ae069a1c0eda15086372a29ac17eba2bff59c26832b8dcdf9a"), looks := true }, kinds := [], alts := [], laidByText := true, laidKinds := [.data, .data, .data, .data, .sentinel, .sentinel, .data, .pinned], laidTests := true, laidLooks := .later }
def PolicyReadsCardSaid : Prop := Claim7.holds Tryz.pinned (.plain (OpenSpec.ofChange policyReadsSpec)) policyReadsCard

/-- THE TIED CARD OF 'castellanlaw23.PolicyBack'. -/
def policyBackCard : Claim7 := { stood := { row := policyBackRow, standIns := [], harness := (true, "97b1544473b9a2ae069a1c0eda15086372a29ac17eba2bff59c26832b8dcdf9a"), looks := true }, kinds := [], alts := [], laidByText := true, laidKinds := [.data, .data, .data, .data, .sentinel, .sentinel, .data, .pinned], laidTests := true, laidLooks := .later }
def PolicyBackCardSaid : Prop := Claim7.holds Tryz.pinned (.plain (OpenSpec.ofChange policyBackSpec)) policyBackCard

/-- THE TIED CARD OF 'castellanlaw14.EntryApplies'. -/
def entryAppliesCard : Claim7 := { stood := { row := entryAppliesRow, standIns := [], harness := (true, "97b1544473b9a2ae069a1c0eda15086372a29ac17eba2bff59c26832b8dcdf9a"), looks := true }, kinds := [], alts := [], laidByText := true, laidKinds := [.data, .data, .data, .data, .sentinel, .sentinel, .data, .pinned], laidTests := true, laidLooks := .later }
def EntryAppliesCardSaid : Prop := Claim7.holds Tryz.pinned (.plain (OpenSpec.ofChange entryAppliesSpec)) entryAppliesCard

/-- THE TIED CARD OF 'castellanlaw14.EntryForms'. -/
def entryFormsCard : Claim7 := { stood := { row := entryFormsRow, standIns := [], harness := (true, "97b1544473b9a2ae069a1c0eda15086372a29ac17eba2bff59c26832b8dcdf9a"), looks := true }, kinds := [], alts := [], laidByText := true, laidKinds := [.data, .data, .data, .data, .sentinel, .sentinel, .data, .pinned], laidTests := true, laidLooks := .later }
def EntryFormsCardSaid : Prop := Claim7.holds Tryz.pinned (.plain (OpenSpec.ofChange entryFormsSpec)) entryFormsCard

/-- THE TIED CARD OF 'castellanlaw14.EntryBack'. -/
def entryBackCard : Claim7 := { stood := { row := entryBackRow, standIns := [], harness := (true, "97b1544473b9a2ae069a1c0eda15086372a29ac17eba2bff59c26832b8dcdf9a"), looks := true }, kinds := [], alts := [], laidByText := true, laidKinds := [.data, .data, .data, .data, .sentinel, .sentinel, .data, .pinned], laidTests := true, laidLooks := .later }
def EntryBackCardSaid : Prop := Claim7.holds Tryz.pinned (.plain (OpenSpec.ofChange entryBackSpec)) entryBackCard

/-- THE TIED CARD OF 'castellanlaw14.EntryGets'. -/
def entryGetsCard : Claim7 := { stood := { row := entryGetsRow, standIns := [], harness := (true, "97b1544473b9a2ae069a1c0eda15086372a29ac17eba2bff59c26832b8dcdf9a"), looks := true }, kinds := [], alts := [], laidByText := true, laidKinds := [.data, .data, .data, .data, .sentinel, .sentinel, .data, .pinned], laidTests := true, laidLooks := .later }
def EntryGetsCardSaid : Prop := Claim7.holds Tryz.pinned (.plain (OpenSpec.ofChange entryGetsSpec)) entryGetsCard

/-- THE SECOND FORM's CARD OF 'castellanlaw23.PolicyReads'. -/
def policyReadsUptoCard : Claim7 := { stood := { row := policyReadsUptoRow, standIns := [], harness := (true, "97b1544473b9a2ae069a1c0eda15086372a29ac17eba2bff59c26832b8dcdf9a"), looks := true }, kinds := [], alts := [], laidByText := true, laidKinds := [.data, .data, .data, .data, .sentinel, .sentinel, .data, .pinned], laidTests := true, laidLooks := .later }
def PolicyReadsUptoCardSaid : Prop := Claim7.holds Tryz.pinned (.plain (OpenSpec.upto policyReadsSpec)) policyReadsUptoCard

/-- THE SECOND FORM's CARD OF 'castellanlaw23.PolicyBack'. -/
def policyBackUptoCard : Claim7 := { stood := { row := policyBackUptoRow, standIns := [], harness := (true, "97b1544473b9a2ae069a1c0eda15086372a29ac17eba2bff59c26832b8dcdf9a"), looks := true }, kinds := [], alts := [], laidByText := true, laidKinds := [.data, .data, .data, .data, .sentinel, .sentinel, .data, .pinned], laidTests := true, laidLooks := .later }
def PolicyBackUptoCardSaid : Prop := Claim7.holds Tryz.pinned (.plain (OpenSpec.upto policyBackSpec)) policyBackUptoCard

/-- THE SECOND FORM's CARD OF 'castellanlaw14.EntryApplies'. -/
def entryAppliesUptoCard : Claim7 := { stood := { row := entryAppliesUptoRow, standIns := [], harness := (true, "97b1544473b9a2ae069a1c0eda15086372a29ac17eba2bff59c26832b8dcdf9a"), looks := true }, kinds := [], alts := [], laidByText := true, laidKinds := [.data, .data, .data, .data, .sentinel, .sentinel, .data, .pinned], laidTests := true, laidLooks := .later }
def EntryAppliesUptoCardSaid : Prop := Claim7.holds Tryz.pinned (.plain (OpenSpec.upto entryAppliesSpec)) entryAppliesUptoCard

/-- THE SECOND FORM's CARD OF 'castellanlaw14.EntryForms'. -/
def entryFormsUptoCard : Claim7 := { stood := { row := entryFormsUptoRow, standIns := [], harness := (true, "97b1544473b9a2ae069a1c0eda15086372a29ac17eba2bff59c26832b8dcdf9a"), looks := true }, kinds := [], alts := [], laidByText := true, laidKinds := [.data, .data, .data, .data, .sentinel, .sentinel, .data, .pinned], laidTests := true, laidLooks := .later }
def EntryFormsUptoCardSaid : Prop := Claim7.holds Tryz.pinned (.plain (OpenSpec.upto entryFormsSpec)) entryFormsUptoCard

/-- THE SECOND FORM's CARD OF 'castellanlaw14.EntryBack'. -/
def entryBackUptoCard : Claim7 := { stood := { row := entryBackUptoRow, standIns := [], harness := (true, "97b1544473b9a2ae069a1c0eda15086372a29ac17eba2bff59c26832b8dcdf9a"), looks := true }, kinds := [], alts := [], laidByText := true, laidKinds := [.data, .data, .data, .data, .sentinel, .sentinel, .data, .pinned], laidTests := true, laidLooks := .later }
def EntryBackUptoCardSaid : Prop := Claim7.holds Tryz.pinned (.plain (OpenSpec.upto entryBackSpec)) entryBackUptoCard

/-- THE SECOND FORM's CARD OF 'castellanlaw14.EntryGets'. -/
def entryGetsUptoCard : Claim7 := { stood := { row := entryGetsUptoRow, standIns := [], harness := (true, "97b1544473b9a2ae069a1c0eda15086372a29ac17eba2bff59c26832b8dcdf9a"), looks := true }, kinds := [], alts := [], laidByText := true, laidKinds := [.data, .data, .data, .data, .sentinel, .sentinel, .data, .pinned], laidTests := true, laidLooks := .later }
def EntryGetsUptoCardSaid : Prop := Claim7.holds Tryz.pinned (.plain (OpenSpec.upto entryGetsSpec)) entryGetsUptoCard
end Rows
end Go.Proofs.YtohflefnbajajaaGreatDoor
