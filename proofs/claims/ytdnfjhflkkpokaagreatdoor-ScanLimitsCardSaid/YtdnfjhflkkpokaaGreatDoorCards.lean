/-
  DERIVED. GIVEN WITH THE SEED: THE CARDS: each row of YtdnfjhflkkpokaaGreatDoorRows.lean that lists a variable, with what it lists TIED to the program's text (the seventh form; the later family's looks); each row that meets fmt, with fmt's text TOLD by the authors' own Lean function (tested against real Go, not proved from fmt's source: count such statements apart). THE CARD IS WHAT COUNTS. Prove the row's statement (the work); the ties are given (YtdnfjhflkkpokaaGreatDoorTie.lean); close each card by the builder's one call (the guide's Derived/Test/ToyasCard.lean, 'card_holds'). Laid BY PROGRAM, IN A SANDBOX (cutbox-door.mjs). By AI agents, Wed Nov 11 2026. No macro, syntax, notation, axiom, sorry.
-/
import Derived.Test.YtdnfjhflkkpokaaGreatDoorRows
import GoSem.ClaimSeven
namespace Go.Proofs.YtdnfjhflkkpokaaGreatDoor
namespace Rows

/-- THE TIED CARD OF 'castellanlaw24.ScanSees'. -/
def scanSeesCard : Claim7 := { stood := { row := scanSeesRow, standIns := [], harness := (true, "81ea981b1c8019b3a622f0953f98979c701b2ed56ef4bb17e48fd5016d917f26"), looks := true }, kinds := [], alts := [], laidByText := true, laidKinds := [.data, .data, .data, .data, .sentinel, .sentinel, .data, .pinned], laidTests := true, laidLooks := .later }
def ScanSeesCardSaid : Prop := Claim7.holds Tryz.pinned (.plain (OpenSpec.ofChange scanSeesSpec)) scanSeesCard

/-- THE TIED CARD OF 'castellanlaw24.ScanPicks'. -/
def scanPicksCard : Claim7 := { stood := { row := scanPicksRow, standIns := [], harness := (true, "81ea981b1c8019b3a622f0953f98979c701b2ed56ef4bb17e48fd5016d917f26"), looks := true }, kinds := [], alts := [], laidByText := true, laidKinds := [.data, .data, .data, .data, .sentinel, .sentinel, .data, .pinned], laidTests := true, laidLooks := .later }
def ScanPicksCardSaid : Prop := Claim7.holds Tryz.pinned (.plain (OpenSpec.ofChange scanPicksSpec)) scanPicksCard

/-- THE TIED CARD OF 'castellanlaw24.ScanLimits'. -/
def scanLimitsCard : Claim7 := { stood := { row := scanLimitsRow, standIns := [], harness := (true, "81ea981b1c8019b3a622f0953f98979c701b2ed56ef4bb17e48fd5016d917f26"), looks := true }, kinds := [], alts := [], laidByText := true, laidKinds := [.data, .data, .data, .data, .sentinel, .sentinel, .data, .pinned], laidTests := true, laidLooks := .later }
def ScanLimitsCardSaid : Prop := Claim7.holds Tryz.pinned (.plain (OpenSpec.ofChange scanLimitsSpec)) scanLimitsCard

/-- THE TIED CARD OF 'castellanlaw24.ScanExact'. -/
def scanExactCard : Claim7 := { stood := { row := scanExactRow, standIns := [], harness := (true, "81ea981b1c8019b3a622f0953f98979c701b2ed56ef4bb17e48fd5016d917f26"), looks := true }, kinds := [], alts := [], laidByText := true, laidKinds := [.data, .data, .data, .data, .sentinel, .sentinel, .data, .pinned], laidTests := true, laidLooks := .later }
def ScanExactCardSaid : Prop := Claim7.holds Tryz.pinned (.plain (OpenSpec.ofChange scanExactSpec)) scanExactCard

/-- THE SECOND FORM's CARD OF 'castellanlaw24.ScanSees'. -/
def scanSeesUptoCard : Claim7 := { stood := { row := scanSeesUptoRow, standIns := [], harness := (true, "81ea981b1c8019b3a622f0953f98979c701b2ed56ef4bb17e48fd5016d917f26"), looks := true }, kinds := [], alts := [], laidByText := true, laidKinds := [.data, .data, .data, .data, .sentinel, .sentinel, .data, .pinned], laidTests := true, laidLooks := .later }
def ScanSeesUptoCardSaid : Prop := Claim7.holds Tryz.pinned (.plain (OpenSpec.upto scanSeesSpec)) scanSeesUptoCard

/-- THE SECOND FORM's CARD OF 'castellanlaw24.ScanPicks'. -/
def scanPicksUptoCard : Claim7 := { stood := { row := scanPicksUptoRow, standIns := [], harness := (true, "81ea981b1c8019b3a622f0953f98979c701b2ed56ef4bb17e48fd5016d917f26"), looks := true }, kinds := [], alts := [], laidByText := true, laidKinds := [.data, .data, .data, .data, .sentinel, .sentinel, .data, .pinned], laidTests := true, laidLooks := .later }
def ScanPicksUptoCardSaid : Prop := Claim7.holds Tryz.pinned (.plain (OpenSpec.upto scanPicksSpec)) scanPicksUptoCard

/-- THE SECOND FORM's CARD OF 'castellanlaw24.ScanLimits'. -/
def scanLimitsUptoCard : Claim7 := { stood := { row := scanLimitsUptoRow, standIns := [], harness := (true, "81ea981b1c8019b3a622f0953f98979c701b2ed56ef4bb17e48fd5016d917f26"), looks := true }, kinds := [], alts := [], laidByText := true, laidKinds := [.data, .data, .data, .data, .sentinel, .sentinel, .data, .pinned], laidTests := true, laidLooks := .later }
def ScanLimitsUptoCardSaid : Prop := Claim7.holds Tryz.pinned (.plain (OpenSpec.upto scanLimitsSpec)) scanLimitsUptoCard

/-- THE SECOND FORM's CARD OF 'castellanlaw24.ScanExact'. -/
def scanExactUptoCard : Claim7 := { stood := { row := scanExactUptoRow, standIns := [], harness := (true, "81ea981b1c8019b3a622f0953f98979c701b2ed56ef4bb17e48fd5016d917f26"), looks := true }, kinds := [], alts := [], laidByText := true, laidKinds := [.data, .data, .data, .data, .sentinel, .sentinel, .data, .pinned], laidTests := true, laidLooks := .later }
def ScanExactUptoCardSaid : Prop := Claim7.holds Tryz.pinned (.plain (OpenSpec.upto scanExactSpec)) scanExactUptoCard
end Rows
end Go.Proofs.YtdnfjhflkkpokaaGreatDoor
