/-
  DERIVED. GIVEN WITH THE SEED: THE CARDS: each row of YtajkbcmleihaoaaGreatDoorRows.lean that lists a variable, with what it lists TIED to the program's text (the seventh form; the later family's looks); each row that meets fmt, with fmt's text TOLD by the authors' own Lean function (tested against real Go, not proved from fmt's source: count such statements apart). THE CARD IS WHAT COUNTS. Prove the row's statement (the work); the ties are given (YtajkbcmleihaoaaGreatDoorTie.lean); close each card by the builder's one call (the guide's Derived/Test/ToyasCard.lean, 'card_holds'). Laid BY PROGRAM, IN A SANDBOX (cutbox-door.mjs). By AI agents, Wed Nov 11 2026. No macro, syntax, notation, axiom, sorry.
-/
import Derived.Test.YtajkbcmleihaoaaGreatDoorRows
import GoSem.ClaimSeven
namespace Go.Proofs.YtajkbcmleihaoaaGreatDoor
namespace Rows

/-- THE TIED CARD OF 'castellanlaw18.StoreFull'. -/
def storeFullCard : Claim7 := { stood := { row := storeFullRow, standIns := [], harness := (true, "c9464f097b4dbea129268afc679ba76a32ec93db05d29edf4de38246d376a106"), looks := false }, kinds := [], alts := [], laidByText := true, laidKinds := [.data, .pinned], laidTests := true, laidLooks := .later }
def StoreFullCardSaid : Prop := Claim7.holds Tryz.pinned (.plain (OpenSpec.ofChange storeFullSpec)) storeFullCard

/-- THE TIED CARD OF 'castellanlaw18.StoreAgain'. -/
def storeAgainCard : Claim7 := { stood := { row := storeAgainRow, standIns := [], harness := (true, "c9464f097b4dbea129268afc679ba76a32ec93db05d29edf4de38246d376a106"), looks := false }, kinds := [], alts := [], laidByText := true, laidKinds := [.data, .pinned], laidTests := true, laidLooks := .later }
def StoreAgainCardSaid : Prop := Claim7.holds Tryz.pinned (.plain (OpenSpec.ofChange storeAgainSpec)) storeAgainCard

/-- THE TIED CARD OF 'castellanlaw18.StoreNil'. -/
def storeNilCard : Claim7 := { stood := { row := storeNilRow, standIns := [], harness := (true, "c9464f097b4dbea129268afc679ba76a32ec93db05d29edf4de38246d376a106"), looks := false }, kinds := [], alts := [], laidByText := true, laidKinds := [.data, .pinned], laidTests := true, laidLooks := .later }
def StoreNilCardSaid : Prop := Claim7.holds Tryz.pinned (.plain (OpenSpec.ofChange storeNilSpec)) storeNilCard

/-- THE SECOND FORM's CARD OF 'castellanlaw18.StoreFull'. -/
def storeFullUptoCard : Claim7 := { stood := { row := storeFullUptoRow, standIns := [], harness := (true, "c9464f097b4dbea129268afc679ba76a32ec93db05d29edf4de38246d376a106"), looks := false }, kinds := [], alts := [], laidByText := true, laidKinds := [.data, .pinned], laidTests := true, laidLooks := .later }
def StoreFullUptoCardSaid : Prop := Claim7.holds Tryz.pinned (.plain (OpenSpec.upto storeFullSpec)) storeFullUptoCard

/-- THE SECOND FORM's CARD OF 'castellanlaw18.StoreAgain'. -/
def storeAgainUptoCard : Claim7 := { stood := { row := storeAgainUptoRow, standIns := [], harness := (true, "c9464f097b4dbea129268afc679ba76a32ec93db05d29edf4de38246d376a106"), looks := false }, kinds := [], alts := [], laidByText := true, laidKinds := [.data, .pinned], laidTests := true, laidLooks := .later }
def StoreAgainUptoCardSaid : Prop := Claim7.holds Tryz.pinned (.plain (OpenSpec.upto storeAgainSpec)) storeAgainUptoCard

/-- THE SECOND FORM's CARD OF 'castellanlaw18.StoreNil'. -/
def storeNilUptoCard : Claim7 := { stood := { row := storeNilUptoRow, standIns := [], harness := (true, "c9464f097b4dbea129268afc679ba76a32ec93db05d29edf4de38246d376a106"), looks := false }, kinds := [], alts := [], laidByText := true, laidKinds := [.data, .pinned], laidTests := true, laidLooks := .later }
def StoreNilUptoCardSaid : Prop := Claim7.holds Tryz.pinned (.plain (OpenSpec.upto storeNilSpec)) storeNilUptoCard
end Rows
end Go.Proofs.YtajkbcmleihaoaaGreatDoor
