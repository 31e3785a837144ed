/-
  DERIVED. GIVEN WITH THE SEED: THE CARDS: each row of YtkmfnbhdjijlnaaGreatDoorRows.lean that lists a variable, with what it lists TIED to the program's text (the seventh form; the later family's looks); each row that meets fmt, with fmt's text TOLD by the authors' own Lean function (tested against real Go, not proved from fmt's source: count such statements apart). THE CARD IS WHAT COUNTS. Prove the row's statement (the work); the ties are given (YtkmfnbhdjijlnaaGreatDoorTie.lean); close each card by the builder's one call (the guide's Derived/Test/ToyasCard.lean, 'card_holds'). Laid BY PROGRAM, IN A SANDBOX (cutbox-door.mjs). By AI agents, Wed Nov 11 2026. No macro, syntax, notation, axiom, sorry.
-/
import Derived.Test.YtkmfnbhdjijlnaaGreatDoorRows
import GoSem.ClaimSeven
namespace Go.Proofs.YtkmfnbhdjijlnaaGreatDoor
namespace Rows

/-- THE TIED CARD OF 'castellanlaw19.IndexNil'. -/
def indexNilCard : Claim7 := { stood := { row := indexNilRow, standIns := [], harness := (true, "de5feeaea3c6997814251008239d40aec5691029742cbe8699034cb7aa74233e"), looks := true }, kinds := [], alts := [], laidByText := true, laidKinds := [.data, .data, .data, .data, .sentinel, .sentinel, .data, .pinned], laidTests := true, laidLooks := .later }
def IndexNilCardSaid : Prop := Claim7.holds Tryz.pinned (.plain (OpenSpec.ofChange indexNilSpec)) indexNilCard

/-- THE TIED CARD OF 'castellanlaw21.TruthTables'. -/
def truthTablesCard : Claim7 := { stood := { row := truthTablesRow, standIns := [], harness := (true, "de5feeaea3c6997814251008239d40aec5691029742cbe8699034cb7aa74233e"), looks := true }, kinds := [], alts := [], laidByText := true, laidKinds := [.data, .data, .data, .data, .sentinel, .sentinel, .data, .pinned], laidTests := true, laidLooks := .later }
def TruthTablesCardSaid : Prop := Claim7.holds Tryz.pinned (.plain (OpenSpec.ofChange truthTablesSpec)) truthTablesCard

/-- THE TIED CARD OF 'castellanlaw20.PlanLists'. -/
def planListsCard : Claim7 := { stood := { row := planListsRow, standIns := [], harness := (true, "de5feeaea3c6997814251008239d40aec5691029742cbe8699034cb7aa74233e"), looks := true }, kinds := [], alts := [], laidByText := true, laidKinds := [.data, .data, .data, .data, .sentinel, .sentinel, .data, .pinned], laidTests := true, laidLooks := .later }
def PlanListsCardSaid : Prop := Claim7.holds Tryz.pinned (.plain (OpenSpec.ofChange planListsSpec)) planListsCard

/-- THE TIED CARD OF 'castellanlaw20.PlanOwn'. -/
def planOwnCard : Claim7 := { stood := { row := planOwnRow, standIns := [], harness := (true, "de5feeaea3c6997814251008239d40aec5691029742cbe8699034cb7aa74233e"), looks := true }, kinds := [], alts := [], laidByText := true, laidKinds := [.data, .data, .data, .data, .sentinel, .sentinel, .data, .pinned], laidTests := true, laidLooks := .later }
def PlanOwnCardSaid : Prop := Claim7.holds Tryz.pinned (.plain (OpenSpec.ofChange planOwnSpec)) planOwnCard

/-- THE TIED CARD OF 'castellanlaw18.StoreNil'. -/
def storeNilCard : Claim7 := { stood := { row := storeNilRow, standIns := [], harness := (true, "de5feeaea3c6997814251008239d40aec5691029742cbe8699034cb7aa74233e"), looks := true }, kinds := [], alts := [], laidByText := true, laidKinds := [.data, .pinned], laidTests := true, laidLooks := .later }
def StoreNilCardSaid : Prop := Claim7.holds Tryz.pinned (.plain (OpenSpec.ofChange storeNilSpec)) storeNilCard

/-- THE SECOND FORM's CARD OF 'castellanlaw19.IndexNil'. -/
def indexNilUptoCard : Claim7 := { stood := { row := indexNilUptoRow, standIns := [], harness := (true, "de5feeaea3c6997814251008239d40aec5691029742cbe8699034cb7aa74233e"), looks := true }, kinds := [], alts := [], laidByText := true, laidKinds := [.data, .data, .data, .data, .sentinel, .sentinel, .data, .pinned], laidTests := true, laidLooks := .later }
def IndexNilUptoCardSaid : Prop := Claim7.holds Tryz.pinned (.plain (OpenSpec.upto indexNilSpec)) indexNilUptoCard

/-- THE SECOND FORM's CARD OF 'castellanlaw21.TruthTables'. -/
def truthTablesUptoCard : Claim7 := { stood := { row := truthTablesUptoRow, standIns := [], harness := (true, "de5feeaea3c6997814251008239d40aec5691029742cbe8699034cb7aa74233e"), looks := true }, kinds := [], alts := [], laidByText := true, laidKinds := [.data, .data, .data, .data, .sentinel, .sentinel, .data, .pinned], laidTests := true, laidLooks := .later }
def TruthTablesUptoCardSaid : Prop := Claim7.holds Tryz.pinned (.plain (OpenSpec.upto truthTablesSpec)) truthTablesUptoCard

/-- THE SECOND FORM's CARD OF 'castellanlaw20.PlanLists'. -/
def planListsUptoCard : Claim7 := { stood := { row := planListsUptoRow, standIns := [], harness := (true, "de5feeaea3c6997814251008239d40aec5691029742cbe8699034cb7aa74233e"), looks := true }, kinds := [], alts := [], laidByText := true, laidKinds := [.data, .data, .data, .data, .sentinel, .sentinel, .data, .pinned], laidTests := true, laidLooks := .later }
def PlanListsUptoCardSaid : Prop := Claim7.holds Tryz.pinned (.plain (OpenSpec.upto planListsSpec)) planListsUptoCard

/-- THE SECOND FORM's CARD OF 'castellanlaw20.PlanOwn'. -/
def planOwnUptoCard : Claim7 := { stood := { row := planOwnUptoRow, standIns := [], harness := (true, "de5feeaea3c6997814251008239d40aec5691029742cbe8699034cb7aa74233e"), looks := true }, kinds := [], alts := [], laidByText := true, laidKinds := [.data, .data, .data, .data, .sentinel, .sentinel, .data, .pinned], laidTests := true, laidLooks := .later }
def PlanOwnUptoCardSaid : Prop := Claim7.holds Tryz.pinned (.plain (OpenSpec.upto planOwnSpec)) planOwnUptoCard

/-- THE SECOND FORM's CARD OF 'castellanlaw18.StoreNil'. -/
def storeNilUptoCard : Claim7 := { stood := { row := storeNilUptoRow, standIns := [], harness := (true, "de5feeaea3c6997814251008239d40aec5691029742cbe8699034cb7aa74233e"), looks := true }, kinds := [], alts := [], laidByText := true, laidKinds := [.data, .pinned], laidTests := true, laidLooks := .later }
def StoreNilUptoCardSaid : Prop := Claim7.holds Tryz.pinned (.plain (OpenSpec.upto storeNilSpec)) storeNilUptoCard
end Rows
end Go.Proofs.YtkmfnbhdjijlnaaGreatDoor
