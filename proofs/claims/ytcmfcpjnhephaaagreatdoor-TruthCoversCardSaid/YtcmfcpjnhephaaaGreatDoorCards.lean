/-
  DERIVED. GIVEN WITH THE SEED: THE CARDS: each row of YtcmfcpjnhephaaaGreatDoorRows.lean that lists a variable, with what it lists TIED to the program's text (the seventh form; the later family's looks); each row that meets fmt, with fmt's text TOLD by the authors' own Lean function (tested against real Go, not proved from fmt's source: count such statements apart). THE CARD IS WHAT COUNTS. Prove the row's statement (the work); the ties are given (YtcmfcpjnhephaaaGreatDoorTie.lean); close each card by the builder's one call (the guide's Derived/Test/ToyasCard.lean, 'card_holds'). Laid BY PROGRAM, IN A SANDBOX (cutbox-door.mjs). By AI agents, Wed Nov 11 2026. No macro, syntax, notation, axiom, sorry.
-/
import Derived.Test.YtcmfcpjnhephaaaGreatDoorRows
import GoSem.ClaimSeven
namespace Go.Proofs.YtcmfcpjnhephaaaGreatDoor
namespace Rows

/-- THE TIED CARD OF 'castellanlaw19.IndexCovers'. -/
def indexCoversCard : Claim7 := { stood := { row := indexCoversRow, standIns := [], harness := (true, "7e03bcf94e61eb8c66a63b01e1edef9d34d84bce1d3316d3f0cd5bd62f737d6a"), looks := true }, kinds := [], alts := [], laidByText := true, laidKinds := [.data, .data, .data, .data, .sentinel, .sentinel, .data, .pinned], laidTests := true, laidLooks := .later }
def IndexCoversCardSaid : Prop := Claim7.holds Tryz.pinned (.plain (OpenSpec.ofChange indexCoversSpec)) indexCoversCard

/-- THE TIED CARD OF 'castellanlaw19.IndexFresh'. -/
def indexFreshCard : Claim7 := { stood := { row := indexFreshRow, standIns := [], harness := (true, "7e03bcf94e61eb8c66a63b01e1edef9d34d84bce1d3316d3f0cd5bd62f737d6a"), looks := true }, kinds := [], alts := [], laidByText := true, laidKinds := [.data, .data, .data, .data, .sentinel, .sentinel, .data, .pinned], laidTests := true, laidLooks := .later }
def IndexFreshCardSaid : Prop := Claim7.holds Tryz.pinned (.plain (OpenSpec.ofChange indexFreshSpec)) indexFreshCard

/-- THE TIED CARD OF 'castellanlaw20.PlanAmongs'. -/
def planAmongsCard : Claim7 := { stood := { row := planAmongsRow, standIns := [], harness := (true, "7e03bcf94e61eb8c66a63b01e1edef9d34d84bce1d3316d3f0cd5bd62f737d6a"), looks := true }, kinds := [], alts := [], laidByText := true, laidKinds := [.data, .data, .data, .data, .sentinel, .sentinel, .data, .pinned], laidTests := true, laidLooks := .later }
def PlanAmongsCardSaid : Prop := Claim7.holds Tryz.pinned (.plain (OpenSpec.ofChange planAmongsSpec)) planAmongsCard

/-- THE TIED CARD OF 'castellanlaw20.PlanWidens'. -/
def planWidensCard : Claim7 := { stood := { row := planWidensRow, standIns := [], harness := (true, "7e03bcf94e61eb8c66a63b01e1edef9d34d84bce1d3316d3f0cd5bd62f737d6a"), looks := true }, kinds := [], alts := [], laidByText := true, laidKinds := [.data, .data, .data, .data, .sentinel, .sentinel, .data, .pinned], laidTests := true, laidLooks := .later }
def PlanWidensCardSaid : Prop := Claim7.holds Tryz.pinned (.plain (OpenSpec.ofChange planWidensSpec)) planWidensCard

/-- THE TIED CARD OF 'castellanlaw21.TruthCovers'. -/
def truthCoversCard : Claim7 := { stood := { row := truthCoversRow, standIns := [], harness := (true, "7e03bcf94e61eb8c66a63b01e1edef9d34d84bce1d3316d3f0cd5bd62f737d6a"), looks := true }, kinds := [], alts := [], laidByText := true, laidKinds := [.data, .data, .data, .data, .sentinel, .sentinel, .data, .pinned], laidTests := true, laidLooks := .later }
def TruthCoversCardSaid : Prop := Claim7.holds Tryz.pinned (.plain (OpenSpec.ofChange truthCoversSpec)) truthCoversCard

/-- THE SECOND FORM's CARD OF 'castellanlaw19.IndexCovers'. -/
def indexCoversUptoCard : Claim7 := { stood := { row := indexCoversUptoRow, standIns := [], harness := (true, "7e03bcf94e61eb8c66a63b01e1edef9d34d84bce1d3316d3f0cd5bd62f737d6a"), looks := true }, kinds := [], alts := [], laidByText := true, laidKinds := [.data, .data, .data, .data, .sentinel, .sentinel, .data, .pinned], laidTests := true, laidLooks := .later }
def IndexCoversUptoCardSaid : Prop := Claim7.holds Tryz.pinned (.plain (OpenSpec.upto indexCoversSpec)) indexCoversUptoCard

/-- THE SECOND FORM's CARD OF 'castellanlaw19.IndexFresh'. -/
def indexFreshUptoCard : Claim7 := { stood := { row := indexFreshUptoRow, standIns := [], harness := (true, "7e03bcf94e61eb8c66a63b01e1edef9d34d84bce1d3316d3f0cd5bd62f737d6a"), looks := true }, kinds := [], alts := [], laidByText := true, laidKinds := [.data, .data, .data, .data, .sentinel, .sentinel, .data, .pinned], laidTests := true, laidLooks := .later }
def IndexFreshUptoCardSaid : Prop := Claim7.holds Tryz.pinned (.plain (OpenSpec.upto indexFreshSpec)) indexFreshUptoCard

/-- THE SECOND FORM's CARD OF 'castellanlaw20.PlanAmongs'. -/
def planAmongsUptoCard : Claim7 := { stood := { row := planAmongsUptoRow, standIns := [], harness := (true, "7e03bcf94e61eb8c66a63b01e1edef9d34d84bce1d3316d3f0cd5bd62f737d6a"), looks := true }, kinds := [], alts := [], laidByText := true, laidKinds := [.data, .data, .data, .data, .sentinel, .sentinel, .data, .pinned], laidTests := true, laidLooks := .later }
def PlanAmongsUptoCardSaid : Prop := Claim7.holds Tryz.pinned (.plain (OpenSpec.upto planAmongsSpec)) planAmongsUptoCard

/-- THE SECOND FORM's CARD OF 'castellanlaw20.PlanWidens'. -/
def planWidensUptoCard : Claim7 := { stood := { row := planWidensUptoRow, standIns := [], harness := (true, "7e03bcf94e61eb8c66a63b01e1edef9d34d84bce1d3316d3f0cd5bd62f737d6a"), looks := true }, kinds := [], alts := [], laidByText := true, laidKinds := [.data, .data, .data, .data, .sentinel, .sentinel, .data, .pinned], laidTests := true, laidLooks := .later }
def PlanWidensUptoCardSaid : Prop := Claim7.holds Tryz.pinned (.plain (OpenSpec.upto planWidensSpec)) planWidensUptoCard

/-- THE SECOND FORM's CARD OF 'castellanlaw21.TruthCovers'. -/
def truthCoversUptoCard : Claim7 := { stood := { row := truthCoversUptoRow, standIns := [], harness := (true, "7e03bcf94e61eb8c66a63b01e1edef9d34d84bce1d3316d3f0cd5bd62f737d6a"), looks := true }, kinds := [], alts := [], laidByText := true, laidKinds := [.data, .data, .data, .data, .sentinel, .sentinel, .data, .pinned], laidTests := true, laidLooks := .later }
def TruthCoversUptoCardSaid : Prop := Claim7.holds Tryz.pinned (.plain (OpenSpec.upto truthCoversSpec)) truthCoversUptoCard
end Rows
end Go.Proofs.YtcmfcpjnhephaaaGreatDoor
