/-
  DERIVED. GIVEN WITH THE SEED: THE CARDS: each row of YtpednpndahgleaaGreatDoorRows.lean that lists a variable, with what it lists TIED to the program's text (the seventh form; the later family's looks); each row that meets fmt, with fmt's text TOLD by the authors' own Lean function (tested against real Go, not proved from fmt's source: count such statements apart). THE CARD IS WHAT COUNTS. Prove the row's statement (the work); the ties are given (YtpednpndahgleaaGreatDoorTie.lean); close each card by the builder's one call (the guide's Derived/Test/ToyasCard.lean, 'card_holds'). Laid BY PROGRAM, IN A SANDBOX (cutbox-door.mjs). By AI agents, Wed Nov 11 2026. No macro, syntax, notation, axiom, sorry.
-/
import Derived.Test.YtpednpndahgleaaGreatDoorRows
import GoSem.ClaimSeven
namespace Go.Proofs.YtpednpndahgleaaGreatDoor
namespace Rows

/-- THE TIED CARD OF 'castellanlaw12.SyntaxNumbers'. -/
def syntaxNumbersCard : Claim7 := { stood := { row := syntaxNumbersRow, standIns := [], harness := (true, "948d8838da1d5230734eb5b2056f7f40048d98f355a1e0648a41a7238aed9cca"), looks := true }, kinds := [], alts := [], laidByText := true, laidKinds := [.data, .data, .data, .data, .sentinel, .sentinel, .data, .pinned], laidTests := true, laidLooks := .later }
def SyntaxNumbersCardSaid : Prop := Claim7.holds Tryz.pinned (.plain (OpenSpec.ofChange syntaxNumbersSpec)) syntaxNumbersCard

/-- THE TIED CARD OF 'castellanlaw19.IndexNil'. -/
def indexNilCard : Claim7 := { stood := { row := indexNilRow, standIns := [], harness := (true, "948d8838da1d5230734eb5b2056f7f40048d98f355a1e0648a41a7238aed9cca"), looks := true }, kinds := [], alts := [], laidByText := true, laidKinds := [.data, .data, .data, .data, .sentinel, .sentinel, .data, .pinned], laidTests := true, laidLooks := .later }
def IndexNilCardSaid : Prop := Claim7.holds Tryz.pinned (.plain (OpenSpec.ofChange indexNilSpec)) indexNilCard

/-- THE TIED CARD OF 'castellanlaw20.PlanLists'. -/
def planListsCard : Claim7 := { stood := { row := planListsRow, standIns := [], harness := (true, "948d8838da1d5230734eb5b2056f7f40048d98f355a1e0648a41a7238aed9cca"), looks := true }, kinds := [], alts := [], laidByText := true, laidKinds := [.data, .data, .data, .data, .sentinel, .sentinel, .data, .pinned], laidTests := true, laidLooks := .later }
def PlanListsCardSaid : Prop := Claim7.holds Tryz.pinned (.plain (OpenSpec.ofChange planListsSpec)) planListsCard

/-- THE TIED CARD OF 'castellanlaw20.PlanOwn'. -/
def planOwnCard : Claim7 := { stood := { row := planOwnRow, standIns := [], harness := (true, "948d8838da1d5230734eb5b2056f7f40048d98f355a1e0648a41a7238aed9cca"), looks := true }, kinds := [], alts := [], laidByText := true, laidKinds := [.data, .data, .data, .data, .sentinel, .sentinel, .data, .pinned], laidTests := true, laidLooks := .later }
def PlanOwnCardSaid : Prop := Claim7.holds Tryz.pinned (.plain (OpenSpec.ofChange planOwnSpec)) planOwnCard

/-- THE SECOND FORM's CARD OF 'castellanlaw12.SyntaxNumbers'. -/
def syntaxNumbersUptoCard : Claim7 := { stood := { row := syntaxNumbersUptoRow, standIns := [], harness := (true, "948d8838da1d5230734eb5b2056f7f40048d98f355a1e0648a41a7238aed9cca"), looks := true }, kinds := [], alts := [], laidByText := true, laidKinds := [.data, .data, .data, .data, .sentinel, .sentinel, .data, .pinned], laidTests := true, laidLooks := .later }
def SyntaxNumbersUptoCardSaid : Prop := Claim7.holds Tryz.pinned (.plain (OpenSpec.upto syntaxNumbersSpec)) syntaxNumbersUptoCard

/-- THE SECOND FORM's CARD OF 'castellanlaw19.IndexNil'. -/
def indexNilUptoCard : Claim7 := { stood := { row := indexNilUptoRow, standIns := [], harness := (true, "948d8838da1d5230734eb5b2056f7f40048d98f355a1e0648a41a7238aed9cca"), looks := true }, kinds := [], alts := [], laidByText := true, laidKinds := [.data, .data, .data, .data, .sentinel, .sentinel, .data, .pinned], laidTests := true, laidLooks := .later }
def IndexNilUptoCardSaid : Prop := Claim7.holds Tryz.pinned (.plain (OpenSpec.upto indexNilSpec)) indexNilUptoCard

/-- THE SECOND FORM's CARD OF 'castellanlaw20.PlanLists'. -/
def planListsUptoCard : Claim7 := { stood := { row := planListsUptoRow, standIns := [], harness := (true, "948d8838da1d5230734eb5b2056f7f40048d98f355a1e0648a41a7238aed9cca"), looks := true }, kinds := [], alts := [], laidByText := true, laidKinds := [.data, .data, .data, .data, .sentinel, .sentinel, .data, .pinned], laidTests := true, laidLooks := .later }
def PlanListsUptoCardSaid : Prop := Claim7.holds Tryz.pinned (.plain (OpenSpec.upto planListsSpec)) planListsUptoCard

/-- THE SECOND FORM's CARD OF 'castellanlaw20.PlanOwn'. -/
def planOwnUptoCard : Claim7 := { stood := { row := planOwnUptoRow, standIns := [], harness := (true, "948d8838da1d5230734eb5b2056f7f40048d98f355a1e0648a41a7238aed9cca"), looks := true }, kinds := [], alts := [], laidByText := true, laidKinds := [.data, .data, .data, .data, .sentinel, .sentinel, .data, .pinned], laidTests := true, laidLooks := .later }
def PlanOwnUptoCardSaid : Prop := Claim7.holds Tryz.pinned (.plain (OpenSpec.upto planOwnSpec)) planOwnUptoCard
end Rows
end Go.Proofs.YtpednpndahgleaaGreatDoor
