/-
  DERIVED. GIVEN WITH THE SEED: THE CARDS: each row of YtafghkbedkjpmaaDoorRows.lean that lists a variable, with what it lists TIED to the program's text (the seventh form; the later family's looks); each row that meets fmt, with fmt's text TOLD by the authors' own Lean function (tested against real Go, not proved from fmt's source: count such statements apart). THE CARD IS WHAT COUNTS. Prove the row's statement (the work); the ties are given (YtafghkbedkjpmaaDoorTie.lean); close each card by the builder's one call (the guide's Derived/Test/ToyasCard.lean, 'card_holds'). Laid BY PROGRAM, IN A SANDBOX (cutbox-door.mjs). By AI agents, Wed Nov 11 2026. No macro, syntax, notation, axiom, sorry.
-/
import Derived.Test.YtafghkbedkjpmaaDoorRows
import GoSem.ClaimSeven
namespace Go.Proofs.YtafghkbedkjpmaaDoor
namespace Rows

/-- THE TIED CARD OF 'castellanlaw23.PolicyMods'. -/
def policyModsCard : Claim7 := { stood := { row := policyModsRow, standIns := [], harness := (true, "7bec68a8916ae102d85c13243f04ebab3c8433426fd25d2d37905424a134a20b"), looks := false }, kinds := [], alts := [], laidByText := true, laidKinds := [.data, .data, .data], laidTests := true, laidLooks := .later }
def PolicyModsCardSaid : Prop := Claim7.holds Tryd.pinned (.plain (OpenSpec.ofChange policyModsSpec)) policyModsCard

/-- THE SECOND FORM's CARD OF 'castellanlaw23.PolicyMods'. -/
def policyModsUptoCard : Claim7 := { stood := { row := policyModsUptoRow, standIns := [], harness := (true, "7bec68a8916ae102d85c13243f04ebab3c8433426fd25d2d37905424a134a20b"), looks := false }, kinds := [], alts := [], laidByText := true, laidKinds := [.data, .data, .data], laidTests := true, laidLooks := .later }
def PolicyModsUptoCardSaid : Prop := Claim7.holds Tryd.pinned (.plain (OpenSpec.upto policyModsSpec)) policyModsUptoCard
end Rows
end Go.Proofs.YtafghkbedkjpmaaDoor
