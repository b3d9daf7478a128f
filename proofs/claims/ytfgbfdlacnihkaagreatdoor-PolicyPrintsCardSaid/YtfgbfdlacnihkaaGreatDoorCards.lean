/-
  DERIVED. GIVEN WITH THE SEED: THE CARDS: each row of YtfgbfdlacnihkaaGreatDoorRows.lean that lists a variable, with what it lists TIED to the program's text (the seventh form; the later family's looks); each row that meets fmt, with fmt's text TOLD by the authors' own Lean function (tested against real Go, not proved from fmt's source: count such statements apart). THE CARD IS WHAT COUNTS. Prove the row's statement (the work); the ties are given (YtfgbfdlacnihkaaGreatDoorTie.lean); close each card by the builder's one call (the guide's Derived/Test/ToyasCard.lean, 'card_holds'). Laid BY PROGRAM, IN A SANDBOX (cutbox-door.mjs). By AI agents, Wed Nov 11 2026. No macro, syntax, notation, axiom, sorry.
-/
import Derived.Test.YtfgbfdlacnihkaaGreatDoorRows
import GoSem.ClaimSeven
namespace Go.Proofs.YtfgbfdlacnihkaaGreatDoor
namespace Rows

/-- THE TIED CARD OF 'seepagelaw03.PolicyPrints'. -/
def policyPrintsCard : Claim7 := { stood := { row := policyPrintsRow, standIns := [], harness := (true, "cfff5dd7c3a6c1d0536ec7212d2ab3bf6a72e95a34f931327723bd8ea426e7e3"), looks := false }, kinds := [], alts := [], laidByText := true, laidKinds := [.data, .data, .data, .data, .pinned], laidTests := true, laidLooks := .later }
def PolicyPrintsCardSaid : Prop := Claim7.holds Tryz.pinned (.plain (OpenSpec.ofChange policyPrintsSpec)) policyPrintsCard

/-- THE SECOND FORM's CARD OF 'seepagelaw03.PolicyPrints'. -/
def policyPrintsUptoCard : Claim7 := { stood := { row := policyPrintsUptoRow, standIns := [], harness := (true, "cfff5dd7c3a6c1d0536ec7212d2ab3bf6a72e95a34f931327723bd8ea426e7e3"), looks := false }, kinds := [], alts := [], laidByText := true, laidKinds := [.data, .data, .data, .data, .pinned], laidTests := true, laidLooks := .later }
def PolicyPrintsUptoCardSaid : Prop := Claim7.holds Tryz.pinned (.plain (OpenSpec.upto policyPrintsSpec)) policyPrintsUptoCard
end Rows
end Go.Proofs.YtfgbfdlacnihkaaGreatDoor
