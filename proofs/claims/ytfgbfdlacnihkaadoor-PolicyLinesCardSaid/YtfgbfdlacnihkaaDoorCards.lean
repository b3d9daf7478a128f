/-
  DERIVED. GIVEN WITH THE SEED: THE CARDS: each row of YtfgbfdlacnihkaaDoorRows.lean that lists a variable, with what it lists TIED to the program's text (the seventh form; the later family's looks); each row that meets fmt, with fmt's text TOLD by the authors' own Lean function (tested against real Go, not proved from fmt's source: count such statements apart). THE CARD IS WHAT COUNTS. Prove the row's statement (the work); the ties are given (YtfgbfdlacnihkaaDoorTie.lean); close each card by the builder's one call (the guide's Derived/Test/ToyasCard.lean, 'card_holds'). Laid BY PROGRAM, IN A SANDBOX (cutbox-door.mjs). By AI agents, Wed Nov 11 2026. No macro, syntax, notation, axiom, sorry.
-/
import Derived.Test.YtfgbfdlacnihkaaDoorRows
import GoSem.ClaimSeven
namespace Go.Proofs.YtfgbfdlacnihkaaDoor
namespace Rows

/-- THE TIED CARD OF 'seepagelaw03.PolicyParses'. -/
def policyParsesCard : Claim7 := { stood := { row := policyParsesRow, standIns := [], harness := (true, "f44089ce474c402202a3bafec72fa66a7f2aef18a8853520bd5d5a8a2b0b9148"), looks := false }, kinds := [], alts := [], laidByText := true, laidKinds := [.data, .data, .data, .data, .pinned], laidTests := true, laidLooks := .later }
def PolicyParsesCardSaid : Prop := Claim7.holds Tryd.pinned (.plain (OpenSpec.ofChange policyParsesSpec)) policyParsesCard

/-- THE TIED CARD OF 'seepagelaw03.PolicyPlaces'. -/
def policyPlacesCard : Claim7 := { stood := { row := policyPlacesRow, standIns := [], harness := (true, "f44089ce474c402202a3bafec72fa66a7f2aef18a8853520bd5d5a8a2b0b9148"), looks := false }, kinds := [], alts := [], laidByText := true, laidKinds := [.data, .data, .data, .data, .pinned], laidTests := true, laidLooks := .later }
def PolicyPlacesCardSaid : Prop := Claim7.holds Tryd.pinned (.plain (OpenSpec.ofChange policyPlacesSpec)) policyPlacesCard

/-- THE TIED CARD OF 'seepagelaw03.PolicyLines'. -/
def policyLinesCard : Claim7 := { stood := { row := policyLinesRow, standIns := [], harness := (true, "f44089ce474c402202a3bafec72fa66a7f2aef18a8853520bd5d5a8a2b0b9148"), looks := false }, kinds := [], alts := [], laidByText := true, laidKinds := [.data, .data, .data, .data, .pinned], laidTests := true, laidLooks := .later }
def PolicyLinesCardSaid : Prop := Claim7.holds Tryd.pinned (.plain (OpenSpec.ofChange policyLinesSpec)) policyLinesCard

/-- THE TIED CARD OF 'seepagelaw03.PolicyJoins'. -/
def policyJoinsCard : Claim7 := { stood := { row := policyJoinsRow, standIns := [], harness := (true, "f44089ce474c402202a3bafec72fa66a7f2aef18a8853520bd5d5a8a2b0b9148"), looks := false }, kinds := [], alts := [], laidByText := true, laidKinds := [.data, .data, .data, .data, .pinned], laidTests := true, laidLooks := .later }
def PolicyJoinsCardSaid : Prop := Claim7.holds Tryd.pinned (.plain (OpenSpec.ofChange policyJoinsSpec)) policyJoinsCard

/-- THE SECOND FORM's CARD OF 'seepagelaw03.PolicyParses'. -/
def policyParsesUptoCard : Claim7 := { stood := { row := policyParsesUptoRow, standIns := [], harness := (true, "f44089ce474c402202a3bafec72fa66a7f2aef18a8853520bd5d5a8a2b0b9148"), looks := false }, kinds := [], alts := [], laidByText := true, laidKinds := [.data, .data, .data, .data, .pinned], laidTests := true, laidLooks := .later }
def PolicyParsesUptoCardSaid : Prop := Claim7.holds Tryd.pinned (.plain (OpenSpec.upto policyParsesSpec)) policyParsesUptoCard

/-- THE SECOND FORM's CARD OF 'seepagelaw03.PolicyPlaces'. -/
def policyPlacesUptoCard : Claim7 := { stood := { row := policyPlacesUptoRow, standIns := [], harness := (true, "f44089ce474c402202a3bafec72fa66a7f2aef18a8853520bd5d5a8a2b0b9148"), looks := false }, kinds := [], alts := [], laidByText := true, laidKinds := [.data, .data, .data, .data, .pinned], laidTests := true, laidLooks := .later }
def PolicyPlacesUptoCardSaid : Prop := Claim7.holds Tryd.pinned (.plain (OpenSpec.upto policyPlacesSpec)) policyPlacesUptoCard

/-- THE SECOND FORM's CARD OF 'seepagelaw03.PolicyLines'. -/
def policyLinesUptoCard : Claim7 := { stood := { row := policyLinesUptoRow, standIns := [], harness := (true, "f44089ce474c402202a3bafec72fa66a7f2aef18a8853520bd5d5a8a2b0b9148"), looks := false }, kinds := [], alts := [], laidByText := true, laidKinds := [.data, .data, .data, .data, .pinned], laidTests := true, laidLooks := .later }
def PolicyLinesUptoCardSaid : Prop := Claim7.holds Tryd.pinned (.plain (OpenSpec.upto policyLinesSpec)) policyLinesUptoCard

/-- THE SECOND FORM's CARD OF 'seepagelaw03.PolicyJoins'. -/
def policyJoinsUptoCard : Claim7 := { stood := { row := policyJoinsUptoRow, standIns := [], harness := (true, "f44089ce474c402202a3bafec72fa66a7f2aef18a8853520bd5d5a8a2b0b9148"), looks := false }, kinds := [], alts := [], laidByText := true, laidKinds := [.data, .data, .data, .data, .pinned], laidTests := true, laidLooks := .later }
def PolicyJoinsUptoCardSaid : Prop := Claim7.holds Tryd.pinned (.plain (OpenSpec.upto policyJoinsSpec)) policyJoinsUptoCard
end Rows
end Go.Proofs.YtfgbfdlacnihkaaDoor
