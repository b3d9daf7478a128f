/-
  DERIVED. GIVEN WITH THE SEED: THE CARDS: each row of YtdpogmikhfgcmaaDoorRows.lean that lists a variable, with what it lists TIED to the program's text (the seventh form; the later family's looks); each row that meets fmt, with fmt's text TOLD by the authors' own Lean function (tested against real Go, not proved from fmt's source: count such statements apart). THE CARD IS WHAT COUNTS. Prove the row's statement (the work); the ties are given (YtdpogmikhfgcmaaDoorTie.lean); close each card by the builder's one call (the guide's Derived/Test/ToyasCard.lean, 'card_holds'). Laid BY PROGRAM, IN A SANDBOX (cutbox-door.mjs). By AI agents, Wed Nov 11 2026. No macro, syntax, notation, axiom, sorry.
-/
import Derived.Test.YtdpogmikhfgcmaaDoorRows
import GoSem.ClaimSeven
namespace Go.Proofs.YtdpogmikhfgcmaaDoor
namespace Rows

/-- THE TIED CARD OF 'seepagelaw20.ApuSteps'. -/
def apuStepsCard : Claim7 := { stood := { row := apuStepsRow, standIns := [], harness := (true, "6734af80180b8141d5542da56eb563cbb649fca3ffd11d4a1fa92860871affd3"), looks := false }, kinds := [], alts := [], laidByText := true, laidKinds := [.data, .data, .data], laidTests := true, laidLooks := .later }
def ApuStepsCardSaid : Prop := Claim7.holds Tryd.pinned (.plain (OpenSpec.ofChange apuStepsSpec)) apuStepsCard

/-- THE TIED CARD OF 'seepagelaw20.ApuApart'. -/
def apuApartCard : Claim7 := { stood := { row := apuApartRow, standIns := [], harness := (true, "6734af80180b8141d5542da56eb563cbb649fca3ffd11d4a1fa92860871affd3"), looks := false }, kinds := [], alts := [], laidByText := true, laidKinds := [.data, .data, .data], laidTests := true, laidLooks := .later }
def ApuApartCardSaid : Prop := Claim7.holds Tryd.pinned (.plain (OpenSpec.ofChange apuApartSpec)) apuApartCard

/-- THE TIED CARD OF 'seepagelaw20.ApuSilent'. -/
def apuSilentCard : Claim7 := { stood := { row := apuSilentRow, standIns := [], harness := (true, "6734af80180b8141d5542da56eb563cbb649fca3ffd11d4a1fa92860871affd3"), looks := false }, kinds := [], alts := [], laidByText := true, laidKinds := [.data, .data, .data], laidTests := true, laidLooks := .later }
def ApuSilentCardSaid : Prop := Claim7.holds Tryd.pinned (.plain (OpenSpec.ofChange apuSilentSpec)) apuSilentCard

/-- THE TIED CARD OF 'seepagelaw20.ApuStays'. -/
def apuStaysCard : Claim7 := { stood := { row := apuStaysRow, standIns := [], harness := (true, "6734af80180b8141d5542da56eb563cbb649fca3ffd11d4a1fa92860871affd3"), looks := false }, kinds := [], alts := [], laidByText := true, laidKinds := [.data, .data, .data], laidTests := true, laidLooks := .later }
def ApuStaysCardSaid : Prop := Claim7.holds Tryd.pinned (.plain (OpenSpec.ofChange apuStaysSpec)) apuStaysCard

/-- THE SECOND FORM's CARD OF 'seepagelaw20.ApuSteps'. -/
def apuStepsUptoCard : Claim7 := { stood := { row := apuStepsUptoRow, standIns := [], harness := (true, "6734af80180b8141d5542da56eb563cbb649fca3ffd11d4a1fa92860871affd3"), looks := false }, kinds := [], alts := [], laidByText := true, laidKinds := [.data, .data, .data], laidTests := true, laidLooks := .later }
def ApuStepsUptoCardSaid : Prop := Claim7.holds Tryd.pinned (.plain (OpenSpec.upto apuStepsSpec)) apuStepsUptoCard

/-- THE SECOND FORM's CARD OF 'seepagelaw20.ApuApart'. -/
def apuApartUptoCard : Claim7 := { stood := { row := apuApartUptoRow, standIns := [], harness := (true, "6734af80180b8141d5542da56eb563cbb649fca3ffd11d4a1fa92860871affd3"), looks := false }, kinds := [], alts := [], laidByText := true, laidKinds := [.data, .data, .data], laidTests := true, laidLooks := .later }
def ApuApartUptoCardSaid : Prop := Claim7.holds Tryd.pinned (.plain (OpenSpec.upto apuApartSpec)) apuApartUptoCard

/-- THE SECOND FORM's CARD OF 'seepagelaw20.ApuSilent'. -/
def apuSilentUptoCard : Claim7 := { stood := { row := apuSilentUptoRow, standIns := [], harness := (true, "6734af80180b8141d5542da56eb563cbb649fca3ffd11d4a1fa92860871affd3"), looks := false }, kinds := [], alts := [], laidByText := true, laidKinds := [.data, .data, .data], laidTests := true, laidLooks := .later }
def ApuSilentUptoCardSaid : Prop := Claim7.holds Tryd.pinned (.plain (OpenSpec.upto apuSilentSpec)) apuSilentUptoCard

/-- THE SECOND FORM's CARD OF 'seepagelaw20.ApuStays'. -/
def apuStaysUptoCard : Claim7 := { stood := { row := apuStaysUptoRow, standIns := [], harness := (true, "6734af80180b8141d5542da56eb563cbb649fca3ffd11d4a1fa92860871affd3"), looks := false }, kinds := [], alts := [], laidByText := true, laidKinds := [.data, .data, .data], laidTests := true, laidLooks := .later }
def ApuStaysUptoCardSaid : Prop := Claim7.holds Tryd.pinned (.plain (OpenSpec.upto apuStaysSpec)) apuStaysUptoCard
end Rows
end Go.Proofs.YtdpogmikhfgcmaaDoor
