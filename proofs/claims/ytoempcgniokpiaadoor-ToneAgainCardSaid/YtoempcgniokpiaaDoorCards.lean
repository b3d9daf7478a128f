/-
  DERIVED. GIVEN WITH THE SEED: THE CARDS: each row of YtoempcgniokpiaaDoorRows.lean that lists a variable, with what it lists TIED to the program's text (the seventh form; the later family's looks); each row that meets fmt, with fmt's text TOLD by the authors' own Lean function (tested against real Go, not proved from fmt's source: count such statements apart). THE CARD IS WHAT COUNTS. Prove the row's statement (the work); the ties are given (YtoempcgniokpiaaDoorTie.lean); close each card by the builder's one call (the guide's Derived/Test/ToyasCard.lean, 'card_holds'). Laid BY PROGRAM, IN A SANDBOX (cutbox-door.mjs). By AI agents, Wed Nov 11 2026. No macro, syntax, notation, axiom, sorry.
-/
import Derived.Test.YtoempcgniokpiaaDoorRows
import GoSem.ClaimSeven
namespace Go.Proofs.YtoempcgniokpiaaDoor
namespace Rows

/-- THE TIED CARD OF 'seepagelaw19.DmcTells'. -/
def dmcTellsCard : Claim7 := { stood := { row := dmcTellsRow, standIns := [], harness := (true, "eb70bf60f8237103f259a08e5df4e1638c1571ca8df180ddb8db3253291ad564"), looks := false }, kinds := [], alts := [], laidByText := true, laidKinds := [.data], laidTests := true, laidLooks := .later }
def DmcTellsCardSaid : Prop := Claim7.holds Tryd.pinned (.plain (OpenSpec.ofChange dmcTellsSpec)) dmcTellsCard

/-- THE TIED CARD OF 'seepagelaw19.DmcStays'. -/
def dmcStaysCard : Claim7 := { stood := { row := dmcStaysRow, standIns := [], harness := (true, "eb70bf60f8237103f259a08e5df4e1638c1571ca8df180ddb8db3253291ad564"), looks := false }, kinds := [], alts := [], laidByText := true, laidKinds := [.data], laidTests := true, laidLooks := .later }
def DmcStaysCardSaid : Prop := Claim7.holds Tryd.pinned (.plain (OpenSpec.ofChange dmcStaysSpec)) dmcStaysCard

/-- THE TIED CARD OF 'seepagelaw19.DmcFeeds'. -/
def dmcFeedsCard : Claim7 := { stood := { row := dmcFeedsRow, standIns := [], harness := (true, "eb70bf60f8237103f259a08e5df4e1638c1571ca8df180ddb8db3253291ad564"), looks := false }, kinds := [], alts := [], laidByText := true, laidKinds := [.data], laidTests := true, laidLooks := .later }
def DmcFeedsCardSaid : Prop := Claim7.holds Tryd.pinned (.plain (OpenSpec.ofChange dmcFeedsSpec)) dmcFeedsCard

/-- THE TIED CARD OF 'seepagelaw19.DmcPlays'. -/
def dmcPlaysCard : Claim7 := { stood := { row := dmcPlaysRow, standIns := [], harness := (true, "eb70bf60f8237103f259a08e5df4e1638c1571ca8df180ddb8db3253291ad564"), looks := false }, kinds := [], alts := [], laidByText := true, laidKinds := [.data], laidTests := true, laidLooks := .later }
def DmcPlaysCardSaid : Prop := Claim7.holds Tryd.pinned (.plain (OpenSpec.ofChange dmcPlaysSpec)) dmcPlaysCard

/-- THE TIED CARD OF 'seepagelaw19.DmcBounds'. -/
def dmcBoundsCard : Claim7 := { stood := { row := dmcBoundsRow, standIns := [], harness := (true, "eb70bf60f8237103f259a08e5df4e1638c1571ca8df180ddb8db3253291ad564"), looks := false }, kinds := [], alts := [], laidByText := true, laidKinds := [.data], laidTests := true, laidLooks := .later }
def DmcBoundsCardSaid : Prop := Claim7.holds Tryd.pinned (.plain (OpenSpec.ofChange dmcBoundsSpec)) dmcBoundsCard

/-- THE TIED CARD OF 'seepagelaw18.ToneLasts'. -/
def toneLastsCard : Claim7 := { stood := { row := toneLastsRow, standIns := [], harness := (true, "eb70bf60f8237103f259a08e5df4e1638c1571ca8df180ddb8db3253291ad564"), looks := false }, kinds := [], alts := [], laidByText := true, laidKinds := [.data], laidTests := true, laidLooks := .later }
def ToneLastsCardSaid : Prop := Claim7.holds Tryd.pinned (.plain (OpenSpec.ofChange toneLastsSpec)) toneLastsCard

/-- THE TIED CARD OF 'seepagelaw18.ToneClocks'. -/
def toneClocksCard : Claim7 := { stood := { row := toneClocksRow, standIns := [], harness := (true, "eb70bf60f8237103f259a08e5df4e1638c1571ca8df180ddb8db3253291ad564"), looks := false }, kinds := [], alts := [], laidByText := true, laidKinds := [.data], laidTests := true, laidLooks := .later }
def ToneClocksCardSaid : Prop := Claim7.holds Tryd.pinned (.plain (OpenSpec.ofChange toneClocksSpec)) toneClocksCard

/-- THE TIED CARD OF 'seepagelaw18.ToneNoise'. -/
def toneNoiseCard : Claim7 := { stood := { row := toneNoiseRow, standIns := [], harness := (true, "eb70bf60f8237103f259a08e5df4e1638c1571ca8df180ddb8db3253291ad564"), looks := false }, kinds := [], alts := [], laidByText := true, laidKinds := [.data, .data], laidTests := true, laidLooks := .later }
def ToneNoiseCardSaid : Prop := Claim7.holds Tryd.pinned (.plain (OpenSpec.ofChange toneNoiseSpec)) toneNoiseCard

/-- THE TIED CARD OF 'seepagelaw18.ToneTriangle'. -/
def toneTriangleCard : Claim7 := { stood := { row := toneTriangleRow, standIns := [], harness := (true, "eb70bf60f8237103f259a08e5df4e1638c1571ca8df180ddb8db3253291ad564"), looks := false }, kinds := [], alts := [], laidByText := true, laidKinds := [.data], laidTests := true, laidLooks := .later }
def ToneTriangleCardSaid : Prop := Claim7.holds Tryd.pinned (.plain (OpenSpec.ofChange toneTriangleSpec)) toneTriangleCard

/-- THE TIED CARD OF 'seepagelaw18.ToneAgain'. -/
def toneAgainCard : Claim7 := { stood := { row := toneAgainRow, standIns := [], harness := (true, "eb70bf60f8237103f259a08e5df4e1638c1571ca8df180ddb8db3253291ad564"), looks := false }, kinds := [], alts := [], laidByText := true, laidKinds := [.data, .data], laidTests := true, laidLooks := .later }
def ToneAgainCardSaid : Prop := Claim7.holds Tryd.pinned (.plain (OpenSpec.ofChange toneAgainSpec)) toneAgainCard

/-- THE TIED CARD OF 'seepagelaw18.TonePulse'. -/
def tonePulseCard : Claim7 := { stood := { row := tonePulseRow, standIns := [], harness := (true, "eb70bf60f8237103f259a08e5df4e1638c1571ca8df180ddb8db3253291ad564"), looks := false }, kinds := [], alts := [], laidByText := true, laidKinds := [.data], laidTests := true, laidLooks := .later }
def TonePulseCardSaid : Prop := Claim7.holds Tryd.pinned (.plain (OpenSpec.ofChange tonePulseSpec)) tonePulseCard

/-- THE TIED CARD OF 'seepagelaw18.ToneStays'. -/
def toneStaysCard : Claim7 := { stood := { row := toneStaysRow, standIns := [], harness := (true, "eb70bf60f8237103f259a08e5df4e1638c1571ca8df180ddb8db3253291ad564"), looks := false }, kinds := [], alts := [], laidByText := true, laidKinds := [.data, .data], laidTests := true, laidLooks := .later }
def ToneStaysCardSaid : Prop := Claim7.holds Tryd.pinned (.plain (OpenSpec.ofChange toneStaysSpec)) toneStaysCard

/-- THE SECOND FORM's CARD OF 'seepagelaw19.DmcTells'. -/
def dmcTellsUptoCard : Claim7 := { stood := { row := dmcTellsUptoRow, standIns := [], harness := (true, "eb70bf60f8237103f259a08e5df4e1638c1571ca8df180ddb8db3253291ad564"), looks := false }, kinds := [], alts := [], laidByText := true, laidKinds := [.data], laidTests := true, laidLooks := .later }
def DmcTellsUptoCardSaid : Prop := Claim7.holds Tryd.pinned (.plain (OpenSpec.upto dmcTellsSpec)) dmcTellsUptoCard

/-- THE SECOND FORM's CARD OF 'seepagelaw19.DmcStays'. -/
def dmcStaysUptoCard : Claim7 := { stood := { row := dmcStaysUptoRow, standIns := [], harness := (true, "eb70bf60f8237103f259a08e5df4e1638c1571ca8df180ddb8db3253291ad564"), looks := false }, kinds := [], alts := [], laidByText := true, laidKinds := [.data], laidTests := true, laidLooks := .later }
def DmcStaysUptoCardSaid : Prop := Claim7.holds Tryd.pinned (.plain (OpenSpec.upto dmcStaysSpec)) dmcStaysUptoCard

/-- THE SECOND FORM's CARD OF 'seepagelaw19.DmcFeeds'. -/
def dmcFeedsUptoCard : Claim7 := { stood := { row := dmcFeedsUptoRow, standIns := [], harness := (true, "eb70bf60f8237103f259a08e5df4e1638c1571ca8df180ddb8db3253291ad564"), looks := false }, kinds := [], alts := [], laidByText := true, laidKinds := [.data], laidTests := true, laidLooks := .later }
def DmcFeedsUptoCardSaid : Prop := Claim7.holds Tryd.pinned (.plain (OpenSpec.upto dmcFeedsSpec)) dmcFeedsUptoCard

/-- THE SECOND FORM's CARD OF 'seepagelaw19.DmcPlays'. -/
def dmcPlaysUptoCard : Claim7 := { stood := { row := dmcPlaysUptoRow, standIns := [], harness := (true, "eb70bf60f8237103f259a08e5df4e1638c1571ca8df180ddb8db3253291ad564"), looks := false }, kinds := [], alts := [], laidByText := true, laidKinds := [.data], laidTests := true, laidLooks := .later }
def DmcPlaysUptoCardSaid : Prop := Claim7.holds Tryd.pinned (.plain (OpenSpec.upto dmcPlaysSpec)) dmcPlaysUptoCard

/-- THE SECOND FORM's CARD OF 'seepagelaw19.DmcBounds'. -/
def dmcBoundsUptoCard : Claim7 := { stood := { row := dmcBoundsUptoRow, standIns := [], harness := (true, "eb70bf60f8237103f259a08e5df4e1638c1571ca8df180ddb8db3253291ad564"), looks := false }, kinds := [], alts := [], laidByText := true, laidKinds := [.data], laidTests := true, laidLooks := .later }
def DmcBoundsUptoCardSaid : Prop := Claim7.holds Tryd.pinned (.plain (OpenSpec.upto dmcBoundsSpec)) dmcBoundsUptoCard

/-- THE SECOND FORM's CARD OF 'seepagelaw18.ToneLasts'. -/
def toneLastsUptoCard : Claim7 := { stood := { row := toneLastsUptoRow, standIns := [], harness := (true, "eb70bf60f8237103f259a08e5df4e1638c1571ca8df180ddb8db3253291ad564"), looks := false }, kinds := [], alts := [], laidByText := true, laidKinds := [.data], laidTests := true, laidLooks := .later }
def ToneLastsUptoCardSaid : Prop := Claim7.holds Tryd.pinned (.plain (OpenSpec.upto toneLastsSpec)) toneLastsUptoCard

/-- THE SECOND FORM's CARD OF 'seepagelaw18.ToneClocks'. -/
def toneClocksUptoCard : Claim7 := { stood := { row := toneClocksUptoRow, standIns := [], harness := (true, "eb70bf60f8237103f259a08e5df4e1638c1571ca8df180ddb8db3253291ad564"), looks := false }, kinds := [], alts := [], laidByText := true, laidKinds := [.data], laidTests := true, laidLooks := .later }
def ToneClocksUptoCardSaid : Prop := Claim7.holds Tryd.pinned (.plain (OpenSpec.upto toneClocksSpec)) toneClocksUptoCard

/-- THE SECOND FORM's CARD OF 'seepagelaw18.ToneNoise'. -/
def toneNoiseUptoCard : Claim7 := { stood := { row := toneNoiseUptoRow, standIns := [], harness := (true, "eb70bf60f8237103f259a08e5df4e1638c1571ca8df180ddb8db3253291ad564"), looks := false }, kinds := [], alts := [], laidByText := true, laidKinds := [.data, .data], laidTests := true, laidLooks := .later }
def ToneNoiseUptoCardSaid : Prop := Claim7.holds Tryd.pinned (.plain (OpenSpec.upto toneNoiseSpec)) toneNoiseUptoCard

/-- THE SECOND FORM's CARD OF 'seepagelaw18.ToneTriangle'. -/
def toneTriangleUptoCard : Claim7 := { stood := { row := toneTriangleUptoRow, standIns := [], harness := (true, "eb70bf60f8237103f259a08e5df4e1638c1571ca8df180ddb8db3253291ad564"), looks := false }, kinds := [], alts := [], laidByText := true, laidKinds := [.data], laidTests := true, laidLooks := .later }
def ToneTriangleUptoCardSaid : Prop := Claim7.holds Tryd.pinned (.plain (OpenSpec.upto toneTriangleSpec)) toneTriangleUptoCard

/-- THE SECOND FORM's CARD OF 'seepagelaw18.ToneAgain'. -/
def toneAgainUptoCard : Claim7 := { stood := { row := toneAgainUptoRow, standIns := [], harness := (true, "eb70bf60f8237103f259a08e5df4e1638c1571ca8df180ddb8db3253291ad564"), looks := false }, kinds := [], alts := [], laidByText := true, laidKinds := [.data, .data], laidTests := true, laidLooks := .later }
def ToneAgainUptoCardSaid : Prop := Claim7.holds Tryd.pinned (.plain (OpenSpec.upto toneAgainSpec)) toneAgainUptoCard

/-- THE SECOND FORM's CARD OF 'seepagelaw18.TonePulse'. -/
def tonePulseUptoCard : Claim7 := { stood := { row := tonePulseUptoRow, standIns := [], harness := (true, "eb70bf60f8237103f259a08e5df4e1638c1571ca8df180ddb8db3253291ad564"), looks := false }, kinds := [], alts := [], laidByText := true, laidKinds := [.data], laidTests := true, laidLooks := .later }
def TonePulseUptoCardSaid : Prop := Claim7.holds Tryd.pinned (.plain (OpenSpec.upto tonePulseSpec)) tonePulseUptoCard

/-- THE SECOND FORM's CARD OF 'seepagelaw18.ToneStays'. -/
def toneStaysUptoCard : Claim7 := { stood := { row := toneStaysUptoRow, standIns := [], harness := (true, "eb70bf60f8237103f259a08e5df4e1638c1571ca8df180ddb8db3253291ad564"), looks := false }, kinds := [], alts := [], laidByText := true, laidKinds := [.data, .data], laidTests := true, laidLooks := .later }
def ToneStaysUptoCardSaid : Prop := Claim7.holds Tryd.pinned (.plain (OpenSpec.upto toneStaysSpec)) toneStaysUptoCard
end Rows
end Go.Proofs.YtoempcgniokpiaaDoor
