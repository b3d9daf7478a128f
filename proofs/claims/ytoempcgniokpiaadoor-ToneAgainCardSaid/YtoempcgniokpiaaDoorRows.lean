/-
  NARROWER THAN 'FOR EVERY INPUT', by the rows' own cells (each row's printed sentence says how): DmcTells: laid · DmcStays: laid · DmcFeeds: laid · DmcPlays: laid · DmcBounds: laid · ToneLasts: laid · ToneClocks: laid · ToneNoise: laid · ToneTriangle: laid · ToneAgain: laid · TonePulse: laid · ToneStays: laid.
  DERIVED. THE GIVEN ROWS OF THIS SEAT. 12 by the template 'for every input the law returns true; each argument reads behind the call as it read before'; 0 by the template 'total and deterministic' (their statements: YtoempcgniokpiaaDoorTotals.lean).
  GIVEN WITH THE SEED: the statements are not yours to turn. If you find one false, say at which input.
  Laid BY PROGRAM, IN A SANDBOX (cutbox-rows.mjs): the forced cells as the released guide's own fill.sh prints them over the translation 52bfa92b1b99c8cb… (all of the seat's roots in one cut). By AI agents, Wed Nov 11 2026. No macro, syntax, notation, axiom, sorry.
-/
import Derived.Test.YtoempcgniokpiaaDoorChecked
import GoSem.Claim
import GoSem.ClaimJoined
import GoSem.ClaimMapViews
import Derived.JoinedTies
import Derived.KernelRfl
namespace Go.Proofs.YtoempcgniokpiaaDoor
/- THE CELL 'sum', in the pinned program and in every row, IS THE sha256 OF THE DUMP (.gsa) THAT YtoempcgniokpiaaDoorProg.lean LOADS. Nothing in Lean hashes anything: it is a label: what it is worth is what the hold of that sum in a sandbox is worth. -/
noncomputable def Tryd.pinned : Pinned := { name := "ytoempcgniokpiaadoor", sum := "52bfa92b1b99c8cbf507e8546d9578339c399f6f146c01580f27d6e0dc597a55", checked := Tryd.checked }
namespace Rows
def none {H : Type} : Left H := { results := [], args := [] }

/- WHAT THE LISTED PACKAGE-LEVEL VARIABLES READ AS WHEN THE CALL BEGINS. Each datum BY PROGRAM (the guide's laid-datum.mjs) off the statement by which the dump's own 'gosem.cut.vars' lays the variable. In a bare row this is a premise. The card (YtoempcgniokpiaaDoorCards.lean) ties it to the program's text. -/
def laid_seepage_dmc_rates {H : Type} : DataW H := .agg [.lit (.int .u16 428), .lit (.int .u16 380), .lit (.int .u16 340), .lit (.int .u16 320), .lit (.int .u16 286), .lit (.int .u16 254), .lit (.int .u16 226), .lit (.int .u16 214), .lit (.int .u16 190), .lit (.int .u16 160), .lit (.int .u16 142), .lit (.int .u16 128), .lit (.int .u16 106), .lit (.int .u16 84), .lit (.int .u16 72), .lit (.int .u16 54)]
def laid_seepage_tone_longs {H : Type} : DataW H := .agg [.lit (.int .u8 10), .lit (.int .u8 254), .lit (.int .u8 20), .lit (.int .u8 2), .lit (.int .u8 40), .lit (.int .u8 4), .lit (.int .u8 80), .lit (.int .u8 6), .lit (.int .u8 160), .lit (.int .u8 8), .lit (.int .u8 60), .lit (.int .u8 10), .lit (.int .u8 14), .lit (.int .u8 12), .lit (.int .u8 26), .lit (.int .u8 14), .lit (.int .u8 12), .lit (.int .u8 16), .lit (.int .u8 24), .lit (.int .u8 18), .lit (.int .u8 48), .lit (.int .u8 20), .lit (.int .u8 96), .lit (.int .u8 22), .lit (.int .u8 192), .lit (.int .u8 24), .lit (.int .u8 72), .lit (.int .u8 26), .lit (.int .u8 16), .lit (.int .u8 28), .lit (.int .u8 32), .lit (.int .u8 30)]
def laid_seepage_tone_rates {H : Type} : DataW H := .agg [.lit (.int .u16 4), .lit (.int .u16 8), .lit (.int .u16 16), .lit (.int .u16 32), .lit (.int .u16 64), .lit (.int .u16 96), .lit (.int .u16 128), .lit (.int .u16 160), .lit (.int .u16 202), .lit (.int .u16 254), .lit (.int .u16 380), .lit (.int .u16 508), .lit (.int .u16 762), .lit (.int .u16 1016), .lit (.int .u16 2034), .lit (.int .u16 4068)]

/-- 'seepagelaw19.DmcTells': WHATEVER THE INPUT: true; the input reads as it did. -/
def dmcTellsSpec : ChangeSpec := { name := "dmcTells", fn := fun _ => fun
  | [d1, d2, d3] => { results := [.lit (.bool true)], args := [d1, d2, d3] }
  | _ => none }
def dmcTellsRow : OpenClaim := { program := "ytoempcgniokpiaadoor", sum := "52bfa92b1b99c8cbf507e8546d9578339c399f6f146c01580f27d6e0dc597a55", func := "seepage/seepagelaw19.DmcTells", spec := "dmcTells", named := ["seepage/dmc.rates"], apart := false, laid := [("seepage/dmc.rates", laid_seepage_dmc_rates)] }
def DmcTellsSaid : Prop := dmcTellsRow.holds Tryd.pinned (OpenSpec.ofChange dmcTellsSpec)

/-- ITS FALSE NEIGHBOUR: 'it returns false'. Refute it at one input. -/
def dmcTellsWrong : ChangeSpec := { name := "dmcTells", fn := fun _ => fun
  | [d1, d2, d3] => { results := [.lit (.bool false)], args := [d1, d2, d3] }
  | _ => none }
def DmcTellsWrongFalsely : Prop := dmcTellsRow.holds Tryd.pinned (OpenSpec.ofChange dmcTellsWrong)

/-- 'seepagelaw19.DmcStays': WHATEVER THE INPUT: true; the input reads as it did. -/
def dmcStaysSpec : ChangeSpec := { name := "dmcStays", fn := fun _ => fun
  | [d1, d2] => { results := [.lit (.bool true)], args := [d1, d2] }
  | _ => none }
def dmcStaysRow : OpenClaim := { program := "ytoempcgniokpiaadoor", sum := "52bfa92b1b99c8cbf507e8546d9578339c399f6f146c01580f27d6e0dc597a55", func := "seepage/seepagelaw19.DmcStays", spec := "dmcStays", named := ["seepage/dmc.rates"], apart := false, laid := [("seepage/dmc.rates", laid_seepage_dmc_rates)] }
def DmcStaysSaid : Prop := dmcStaysRow.holds Tryd.pinned (OpenSpec.ofChange dmcStaysSpec)

/-- ITS FALSE NEIGHBOUR: 'it returns false'. Refute it at one input. -/
def dmcStaysWrong : ChangeSpec := { name := "dmcStays", fn := fun _ => fun
  | [d1, d2] => { results := [.lit (.bool false)], args := [d1, d2] }
  | _ => none }
def DmcStaysWrongFalsely : Prop := dmcStaysRow.holds Tryd.pinned (OpenSpec.ofChange dmcStaysWrong)

/-- 'seepagelaw19.DmcFeeds': WHATEVER THE INPUT: true; the input reads as it did. -/
def dmcFeedsSpec : ChangeSpec := { name := "dmcFeeds", fn := fun _ => fun
  | [d] => { results := [.lit (.bool true)], args := [d] }
  | _ => none }
def dmcFeedsRow : OpenClaim := { program := "ytoempcgniokpiaadoor", sum := "52bfa92b1b99c8cbf507e8546d9578339c399f6f146c01580f27d6e0dc597a55", func := "seepage/seepagelaw19.DmcFeeds", spec := "dmcFeeds", named := ["seepage/dmc.rates"], apart := false, laid := [("seepage/dmc.rates", laid_seepage_dmc_rates)] }
def DmcFeedsSaid : Prop := dmcFeedsRow.holds Tryd.pinned (OpenSpec.ofChange dmcFeedsSpec)

/-- ITS FALSE NEIGHBOUR: 'it returns false'. Refute it at one input. -/
def dmcFeedsWrong : ChangeSpec := { name := "dmcFeeds", fn := fun _ => fun
  | [d] => { results := [.lit (.bool false)], args := [d] }
  | _ => none }
def DmcFeedsWrongFalsely : Prop := dmcFeedsRow.holds Tryd.pinned (OpenSpec.ofChange dmcFeedsWrong)

/-- 'seepagelaw19.DmcPlays': WHATEVER THE INPUT: true; the input reads as it did. -/
def dmcPlaysSpec : ChangeSpec := { name := "dmcPlays", fn := fun _ => fun
  | [d1, d2, d3] => { results := [.lit (.bool true)], args := [d1, d2, d3] }
  | _ => none }
def dmcPlaysRow : OpenClaim := { program := "ytoempcgniokpiaadoor", sum := "52bfa92b1b99c8cbf507e8546d9578339c399f6f146c01580f27d6e0dc597a55", func := "seepage/seepagelaw19.DmcPlays", spec := "dmcPlays", named := ["seepage/dmc.rates"], apart := false, laid := [("seepage/dmc.rates", laid_seepage_dmc_rates)] }
def DmcPlaysSaid : Prop := dmcPlaysRow.holds Tryd.pinned (OpenSpec.ofChange dmcPlaysSpec)

/-- ITS FALSE NEIGHBOUR: 'it returns false'. Refute it at one input. -/
def dmcPlaysWrong : ChangeSpec := { name := "dmcPlays", fn := fun _ => fun
  | [d1, d2, d3] => { results := [.lit (.bool false)], args := [d1, d2, d3] }
  | _ => none }
def DmcPlaysWrongFalsely : Prop := dmcPlaysRow.holds Tryd.pinned (OpenSpec.ofChange dmcPlaysWrong)

/-- 'seepagelaw19.DmcBounds': WHATEVER THE INPUT: true; the input reads as it did. -/
def dmcBoundsSpec : ChangeSpec := { name := "dmcBounds", fn := fun _ => fun
  | [d1, d2, d3] => { results := [.lit (.bool true)], args := [d1, d2, d3] }
  | _ => none }
def dmcBoundsRow : OpenClaim := { program := "ytoempcgniokpiaadoor", sum := "52bfa92b1b99c8cbf507e8546d9578339c399f6f146c01580f27d6e0dc597a55", func := "seepage/seepagelaw19.DmcBounds", spec := "dmcBounds", named := ["seepage/dmc.rates"], apart := false, laid := [("seepage/dmc.rates", laid_seepage_dmc_rates)] }
def DmcBoundsSaid : Prop := dmcBoundsRow.holds Tryd.pinned (OpenSpec.ofChange dmcBoundsSpec)

/-- ITS FALSE NEIGHBOUR: 'it returns false'. Refute it at one input. -/
def dmcBoundsWrong : ChangeSpec := { name := "dmcBounds", fn := fun _ => fun
  | [d1, d2, d3] => { results := [.lit (.bool false)], args := [d1, d2, d3] }
  | _ => none }
def DmcBoundsWrongFalsely : Prop := dmcBoundsRow.holds Tryd.pinned (OpenSpec.ofChange dmcBoundsWrong)

/-- 'seepagelaw18.ToneLasts': WHATEVER THE INPUT: true; the input reads as it did. -/
def toneLastsSpec : ChangeSpec := { name := "toneLasts", fn := fun _ => fun
  | [d1, d2] => { results := [.lit (.bool true)], args := [d1, d2] }
  | _ => none }
def toneLastsRow : OpenClaim := { program := "ytoempcgniokpiaadoor", sum := "52bfa92b1b99c8cbf507e8546d9578339c399f6f146c01580f27d6e0dc597a55", func := "seepage/seepagelaw18.ToneLasts", spec := "toneLasts", named := ["seepage/tone.longs"], apart := false, laid := [("seepage/tone.longs", laid_seepage_tone_longs)] }
def ToneLastsSaid : Prop := toneLastsRow.holds Tryd.pinned (OpenSpec.ofChange toneLastsSpec)

/-- ITS FALSE NEIGHBOUR: 'it returns false'. Refute it at one input. -/
def toneLastsWrong : ChangeSpec := { name := "toneLasts", fn := fun _ => fun
  | [d1, d2] => { results := [.lit (.bool false)], args := [d1, d2] }
  | _ => none }
def ToneLastsWrongFalsely : Prop := toneLastsRow.holds Tryd.pinned (OpenSpec.ofChange toneLastsWrong)

/-- 'seepagelaw18.ToneClocks': WHATEVER THE INPUT: true; the input reads as it did. -/
def toneClocksSpec : ChangeSpec := { name := "toneClocks", fn := fun _ => fun
  | [d1, d2] => { results := [.lit (.bool true)], args := [d1, d2] }
  | _ => none }
def toneClocksRow : OpenClaim := { program := "ytoempcgniokpiaadoor", sum := "52bfa92b1b99c8cbf507e8546d9578339c399f6f146c01580f27d6e0dc597a55", func := "seepage/seepagelaw18.ToneClocks", spec := "toneClocks", named := ["seepage/tone.longs"], apart := false, laid := [("seepage/tone.longs", laid_seepage_tone_longs)] }
def ToneClocksSaid : Prop := toneClocksRow.holds Tryd.pinned (OpenSpec.ofChange toneClocksSpec)

/-- ITS FALSE NEIGHBOUR: 'it returns false'. Refute it at one input. -/
def toneClocksWrong : ChangeSpec := { name := "toneClocks", fn := fun _ => fun
  | [d1, d2] => { results := [.lit (.bool false)], args := [d1, d2] }
  | _ => none }
def ToneClocksWrongFalsely : Prop := toneClocksRow.holds Tryd.pinned (OpenSpec.ofChange toneClocksWrong)

/-- 'seepagelaw18.ToneNoise': WHATEVER THE INPUT: true; the input reads as it did. -/
def toneNoiseSpec : ChangeSpec := { name := "toneNoise", fn := fun _ => fun
  | [d] => { results := [.lit (.bool true)], args := [d] }
  | _ => none }
def toneNoiseRow : OpenClaim := { program := "ytoempcgniokpiaadoor", sum := "52bfa92b1b99c8cbf507e8546d9578339c399f6f146c01580f27d6e0dc597a55", func := "seepage/seepagelaw18.ToneNoise", spec := "toneNoise", named := ["seepage/tone.longs", "seepage/tone.rates"], apart := false, laid := [("seepage/tone.longs", laid_seepage_tone_longs), ("seepage/tone.rates", laid_seepage_tone_rates)] }
def ToneNoiseSaid : Prop := toneNoiseRow.holds Tryd.pinned (OpenSpec.ofChange toneNoiseSpec)

/-- ITS FALSE NEIGHBOUR: 'it returns false'. Refute it at one input. -/
def toneNoiseWrong : ChangeSpec := { name := "toneNoise", fn := fun _ => fun
  | [d] => { results := [.lit (.bool false)], args := [d] }
  | _ => none }
def ToneNoiseWrongFalsely : Prop := toneNoiseRow.holds Tryd.pinned (OpenSpec.ofChange toneNoiseWrong)

/-- 'seepagelaw18.ToneTriangle': WHATEVER THE INPUT: true; the input reads as it did. -/
def toneTriangleSpec : ChangeSpec := { name := "toneTriangle", fn := fun _ => fun
  | [d] => { results := [.lit (.bool true)], args := [d] }
  | _ => none }
def toneTriangleRow : OpenClaim := { program := "ytoempcgniokpiaadoor", sum := "52bfa92b1b99c8cbf507e8546d9578339c399f6f146c01580f27d6e0dc597a55", func := "seepage/seepagelaw18.ToneTriangle", spec := "toneTriangle", named := ["seepage/tone.longs"], apart := false, laid := [("seepage/tone.longs", laid_seepage_tone_longs)] }
def ToneTriangleSaid : Prop := toneTriangleRow.holds Tryd.pinned (OpenSpec.ofChange toneTriangleSpec)

/-- ITS FALSE NEIGHBOUR: 'it returns false'. Refute it at one input. -/
def toneTriangleWrong : ChangeSpec := { name := "toneTriangle", fn := fun _ => fun
  | [d] => { results := [.lit (.bool false)], args := [d] }
  | _ => none }
def ToneTriangleWrongFalsely : Prop := toneTriangleRow.holds Tryd.pinned (OpenSpec.ofChange toneTriangleWrong)

/-- 'seepagelaw18.ToneAgain': WHATEVER THE INPUT: true; the input reads as it did. -/
def toneAgainSpec : ChangeSpec := { name := "toneAgain", fn := fun _ => fun
  | [d1, d2] => { results := [.lit (.bool true)], args := [d1, d2] }
  | _ => none }
def toneAgainRow : OpenClaim := { program := "ytoempcgniokpiaadoor", sum := "52bfa92b1b99c8cbf507e8546d9578339c399f6f146c01580f27d6e0dc597a55", func := "seepage/seepagelaw18.ToneAgain", spec := "toneAgain", named := ["seepage/tone.longs", "seepage/tone.rates"], apart := false, laid := [("seepage/tone.longs", laid_seepage_tone_longs), ("seepage/tone.rates", laid_seepage_tone_rates)] }
def ToneAgainSaid : Prop := toneAgainRow.holds Tryd.pinned (OpenSpec.ofChange toneAgainSpec)

/-- ITS FALSE NEIGHBOUR: 'it returns false'. Refute it at one input. -/
def toneAgainWrong : ChangeSpec := { name := "toneAgain", fn := fun _ => fun
  | [d1, d2] => { results := [.lit (.bool false)], args := [d1, d2] }
  | _ => none }
def ToneAgainWrongFalsely : Prop := toneAgainRow.holds Tryd.pinned (OpenSpec.ofChange toneAgainWrong)

/-- 'seepagelaw18.TonePulse': WHATEVER THE INPUT: true; the input reads as it did. -/
def tonePulseSpec : ChangeSpec := { name := "tonePulse", fn := fun _ => fun
  | [d] => { results := [.lit (.bool true)], args := [d] }
  | _ => none }
def tonePulseRow : OpenClaim := { program := "ytoempcgniokpiaadoor", sum := "52bfa92b1b99c8cbf507e8546d9578339c399f6f146c01580f27d6e0dc597a55", func := "seepage/seepagelaw18.TonePulse", spec := "tonePulse", named := ["seepage/tone.longs"], apart := false, laid := [("seepage/tone.longs", laid_seepage_tone_longs)] }
def TonePulseSaid : Prop := tonePulseRow.holds Tryd.pinned (OpenSpec.ofChange tonePulseSpec)

/-- ITS FALSE NEIGHBOUR: 'it returns false'. Refute it at one input. -/
def tonePulseWrong : ChangeSpec := { name := "tonePulse", fn := fun _ => fun
  | [d] => { results := [.lit (.bool false)], args := [d] }
  | _ => none }
def TonePulseWrongFalsely : Prop := tonePulseRow.holds Tryd.pinned (OpenSpec.ofChange tonePulseWrong)

/-- 'seepagelaw18.ToneStays': WHATEVER THE INPUT: true; the input reads as it did. -/
def toneStaysSpec : ChangeSpec := { name := "toneStays", fn := fun _ => fun
  | [d1, d2] => { results := [.lit (.bool true)], args := [d1, d2] }
  | _ => none }
def toneStaysRow : OpenClaim := { program := "ytoempcgniokpiaadoor", sum := "52bfa92b1b99c8cbf507e8546d9578339c399f6f146c01580f27d6e0dc597a55", func := "seepage/seepagelaw18.ToneStays", spec := "toneStays", named := ["seepage/tone.longs", "seepage/tone.rates"], apart := false, laid := [("seepage/tone.longs", laid_seepage_tone_longs), ("seepage/tone.rates", laid_seepage_tone_rates)] }
def ToneStaysSaid : Prop := toneStaysRow.holds Tryd.pinned (OpenSpec.ofChange toneStaysSpec)

/-- ITS FALSE NEIGHBOUR: 'it returns false'. Refute it at one input. -/
def toneStaysWrong : ChangeSpec := { name := "toneStays", fn := fun _ => fun
  | [d1, d2] => { results := [.lit (.bool false)], args := [d1, d2] }
  | _ => none }
def ToneStaysWrongFalsely : Prop := toneStaysRow.holds Tryd.pinned (OpenSpec.ofChange toneStaysWrong)

/- THE SECOND FORM. 'bulk': how many values and letters a reading holds, each counted each time it is reached (what is shared counts as often as it is met; a slice's spare places count too). A statement '..UptoSaid' is the law's where the arguments, and the package variables that the reading takes, are together of bulk at most 1048576: NARROWER than '..Said'. Prove '..Said' where nothing that the law and all that it calls make is longer than what came in: it says more and counts as full. Else prove '..UptoSaid'. A law counts once. -/
mutual
def uptoBulk {H : Type} : DataW H → Nat
  | .lit (.string bytes) => bytes.length + 1
  | .lit _ => 1
  | .nil => 1
  | .ptr d => uptoBulk d + 1
  | .slice elems spare => uptoBulkAll elems + uptoBulkAll spare + 1
  | .agg parts => uptoBulkAll parts + 1
  | .iface _ d => uptoBulk d + 1
  | .map entries => uptoBulkEntries entries + 1
  | .held _ => 1
def uptoBulkAll {H : Type} : List (DataW H) → Nat
  | [] => 0
  | d :: r => uptoBulk d + uptoBulkAll r
def uptoBulkEntries {H : Type} : List (Lit × DataW H) → Nat
  | [] => 0
  | x :: r => uptoBulkEntry x + uptoBulkEntries r
def uptoBulkEntry {H : Type} : Lit × DataW H → Nat
  | (.string bytes, d) => bytes.length + uptoBulk d + 1
  | (_, d) => uptoBulk d + 1
 end
def uptoSmall : (H : Type) → List (DataW H) → Bool := fun _ ds => decide (uptoBulkAll ds ≤ 1048576)
def OpenSpec.upto (s : _root_.Go.ChangeSpec) : _root_.Go.OpenSpec := { _root_.Go.OpenSpec.ofChange s with cond := some uptoSmall }

/-- 'seepagelaw19.DmcTells', WHERE WHAT IT READS IS OF BULK AT MOST 1048576: true; the input reads as it did. -/
def dmcTellsUptoRow : OpenClaim := { program := "ytoempcgniokpiaadoor", sum := "52bfa92b1b99c8cbf507e8546d9578339c399f6f146c01580f27d6e0dc597a55", func := "seepage/seepagelaw19.DmcTells", spec := "dmcTells", named := ["seepage/dmc.rates"], apart := false, laid := [("seepage/dmc.rates", laid_seepage_dmc_rates)], narrowed := true }
def DmcTellsUptoSaid : Prop := dmcTellsUptoRow.holds Tryd.pinned (OpenSpec.upto dmcTellsSpec)

/-- 'seepagelaw19.DmcStays', WHERE WHAT IT READS IS OF BULK AT MOST 1048576: true; the input reads as it did. -/
def dmcStaysUptoRow : OpenClaim := { program := "ytoempcgniokpiaadoor", sum := "52bfa92b1b99c8cbf507e8546d9578339c399f6f146c01580f27d6e0dc597a55", func := "seepage/seepagelaw19.DmcStays", spec := "dmcStays", named := ["seepage/dmc.rates"], apart := false, laid := [("seepage/dmc.rates", laid_seepage_dmc_rates)], narrowed := true }
def DmcStaysUptoSaid : Prop := dmcStaysUptoRow.holds Tryd.pinned (OpenSpec.upto dmcStaysSpec)

/-- 'seepagelaw19.DmcFeeds', WHERE WHAT IT READS IS OF BULK AT MOST 1048576: true; the input reads as it did. -/
def dmcFeedsUptoRow : OpenClaim := { program := "ytoempcgniokpiaadoor", sum := "52bfa92b1b99c8cbf507e8546d9578339c399f6f146c01580f27d6e0dc597a55", func := "seepage/seepagelaw19.DmcFeeds", spec := "dmcFeeds", named := ["seepage/dmc.rates"], apart := false, laid := [("seepage/dmc.rates", laid_seepage_dmc_rates)], narrowed := true }
def DmcFeedsUptoSaid : Prop := dmcFeedsUptoRow.holds Tryd.pinned (OpenSpec.upto dmcFeedsSpec)

/-- 'seepagelaw19.DmcPlays', WHERE WHAT IT READS IS OF BULK AT MOST 1048576: true; the input reads as it did. -/
def dmcPlaysUptoRow : OpenClaim := { program := "ytoempcgniokpiaadoor", sum := "52bfa92b1b99c8cbf507e8546d9578339c399f6f146c01580f27d6e0dc597a55", func := "seepage/seepagelaw19.DmcPlays", spec := "dmcPlays", named := ["seepage/dmc.rates"], apart := false, laid := [("seepage/dmc.rates", laid_seepage_dmc_rates)], narrowed := true }
def DmcPlaysUptoSaid : Prop := dmcPlaysUptoRow.holds Tryd.pinned (OpenSpec.upto dmcPlaysSpec)

/-- 'seepagelaw19.DmcBounds', WHERE WHAT IT READS IS OF BULK AT MOST 1048576: true; the input reads as it did. -/
def dmcBoundsUptoRow : OpenClaim := { program := "ytoempcgniokpiaadoor", sum := "52bfa92b1b99c8cbf507e8546d9578339c399f6f146c01580f27d6e0dc597a55", func := "seepage/seepagelaw19.DmcBounds", spec := "dmcBounds", named := ["seepage/dmc.rates"], apart := false, laid := [("seepage/dmc.rates", laid_seepage_dmc_rates)], narrowed := true }
def DmcBoundsUptoSaid : Prop := dmcBoundsUptoRow.holds Tryd.pinned (OpenSpec.upto dmcBoundsSpec)

/-- 'seepagelaw18.ToneLasts', WHERE WHAT IT READS IS OF BULK AT MOST 1048576: true; the input reads as it did. -/
def toneLastsUptoRow : OpenClaim := { program := "ytoempcgniokpiaadoor", sum := "52bfa92b1b99c8cbf507e8546d9578339c399f6f146c01580f27d6e0dc597a55", func := "seepage/seepagelaw18.ToneLasts", spec := "toneLasts", named := ["seepage/tone.longs"], apart := false, laid := [("seepage/tone.longs", laid_seepage_tone_longs)], narrowed := true }
def ToneLastsUptoSaid : Prop := toneLastsUptoRow.holds Tryd.pinned (OpenSpec.upto toneLastsSpec)

/-- 'seepagelaw18.ToneClocks', WHERE WHAT IT READS IS OF BULK AT MOST 1048576: true; the input reads as it did. -/
def toneClocksUptoRow : OpenClaim := { program := "ytoempcgniokpiaadoor", sum := "52bfa92b1b99c8cbf507e8546d9578339c399f6f146c01580f27d6e0dc597a55", func := "seepage/seepagelaw18.ToneClocks", spec := "toneClocks", named := ["seepage/tone.longs"], apart := false, laid := [("seepage/tone.longs", laid_seepage_tone_longs)], narrowed := true }
def ToneClocksUptoSaid : Prop := toneClocksUptoRow.holds Tryd.pinned (OpenSpec.upto toneClocksSpec)

/-- 'seepagelaw18.ToneNoise', WHERE WHAT IT READS IS OF BULK AT MOST 1048576: true; the input reads as it did. -/
def toneNoiseUptoRow : OpenClaim := { program := "ytoempcgniokpiaadoor", sum := "52bfa92b1b99c8cbf507e8546d9578339c399f6f146c01580f27d6e0dc597a55", func := "seepage/seepagelaw18.ToneNoise", spec := "toneNoise", named := ["seepage/tone.longs", "seepage/tone.rates"], apart := false, laid := [("seepage/tone.longs", laid_seepage_tone_longs), ("seepage/tone.rates", laid_seepage_tone_rates)], narrowed := true }
def ToneNoiseUptoSaid : Prop := toneNoiseUptoRow.holds Tryd.pinned (OpenSpec.upto toneNoiseSpec)

/-- 'seepagelaw18.ToneTriangle', WHERE WHAT IT READS IS OF BULK AT MOST 1048576: true; the input reads as it did. -/
def toneTriangleUptoRow : OpenClaim := { program := "ytoempcgniokpiaadoor", sum := "52bfa92b1b99c8cbf507e8546d9578339c399f6f146c01580f27d6e0dc597a55", func := "seepage/seepagelaw18.ToneTriangle", spec := "toneTriangle", named := ["seepage/tone.longs"], apart := false, laid := [("seepage/tone.longs", laid_seepage_tone_longs)], narrowed := true }
def ToneTriangleUptoSaid : Prop := toneTriangleUptoRow.holds Tryd.pinned (OpenSpec.upto toneTriangleSpec)

/-- 'seepagelaw18.ToneAgain', WHERE WHAT IT READS IS OF BULK AT MOST 1048576: true; the input reads as it did. -/
def toneAgainUptoRow : OpenClaim := { program := "ytoempcgniokpiaadoor", sum := "52bfa92b1b99c8cbf507e8546d9578339c399f6f146c01580f27d6e0dc597a55", func := "seepage/seepagelaw18.ToneAgain", spec := "toneAgain", named := ["seepage/tone.longs", "seepage/tone.rates"], apart := false, laid := [("seepage/tone.longs", laid_seepage_tone_longs), ("seepage/tone.rates", laid_seepage_tone_rates)], narrowed := true }
def ToneAgainUptoSaid : Prop := toneAgainUptoRow.holds Tryd.pinned (OpenSpec.upto toneAgainSpec)

/-- 'seepagelaw18.TonePulse', WHERE WHAT IT READS IS OF BULK AT MOST 1048576: true; the input reads as it did. -/
def tonePulseUptoRow : OpenClaim := { program := "ytoempcgniokpiaadoor", sum := "52bfa92b1b99c8cbf507e8546d9578339c399f6f146c01580f27d6e0dc597a55", func := "seepage/seepagelaw18.TonePulse", spec := "tonePulse", named := ["seepage/tone.longs"], apart := false, laid := [("seepage/tone.longs", laid_seepage_tone_longs)], narrowed := true }
def TonePulseUptoSaid : Prop := tonePulseUptoRow.holds Tryd.pinned (OpenSpec.upto tonePulseSpec)

/-- 'seepagelaw18.ToneStays', WHERE WHAT IT READS IS OF BULK AT MOST 1048576: true; the input reads as it did. -/
def toneStaysUptoRow : OpenClaim := { program := "ytoempcgniokpiaadoor", sum := "52bfa92b1b99c8cbf507e8546d9578339c399f6f146c01580f27d6e0dc597a55", func := "seepage/seepagelaw18.ToneStays", spec := "toneStays", named := ["seepage/tone.longs", "seepage/tone.rates"], apart := false, laid := [("seepage/tone.longs", laid_seepage_tone_longs), ("seepage/tone.rates", laid_seepage_tone_rates)], narrowed := true }
def ToneStaysUptoSaid : Prop := toneStaysUptoRow.holds Tryd.pinned (OpenSpec.upto toneStaysSpec)

end Rows
end Go.Proofs.YtoempcgniokpiaaDoor
