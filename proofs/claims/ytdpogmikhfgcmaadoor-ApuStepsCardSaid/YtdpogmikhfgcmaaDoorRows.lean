/-
  NARROWER THAN 'FOR EVERY INPUT', by the rows' own cells (each row's printed sentence says how): ApuSteps: laid · ApuApart: laid · ApuSilent: laid · ApuStays: laid.
  DERIVED. THE GIVEN ROWS OF THIS SEAT. 4 by the template 'for every input the law returns true; each argument reads behind the call as it read before'; 0 by the template 'total and deterministic' (their statements: YtdpogmikhfgcmaaDoorTotals.lean).
  GIVEN WITH THE SEED: the statements are not yours to turn. If you find one false, say at which input.
  Laid BY PROGRAM, IN A SANDBOX (cutbox-rows.mjs): the forced cells as the released guide's own fill.sh prints them over the translation 73ee14a21a8bfcea… (all of the seat's roots in one cut). By AI agents, Wed Nov 11 2026. No macro, syntax, notation, axiom, sorry.
-/
import Derived.Test.YtdpogmikhfgcmaaDoorChecked
import GoSem.Claim
import GoSem.ClaimJoined
import GoSem.ClaimMapViews
import Derived.JoinedTies
import Derived.KernelRfl
namespace Go.Proofs.YtdpogmikhfgcmaaDoor
/- THE CELL 'sum', in the pinned program and in every row, IS THE sha256 OF THE DUMP (.gsa) THAT YtdpogmikhfgcmaaDoorProg.lean LOADS. Nothing in Lean hashes anything: it is a label: what it is worth is what the hold of that sum in a sandbox is worth. -/
noncomputable def Tryd.pinned : Pinned := { name := "ytdpogmikhfgcmaadoor", sum := "73ee14a21a8bfceac78c6eabdfe84b2e2ebfb072cfff1c1752380b13467f0d8e", checked := Tryd.checked }
namespace Rows
def none {H : Type} : Left H := { results := [], args := [] }

/- WHAT THE LISTED PACKAGE-LEVEL VARIABLES READ AS WHEN THE CALL BEGINS. Each datum BY PROGRAM (the guide's laid-datum.mjs) off the statement by which the dump's own 'gosem.cut.vars' lays the variable. In a bare row this is a premise. The card (YtdpogmikhfgcmaaDoorCards.lean) ties it to the program's text. -/
def laid_seepage_dmc_rates {H : Type} : DataW H := .agg [.lit (.int .u16 428), .lit (.int .u16 380), .lit (.int .u16 340), .lit (.int .u16 320), .lit (.int .u16 286), .lit (.int .u16 254), .lit (.int .u16 226), .lit (.int .u16 214), .lit (.int .u16 190), .lit (.int .u16 160), .lit (.int .u16 142), .lit (.int .u16 128), .lit (.int .u16 106), .lit (.int .u16 84), .lit (.int .u16 72), .lit (.int .u16 54)]
def laid_seepage_tone_longs {H : Type} : DataW H := .agg [.lit (.int .u8 10), .lit (.int .u8 254), .lit (.int .u8 20), .lit (.int .u8 2), .lit (.int .u8 40), .lit (.int .u8 4), .lit (.int .u8 80), .lit (.int .u8 6), .lit (.int .u8 160), .lit (.int .u8 8), .lit (.int .u8 60), .lit (.int .u8 10), .lit (.int .u8 14), .lit (.int .u8 12), .lit (.int .u8 26), .lit (.int .u8 14), .lit (.int .u8 12), .lit (.int .u8 16), .lit (.int .u8 24), .lit (.int .u8 18), .lit (.int .u8 48), .lit (.int .u8 20), .lit (.int .u8 96), .lit (.int .u8 22), .lit (.int .u8 192), .lit (.int .u8 24), .lit (.int .u8 72), .lit (.int .u8 26), .lit (.int .u8 16), .lit (.int .u8 28), .lit (.int .u8 32), .lit (.int .u8 30)]
def laid_seepage_tone_rates {H : Type} : DataW H := .agg [.lit (.int .u16 4), .lit (.int .u16 8), .lit (.int .u16 16), .lit (.int .u16 32), .lit (.int .u16 64), .lit (.int .u16 96), .lit (.int .u16 128), .lit (.int .u16 160), .lit (.int .u16 202), .lit (.int .u16 254), .lit (.int .u16 380), .lit (.int .u16 508), .lit (.int .u16 762), .lit (.int .u16 1016), .lit (.int .u16 2034), .lit (.int .u16 4068)]

/-- 'seepagelaw20.ApuSteps': WHATEVER THE INPUT: true; the input reads as it did. -/
def apuStepsSpec : ChangeSpec := { name := "apuSteps", fn := fun _ => fun
  | [d1, d2, d3] => { results := [.lit (.bool true)], args := [d1, d2, d3] }
  | _ => none }
def apuStepsRow : OpenClaim := { program := "ytdpogmikhfgcmaadoor", sum := "73ee14a21a8bfceac78c6eabdfe84b2e2ebfb072cfff1c1752380b13467f0d8e", func := "seepage/seepagelaw20.ApuSteps", spec := "apuSteps", named := ["seepage/dmc.rates", "seepage/tone.longs", "seepage/tone.rates"], apart := false, laid := [("seepage/dmc.rates", laid_seepage_dmc_rates), ("seepage/tone.longs", laid_seepage_tone_longs), ("seepage/tone.rates", laid_seepage_tone_rates)] }
def ApuStepsSaid : Prop := apuStepsRow.holds Tryd.pinned (OpenSpec.ofChange apuStepsSpec)

/-- ITS FALSE NEIGHBOUR: 'it returns false'. Refute it at one input. -/
def apuStepsWrong : ChangeSpec := { name := "apuSteps", fn := fun _ => fun
  | [d1, d2, d3] => { results := [.lit (.bool false)], args := [d1, d2, d3] }
  | _ => none }
def ApuStepsWrongFalsely : Prop := apuStepsRow.holds Tryd.pinned (OpenSpec.ofChange apuStepsWrong)

/-- 'seepagelaw20.ApuApart': WHATEVER THE INPUT: true; the input reads as it did. -/
def apuApartSpec : ChangeSpec := { name := "apuApart", fn := fun _ => fun
  | [d1, d2, d3] => { results := [.lit (.bool true)], args := [d1, d2, d3] }
  | _ => none }
def apuApartRow : OpenClaim := { program := "ytdpogmikhfgcmaadoor", sum := "73ee14a21a8bfceac78c6eabdfe84b2e2ebfb072cfff1c1752380b13467f0d8e", func := "seepage/seepagelaw20.ApuApart", spec := "apuApart", named := ["seepage/dmc.rates", "seepage/tone.rates", "seepage/tone.longs"], apart := false, laid := [("seepage/dmc.rates", laid_seepage_dmc_rates), ("seepage/tone.longs", laid_seepage_tone_longs), ("seepage/tone.rates", laid_seepage_tone_rates)] }
def ApuApartSaid : Prop := apuApartRow.holds Tryd.pinned (OpenSpec.ofChange apuApartSpec)

/-- ITS FALSE NEIGHBOUR: 'it returns false'. Refute it at one input. -/
def apuApartWrong : ChangeSpec := { name := "apuApart", fn := fun _ => fun
  | [d1, d2, d3] => { results := [.lit (.bool false)], args := [d1, d2, d3] }
  | _ => none }
def ApuApartWrongFalsely : Prop := apuApartRow.holds Tryd.pinned (OpenSpec.ofChange apuApartWrong)

/-- 'seepagelaw20.ApuSilent': WHATEVER THE INPUT: true; the input reads as it did. -/
def apuSilentSpec : ChangeSpec := { name := "apuSilent", fn := fun _ => fun
  | [d1, d2, d3] => { results := [.lit (.bool true)], args := [d1, d2, d3] }
  | _ => none }
def apuSilentRow : OpenClaim := { program := "ytdpogmikhfgcmaadoor", sum := "73ee14a21a8bfceac78c6eabdfe84b2e2ebfb072cfff1c1752380b13467f0d8e", func := "seepage/seepagelaw20.ApuSilent", spec := "apuSilent", named := ["seepage/dmc.rates", "seepage/tone.rates", "seepage/tone.longs"], apart := false, laid := [("seepage/dmc.rates", laid_seepage_dmc_rates), ("seepage/tone.longs", laid_seepage_tone_longs), ("seepage/tone.rates", laid_seepage_tone_rates)] }
def ApuSilentSaid : Prop := apuSilentRow.holds Tryd.pinned (OpenSpec.ofChange apuSilentSpec)

/-- ITS FALSE NEIGHBOUR: 'it returns false'. Refute it at one input. -/
def apuSilentWrong : ChangeSpec := { name := "apuSilent", fn := fun _ => fun
  | [d1, d2, d3] => { results := [.lit (.bool false)], args := [d1, d2, d3] }
  | _ => none }
def ApuSilentWrongFalsely : Prop := apuSilentRow.holds Tryd.pinned (OpenSpec.ofChange apuSilentWrong)

/-- 'seepagelaw20.ApuStays': WHATEVER THE INPUT: true; the input reads as it did. -/
def apuStaysSpec : ChangeSpec := { name := "apuStays", fn := fun _ => fun
  | [d1, d2] => { results := [.lit (.bool true)], args := [d1, d2] }
  | _ => none }
def apuStaysRow : OpenClaim := { program := "ytdpogmikhfgcmaadoor", sum := "73ee14a21a8bfceac78c6eabdfe84b2e2ebfb072cfff1c1752380b13467f0d8e", func := "seepage/seepagelaw20.ApuStays", spec := "apuStays", named := ["seepage/dmc.rates", "seepage/tone.rates", "seepage/tone.longs"], apart := false, laid := [("seepage/dmc.rates", laid_seepage_dmc_rates), ("seepage/tone.longs", laid_seepage_tone_longs), ("seepage/tone.rates", laid_seepage_tone_rates)] }
def ApuStaysSaid : Prop := apuStaysRow.holds Tryd.pinned (OpenSpec.ofChange apuStaysSpec)

/-- ITS FALSE NEIGHBOUR: 'it returns false'. Refute it at one input. -/
def apuStaysWrong : ChangeSpec := { name := "apuStays", fn := fun _ => fun
  | [d1, d2] => { results := [.lit (.bool false)], args := [d1, d2] }
  | _ => none }
def ApuStaysWrongFalsely : Prop := apuStaysRow.holds Tryd.pinned (OpenSpec.ofChange apuStaysWrong)

/- THE SECOND FORM. 'bulk': how many values and letters a reading holds, each counted each time it is reached (what is shared counts as often as it is met; a slice's spare places count too). A statement '..UptoSaid' is the law's where the arguments, and the package variables that the reading takes, are together of bulk at most 1048576: NARROWER than '..Said'. Prove '..Said' where nothing that the law and all that it calls make is longer than what came in: it says more and counts as full. Else prove '..UptoSaid'. A law counts once. -/
mutual
def uptoBulk {H : Type} : DataW H → Nat
  | .lit (.string bytes) => bytes.length + 1
  | .lit _ => 1
  | .nil => 1
  | .ptr d => uptoBulk d + 1
  | .slice elems spare => uptoBulkAll elems + uptoBulkAll spare + 1
  | .agg parts => uptoBulkAll parts + 1
  | .iface _ d => uptoBulk d + 1
  | .map entries => uptoBulkEntries entries + 1
  | .held _ => 1
def uptoBulkAll {H : Type} : List (DataW H) → Nat
  | [] => 0
  | d :: r => uptoBulk d + uptoBulkAll r
def uptoBulkEntries {H : Type} : List (Lit × DataW H) → Nat
  | [] => 0
  | x :: r => uptoBulkEntry x + uptoBulkEntries r
def uptoBulkEntry {H : Type} : Lit × DataW H → Nat
  | (.string bytes, d) => bytes.length + uptoBulk d + 1
  | (_, d) => uptoBulk d + 1
 end
def uptoSmall : (H : Type) → List (DataW H) → Bool := fun _ ds => decide (uptoBulkAll ds ≤ 1048576)
def OpenSpec.upto (s : _root_.Go.ChangeSpec) : _root_.Go.OpenSpec := { _root_.Go.OpenSpec.ofChange s with cond := some uptoSmall }

/-- 'seepagelaw20.ApuSteps', WHERE WHAT IT READS IS OF BULK AT MOST 1048576: true; the input reads as it did. -/
def apuStepsUptoRow : OpenClaim := { program := "ytdpogmikhfgcmaadoor", sum := "73ee14a21a8bfceac78c6eabdfe84b2e2ebfb072cfff1c1752380b13467f0d8e", func := "seepage/seepagelaw20.ApuSteps", spec := "apuSteps", named := ["seepage/dmc.rates", "seepage/tone.longs", "seepage/tone.rates"], apart := false, laid := [("seepage/dmc.rates", laid_seepage_dmc_rates), ("seepage/tone.longs", laid_seepage_tone_longs), ("seepage/tone.rates", laid_seepage_tone_rates)], narrowed := true }
def ApuStepsUptoSaid : Prop := apuStepsUptoRow.holds Tryd.pinned (OpenSpec.upto apuStepsSpec)

/-- 'seepagelaw20.ApuApart', WHERE WHAT IT READS IS OF BULK AT MOST 1048576: true; the input reads as it did. -/
def apuApartUptoRow : OpenClaim := { program := "ytdpogmikhfgcmaadoor", sum := "73ee14a21a8bfceac78c6eabdfe84b2e2ebfb072cfff1c1752380b13467f0d8e", func := "seepage/seepagelaw20.ApuApart", spec := "apuApart", named := ["seepage/dmc.rates", "seepage/tone.rates", "seepage/tone.longs"], apart := false, laid := [("seepage/dmc.rates", laid_seepage_dmc_rates), ("seepage/tone.longs", laid_seepage_tone_longs), ("seepage/tone.rates", laid_seepage_tone_rates)], narrowed := true }
def ApuApartUptoSaid : Prop := apuApartUptoRow.holds Tryd.pinned (OpenSpec.upto apuApartSpec)

/-- 'seepagelaw20.ApuSilent', WHERE WHAT IT READS IS OF BULK AT MOST 1048576: true; the input reads as it did. -/
def apuSilentUptoRow : OpenClaim := { program := "ytdpogmikhfgcmaadoor", sum := "73ee14a21a8bfceac78c6eabdfe84b2e2ebfb072cfff1c1752380b13467f0d8e", func := "seepage/seepagelaw20.ApuSilent", spec := "apuSilent", named := ["seepage/dmc.rates", "seepage/tone.rates", "seepage/tone.longs"], apart := false, laid := [("seepage/dmc.rates", laid_seepage_dmc_rates), ("seepage/tone.longs", laid_seepage_tone_longs), ("seepage/tone.rates", laid_seepage_tone_rates)], narrowed := true }
def ApuSilentUptoSaid : Prop := apuSilentUptoRow.holds Tryd.pinned (OpenSpec.upto apuSilentSpec)

/-- 'seepagelaw20.ApuStays', WHERE WHAT IT READS IS OF BULK AT MOST 1048576: true; the input reads as it did. -/
def apuStaysUptoRow : OpenClaim := { program := "ytdpogmikhfgcmaadoor", sum := "73ee14a21a8bfceac78c6eabdfe84b2e2ebfb072cfff1c1752380b13467f0d8e", func := "seepage/seepagelaw20.ApuStays", spec := "apuStays", named := ["seepage/dmc.rates", "seepage/tone.rates", "seepage/tone.longs"], apart := false, laid := [("seepage/dmc.rates", laid_seepage_dmc_rates), ("seepage/tone.longs", laid_seepage_tone_longs), ("seepage/tone.rates", laid_seepage_tone_rates)], narrowed := true }
def ApuStaysUptoSaid : Prop := apuStaysUptoRow.holds Tryd.pinned (OpenSpec.upto apuStaysSpec)

end Rows
end Go.Proofs.YtdpogmikhfgcmaaDoor
