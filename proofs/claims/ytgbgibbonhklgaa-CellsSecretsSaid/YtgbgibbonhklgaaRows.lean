/-
  No cell of these rows narrows 'for every input' (looked for: loops, veiled, ifaces, maps, wideKeys, modest, calm, conditions, laid).
  DERIVED. THE GIVEN ROWS OF THIS SEAT. 6 by the template 'for every input the law returns true; each argument reads behind the call as it read before'; 0 by the template 'total and deterministic' (their statements: YtgbgibbonhklgaaTotals.lean).
  GIVEN WITH THE SEED: the statements are not yours to turn. If you find one false, say at which input.
  Laid BY PROGRAM, IN A SANDBOX (cutbox-rows.mjs): the forced cells as the released guide's own fill.sh prints them over the translation eb661979a0165842… (all of the seat's roots in one cut). By AI agents, Wed Nov 11 2026. No macro, syntax, notation, axiom, sorry.
-/
import Derived.Test.YtgbgibbonhklgaaChecked
import GoSem.Claim
import GoSem.ClaimJoined
import GoSem.ClaimMapViews
import Derived.JoinedTies
import Derived.KernelRfl
namespace Go.Proofs.Ytgbgibbonhklgaa
/- THE CELL 'sum', in the pinned program and in every row, IS THE sha256 OF THE DUMP (.gsa) THAT YtgbgibbonhklgaaProg.lean LOADS. Nothing in Lean hashes anything: it is a label: what it is worth is what the hold of that sum in a sandbox is worth. -/
noncomputable def Try.pinned : Pinned := { name := "ytgbgibbonhklgaa", sum := "eb661979a0165842dbc7985715a573bdb8ffcb1f5d6160e6c96c6f0ecc483903", checked := Try.checked }
namespace Rows
def none {H : Type} : Left H := { results := [], args := [] }

/-- 'seepagelaw02.CellsRanges': WHATEVER THE INPUT: true; the input reads as it did. -/
def cellsRangesSpec : ChangeSpec := { name := "cellsRanges", fn := fun _ => fun
  | [d1, d2] => { results := [.lit (.bool true)], args := [d1, d2] }
  | _ => none }
def cellsRangesRow : OpenClaim := { program := "ytgbgibbonhklgaa", sum := "eb661979a0165842dbc7985715a573bdb8ffcb1f5d6160e6c96c6f0ecc483903", func := "seepage/seepagelaw02.CellsRanges", spec := "cellsRanges", unfollowed := true, recurses := true, apart := false }
def CellsRangesSaid : Prop := cellsRangesRow.holds Try.pinned (OpenSpec.ofChange cellsRangesSpec)

/-- ITS FALSE NEIGHBOUR: 'it returns false'. Refute it at one input. -/
def cellsRangesWrong : ChangeSpec := { name := "cellsRanges", fn := fun _ => fun
  | [d1, d2] => { results := [.lit (.bool false)], args := [d1, d2] }
  | _ => none }
def CellsRangesWrongFalsely : Prop := cellsRangesRow.holds Try.pinned (OpenSpec.ofChange cellsRangesWrong)

/-- 'seepagelaw02.CellsTidy': WHATEVER THE INPUT: true; the input reads as it did. -/
def cellsTidySpec : ChangeSpec := { name := "cellsTidy", fn := fun _ => fun
  | [d1, d2] => { results := [.lit (.bool true)], args := [d1, d2] }
  | _ => none }
def cellsTidyRow : OpenClaim := { program := "ytgbgibbonhklgaa", sum := "eb661979a0165842dbc7985715a573bdb8ffcb1f5d6160e6c96c6f0ecc483903", func := "seepage/seepagelaw02.CellsTidy", spec := "cellsTidy", unfollowed := true, recurses := true, apart := false }
def CellsTidySaid : Prop := cellsTidyRow.holds Try.pinned (OpenSpec.ofChange cellsTidySpec)

/-- ITS FALSE NEIGHBOUR: 'it returns false'. Refute it at one input. -/
def cellsTidyWrong : ChangeSpec := { name := "cellsTidy", fn := fun _ => fun
  | [d1, d2] => { results := [.lit (.bool false)], args := [d1, d2] }
  | _ => none }
def CellsTidyWrongFalsely : Prop := cellsTidyRow.holds Try.pinned (OpenSpec.ofChange cellsTidyWrong)

/-- 'seepagelaw02.CellsStore': WHATEVER THE INPUT: true; the input reads as it did. -/
def cellsStoreSpec : ChangeSpec := { name := "cellsStore", fn := fun _ => fun
  | [d1, d2, d3] => { results := [.lit (.bool true)], args := [d1, d2, d3] }
  | _ => none }
def cellsStoreRow : OpenClaim := { program := "ytgbgibbonhklgaa", sum := "eb661979a0165842dbc7985715a573bdb8ffcb1f5d6160e6c96c6f0ecc483903", func := "seepage/seepagelaw02.CellsStore", spec := "cellsStore", unfollowed := true, recurses := true, apart := false }
def CellsStoreSaid : Prop := cellsStoreRow.holds Try.pinned (OpenSpec.ofChange cellsStoreSpec)

/-- ITS FALSE NEIGHBOUR: 'it returns false'. Refute it at one input. -/
def cellsStoreWrong : ChangeSpec := { name := "cellsStore", fn := fun _ => fun
  | [d1, d2, d3] => { results := [.lit (.bool false)], args := [d1, d2, d3] }
  | _ => none }
def CellsStoreWrongFalsely : Prop := cellsStoreRow.holds Try.pinned (OpenSpec.ofChange cellsStoreWrong)

/-- 'seepagelaw02.CellsMake': WHATEVER THE INPUT: true; the input reads as it did. -/
def cellsMakeSpec : ChangeSpec := { name := "cellsMake", fn := fun _ => fun
  | [d1, d2, d3] => { results := [.lit (.bool true)], args := [d1, d2, d3] }
  | _ => none }
def cellsMakeRow : OpenClaim := { program := "ytgbgibbonhklgaa", sum := "eb661979a0165842dbc7985715a573bdb8ffcb1f5d6160e6c96c6f0ecc483903", func := "seepage/seepagelaw02.CellsMake", spec := "cellsMake", unfollowed := true, recurses := true, apart := false }
def CellsMakeSaid : Prop := cellsMakeRow.holds Try.pinned (OpenSpec.ofChange cellsMakeSpec)

/-- ITS FALSE NEIGHBOUR: 'it returns false'. Refute it at one input. -/
def cellsMakeWrong : ChangeSpec := { name := "cellsMake", fn := fun _ => fun
  | [d1, d2, d3] => { results := [.lit (.bool false)], args := [d1, d2, d3] }
  | _ => none }
def CellsMakeWrongFalsely : Prop := cellsMakeRow.holds Try.pinned (OpenSpec.ofChange cellsMakeWrong)

/-- 'seepagelaw02.CellsSecrets': WHATEVER THE INPUT: true; the input reads as it did. -/
def cellsSecretsSpec : ChangeSpec := { name := "cellsSecrets", fn := fun _ => fun
  | [d] => { results := [.lit (.bool true)], args := [d] }
  | _ => none }
def cellsSecretsRow : OpenClaim := { program := "ytgbgibbonhklgaa", sum := "eb661979a0165842dbc7985715a573bdb8ffcb1f5d6160e6c96c6f0ecc483903", func := "seepage/seepagelaw02.CellsSecrets", spec := "cellsSecrets", unfollowed := true, recurses := true, apart := false }
def CellsSecretsSaid : Prop := cellsSecretsRow.holds Try.pinned (OpenSpec.ofChange cellsSecretsSpec)

/-- ITS FALSE NEIGHBOUR: 'it returns false'. Refute it at one input. -/
def cellsSecretsWrong : ChangeSpec := { name := "cellsSecrets", fn := fun _ => fun
  | [d] => { results := [.lit (.bool false)], args := [d] }
  | _ => none }
def CellsSecretsWrongFalsely : Prop := cellsSecretsRow.holds Try.pinned (OpenSpec.ofChange cellsSecretsWrong)

/-- 'seepagelaw02.CellsAlike': WHATEVER THE INPUT: true; the input reads as it did. -/
def cellsAlikeSpec : ChangeSpec := { name := "cellsAlike", fn := fun _ => fun
  | [d1, d2, d3] => { results := [.lit (.bool true)], args := [d1, d2, d3] }
  | _ => none }
def cellsAlikeRow : OpenClaim := { program := "ytgbgibbonhklgaa", sum := "eb661979a0165842dbc7985715a573bdb8ffcb1f5d6160e6c96c6f0ecc483903", func := "seepage/seepagelaw02.CellsAlike", spec := "cellsAlike", unfollowed := true, recurses := true, apart := false }
def CellsAlikeSaid : Prop := cellsAlikeRow.holds Try.pinned (OpenSpec.ofChange cellsAlikeSpec)

/-- ITS FALSE NEIGHBOUR: 'it returns false'. Refute it at one input. -/
def cellsAlikeWrong : ChangeSpec := { name := "cellsAlike", fn := fun _ => fun
  | [d1, d2, d3] => { results := [.lit (.bool false)], args := [d1, d2, d3] }
  | _ => none }
def CellsAlikeWrongFalsely : Prop := cellsAlikeRow.holds Try.pinned (OpenSpec.ofChange cellsAlikeWrong)

/- THE SECOND FORM. 'bulk': how many values and letters a reading holds, each counted each time it is reached (what is shared counts as often as it is met; a slice's spare places count too). A statement '..UptoSaid' is the law's where the arguments, and the package variables that the reading takes, are together of bulk at most 1048576: NARROWER than '..Said'. Prove '..Said' where nothing that the law and all that it calls make is longer than what came in: it says more and counts as full. Else prove '..UptoSaid'. A law counts once. -/
mutual
def uptoBulk {H : Type} : DataW H → Nat
  | .lit (.string bytes) => bytes.length + 1
  | .lit _ => 1
  | .nil => 1
  | .ptr d => uptoBulk d + 1
  | .slice elems spare => uptoBulkAll elems + uptoBulkAll spare + 1
  | .agg parts => uptoBulkAll parts + 1
  | .iface _ d => uptoBulk d + 1
  | .map entries => uptoBulkEntries entries + 1
  | .held _ => 1
def uptoBulkAll {H : Type} : List (DataW H) → Nat
  | [] => 0
  | d :: r => uptoBulk d + uptoBulkAll r
def uptoBulkEntries {H : Type} : List (Lit × DataW H) → Nat
  | [] => 0
  | x :: r => uptoBulkEntry x + uptoBulkEntries r
def uptoBulkEntry {H : Type} : Lit × DataW H → Nat
  | (.string bytes, d) => bytes.length + uptoBulk d + 1
  | (_, d) => uptoBulk d + 1
 end
def uptoSmall : (H : Type) → List (DataW H) → Bool := fun _ ds => decide (uptoBulkAll ds ≤ 1048576)
def OpenSpec.upto (s : _root_.Go.ChangeSpec) : _root_.Go.OpenSpec := { _root_.Go.OpenSpec.ofChange s with cond := some uptoSmall }

/-- 'seepagelaw02.CellsRanges', WHERE WHAT IT READS IS OF BULK AT MOST 1048576: true; the input reads as it did. -/
def cellsRangesUptoRow : OpenClaim := { program := "ytgbgibbonhklgaa", sum := "eb661979a0165842dbc7985715a573bdb8ffcb1f5d6160e6c96c6f0ecc483903", func := "seepage/seepagelaw02.CellsRanges", spec := "cellsRanges", unfollowed := true, recurses := true, apart := false, narrowed := true }
def CellsRangesUptoSaid : Prop := cellsRangesUptoRow.holds Try.pinned (OpenSpec.upto cellsRangesSpec)

/-- 'seepagelaw02.CellsTidy', WHERE WHAT IT READS IS OF BULK AT MOST 1048576: true; the input reads as it did. -/
def cellsTidyUptoRow : OpenClaim := { program := "ytgbgibbonhklgaa", sum := "eb661979a0165842dbc7985715a573bdb8ffcb1f5d6160e6c96c6f0ecc483903", func := "seepage/seepagelaw02.CellsTidy", spec := "cellsTidy", unfollowed := true, recurses := true, apart := false, narrowed := true }
def CellsTidyUptoSaid : Prop := cellsTidyUptoRow.holds Try.pinned (OpenSpec.upto cellsTidySpec)

/-- 'seepagelaw02.CellsStore', WHERE WHAT IT READS IS OF BULK AT MOST 1048576: true; the input reads as it did. -/
def cellsStoreUptoRow : OpenClaim := { program := "ytgbgibbonhklgaa", sum := "eb661979a0165842dbc7985715a573bdb8ffcb1f5d6160e6c96c6f0ecc483903", func := "seepage/seepagelaw02.CellsStore", spec := "cellsStore", unfollowed := true, recurses := true, apart := false, narrowed := true }
def CellsStoreUptoSaid : Prop := cellsStoreUptoRow.holds Try.pinned (OpenSpec.upto cellsStoreSpec)

/-- 'seepagelaw02.CellsMake', WHERE WHAT IT READS IS OF BULK AT MOST 1048576: true; the input reads as it did. -/
def cellsMakeUptoRow : OpenClaim := { program := "ytgbgibbonhklgaa", sum := "eb661979a0165842dbc7985715a573bdb8ffcb1f5d6160e6c96c6f0ecc483903", func := "seepage/seepagelaw02.CellsMake", spec := "cellsMake", unfollowed := true, recurses := true, apart := false, narrowed := true }
def CellsMakeUptoSaid : Prop := cellsMakeUptoRow.holds Try.pinned (OpenSpec.upto cellsMakeSpec)

/-- 'seepagelaw02.CellsSecrets', WHERE WHAT IT READS IS OF BULK AT MOST 1048576: true; the input reads as it did. -/
def cellsSecretsUptoRow : OpenClaim := { program := "ytgbgibbonhklgaa", sum := "eb661979a0165842dbc7985715a573bdb8ffcb1f5d6160e6c96c6f0ecc483903", func := "seepage/seepagelaw02.CellsSecrets", spec := "cellsSecrets", unfollowed := true, recurses := true, apart := false, narrowed := true }
def CellsSecretsUptoSaid : Prop := cellsSecretsUptoRow.holds Try.pinned (OpenSpec.upto cellsSecretsSpec)

/-- 'seepagelaw02.CellsAlike', WHERE WHAT IT READS IS OF BULK AT MOST 1048576: true; the input reads as it did. -/
def cellsAlikeUptoRow : OpenClaim := { program := "ytgbgibbonhklgaa", sum := "eb661979a0165842dbc7985715a573bdb8ffcb1f5d6160e6c96c6f0ecc483903", func := "seepage/seepagelaw02.CellsAlike", spec := "cellsAlike", unfollowed := true, recurses := true, apart := false, narrowed := true }
def CellsAlikeUptoSaid : Prop := cellsAlikeUptoRow.holds Try.pinned (OpenSpec.upto cellsAlikeSpec)

end Rows
end Go.Proofs.Ytgbgibbonhklgaa
