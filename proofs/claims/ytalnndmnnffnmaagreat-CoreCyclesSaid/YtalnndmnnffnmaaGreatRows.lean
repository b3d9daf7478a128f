/-
  No cell of these rows narrows 'for every input' (looked for: loops, veiled, ifaces, maps, wideKeys, modest, calm, conditions, laid).
  DERIVED. THE GIVEN ROWS OF THIS SEAT. 4 by the template 'for every input the law returns true; each argument reads behind the call as it read before'; 0 by the template 'total and deterministic' (their statements: YtalnndmnnffnmaaGreatTotals.lean).
  GIVEN WITH THE SEED: the statements are not yours to turn. If you find one false, say at which input.
  Laid BY PROGRAM, IN A SANDBOX (cutbox-rows.mjs): the forced cells as the released guide's own fill.sh prints them over the translation 9baf997a8c4162a6… (all of the seat's roots in one cut). By AI agents, Wed Nov 11 2026. No macro, syntax, notation, axiom, sorry.
-/
import Derived.Test.YtalnndmnnffnmaaGreatChecked
import GoSem.Claim
import GoSem.ClaimJoined
import GoSem.ClaimMapViews
import Derived.JoinedTies
import Derived.KernelRfl
namespace Go.Proofs.YtalnndmnnffnmaaGreat
/- THE CELL 'sum', in the pinned program and in every row, IS THE sha256 OF THE DUMP (.gsa) THAT YtalnndmnnffnmaaGreatProg.lean LOADS. Nothing in Lean hashes anything: it is a label: what it is worth is what the hold of that sum in a sandbox is worth. -/
noncomputable def Tryz.pinned : Pinned := { name := "ytalnndmnnffnmaagreat", sum := "9baf997a8c4162a6d6737b8d35e9dca98687c6e9ad4a113fa957cfb427ba0537", checked := Tryz.checked }
namespace Rows
def none {H : Type} : Left H := { results := [], args := [] }

/-- 'seepagelaw10.CoreCycles': WHATEVER THE INPUT: true; the input reads as it did. -/
def coreCyclesSpec : ChangeSpec := { name := "coreCycles", fn := fun _ => fun
  | [d1, d2, d3] => { results := [.lit (.bool true)], args := [d1, d2, d3] }
  | _ => none }
def coreCyclesRow : OpenClaim := { program := "ytalnndmnnffnmaagreat", sum := "9baf997a8c4162a6d6737b8d35e9dca98687c6e9ad4a113fa957cfb427ba0537", func := "seepage/seepagelaw10.CoreCycles", spec := "coreCycles", inPlace := ["internal/bytealg.IndexByteString", "internal/bytealg.IndexString"], unfollowed := true, recurses := true, named := ["internal/bytealg.MaxLen"], apart := false }
def CoreCyclesSaid : Prop := coreCyclesRow.holds Tryz.pinned (OpenSpec.ofChange coreCyclesSpec)

/-- ITS FALSE NEIGHBOUR: 'it returns false'. Refute it at one input. -/
def coreCyclesWrong : ChangeSpec := { name := "coreCycles", fn := fun _ => fun
  | [d1, d2, d3] => { results := [.lit (.bool false)], args := [d1, d2, d3] }
  | _ => none }
def CoreCyclesWrongFalsely : Prop := coreCyclesRow.holds Tryz.pinned (OpenSpec.ofChange coreCyclesWrong)

/-- 'seepagelaw10.CoreInterrupts': WHATEVER THE INPUT: true; the input reads as it did. -/
def coreInterruptsSpec : ChangeSpec := { name := "coreInterrupts", fn := fun _ => fun
  | [d1, d2, d3] => { results := [.lit (.bool true)], args := [d1, d2, d3] }
  | _ => none }
def coreInterruptsRow : OpenClaim := { program := "ytalnndmnnffnmaagreat", sum := "9baf997a8c4162a6d6737b8d35e9dca98687c6e9ad4a113fa957cfb427ba0537", func := "seepage/seepagelaw10.CoreInterrupts", spec := "coreInterrupts", inPlace := ["internal/bytealg.IndexByteString", "internal/bytealg.IndexString"], unfollowed := true, recurses := true, named := ["internal/bytealg.MaxLen"], apart := false }
def CoreInterruptsSaid : Prop := coreInterruptsRow.holds Tryz.pinned (OpenSpec.ofChange coreInterruptsSpec)

/-- ITS FALSE NEIGHBOUR: 'it returns false'. Refute it at one input. -/
def coreInterruptsWrong : ChangeSpec := { name := "coreInterrupts", fn := fun _ => fun
  | [d1, d2, d3] => { results := [.lit (.bool false)], args := [d1, d2, d3] }
  | _ => none }
def CoreInterruptsWrongFalsely : Prop := coreInterruptsRow.holds Tryz.pinned (OpenSpec.ofChange coreInterruptsWrong)

/-- 'seepagelaw10.CoreStays': WHATEVER THE INPUT: true; the input reads as it did. -/
def coreStaysSpec : ChangeSpec := { name := "coreStays", fn := fun _ => fun
  | [d1, d2] => { results := [.lit (.bool true)], args := [d1, d2] }
  | _ => none }
def coreStaysRow : OpenClaim := { program := "ytalnndmnnffnmaagreat", sum := "9baf997a8c4162a6d6737b8d35e9dca98687c6e9ad4a113fa957cfb427ba0537", func := "seepage/seepagelaw10.CoreStays", spec := "coreStays", inPlace := ["internal/bytealg.IndexByteString", "internal/bytealg.IndexString"], unfollowed := true, recurses := true, named := ["internal/bytealg.MaxLen"], apart := false }
def CoreStaysSaid : Prop := coreStaysRow.holds Tryz.pinned (OpenSpec.ofChange coreStaysSpec)

/-- ITS FALSE NEIGHBOUR: 'it returns false'. Refute it at one input. -/
def coreStaysWrong : ChangeSpec := { name := "coreStays", fn := fun _ => fun
  | [d1, d2] => { results := [.lit (.bool false)], args := [d1, d2] }
  | _ => none }
def CoreStaysWrongFalsely : Prop := coreStaysRow.holds Tryz.pinned (OpenSpec.ofChange coreStaysWrong)

/-- 'seepagelaw10.CoreErased': WHATEVER THE INPUT: true; the input reads as it did. -/
def coreErasedSpec : ChangeSpec := { name := "coreErased", fn := fun _ => fun
  | [d1, d2] => { results := [.lit (.bool true)], args := [d1, d2] }
  | _ => none }
def coreErasedRow : OpenClaim := { program := "ytalnndmnnffnmaagreat", sum := "9baf997a8c4162a6d6737b8d35e9dca98687c6e9ad4a113fa957cfb427ba0537", func := "seepage/seepagelaw10.CoreErased", spec := "coreErased", inPlace := ["internal/bytealg.IndexByteString", "internal/bytealg.IndexString"], unfollowed := true, recurses := true, named := ["internal/bytealg.MaxLen"], apart := false }
def CoreErasedSaid : Prop := coreErasedRow.holds Tryz.pinned (OpenSpec.ofChange coreErasedSpec)

/-- ITS FALSE NEIGHBOUR: 'it returns false'. Refute it at one input. -/
def coreErasedWrong : ChangeSpec := { name := "coreErased", fn := fun _ => fun
  | [d1, d2] => { results := [.lit (.bool false)], args := [d1, d2] }
  | _ => none }
def CoreErasedWrongFalsely : Prop := coreErasedRow.holds Tryz.pinned (OpenSpec.ofChange coreErasedWrong)

/- THE SECOND FORM. 'bulk': how many values and letters a reading holds, each counted each time it is reached (what is shared counts as often as it is met; a slice's spare places count too). A statement '..UptoSaid' is the law's where the arguments, and the package variables that the reading takes, are together of bulk at most 1048576: NARROWER than '..Said'. Prove '..Said' where nothing that the law and all that it calls make is longer than what came in: it says more and counts as full. Else prove '..UptoSaid'. A law counts once. -/
mutual
def uptoBulk {H : Type} : DataW H → Nat
  | .lit (.string bytes) => bytes.length + 1
  | .lit _ => 1
  | .nil => 1
  | .ptr d => uptoBulk d + 1
  | .slice elems spare => uptoBulkAll elems + uptoBulkAll spare + 1
  | .agg parts => uptoBulkAll parts + 1
  | .iface _ d => uptoBulk d + 1
  | .map entries => uptoBulkEntries entries + 1
  | .held _ => 1
def uptoBulkAll {H : Type} : List (DataW H) → Nat
  | [] => 0
  | d :: r => uptoBulk d + uptoBulkAll r
def uptoBulkEntries {H : Type} : List (Lit × DataW H) → Nat
  | [] => 0
  | x :: r => uptoBulkEntry x + uptoBulkEntries r
def uptoBulkEntry {H : Type} : Lit × DataW H → Nat
  | (.string bytes, d) => bytes.length + uptoBulk d + 1
  | (_, d) => uptoBulk d + 1
 end
def uptoSmall : (H : Type) → List (DataW H) → Bool := fun _ ds => decide (uptoBulkAll ds ≤ 1048576)
def OpenSpec.upto (s : _root_.Go.ChangeSpec) : _root_.Go.OpenSpec := { _root_.Go.OpenSpec.ofChange s with cond := some uptoSmall }

/-- 'seepagelaw10.CoreCycles', WHERE WHAT IT READS IS OF BULK AT MOST 1048576: true; the input reads as it did. -/
def coreCyclesUptoRow : OpenClaim := { program := "ytalnndmnnffnmaagreat", sum := "9baf997a8c4162a6d6737b8d35e9dca98687c6e9ad4a113fa957cfb427ba0537", func := "seepage/seepagelaw10.CoreCycles", spec := "coreCycles", inPlace := ["internal/bytealg.IndexByteString", "internal/bytealg.IndexString"], unfollowed := true, recurses := true, named := ["internal/bytealg.MaxLen"], apart := false, narrowed := true }
def CoreCyclesUptoSaid : Prop := coreCyclesUptoRow.holds Tryz.pinned (OpenSpec.upto coreCyclesSpec)

/-- 'seepagelaw10.CoreInterrupts', WHERE WHAT IT READS IS OF BULK AT MOST 1048576: true; the input reads as it did. -/
def coreInterruptsUptoRow : OpenClaim := { program := "ytalnndmnnffnmaagreat", sum := "9baf997a8c4162a6d6737b8d35e9dca98687c6e9ad4a113fa957cfb427ba0537", func := "seepage/seepagelaw10.CoreInterrupts", spec := "coreInterrupts", inPlace := ["internal/bytealg.IndexByteString", "internal/bytealg.IndexString"], unfollowed := true, recurses := true, named := ["internal/bytealg.MaxLen"], apart := false, narrowed := true }
def CoreInterruptsUptoSaid : Prop := coreInterruptsUptoRow.holds Tryz.pinned (OpenSpec.upto coreInterruptsSpec)

/-- 'seepagelaw10.CoreStays', WHERE WHAT IT READS IS OF BULK AT MOST 1048576: true; the input reads as it did. -/
def coreStaysUptoRow : OpenClaim := { program := "ytalnndmnnffnmaagreat", sum := "9baf997a8c4162a6d6737b8d35e9dca98687c6e9ad4a113fa957cfb427ba0537", func := "seepage/seepagelaw10.CoreStays", spec := "coreStays", inPlace := ["internal/bytealg.IndexByteString", "internal/bytealg.IndexString"], unfollowed := true, recurses := true, named := ["internal/bytealg.MaxLen"], apart := false, narrowed := true }
def CoreStaysUptoSaid : Prop := coreStaysUptoRow.holds Tryz.pinned (OpenSpec.upto coreStaysSpec)

/-- 'seepagelaw10.CoreErased', WHERE WHAT IT READS IS OF BULK AT MOST 1048576: true; the input reads as it did. -/
def coreErasedUptoRow : OpenClaim := { program := "ytalnndmnnffnmaagreat", sum := "9baf997a8c4162a6d6737b8d35e9dca98687c6e9ad4a113fa957cfb427ba0537", func := "seepage/seepagelaw10.CoreErased", spec := "coreErased", inPlace := ["internal/bytealg.IndexByteString", "internal/bytealg.IndexString"], unfollowed := true, recurses := true, named := ["internal/bytealg.MaxLen"], apart := false, narrowed := true }
def CoreErasedUptoSaid : Prop := coreErasedUptoRow.holds Tryz.pinned (OpenSpec.upto coreErasedSpec)

end Rows
end Go.Proofs.YtalnndmnnffnmaaGreat
