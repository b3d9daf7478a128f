/-
  No cell of these rows narrows 'for every input' (looked for: loops, veiled, ifaces, maps, wideKeys, modest, calm, conditions, laid).
  DERIVED. THE GIVEN ROWS OF THIS SEAT. 6 by the template 'for every input the law returns true; each argument reads behind the call as it read before'; 0 by the template 'total and deterministic' (their statements: YtghlmhlamoagoaaGreatTotals.lean).
  GIVEN WITH THE SEED: the statements are not yours to turn. If you find one false, say at which input.
  Laid BY PROGRAM, IN A SANDBOX (cutbox-rows.mjs): the forced cells as the released guide's own fill.sh prints them over the translation 91fdade83c07f464… (all of the seat's roots in one cut). By AI agents, Wed Nov 11 2026. No macro, syntax, notation, axiom, sorry.
-/
import Derived.Test.YtghlmhlamoagoaaGreatChecked
import GoSem.Claim
import GoSem.ClaimJoined
import GoSem.ClaimMapViews
import Derived.JoinedTies
import Derived.KernelRfl
namespace Go.Proofs.YtghlmhlamoagoaaGreat
/- THE CELL 'sum', in the pinned program and in every row, IS THE sha256 OF THE DUMP (.gsa) THAT YtghlmhlamoagoaaGreatProg.lean LOADS. Nothing in Lean hashes anything: it is a label: what it is worth is what the hold of that sum in a sandbox is worth. -/
noncomputable def Tryz.pinned : Pinned := { name := "ytghlmhlamoagoaagreat", sum := "91fdade83c07f464532f3bd5487dd2fbf517ce99fb5082265bbe3dac9d9b3f6c", checked := Tryz.checked }
namespace Rows
def none {H : Type} : Left H := { results := [], args := [] }

/-- 'seepagelaw11.FlatParts': WHATEVER THE INPUT: true; the input reads as it did. -/
def flatPartsSpec : ChangeSpec := { name := "flatParts", fn := fun _ => fun
  | [d1, d2, d3] => { results := [.lit (.bool true)], args := [d1, d2, d3] }
  | _ => none }
def flatPartsRow : OpenClaim := { program := "ytghlmhlamoagoaagreat", sum := "91fdade83c07f464532f3bd5487dd2fbf517ce99fb5082265bbe3dac9d9b3f6c", func := "seepage/seepagelaw11.FlatParts", spec := "flatParts", inPlace := ["internal/bytealg.IndexByteString", "internal/bytealg.IndexString"], unfollowed := true, recurses := true, named := ["internal/bytealg.MaxLen"], apart := false }
def FlatPartsSaid : Prop := flatPartsRow.holds Tryz.pinned (OpenSpec.ofChange flatPartsSpec)

/-- ITS FALSE NEIGHBOUR: 'it returns false'. Refute it at one input. -/
def flatPartsWrong : ChangeSpec := { name := "flatParts", fn := fun _ => fun
  | [d1, d2, d3] => { results := [.lit (.bool false)], args := [d1, d2, d3] }
  | _ => none }
def FlatPartsWrongFalsely : Prop := flatPartsRow.holds Tryz.pinned (OpenSpec.ofChange flatPartsWrong)

/-- 'seepagelaw11.FlatProgram': WHATEVER THE INPUT: true; the input reads as it did. -/
def flatProgramSpec : ChangeSpec := { name := "flatProgram", fn := fun _ => fun
  | [d1, d2, d3] => { results := [.lit (.bool true)], args := [d1, d2, d3] }
  | _ => none }
def flatProgramRow : OpenClaim := { program := "ytghlmhlamoagoaagreat", sum := "91fdade83c07f464532f3bd5487dd2fbf517ce99fb5082265bbe3dac9d9b3f6c", func := "seepage/seepagelaw11.FlatProgram", spec := "flatProgram", inPlace := ["internal/bytealg.IndexByteString", "internal/bytealg.IndexString"], unfollowed := true, recurses := true, named := ["internal/bytealg.MaxLen"], apart := false }
def FlatProgramSaid : Prop := flatProgramRow.holds Tryz.pinned (OpenSpec.ofChange flatProgramSpec)

/-- ITS FALSE NEIGHBOUR: 'it returns false'. Refute it at one input. -/
def flatProgramWrong : ChangeSpec := { name := "flatProgram", fn := fun _ => fun
  | [d1, d2, d3] => { results := [.lit (.bool false)], args := [d1, d2, d3] }
  | _ => none }
def FlatProgramWrongFalsely : Prop := flatProgramRow.holds Tryz.pinned (OpenSpec.ofChange flatProgramWrong)

/-- 'seepagelaw11.FlatLoop': WHATEVER THE INPUT: true; the input reads as it did. -/
def flatLoopSpec : ChangeSpec := { name := "flatLoop", fn := fun _ => fun
  | [d1, d2] => { results := [.lit (.bool true)], args := [d1, d2] }
  | _ => none }
def flatLoopRow : OpenClaim := { program := "ytghlmhlamoagoaagreat", sum := "91fdade83c07f464532f3bd5487dd2fbf517ce99fb5082265bbe3dac9d9b3f6c", func := "seepage/seepagelaw11.FlatLoop", spec := "flatLoop", inPlace := ["internal/bytealg.IndexByteString", "internal/bytealg.IndexString"], unfollowed := true, recurses := true, named := ["internal/bytealg.MaxLen"], apart := false }
def FlatLoopSaid : Prop := flatLoopRow.holds Tryz.pinned (OpenSpec.ofChange flatLoopSpec)

/-- ITS FALSE NEIGHBOUR: 'it returns false'. Refute it at one input. -/
def flatLoopWrong : ChangeSpec := { name := "flatLoop", fn := fun _ => fun
  | [d1, d2] => { results := [.lit (.bool false)], args := [d1, d2] }
  | _ => none }
def FlatLoopWrongFalsely : Prop := flatLoopRow.holds Tryz.pinned (OpenSpec.ofChange flatLoopWrong)

/-- 'seepagelaw11.FlatTells': WHATEVER THE INPUT: true; the input reads as it did. -/
def flatTellsSpec : ChangeSpec := { name := "flatTells", fn := fun _ => fun
  | [d1, d2, d3] => { results := [.lit (.bool true)], args := [d1, d2, d3] }
  | _ => none }
def flatTellsRow : OpenClaim := { program := "ytghlmhlamoagoaagreat", sum := "91fdade83c07f464532f3bd5487dd2fbf517ce99fb5082265bbe3dac9d9b3f6c", func := "seepage/seepagelaw11.FlatTells", spec := "flatTells", inPlace := ["internal/bytealg.IndexByteString", "internal/bytealg.IndexString"], unfollowed := true, recurses := true, named := ["internal/bytealg.MaxLen"], apart := false }
def FlatTellsSaid : Prop := flatTellsRow.holds Tryz.pinned (OpenSpec.ofChange flatTellsSpec)

/-- ITS FALSE NEIGHBOUR: 'it returns false'. Refute it at one input. -/
def flatTellsWrong : ChangeSpec := { name := "flatTells", fn := fun _ => fun
  | [d1, d2, d3] => { results := [.lit (.bool false)], args := [d1, d2, d3] }
  | _ => none }
def FlatTellsWrongFalsely : Prop := flatTellsRow.holds Tryz.pinned (OpenSpec.ofChange flatTellsWrong)

/-- 'seepagelaw11.FlatAlike': WHATEVER THE INPUT: true; the input reads as it did. -/
def flatAlikeSpec : ChangeSpec := { name := "flatAlike", fn := fun _ => fun
  | [d1, d2, d3] => { results := [.lit (.bool true)], args := [d1, d2, d3] }
  | _ => none }
def flatAlikeRow : OpenClaim := { program := "ytghlmhlamoagoaagreat", sum := "91fdade83c07f464532f3bd5487dd2fbf517ce99fb5082265bbe3dac9d9b3f6c", func := "seepage/seepagelaw11.FlatAlike", spec := "flatAlike", inPlace := ["internal/bytealg.IndexByteString", "internal/bytealg.IndexString"], unfollowed := true, recurses := true, named := ["internal/bytealg.MaxLen"], apart := false }
def FlatAlikeSaid : Prop := flatAlikeRow.holds Tryz.pinned (OpenSpec.ofChange flatAlikeSpec)

/-- ITS FALSE NEIGHBOUR: 'it returns false'. Refute it at one input. -/
def flatAlikeWrong : ChangeSpec := { name := "flatAlike", fn := fun _ => fun
  | [d1, d2, d3] => { results := [.lit (.bool false)], args := [d1, d2, d3] }
  | _ => none }
def FlatAlikeWrongFalsely : Prop := flatAlikeRow.holds Tryz.pinned (OpenSpec.ofChange flatAlikeWrong)

/-- 'seepagelaw11.FlatStays': WHATEVER THE INPUT: true; the input reads as it did. -/
def flatStaysSpec : ChangeSpec := { name := "flatStays", fn := fun _ => fun
  | [d1, d2, d3] => { results := [.lit (.bool true)], args := [d1, d2, d3] }
  | _ => none }
def flatStaysRow : OpenClaim := { program := "ytghlmhlamoagoaagreat", sum := "91fdade83c07f464532f3bd5487dd2fbf517ce99fb5082265bbe3dac9d9b3f6c", func := "seepage/seepagelaw11.FlatStays", spec := "flatStays", inPlace := ["internal/bytealg.IndexByteString", "internal/bytealg.IndexString"], unfollowed := true, recurses := true, named := ["internal/bytealg.MaxLen"], apart := false }
def FlatStaysSaid : Prop := flatStaysRow.holds Tryz.pinned (OpenSpec.ofChange flatStaysSpec)

/-- ITS FALSE NEIGHBOUR: 'it returns false'. Refute it at one input. -/
def flatStaysWrong : ChangeSpec := { name := "flatStays", fn := fun _ => fun
  | [d1, d2, d3] => { results := [.lit (.bool false)], args := [d1, d2, d3] }
  | _ => none }
def FlatStaysWrongFalsely : Prop := flatStaysRow.holds Tryz.pinned (OpenSpec.ofChange flatStaysWrong)

/- THE SECOND FORM. 'bulk': how many values and letters a reading holds, each counted each time it is reached (what is shared counts as often as it is met; a slice's spare places count too). A statement '..UptoSaid' is the law's where the arguments, and the package variables that the reading takes, are together of bulk at most 1048576: NARROWER than '..Said'. Prove '..Said' where nothing that the law and all that it calls make is longer than what came in: it says more and counts as full. Else prove '..UptoSaid'. A law counts once. -/
mutual
def uptoBulk {H : Type} : DataW H → Nat
  | .lit (.string bytes) => bytes.length + 1
  | .lit _ => 1
  | .nil => 1
  | .ptr d => uptoBulk d + 1
  | .slice elems spare => uptoBulkAll elems + uptoBulkAll spare + 1
  | .agg parts => uptoBulkAll parts + 1
  | .iface _ d => uptoBulk d + 1
  | .map entries => uptoBulkEntries entries + 1
  | .held _ => 1
def uptoBulkAll {H : Type} : List (DataW H) → Nat
  | [] => 0
  | d :: r => uptoBulk d + uptoBulkAll r
def uptoBulkEntries {H : Type} : List (Lit × DataW H) → Nat
  | [] => 0
  | x :: r => uptoBulkEntry x + uptoBulkEntries r
def uptoBulkEntry {H : Type} : Lit × DataW H → Nat
  | (.string bytes, d) => bytes.length + uptoBulk d + 1
  | (_, d) => uptoBulk d + 1
 end
def uptoSmall : (H : Type) → List (DataW H) → Bool := fun _ ds => decide (uptoBulkAll ds ≤ 1048576)
def OpenSpec.upto (s : _root_.Go.ChangeSpec) : _root_.Go.OpenSpec := { _root_.Go.OpenSpec.ofChange s with cond := some uptoSmall }

/-- 'seepagelaw11.FlatParts', WHERE WHAT IT READS IS OF BULK AT MOST 1048576: true; the input reads as it did. -/
def flatPartsUptoRow : OpenClaim := { program := "ytghlmhlamoagoaagreat", sum := "91fdade83c07f464532f3bd5487dd2fbf517ce99fb5082265bbe3dac9d9b3f6c", func := "seepage/seepagelaw11.FlatParts", spec := "flatParts", inPlace := ["internal/bytealg.IndexByteString", "internal/bytealg.IndexString"], unfollowed := true, recurses := true, named := ["internal/bytealg.MaxLen"], apart := false, narrowed := true }
def FlatPartsUptoSaid : Prop := flatPartsUptoRow.holds Tryz.pinned (OpenSpec.upto flatPartsSpec)

/-- 'seepagelaw11.FlatProgram', WHERE WHAT IT READS IS OF BULK AT MOST 1048576: true; the input reads as it did. -/
def flatProgramUptoRow : OpenClaim := { program := "ytghlmhlamoagoaagreat", sum := "91fdade83c07f464532f3bd5487dd2fbf517ce99fb5082265bbe3dac9d9b3f6c", func := "seepage/seepagelaw11.FlatProgram", spec := "flatProgram", inPlace := ["internal/bytealg.IndexByteString", "internal/bytealg.IndexString"], unfollowed := true, recurses := true, named := ["internal/bytealg.MaxLen"], apart := false, narrowed := true }
def FlatProgramUptoSaid : Prop := flatProgramUptoRow.holds Tryz.pinned (OpenSpec.upto flatProgramSpec)

/-- 'seepagelaw11.FlatLoop', WHERE WHAT IT READS IS OF BULK AT MOST 1048576: true; the input reads as it did. -/
def flatLoopUptoRow : OpenClaim := { program := "ytghlmhlamoagoaagreat", sum := "91fdade83c07f464532f3bd5487dd2fbf517ce99fb5082265bbe3dac9d9b3f6c", func := "seepage/seepagelaw11.FlatLoop", spec := "flatLoop", inPlace := ["internal/bytealg.IndexByteString", "internal/bytealg.IndexString"], unfollowed := true, recurses := true, named := ["internal/bytealg.MaxLen"], apart := false, narrowed := true }
def FlatLoopUptoSaid : Prop := flatLoopUptoRow.holds Tryz.pinned (OpenSpec.upto flatLoopSpec)

/-- 'seepagelaw11.FlatTells', WHERE WHAT IT READS IS OF BULK AT MOST 1048576: true; the input reads as it did. -/
def flatTellsUptoRow : OpenClaim := { program := "ytghlmhlamoagoaagreat", sum := "91fdade83c07f464532f3bd5487dd2fbf517ce99fb5082265bbe3dac9d9b3f6c", func := "seepage/seepagelaw11.FlatTells", spec := "flatTells", inPlace := ["internal/bytealg.IndexByteString", "internal/bytealg.IndexString"], unfollowed := true, recurses := true, named := ["internal/bytealg.MaxLen"], apart := false, narrowed := true }
def FlatTellsUptoSaid : Prop := flatTellsUptoRow.holds Tryz.pinned (OpenSpec.upto flatTellsSpec)

/-- 'seepagelaw11.FlatAlike', WHERE WHAT IT READS IS OF BULK AT MOST 1048576: true; the input reads as it did. -/
def flatAlikeUptoRow : OpenClaim := { program := "ytghlmhlamoagoaagreat", sum := "91fdade83c07f464532f3bd5487dd2fbf517ce99fb5082265bbe3dac9d9b3f6c", func := "seepage/seepagelaw11.FlatAlike", spec := "flatAlike", inPlace := ["internal/bytealg.IndexByteString", "internal/bytealg.IndexString"], unfollowed := true, recurses := true, named := ["internal/bytealg.MaxLen"], apart := false, narrowed := true }
def FlatAlikeUptoSaid : Prop := flatAlikeUptoRow.holds Tryz.pinned (OpenSpec.upto flatAlikeSpec)

/-- 'seepagelaw11.FlatStays', WHERE WHAT IT READS IS OF BULK AT MOST 1048576: true; the input reads as it did. -/
def flatStaysUptoRow : OpenClaim := { program := "ytghlmhlamoagoaagreat", sum := "91fdade83c07f464532f3bd5487dd2fbf517ce99fb5082265bbe3dac9d9b3f6c", func := "seepage/seepagelaw11.FlatStays", spec := "flatStays", inPlace := ["internal/bytealg.IndexByteString", "internal/bytealg.IndexString"], unfollowed := true, recurses := true, named := ["internal/bytealg.MaxLen"], apart := false, narrowed := true }
def FlatStaysUptoSaid : Prop := flatStaysUptoRow.holds Tryz.pinned (OpenSpec.upto flatStaysSpec)

end Rows
end Go.Proofs.YtghlmhlamoagoaaGreat
