/-
  Merged texts. No condition.
-/
import Derived.Test.YtalnndmnnffnmaaGreatMc8a
/-! ## CrC1 -/
set_option linter.unusedVariables false
namespace Go.Proofs.YtalnndmnnffnmaaGreat.Cr
open Go Go.Proofs Go.Proofs.YtalnndmnnffnmaaGreat.Sx
def c3_0 : List Int := [24, 26, 56, 58, 88, 90, 120, 122, 136, 138, 152, 154, 168, 170, 184, 186, 200, 202, 216, 218, 232, 234, 248, 250]
theorem r3_0 : run3 (.v 13) c3_0 .leaf = true := by kernel_rfl
def c3_3 : List Int := [4, 5, 36, 37, 68, 69, 100, 101, 164, 165, 166, 167, 196, 197, 228, 229]
theorem r3_3 : run3 (.v 13) c3_3 .leaf = true := by kernel_rfl
def c3_6 : List Int := [20, 21, 52, 53, 84, 85, 116, 117, 180, 181, 212, 213, 244, 245]
theorem r3_6 : run3 (.v 13) c3_6 .leaf = true := by kernel_rfl
def c3_9 : List Int := [182, 183]
theorem r3_9 : run3 (.v 13) c3_9 .leaf = true := by kernel_rfl
def c3_12 : List Int := [140, 141, 142, 143]
theorem r3_12 : run3 (.v 13) c3_12 .leaf = true := by kernel_rfl
def c3_15 : List Int := [156, 157]
theorem r3_15 : run3 (.v 13) c3_15 .leaf = true := by kernel_rfl
def c3_18 : List Int := [153, 155, 158, 159]
theorem r3_18 : run3 (.v 13) c3_18 .leaf = true := by kernel_rfl
def c3_21 : List Int := [129, 131]
theorem r3_21 : run3 (.v 13) c3_21 .leaf = true := by kernel_rfl
def c3_24 : List Int := [145, 147]
theorem r3_24 : run3 (.v 13) c3_24 .leaf = true := by kernel_rfl
def c3_27 : List Int := [48]
theorem r3_27 : run3 (.c 48) c3_27 (.node 72 (.node 83 .leaf .leaf) .leaf) = true := by kernel_rfl
def c3_30 : List Int := [144]
theorem r3_30 : run3 (.c 144) c3_30 (.node 72 .leaf (.node 83 .leaf .leaf)) = true := by kernel_rfl
def c3_33 : List Int := [240]
theorem r3_33 : run3 (.c 240) c3_33 (.node 72 (.node 83 .leaf .leaf) .leaf) = true := by kernel_rfl
def c3_36 : List Int := [32]
theorem r3_36 : run3 (.c 32) c3_36 .leaf = true := by kernel_rfl
def c3_39 : List Int := [0]
theorem r3_39 : run3 (.c 0) c3_39 .leaf = true := by kernel_rfl
def c3_42 : List Int := [2, 18, 34, 50, 66, 82, 98, 114, 146, 178, 210, 242]
theorem r3_42 : run3 (.v 13) c3_42 .leaf = true := by kernel_rfl
end Go.Proofs.YtalnndmnnffnmaaGreat.Cr
