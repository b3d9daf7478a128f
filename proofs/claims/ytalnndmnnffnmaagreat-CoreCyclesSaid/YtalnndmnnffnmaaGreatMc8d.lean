/-
  Merged texts. No condition.
-/
import Derived.Test.YtalnndmnnffnmaaGreatMc8a
/-! ## CrC3 -/
set_option linter.unusedVariables false
namespace Go.Proofs.YtalnndmnnffnmaaGreat.Cr
open Go Go.Proofs Go.Proofs.YtalnndmnnffnmaaGreat.Sx
def c3_2 : List Int := [9, 11, 41, 43, 73, 75, 105, 107, 128, 130, 137, 139, 160, 162, 169, 171, 192, 194, 201, 203, 224, 226, 233, 235]
theorem r3_2 : run3 (.v 13) c3_2 .leaf = true := by kernel_rfl
def c3_5 : List Int := [6, 7, 38, 39, 70, 71, 102, 103, 198, 199, 230, 231]
theorem r3_5 : run3 (.v 13) c3_5 .leaf = true := by kernel_rfl
def c3_8 : List Int := [22, 23, 54, 55, 86, 87, 118, 119, 214, 215, 246, 247]
theorem r3_8 : run3 (.v 13) c3_8 .leaf = true := by kernel_rfl
def c3_11 : List Int := [12, 13, 44, 45, 77, 109, 172, 173, 174, 175, 204, 205, 236, 237]
theorem r3_11 : run3 (.v 13) c3_11 .leaf = true := by kernel_rfl
def c3_14 : List Int := [28, 29, 60, 61, 92, 93, 124, 125, 188, 189, 220, 221, 252, 253]
theorem r3_14 : run3 (.v 13) c3_14 (.node 93 .leaf .leaf) = true := by kernel_rfl
def c3_17 : List Int := [25, 57, 89, 121, 185, 187, 190, 191, 217, 249]
theorem r3_17 : run3 (.v 13) c3_17 (.node 93 .leaf .leaf) = true := by kernel_rfl
def c3_20 : List Int := [1, 33, 65, 97, 161, 163, 193, 225]
theorem r3_20 : run3 (.v 13) c3_20 .leaf = true := by kernel_rfl
def c3_23 : List Int := [17, 49, 81, 113, 177, 179, 209, 241]
theorem r3_23 : run3 (.v 13) c3_23 (.node 110 .leaf .leaf) = true := by kernel_rfl
def c3_26 : List Int := [16]
theorem r3_26 : run3 (.c 16) c3_26 (.node 72 .leaf (.node 83 .leaf .leaf)) = true := by kernel_rfl
def c3_29 : List Int := [112]
theorem r3_29 : run3 (.c 112) c3_29 (.node 72 (.node 83 .leaf .leaf) .leaf) = true := by kernel_rfl
def c3_32 : List Int := [208]
theorem r3_32 : run3 (.c 208) c3_32 (.node 72 .leaf (.node 83 .leaf .leaf)) = true := by kernel_rfl
def c3_35 : List Int := [76]
theorem r3_35 : run3 (.c 76) c3_35 .leaf = true := by kernel_rfl
def c3_38 : List Int := [64]
theorem r3_38 : run3 (.c 64) c3_38 .leaf = true := by kernel_rfl
def c3_41 : List Int := [40, 104]
theorem r3_41 : run3 (.v 13) c3_41 .leaf = true := by kernel_rfl
end Go.Proofs.YtalnndmnnffnmaaGreat.Cr
