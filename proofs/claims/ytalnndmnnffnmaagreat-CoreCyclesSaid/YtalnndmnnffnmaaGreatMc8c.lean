/-
  Merged texts. No condition.
-/
import Derived.Test.YtalnndmnnffnmaaGreatMc8a
/-! ## CrC2 -/
set_option linter.unusedVariables false
namespace Go.Proofs.YtalnndmnnffnmaaGreat.Cr
open Go Go.Proofs Go.Proofs.YtalnndmnnffnmaaGreat.Sx
def c3_1 : List Int := [10, 42, 74, 106]
theorem r3_1 : run3 (.v 13) c3_1 .leaf = true := by kernel_rfl
def c3_4 : List Int := [132, 133, 134, 135]
theorem r3_4 : run3 (.v 13) c3_4 .leaf = true := by kernel_rfl
def c3_7 : List Int := [148, 149]
theorem r3_7 : run3 (.v 13) c3_7 .leaf = true := by kernel_rfl
def c3_10 : List Int := [150, 151]
theorem r3_10 : run3 (.v 13) c3_10 .leaf = true := by kernel_rfl
def c3_13 : List Int := [14, 15, 46, 47, 78, 79, 110, 111, 206, 207, 238, 239]
theorem r3_13 : run3 (.v 13) c3_13 .leaf = true := by kernel_rfl
def c3_16 : List Int := [30, 31, 62, 63, 94, 95, 126, 127, 222, 223, 254, 255]
theorem r3_16 : run3 (.v 13) c3_16 .leaf = true := by kernel_rfl
def c3_19 : List Int := [27, 59, 91, 123, 219, 251]
theorem r3_19 : run3 (.v 13) c3_19 .leaf = true := by kernel_rfl
def c3_22 : List Int := [3, 35, 67, 99, 195, 227]
theorem r3_22 : run3 (.v 13) c3_22 .leaf = true := by kernel_rfl
def c3_25 : List Int := [19, 51, 83, 115, 211, 243]
theorem r3_25 : run3 (.v 13) c3_25 .leaf = true := by kernel_rfl
def c3_28 : List Int := [80]
theorem r3_28 : run3 (.c 80) c3_28 (.node 72 .leaf (.node 83 .leaf .leaf)) = true := by kernel_rfl
def c3_31 : List Int := [176]
theorem r3_31 : run3 (.c 176) c3_31 (.node 72 (.node 83 .leaf .leaf) .leaf) = true := by kernel_rfl
def c3_34 : List Int := [108]
theorem r3_34 : run3 (.c 108) c3_34 .leaf = true := by kernel_rfl
def c3_37 : List Int := [96]
theorem r3_37 : run3 (.c 96) c3_37 .leaf = true := by kernel_rfl
def c3_40 : List Int := [8, 72]
theorem r3_40 : run3 (.v 13) c3_40 .leaf = true := by kernel_rfl
end Go.Proofs.YtalnndmnnffnmaaGreat.Cr
