/-
  Merged texts (CrDr). No condition.
-/
import Derived.Test.YtalnndmnnffnmaaGreatMc5
import Derived.Test.YtalnndmnnffnmaaGreatMc6
/-! ## CrDr -/
set_option linter.unusedVariables false
namespace Go.Proofs.YtalnndmnnffnmaaGreat.Cr
open Go Go.Proofs Go.Proofs.YtalnndmnnffnmaaGreat.Sx

def inlR : List Nat := [18, 19, 20, 21, 22, 39, 40, 41, 42]
theorem inlR_ok : nameOk Tryz.prog inlR = true := by kernel_rfl
noncomputable def hR (m : Int) : Hnd := hndI Tryz.prog (gl m) inlR (hndG kn (hnd0 (tabS []))) 6
theorem hR_ok {m : Int} : HOk Tryz.prog (tabF []) (gl m) (hR m) := hndI_ok (hndG_ok kn_ok (hnd0_ok AllOk.nil)) inlR_ok 6
end Go.Proofs.YtalnndmnnffnmaaGreat.Cr
