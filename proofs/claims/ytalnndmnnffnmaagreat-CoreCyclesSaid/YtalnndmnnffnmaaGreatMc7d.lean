/-
  Part of CrDr. No condition.
-/
import Derived.Test.YtalnndmnnffnmaaGreatMc7h
set_option linter.unusedVariables false
namespace Go.Proofs.YtalnndmnnffnmaaGreat.Cr
open Go Go.Proofs Go.Proofs.YtalnndmnnffnmaaGreat.Sx
theorem k7_24 (m : Int) : allR (fun n => flEq (caseX Tryz.prog (hR m) (gl m) (ctlI Tryz.f7) Tryz.f7 ckD n) (dec n)) 3 192 = true := by kernel_rfl
theorem k7_25 (m : Int) : allR (fun n => flEq (caseX Tryz.prog (hR m) (gl m) (ctlI Tryz.f7) Tryz.f7 ckD n) (dec n)) 3 200 = true := by kernel_rfl
theorem k7_26 (m : Int) : allR (fun n => flEq (caseX Tryz.prog (hR m) (gl m) (ctlI Tryz.f7) Tryz.f7 ckD n) (dec n)) 3 208 = true := by kernel_rfl
theorem k7_27 (m : Int) : allR (fun n => flEq (caseX Tryz.prog (hR m) (gl m) (ctlI Tryz.f7) Tryz.f7 ckD n) (dec n)) 3 216 = true := by kernel_rfl
theorem k7_28 (m : Int) : allR (fun n => flEq (caseX Tryz.prog (hR m) (gl m) (ctlI Tryz.f7) Tryz.f7 ckD n) (dec n)) 3 224 = true := by kernel_rfl
theorem k7_29 (m : Int) : allR (fun n => flEq (caseX Tryz.prog (hR m) (gl m) (ctlI Tryz.f7) Tryz.f7 ckD n) (dec n)) 3 232 = true := by kernel_rfl
theorem k7_30 (m : Int) : allR (fun n => flEq (caseX Tryz.prog (hR m) (gl m) (ctlI Tryz.f7) Tryz.f7 ckD n) (dec n)) 3 240 = true := by kernel_rfl
theorem k7_31 (m : Int) : allR (fun n => flEq (caseX Tryz.prog (hR m) (gl m) (ctlI Tryz.f7) Tryz.f7 ckD n) (dec n)) 3 248 = true := by kernel_rfl
end Go.Proofs.YtalnndmnnffnmaaGreat.Cr
