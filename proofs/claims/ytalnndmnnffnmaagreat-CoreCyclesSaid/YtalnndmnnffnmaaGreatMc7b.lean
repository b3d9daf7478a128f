/-
  Part of CrDr. No condition.
-/
import Derived.Test.YtalnndmnnffnmaaGreatMc7h
set_option linter.unusedVariables false
namespace Go.Proofs.YtalnndmnnffnmaaGreat.Cr
open Go Go.Proofs Go.Proofs.YtalnndmnnffnmaaGreat.Sx
theorem k7_8 (m : Int) : allR (fun n => flEq (caseX Tryz.prog (hR m) (gl m) (ctlI Tryz.f7) Tryz.f7 ckD n) (dec n)) 3 64 = true := by kernel_rfl
theorem k7_9 (m : Int) : allR (fun n => flEq (caseX Tryz.prog (hR m) (gl m) (ctlI Tryz.f7) Tryz.f7 ckD n) (dec n)) 3 72 = true := by kernel_rfl
theorem k7_10 (m : Int) : allR (fun n => flEq (caseX Tryz.prog (hR m) (gl m) (ctlI Tryz.f7) Tryz.f7 ckD n) (dec n)) 3 80 = true := by kernel_rfl
theorem k7_11 (m : Int) : allR (fun n => flEq (caseX Tryz.prog (hR m) (gl m) (ctlI Tryz.f7) Tryz.f7 ckD n) (dec n)) 3 88 = true := by kernel_rfl
theorem k7_12 (m : Int) : allR (fun n => flEq (caseX Tryz.prog (hR m) (gl m) (ctlI Tryz.f7) Tryz.f7 ckD n) (dec n)) 3 96 = true := by kernel_rfl
theorem k7_13 (m : Int) : allR (fun n => flEq (caseX Tryz.prog (hR m) (gl m) (ctlI Tryz.f7) Tryz.f7 ckD n) (dec n)) 3 104 = true := by kernel_rfl
theorem k7_14 (m : Int) : allR (fun n => flEq (caseX Tryz.prog (hR m) (gl m) (ctlI Tryz.f7) Tryz.f7 ckD n) (dec n)) 3 112 = true := by kernel_rfl
theorem k7_15 (m : Int) : allR (fun n => flEq (caseX Tryz.prog (hR m) (gl m) (ctlI Tryz.f7) Tryz.f7 ckD n) (dec n)) 3 120 = true := by kernel_rfl
end Go.Proofs.YtalnndmnnffnmaaGreat.Cr
