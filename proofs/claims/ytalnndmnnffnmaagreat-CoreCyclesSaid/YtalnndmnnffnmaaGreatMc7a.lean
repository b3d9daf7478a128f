/-
  Part of CrDr. No condition.
-/
import Derived.Test.YtalnndmnnffnmaaGreatMc7h
set_option linter.unusedVariables false
namespace Go.Proofs.YtalnndmnnffnmaaGreat.Cr
open Go Go.Proofs Go.Proofs.YtalnndmnnffnmaaGreat.Sx
theorem k7_0 (m : Int) : allR (fun n => flEq (caseX Tryz.prog (hR m) (gl m) (ctlI Tryz.f7) Tryz.f7 ckD n) (dec n)) 3 0 = true := by kernel_rfl
theorem k7_1 (m : Int) : allR (fun n => flEq (caseX Tryz.prog (hR m) (gl m) (ctlI Tryz.f7) Tryz.f7 ckD n) (dec n)) 3 8 = true := by kernel_rfl
theorem k7_2 (m : Int) : allR (fun n => flEq (caseX Tryz.prog (hR m) (gl m) (ctlI Tryz.f7) Tryz.f7 ckD n) (dec n)) 3 16 = true := by kernel_rfl
theorem k7_3 (m : Int) : allR (fun n => flEq (caseX Tryz.prog (hR m) (gl m) (ctlI Tryz.f7) Tryz.f7 ckD n) (dec n)) 3 24 = true := by kernel_rfl
theorem k7_4 (m : Int) : allR (fun n => flEq (caseX Tryz.prog (hR m) (gl m) (ctlI Tryz.f7) Tryz.f7 ckD n) (dec n)) 3 32 = true := by kernel_rfl
theorem k7_5 (m : Int) : allR (fun n => flEq (caseX Tryz.prog (hR m) (gl m) (ctlI Tryz.f7) Tryz.f7 ckD n) (dec n)) 3 40 = true := by kernel_rfl
theorem k7_6 (m : Int) : allR (fun n => flEq (caseX Tryz.prog (hR m) (gl m) (ctlI Tryz.f7) Tryz.f7 ckD n) (dec n)) 3 48 = true := by kernel_rfl
theorem k7_7 (m : Int) : allR (fun n => flEq (caseX Tryz.prog (hR m) (gl m) (ctlI Tryz.f7) Tryz.f7 ckD n) (dec n)) 3 56 = true := by kernel_rfl
end Go.Proofs.YtalnndmnnffnmaaGreat.Cr
