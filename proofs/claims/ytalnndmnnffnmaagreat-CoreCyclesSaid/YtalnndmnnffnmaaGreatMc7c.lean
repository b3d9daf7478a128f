/-
  Part of CrDr. No condition.
-/
import Derived.Test.YtalnndmnnffnmaaGreatMc7h
set_option linter.unusedVariables false
namespace Go.Proofs.YtalnndmnnffnmaaGreat.Cr
open Go Go.Proofs Go.Proofs.YtalnndmnnffnmaaGreat.Sx
theorem k7_16 (m : Int) : allR (fun n => flEq (caseX Tryz.prog (hR m) (gl m) (ctlI Tryz.f7) Tryz.f7 ckD n) (dec n)) 3 128 = true := by kernel_rfl
theorem k7_17 (m : Int) : allR (fun n => flEq (caseX Tryz.prog (hR m) (gl m) (ctlI Tryz.f7) Tryz.f7 ckD n) (dec n)) 3 136 = true := by kernel_rfl
theorem k7_18 (m : Int) : allR (fun n => flEq (caseX Tryz.prog (hR m) (gl m) (ctlI Tryz.f7) Tryz.f7 ckD n) (dec n)) 3 144 = true := by kernel_rfl
theorem k7_19 (m : Int) : allR (fun n => flEq (caseX Tryz.prog (hR m) (gl m) (ctlI Tryz.f7) Tryz.f7 ckD n) (dec n)) 3 152 = true := by kernel_rfl
theorem k7_20 (m : Int) : allR (fun n => flEq (caseX Tryz.prog (hR m) (gl m) (ctlI Tryz.f7) Tryz.f7 ckD n) (dec n)) 3 160 = true := by kernel_rfl
theorem k7_21 (m : Int) : allR (fun n => flEq (caseX Tryz.prog (hR m) (gl m) (ctlI Tryz.f7) Tryz.f7 ckD n) (dec n)) 3 168 = true := by kernel_rfl
theorem k7_22 (m : Int) : allR (fun n => flEq (caseX Tryz.prog (hR m) (gl m) (ctlI Tryz.f7) Tryz.f7 ckD n) (dec n)) 3 176 = true := by kernel_rfl
theorem k7_23 (m : Int) : allR (fun n => flEq (caseX Tryz.prog (hR m) (gl m) (ctlI Tryz.f7) Tryz.f7 ckD n) (dec n)) 3 184 = true := by kernel_rfl
end Go.Proofs.YtalnndmnnffnmaaGreat.Cr
