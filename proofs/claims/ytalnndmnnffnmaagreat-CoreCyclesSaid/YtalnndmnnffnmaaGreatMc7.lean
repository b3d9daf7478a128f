/-
  Merged texts (CrDr). No condition.
-/
import Derived.Test.YtalnndmnnffnmaaGreatMc5
import Derived.Test.YtalnndmnnffnmaaGreatMc6
/-! ## CrDr -/
set_option linter.unusedVariables false
namespace Go.Proofs.YtalnndmnnffnmaaGreat.Cr
open Go Go.Proofs Go.Proofs.YtalnndmnnffnmaaGreat.Sx

def inlR : List Nat := [18, 19, 20, 21, 22, 39, 40, 41, 42]
theorem inlR_ok : nameOk Tryz.prog inlR = true := by kernel_rfl
noncomputable def hR (m : Int) : Hnd := hndI Tryz.prog (gl m) inlR (hndG kn (hnd0 (tabS []))) 6
theorem hR_ok {m : Int} : HOk Tryz.prog (tabF []) (gl m) (hR m) := hndI_ok (hndG_ok kn_ok (hnd0_ok AllOk.nil)) inlR_ok 6
theorem k7_0 (m : Int) : allR (fun n => flEq (caseX Tryz.prog (hR m) (gl m) (ctlI Tryz.f7) Tryz.f7 ckD n) (dec n)) 3 0 = true := by kernel_rfl
theorem k7_1 (m : Int) : allR (fun n => flEq (caseX Tryz.prog (hR m) (gl m) (ctlI Tryz.f7) Tryz.f7 ckD n) (dec n)) 3 8 = true := by kernel_rfl
theorem k7_2 (m : Int) : allR (fun n => flEq (caseX Tryz.prog (hR m) (gl m) (ctlI Tryz.f7) Tryz.f7 ckD n) (dec n)) 3 16 = true := by kernel_rfl
theorem k7_3 (m : Int) : allR (fun n => flEq (caseX Tryz.prog (hR m) (gl m) (ctlI Tryz.f7) Tryz.f7 ckD n) (dec n)) 3 24 = true := by kernel_rfl
theorem k7_4 (m : Int) : allR (fun n => flEq (caseX Tryz.prog (hR m) (gl m) (ctlI Tryz.f7) Tryz.f7 ckD n) (dec n)) 3 32 = true := by kernel_rfl
theorem k7_5 (m : Int) : allR (fun n => flEq (caseX Tryz.prog (hR m) (gl m) (ctlI Tryz.f7) Tryz.f7 ckD n) (dec n)) 3 40 = true := by kernel_rfl
theorem k7_6 (m : Int) : allR (fun n => flEq (caseX Tryz.prog (hR m) (gl m) (ctlI Tryz.f7) Tryz.f7 ckD n) (dec n)) 3 48 = true := by kernel_rfl
theorem k7_7 (m : Int) : allR (fun n => flEq (caseX Tryz.prog (hR m) (gl m) (ctlI Tryz.f7) Tryz.f7 ckD n) (dec n)) 3 56 = true := by kernel_rfl
theorem k7_8 (m : Int) : allR (fun n => flEq (caseX Tryz.prog (hR m) (gl m) (ctlI Tryz.f7) Tryz.f7 ckD n) (dec n)) 3 64 = true := by kernel_rfl
theorem k7_9 (m : Int) : allR (fun n => flEq (caseX Tryz.prog (hR m) (gl m) (ctlI Tryz.f7) Tryz.f7 ckD n) (dec n)) 3 72 = true := by kernel_rfl
theorem k7_10 (m : Int) : allR (fun n => flEq (caseX Tryz.prog (hR m) (gl m) (ctlI Tryz.f7) Tryz.f7 ckD n) (dec n)) 3 80 = true := by kernel_rfl
theorem k7_11 (m : Int) : allR (fun n => flEq (caseX Tryz.prog (hR m) (gl m) (ctlI Tryz.f7) Tryz.f7 ckD n) (dec n)) 3 88 = true := by kernel_rfl
theorem k7_12 (m : Int) : allR (fun n => flEq (caseX Tryz.prog (hR m) (gl m) (ctlI Tryz.f7) Tryz.f7 ckD n) (dec n)) 3 96 = true := by kernel_rfl
theorem k7_13 (m : Int) : allR (fun n => flEq (caseX Tryz.prog (hR m) (gl m) (ctlI Tryz.f7) Tryz.f7 ckD n) (dec n)) 3 104 = true := by kernel_rfl
theorem k7_14 (m : Int) : allR (fun n => flEq (caseX Tryz.prog (hR m) (gl m) (ctlI Tryz.f7) Tryz.f7 ckD n) (dec n)) 3 112 = true := by kernel_rfl
theorem k7_15 (m : Int) : allR (fun n => flEq (caseX Tryz.prog (hR m) (gl m) (ctlI Tryz.f7) Tryz.f7 ckD n) (dec n)) 3 120 = true := by kernel_rfl
theorem k7_16 (m : Int) : allR (fun n => flEq (caseX Tryz.prog (hR m) (gl m) (ctlI Tryz.f7) Tryz.f7 ckD n) (dec n)) 3 128 = true := by kernel_rfl
theorem k7_17 (m : Int) : allR (fun n => flEq (caseX Tryz.prog (hR m) (gl m) (ctlI Tryz.f7) Tryz.f7 ckD n) (dec n)) 3 136 = true := by kernel_rfl
theorem k7_18 (m : Int) : allR (fun n => flEq (caseX Tryz.prog (hR m) (gl m) (ctlI Tryz.f7) Tryz.f7 ckD n) (dec n)) 3 144 = true := by kernel_rfl
theorem k7_19 (m : Int) : allR (fun n => flEq (caseX Tryz.prog (hR m) (gl m) (ctlI Tryz.f7) Tryz.f7 ckD n) (dec n)) 3 152 = true := by kernel_rfl
theorem k7_20 (m : Int) : allR (fun n => flEq (caseX Tryz.prog (hR m) (gl m) (ctlI Tryz.f7) Tryz.f7 ckD n) (dec n)) 3 160 = true := by kernel_rfl
theorem k7_21 (m : Int) : allR (fun n => flEq (caseX Tryz.prog (hR m) (gl m) (ctlI Tryz.f7) Tryz.f7 ckD n) (dec n)) 3 168 = true := by kernel_rfl
theorem k7_22 (m : Int) : allR (fun n => flEq (caseX Tryz.prog (hR m) (gl m) (ctlI Tryz.f7) Tryz.f7 ckD n) (dec n)) 3 176 = true := by kernel_rfl
theorem k7_23 (m : Int) : allR (fun n => flEq (caseX Tryz.prog (hR m) (gl m) (ctlI Tryz.f7) Tryz.f7 ckD n) (dec n)) 3 184 = true := by kernel_rfl
theorem k7_24 (m : Int) : allR (fun n => flEq (caseX Tryz.prog (hR m) (gl m) (ctlI Tryz.f7) Tryz.f7 ckD n) (dec n)) 3 192 = true := by kernel_rfl
theorem k7_25 (m : Int) : allR (fun n => flEq (caseX Tryz.prog (hR m) (gl m) (ctlI Tryz.f7) Tryz.f7 ckD n) (dec n)) 3 200 = true := by kernel_rfl
theorem k7_26 (m : Int) : allR (fun n => flEq (caseX Tryz.prog (hR m) (gl m) (ctlI Tryz.f7) Tryz.f7 ckD n) (dec n)) 3 208 = true := by kernel_rfl
theorem k7_27 (m : Int) : allR (fun n => flEq (caseX Tryz.prog (hR m) (gl m) (ctlI Tryz.f7) Tryz.f7 ckD n) (dec n)) 3 216 = true := by kernel_rfl
theorem k7_28 (m : Int) : allR (fun n => flEq (caseX Tryz.prog (hR m) (gl m) (ctlI Tryz.f7) Tryz.f7 ckD n) (dec n)) 3 224 = true := by kernel_rfl
theorem k7_29 (m : Int) : allR (fun n => flEq (caseX Tryz.prog (hR m) (gl m) (ctlI Tryz.f7) Tryz.f7 ckD n) (dec n)) 3 232 = true := by kernel_rfl
theorem k7_30 (m : Int) : allR (fun n => flEq (caseX Tryz.prog (hR m) (gl m) (ctlI Tryz.f7) Tryz.f7 ckD n) (dec n)) 3 240 = true := by kernel_rfl
theorem k7_31 (m : Int) : allR (fun n => flEq (caseX Tryz.prog (hR m) (gl m) (ctlI Tryz.f7) Tryz.f7 ckD n) (dec n)) 3 248 = true := by kernel_rfl
theorem k7 (m : Int) : allR (fun n => flEq (caseX Tryz.prog (hR m) (gl m) (ctlI Tryz.f7) Tryz.f7 ckD n) (dec n)) 8 0 = true := (allR_join (allR_join (allR_join (allR_join (allR_join (k7_0 m) (k7_1 m) rfl) (allR_join (k7_2 m) (k7_3 m) rfl) rfl) (allR_join (allR_join (k7_4 m) (k7_5 m) rfl) (allR_join (k7_6 m) (k7_7 m) rfl) rfl) rfl) (allR_join (allR_join (allR_join (k7_8 m) (k7_9 m) rfl) (allR_join (k7_10 m) (k7_11 m) rfl) rfl) (allR_join (allR_join (k7_12 m) (k7_13 m) rfl) (allR_join (k7_14 m) (k7_15 m) rfl) rfl) rfl) rfl) (allR_join (allR_join (allR_join (allR_join (k7_16 m) (k7_17 m) rfl) (allR_join (k7_18 m) (k7_19 m) rfl) rfl) (allR_join (allR_join (k7_20 m) (k7_21 m) rfl) (allR_join (k7_22 m) (k7_23 m) rfl) rfl) rfl) (allR_join (allR_join (allR_join (k7_24 m) (k7_25 m) rfl) (allR_join (k7_26 m) (k7_27 m) rfl) rfl) (allR_join (allR_join (k7_28 m) (k7_29 m) rfl) (allR_join (k7_30 m) (k7_31 m) rfl) rfl) rfl) rfl) rfl)
def s7 : Sum := sum8 ckD
def F7 : Fun := fun is _ => dec (is.getD 0 0).toNat
theorem c7 {m : Int} : Contract Tryz.prog (gl m) 7 s7 F7 := contract8 hR_ok Tryz.func7 (by kernel_rfl) (LoopsOk.nil rfl) (all8 (k7 m))
theorem call7 : ∀ args w, (callFunc 7 args).run Tryz.prog w = .ok (.enter 7 args) w := callable_of Tryz.func7 (by kernel_rfl) (by kernel_rfl)
end Go.Proofs.YtalnndmnnffnmaaGreat.Cr
