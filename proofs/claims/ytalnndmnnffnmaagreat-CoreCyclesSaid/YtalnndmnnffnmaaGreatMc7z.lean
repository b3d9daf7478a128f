/-
  End of CrDr. No condition.
-/
import Derived.Test.YtalnndmnnffnmaaGreatMc7a
import Derived.Test.YtalnndmnnffnmaaGreatMc7b
import Derived.Test.YtalnndmnnffnmaaGreatMc7c
import Derived.Test.YtalnndmnnffnmaaGreatMc7d
set_option linter.unusedVariables false
namespace Go.Proofs.YtalnndmnnffnmaaGreat.Cr
open Go Go.Proofs Go.Proofs.YtalnndmnnffnmaaGreat.Sx
theorem k7 (m : Int) : allR (fun n => flEq (caseX Tryz.prog (hR m) (gl m) (ctlI Tryz.f7) Tryz.f7 ckD n) (dec n)) 8 0 = true := (allR_join (allR_join (allR_join (allR_join (allR_join (k7_0 m) (k7_1 m) rfl) (allR_join (k7_2 m) (k7_3 m) rfl) rfl) (allR_join (allR_join (k7_4 m) (k7_5 m) rfl) (allR_join (k7_6 m) (k7_7 m) rfl) rfl) rfl) (allR_join (allR_join (allR_join (k7_8 m) (k7_9 m) rfl) (allR_join (k7_10 m) (k7_11 m) rfl) rfl) (allR_join (allR_join (k7_12 m) (k7_13 m) rfl) (allR_join (k7_14 m) (k7_15 m) rfl) rfl) rfl) rfl) (allR_join (allR_join (allR_join (allR_join (k7_16 m) (k7_17 m) rfl) (allR_join (k7_18 m) (k7_19 m) rfl) rfl) (allR_join (allR_join (k7_20 m) (k7_21 m) rfl) (allR_join (k7_22 m) (k7_23 m) rfl) rfl) rfl) (allR_join (allR_join (allR_join (k7_24 m) (k7_25 m) rfl) (allR_join (k7_26 m) (k7_27 m) rfl) rfl) (allR_join (allR_join (k7_28 m) (k7_29 m) rfl) (allR_join (k7_30 m) (k7_31 m) rfl) rfl) rfl) rfl) rfl)
def s7 : Sum := sum8 ckD
def F7 : Fun := fun is _ => dec (is.getD 0 0).toNat
theorem c7 {m : Int} : Contract Tryz.prog (gl m) 7 s7 F7 := contract8 hR_ok Tryz.func7 (by kernel_rfl) (LoopsOk.nil rfl) (all8 (k7 m))
theorem call7 : ∀ args w, (callFunc 7 args).run Tryz.prog w = .ok (.enter 7 args) w := callable_of Tryz.func7 (by kernel_rfl) (by kernel_rfl)
end Go.Proofs.YtalnndmnnffnmaaGreat.Cr
