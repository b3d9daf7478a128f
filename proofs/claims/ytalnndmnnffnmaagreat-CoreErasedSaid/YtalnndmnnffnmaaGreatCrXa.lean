/-
  The processor's cycles, class of instructions by class: what may be stays such. WRITTEN BY PROGRAM (wip/gen/crx.py). No condition.
-/
import Derived.Test.YtalnndmnnffnmaaGreatCrV
set_option linter.unusedVariables false
namespace Go.Proofs.YtalnndmnnffnmaaGreat.Cr
open Go Go.Proofs Go.Proofs.YtalnndmnnffnmaaGreat.Sx
def stI (O T : List Int) : List VI := [VI.top, VI.top, VI.top, VI.top, VI.msk 207, VI.msk 207, VI.top, VI.of O, VI.of T, VI.top, VI.top, VI.of [0, 1, 2, 3], VI.of [0, 1, 2]]
def outOk (o : List VI) : Bool := okC (o.take 13) && (match (o.getD 13 VI.top).vs with
  | some [.ofNat 0] => true
  | _ => false)
noncomputable def chkT (O : List Int) (v : VI) (t : Int) : Bool := match V13 (stI O [t] ++ [v]) (List.replicate 16 none) with
  | (oi, some true :: _) => outOk oi
  | _ => false
noncomputable def chkW (O : List Int) (t : Int) : Bool := outOk (V16 (stI O [t]) (List.replicate 15 none)).1
def all256 : List Int := (List.range 256).map Int.ofNat
theorem w_0 : chkW all256 0 = true := by kernel_rfl
theorem t_0 : chkT all256 (VI.of all256) 0 = true := by kernel_rfl
/-- Ctl, once it is set, stays. -/
def ctlB (n : Nat) : List VB := List.replicate 10 none ++ [some true] ++ List.replicate n none
noncomputable def chkC : Bool := match (V13 (List.replicate 14 VI.top) (ctlB 5)).2 with
  | _ :: b => (match b.getD 10 none with
    | some true => true
    | _ => false)
  | _ => false
noncomputable def chkCW : Bool := match (V16 (List.replicate 13 VI.top) (ctlB 4)).2.getD 10 none with
  | some true => true
  | _ => false
theorem ctl_t : chkC = true := by kernel_rfl
theorem ctl_w : chkCW = true := by kernel_rfl
/-- The chapter's examples. -/
theorem aw : (match (V9 [] []).2 with
  | [some true, some true] => true
  | _ => false) = true := by kernel_rfl
end Go.Proofs.YtalnndmnnffnmaaGreat.Cr
