/-
  What a row gives a walk ('laid'), and a world where it is so. WRITTEN BY PROGRAM (wip/gen/rowgen.py). No condition.
-/
import Derived.Test.YtoempcgniokpiaaDoorRows
import Derived.Test.YtoempcgniokpiaaDoorSxZ
import Derived.Test.YtoempcgniokpiaaDoorDoS
set_option linter.unusedVariables false
set_option linter.unusedSimpArgs false
namespace Go.Proofs.YtoempcgniokpiaaDoor.Do
open Go Go.ChangeShapes Go.WideShapes Go.ChangeAt Go.RowKit Go.Proofs.YtoempcgniokpiaaDoor.Sx

theorem own : ownKnob Tryd.prog.godebug = none := by kernel_rfl
theorem laidOut : laidOutB Tryd.prog = true := by kernel_rfl
theorem perN : Tryd.prog.globalNamed "seepage/dmc.rates" = some 0 := by kernel_rfl
noncomputable def perT : TypeId := ((Tryd.prog.globals[0]?).map (·.type)).getD 0
theorem perTy : (Tryd.prog.globals[0]?).map (·.type) = some perT := by kernel_rfl
noncomputable def perE : TypeId := match Tryd.prog.underlying perT with | some (.array _ e) => e | _ => 0
theorem perU : Tryd.prog.underlying perT = some (.array 16 perE) := by kernel_rfl
theorem perEU : Tryd.prog.underlying perE = some (.int .u16) := by kernel_rfl
theorem perC : Tryd.prog.cellsOf perE = 1 := by kernel_rfl
theorem perCT : Tryd.prog.cellsOf perT = 16 := by kernel_rfl
theorem perD : (Rows.laid_seepage_dmc_rates : DataW Unit) = .agg (per.map fun m => .lit (.int .u16 m)) := rfl

/-- FROM 'laid' TO THE TABLES. -/
theorem laid_of {W : World} (h : laidMet Tryd.prog [("seepage/dmc.rates", Rows.laid_seepage_dmc_rates)] W) : Laid gl W := by
  obtain ⟨ps, h0, _⟩ := h
  obtain ⟨g0, t0, cs0, fuel0, p0, q0, hg0, ht0, hvar0, hd0, h1, _⟩ := h0
  obtain rfl := Option.some.inj (perN.symm.trans hg0)
  obtain rfl := Option.some.inj (perTy.symm.trans ht0)
  rw [perD] at hd0
  have hcell0 : ∀ (j : Nat) (v : Value), (per.map (Value.int .u16))[j]? = some v → W.cell? ⟨0, j, none⟩ = some v := fun j v hj => by
    rw [World.var?_cell hg0 hvar0 j]
    rw [← trod_ints perU perEU perC perCT hd0] at hj
    simpa using hj
  have hlt : 0 < W.heap.size := World.block_lt_of_cell? W _ (hcell0 0 _ rfl)
  intro g' vs hg'
  match g', hg' with
  | 0, hg' =>
    simp only [gl, List.getElem?_cons_zero, List.getElem?_cons_succ, Option.some.injEq] at hg'
    subst hg'
    exact ⟨by omega, fun j v hj => ⟨hcell0 j v hj, oneCell_ints hj⟩⟩
  | n + 1, hg' => simp [gl] at hg'

/-- The settled world, the tables laid. -/
noncomputable def laidWorld (os : Os) : World :=
  let w0 := World.holding Tryd.prog os ⟨#[], #[], []⟩
  { w0 with heap := (Array.modify w0.heap 0 fun
      | .cells _ t frozen => .cells (per.map (Value.int .u16)).toArray t frozen
      | o => o) }
theorem laid_met (os : Os) (args : Array Value) : laidMet Tryd.prog [("seepage/dmc.rates", Rows.laid_seepage_dmc_rates)] ((laidWorld os).forCall (fun _ _ => 0) ⟨#[], args, []⟩).memory :=
  laidMet_of_run (ps := (List.range 16).map fun j => MemPlace.cell 0 j) 8 (by kernel_rfl) (by kernel_rfl) (by kernel_rfl)
end Go.Proofs.YtoempcgniokpiaaDoor.Do
