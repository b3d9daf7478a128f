/-
  What a row gives a walk ('laid'), and a world where it is so. WRITTEN BY PROGRAM (wip/gen/rowgen.py). No condition.
-/
import Derived.Test.YtoempcgniokpiaaDoorRows
import Derived.Test.YtoempcgniokpiaaDoorSxZ
import Derived.Test.YtoempcgniokpiaaDoorTdS
set_option linter.unusedVariables false
set_option linter.unusedSimpArgs false
namespace Go.Proofs.YtoempcgniokpiaaDoor.Td
open Go Go.ChangeShapes Go.WideShapes Go.ChangeAt Go.RowKit Go.Proofs.YtoempcgniokpiaaDoor.Sx

theorem own : ownKnob Tryd.prog.godebug = none := by kernel_rfl
theorem laidOut : laidOutB Tryd.prog = true := by kernel_rfl
theorem longsN : Tryd.prog.globalNamed "seepage/tone.longs" = some 2 := by kernel_rfl
noncomputable def longsT : TypeId := ((Tryd.prog.globals[2]?).map (·.type)).getD 0
theorem longsTy : (Tryd.prog.globals[2]?).map (·.type) = some longsT := by kernel_rfl
noncomputable def longsE : TypeId := match Tryd.prog.underlying longsT with | some (.array _ e) => e | _ => 0
theorem longsU : Tryd.prog.underlying longsT = some (.array 32 longsE) := by kernel_rfl
theorem longsEU : Tryd.prog.underlying longsE = some (.int .u8) := by kernel_rfl
theorem longsC : Tryd.prog.cellsOf longsE = 1 := by kernel_rfl
theorem longsCT : Tryd.prog.cellsOf longsT = 32 := by kernel_rfl
theorem longsD : (Rows.laid_seepage_tone_longs : DataW Unit) = .agg (longs.map fun m => .lit (.int .u8 m)) := rfl
theorem ratesN : Tryd.prog.globalNamed "seepage/tone.rates" = some 1 := by kernel_rfl
noncomputable def ratesT : TypeId := ((Tryd.prog.globals[1]?).map (·.type)).getD 0
theorem ratesTy : (Tryd.prog.globals[1]?).map (·.type) = some ratesT := by kernel_rfl
noncomputable def ratesE : TypeId := match Tryd.prog.underlying ratesT with | some (.array _ e) => e | _ => 0
theorem ratesU : Tryd.prog.underlying ratesT = some (.array 16 ratesE) := by kernel_rfl
theorem ratesEU : Tryd.prog.underlying ratesE = some (.int .u16) := by kernel_rfl
theorem ratesC : Tryd.prog.cellsOf ratesE = 1 := by kernel_rfl
theorem ratesCT : Tryd.prog.cellsOf ratesT = 16 := by kernel_rfl
theorem ratesD : (Rows.laid_seepage_tone_rates : DataW Unit) = .agg (rates.map fun m => .lit (.int .u16 m)) := rfl

/-- FROM 'laid' TO THE TABLES. -/
theorem laid_of {W : World} (h : laidMet Tryd.prog [("seepage/tone.longs", Rows.laid_seepage_tone_longs), ("seepage/tone.rates", Rows.laid_seepage_tone_rates)] W) : Laid gl W := by
  obtain ⟨ps, h0, _⟩ := h
  obtain ⟨g0, t0, cs0, fuel0, p0, q0, hg0, ht0, hvar0, hd0, h1, _⟩ := h0
  obtain rfl := Option.some.inj (longsN.symm.trans hg0)
  obtain rfl := Option.some.inj (longsTy.symm.trans ht0)
  rw [longsD] at hd0
  have hcell2 : ∀ (j : Nat) (v : Value), (longs.map (Value.int .u8))[j]? = some v → W.cell? ⟨2, j, none⟩ = some v := fun j v hj => by
    rw [World.var?_cell hg0 hvar0 j]
    rw [← trod_ints longsU longsEU longsC longsCT hd0] at hj
    simpa using hj
  obtain ⟨g1, t1, cs1, fuel1, p1, q1, hg1, ht1, hvar1, hd1, h2, _⟩ := h1
  obtain rfl := Option.some.inj (ratesN.symm.trans hg1)
  obtain rfl := Option.some.inj (ratesTy.symm.trans ht1)
  rw [ratesD] at hd1
  have hcell1 : ∀ (j : Nat) (v : Value), (rates.map (Value.int .u16))[j]? = some v → W.cell? ⟨1, j, none⟩ = some v := fun j v hj => by
    rw [World.var?_cell hg1 hvar1 j]
    rw [← trod_ints ratesU ratesEU ratesC ratesCT hd1] at hj
    simpa using hj
  have hlt : 2 < W.heap.size := World.block_lt_of_cell? W _ (hcell2 0 _ rfl)
  intro g' vs hg'
  match g', hg' with
  | 0, hg' =>
    simp only [gl, List.getElem?_cons_zero, List.getElem?_cons_succ, Option.some.injEq] at hg'
    subst hg'
    exact ⟨by omega, fun j v hj => by simp at hj⟩
  | 1, hg' =>
    simp only [gl, List.getElem?_cons_zero, List.getElem?_cons_succ, Option.some.injEq] at hg'
    subst hg'
    exact ⟨by omega, fun j v hj => ⟨hcell1 j v hj, oneCell_ints hj⟩⟩
  | 2, hg' =>
    simp only [gl, List.getElem?_cons_zero, List.getElem?_cons_succ, Option.some.injEq] at hg'
    subst hg'
    exact ⟨by omega, fun j v hj => ⟨hcell2 j v hj, oneCell_ints hj⟩⟩
  | n + 3, hg' => simp [gl] at hg'

/-- The settled world, the tables laid. -/
noncomputable def laidWorld (os : Os) : World :=
  let w0 := World.holding Tryd.prog os ⟨#[], #[], []⟩
  { w0 with heap := (Array.modify (Array.modify w0.heap 2 fun
      | .cells _ t frozen => .cells (longs.map (Value.int .u8)).toArray t frozen
      | o => o) 1 fun
      | .cells _ t frozen => .cells (rates.map (Value.int .u16)).toArray t frozen
      | o => o) }
theorem laid_met (os : Os) (args : Array Value) : laidMet Tryd.prog [("seepage/tone.longs", Rows.laid_seepage_tone_longs), ("seepage/tone.rates", Rows.laid_seepage_tone_rates)] ((laidWorld os).forCall (fun _ _ => 0) ⟨#[], args, []⟩).memory :=
  laidMet_of_run (ps := ((List.range 32).map fun j => MemPlace.cell 2 j) ++ ((List.range 16).map fun j => MemPlace.cell 1 j)) 8 (by kernel_rfl) (by kernel_rfl) (by kernel_rfl)
end Go.Proofs.YtoempcgniokpiaaDoor.Td
