/-
  dmc's laws: what a row gives a walk, and what a walk gives a row. No condition.
-/
import Derived.Test.YtoempcgniokpiaaDoorRows
import Derived.Test.YtoempcgniokpiaaDoorSxU
import Derived.Test.YtoempcgniokpiaaDoorDmS
set_option linter.unusedVariables false
namespace Go.Proofs.YtoempcgniokpiaaDoor.Dm
open Go Go.ChangeShapes Go.WideShapes Go.ChangeAt Go.RowKit Go.Proofs.YtoempcgniokpiaaDoor.Sx

theorem own : ownKnob Tryd.prog.godebug = none := by kernel_rfl
theorem laidOut : laidOutB Tryd.prog = true := by kernel_rfl
theorem ratesN : Tryd.prog.globalNamed "seepage/dmc.rates" = some 0 := by kernel_rfl
noncomputable def ratesT : TypeId := ((Tryd.prog.globals[0]?).map (·.type)).getD 0
theorem ratesType : (Tryd.prog.globals[0]?).map (·.type) = some ratesT := by kernel_rfl
noncomputable def ratesE : TypeId := match Tryd.prog.underlying ratesT with | some (.array _ e) => e | _ => 0
theorem ratesU : Tryd.prog.underlying ratesT = some (.array 16 ratesE) := by kernel_rfl
theorem ratesEU : Tryd.prog.underlying ratesE = some (.int .u16) := by kernel_rfl
theorem ratesC : Tryd.prog.cellsOf ratesE = 1 := by kernel_rfl
theorem ratesCT : Tryd.prog.cellsOf ratesT = 16 := by kernel_rfl
theorem datum : (Rows.laid_seepage_dmc_rates : DataW Unit) = .agg (per.map fun m => .lit (.int .u16 m)) := rfl

/-- FROM 'laid' TO THE TABLE. -/
theorem laid_of {W : World} (h : laidMet Tryd.prog [("seepage/dmc.rates", Rows.laid_seepage_dmc_rates)] W) : Laid gl W := by
  obtain ⟨ps, ⟨g, t, cs, fuel, p, q, hg, ht, hvar, hd, _, _⟩, _⟩ := h
  obtain rfl := Option.some.inj (ratesN.symm.trans hg)
  obtain rfl := Option.some.inj (ratesType.symm.trans ht)
  rw [datum] at hd
  have hcs := trod_ints ratesU ratesEU ratesC ratesCT hd
  have hcell : ∀ (j : Nat) (v : Value), (per.map (Value.int .u16))[j]? = some v → W.cell? ⟨0, j, none⟩ = some v := fun j v hj => by
    have := World.var?_cell hg hvar j
    rw [this]
    rw [← hcs] at hj
    simpa using hj
  intro g' vs hg'
  match g', hg' with
  | 0, hg' =>
    simp only [gl, List.getElem?_cons_zero, Option.some.injEq] at hg'
    subst hg'
    refine ⟨World.block_lt_of_cell? W _ (hcell 0 _ rfl), fun j v hj => ⟨hcell j v hj, ?_⟩⟩
    rw [List.getElem?_map] at hj
    cases hp : per[j]? with
    | none => rw [hp] at hj; simp at hj
    | some m =>
      rw [hp] at hj
      simp only [Option.map_some, Option.some.injEq] at hj
      subst hj
      rfl
  | n + 1, hg' => simp [gl] at hg'

/-- The settled world, the table laid. -/
noncomputable def laidWorld (os : Os) : World :=
  let w0 := World.holding Tryd.prog os ⟨#[], #[], []⟩
  { w0 with heap := w0.heap.modify 0 fun
      | .cells _ t frozen => .cells (per.map (Value.int .u16)).toArray t frozen
      | o => o }
theorem laid_met (os : Os) (args : Array Value) : laidMet Tryd.prog [("seepage/dmc.rates", Rows.laid_seepage_dmc_rates)] ((laidWorld os).forCall (fun _ _ => 0) ⟨#[], args, []⟩).memory :=
  laidMet_of_run (ps := (List.range 16).map fun j => .cell 0 j) 8 (by kernel_rfl) (by kernel_rfl) (by kernel_rfl)

/-- A law's one answer. -/
theorem out_true {s : Sum} {v : Value} {w' : World} (ht : s.tup = false) (hr : s.res = [rB]) (hp : s.pre = false) (hps : ptrShapes s.args = []) (h : OutOk s [] v w' ([], [true])) : v = .bool true := by
  obtain ⟨r, p, h1, h2, h3, h4⟩ := h
  unfold flatRes at h1
  rw [ht, hr] at h1
  rw [hps] at h2
  simp only [flatPs, Option.some.injEq] at h2
  subst h2
  rw [hp] at h4
  simp only [Bool.false_eq_true, if_false, List.append_nil] at h4 h1
  obtain ⟨us, hf, hu⟩ := flat1_inv h1
  simp only [rB, Bool.false_eq_true, if_false] at hu hf
  subst hu
  unfold flatC at hf
  split at hf
  · rename_i b is bs hb
    simp only [Option.some.injEq] at hf
    subst hf
    simp only [flatC, Option.some.injEq, Prod.mk.injEq] at hb
    obtain ⟨_, rfl⟩ := hb
    simp only [List.cons.injEq, and_true] at h4
    rw [← h4]
  · cases hf
end Go.Proofs.YtoempcgniokpiaaDoor.Dm
