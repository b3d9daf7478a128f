/-
  'seepagelaw02.CellsStore': for every input the law returns true, and each argument reads as it did. WRITTEN BY PROGRAM (wip/cells/cerow.py). No condition.
-/
import Derived.Test.YtgbgibbonhklgaaRows
import Derived.HandedShaped
import Derived.Shelf.Vars
import Derived.Test.YtgbgibbonhklgaaCmI
import Derived.Test.YtgbgibbonhklgaaCm7
set_option linter.unusedVariables false
set_option linter.unusedSimpArgs false
namespace Go.Proofs.Ytgbgibbonhklgaa.Ce
open Go Go.ChangeShapes Go.WideShapes Go.ChangeAt Go.RowKit Go.Proofs Go.Proofs.Ytgbgibbonhklgaa.Sx

theorem own : ownKnob Try.prog.godebug = none := by kernel_rfl
theorem laidOut : laidOutB Try.prog = true := by kernel_rfl
theorem params5 : Try.f5.params = #[34, 3, 36] := by kernel_rfl
theorem res5 : Try.f5.resultTypes = #[4] := by kernel_rfl
theorem bool5 : Try.prog.underlying 4 = some .bool := by kernel_rfl
theorem shs5 : shsOf Try.prog [34, 3, 36] = some s5.args := by kernel_rfl
theorem plain5 : ∀ t, t ∈ Try.f5.params.toList → Try.prog.readableRec t = true ∧ t < Try.prog.types.size := by
  intro t ht
  rw [params5] at ht
  simp only [List.mem_cons, List.not_mem_nil, or_false] at ht
  rcases ht with rfl | rfl | rfl
  · exact ⟨by kernel_rfl, of_decide_eq_true (by kernel_rfl)⟩
  · exact ⟨by kernel_rfl, of_decide_eq_true (by kernel_rfl)⟩
  · exact ⟨by kernel_rfl, of_decide_eq_true (by kernel_rfl)⟩
theorem slP {ks : List CK} (hk : ks.length = 2) {q n : Int} (h : slRng ks q n) : ∃ l : List Pr, q = eP l ∧ n = l.length := by
  obtain ⟨h0, _, l, rfl, hl, _⟩ := h
  rw [hk] at hl
  refine ⟨pairs l, ?_, by rw [pairs_len hl]; omega⟩
  unfold eP
  rw [← flat2_fl2, pairs_flat hl]
theorem law5 {vs : List Value} {w : World} {is : List Int} {bs : List Bool} {ps : List Rg} (hfl : flatArgs s5.args vs w = some (is, bs, ps)) : F5 is bs = ([], [true, true]) := by
  obtain ⟨h1, h2, _, _⟩ := flatArgs_len hfl
  have hr := flatArgs_rng hfl
  obtain ⟨i0, t0, rfl, g0⟩ := len_cons (n := 3) h1
  obtain ⟨i1, t1, rfl, g1⟩ := len_cons (n := 2) g0
  obtain ⟨i2, t2, rfl, g2⟩ := len_cons (n := 1) g1
  obtain ⟨i3, t3, rfl, g3⟩ := len_cons (n := 0) g2
  obtain rfl := len_nil g3
  obtain ⟨b0, u0, rfl, k0⟩ := len_cons (n := 0) h2
  obtain rfl := len_nil k0
  have hq : slRng [.int .u8, .bool] i0 i1 := hr.1
  obtain ⟨l, rfl, rfl⟩ := slP rfl hq
  exact v5 l i2 i3 b0

set_option maxRecDepth 100000 in
theorem lifted5 (os : Os) (started : os.Started) (H : Type) (enc : TypeId × Value → H) :
    ReturnsInHanded {} Try.checked os 5 .any (Rows.cellsStoreSpec.pre6 enc Try.prog Try.f5 Rows.cellsStoreRow.domain false) (Rows.cellsStoreSpec.post enc Try.prog Try.f5 false true false false) := by
  refine returnsInHanded_of_change_shaped (C := Try.checked) own started (by kernel_rfl) Try.func5
    (ChangeSpec.witness6 (enc := enc) (C := Try.checked) false ⟨#[], #[.slice none 0 0, .int .i64 0, .agg #[.int .u8 0, .bool false]], []⟩ 8 (by kernel_rfl) (by kernel_rfl) (by kernel_rfl) (by kernel_rfl)) ?_
  intro W base args ds gs before hval0 hW _ _ hsh _
  have hval : ∀ (j : Nat) t v, Try.f5.params[j]? = some t → args[j]? = some v → Value.okWide Try.prog W .any base t v := hval0
  have hW' := hW
  obtain ⟨p, q, hA0, hV, rfl, hfz, hnd⟩ := hW
  have hA : DataW.TrodAll enc Try.prog W 0 (fun _ => true) true Try.f5.params.toList args.toList ds p := hA0
  have hA3 := hA
  rw [params5] at hA3 hval
  obtain ⟨rfl, rfl⟩ := trodVars_none hV
  obtain ⟨is, bs, hfl, _⟩ := flat_of_trod shs5 (fun j t v hj hv => hval j t v (by simpa using hj) (by simpa using hv)) hA3
  have hds : ∃ d1 d2 d3, ds = [d1, d2, d3] := by
    have := (trodAll_len hA3).2
    obtain ⟨d1, t1, rfl, g1⟩ := len_cons (n := 2) this
    obtain ⟨d2, t2, rfl, g2⟩ := len_cons (n := 1) g1
    obtain ⟨d3, t3, rfl, g3⟩ := len_cons (n := 0) g2
    obtain rfl := len_nil g3
    exact ⟨d1, d2, d3, rfl⟩
  have hlaw := law5 hfl
  have hL : Laid gl W := fun g' vs hg' => by simp [gl] at hg'
  have hc := c5 args.toList W _ _ [] hL hfl trivial (fun r hr => by cases hr) (fun r hr => by cases hr) (fun q hq => by cases hq) (fun _ => by rw [hlaw]; rfl)
  rw [show args.toList.toArray = args by simp] at hc
  refine Calls.mono hc fun e W' he => ?_
  obtain ⟨v, rfl, hk, ho, _⟩ := he
  rw [hlaw] at ho
  obtain rfl := out_trueP rfl rfl rfl rfl ho
  obtain ⟨d1, d2, d3, rfl⟩ := hds
  exact ⟨_, rfl, law_post laidOut plain5 res5 bool5 rfl hW' hA (by simp) rfl rfl hk⟩

/-- THE STATEMENT. -/
theorem cellsStore_holds : Rows.CellsStoreSaid :=
  OpenClaim.holds_of_wide 5 Try.f5 rfl rfl rfl rfl rfl rfl rfl ⟨rfl, rfl, rfl, rfl, rfl⟩ rfl rfl rfl rfl rfl (by kernel_rfl) Try.func5 (by kernel_rfl)
    (of_decide_eq_true (by kernel_rfl)) (by unfold Func.isWrapper; first | (rw [if_pos (by decide +kernel)]; kernel_rfl) | (rw [if_neg (by decide +kernel)]; exact ⟨rfl, rfl⟩))
    (fun os started H enc _ => lifted5 os started H enc)
#print axioms cellsStore_holds
end Go.Proofs.Ytgbgibbonhklgaa.Ce
