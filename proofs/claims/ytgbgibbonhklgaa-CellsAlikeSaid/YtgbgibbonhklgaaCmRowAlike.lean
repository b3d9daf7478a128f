/-
  'seepagelaw02.CellsAlike': for every input the law returns true, and each argument reads as it did. WRITTEN BY PROGRAM (wip/cells/cerow.py). No condition.
-/
import Derived.Test.YtgbgibbonhklgaaRows
import Derived.HandedShaped
import Derived.Shelf.Vars
import Derived.Test.YtgbgibbonhklgaaCmJ
import Derived.Test.YtgbgibbonhklgaaCm7
set_option linter.unusedVariables false
set_option linter.unusedSimpArgs false
namespace Go.Proofs.Ytgbgibbonhklgaa.Ce
open Go Go.ChangeShapes Go.WideShapes Go.ChangeAt Go.RowKit Go.Proofs Go.Proofs.Ytgbgibbonhklgaa.Sx

theorem own : ownKnob Try.prog.godebug = none := by kernel_rfl
theorem laidOut : laidOutB Try.prog = true := by kernel_rfl
theorem params8 : Try.f8.params = #[34, 34, 51] := by kernel_rfl
theorem res8 : Try.f8.resultTypes = #[4] := by kernel_rfl
theorem bool8 : Try.prog.underlying 4 = some .bool := by kernel_rfl
theorem shs8 : shsOf Try.prog [34, 34, 51] = some s8.args := by kernel_rfl
theorem plain8 : ∀ t, t ∈ Try.f8.params.toList → Try.prog.readableRec t = true ∧ t < Try.prog.types.size := by
  intro t ht
  rw [params8] at ht
  simp only [List.mem_cons, List.not_mem_nil, or_false] at ht
  rcases ht with rfl | rfl | rfl
  · exact ⟨by kernel_rfl, of_decide_eq_true (by kernel_rfl)⟩
  · exact ⟨by kernel_rfl, of_decide_eq_true (by kernel_rfl)⟩
  · exact ⟨by kernel_rfl, of_decide_eq_true (by kernel_rfl)⟩
theorem slP {ks : List CK} (hk : ks.length = 2) {q n : Int} (h : slRng ks q n) : ∃ l : List Pr, q = eP l ∧ n = l.length := by
  obtain ⟨h0, _, l, rfl, hl, _⟩ := h
  rw [hk] at hl
  refine ⟨pairs l, ?_, by rw [pairs_len hl]; omega⟩
  unfold eP
  rw [← flat2_fl2, pairs_flat hl]
theorem law8 {vs : List Value} {w : World} {is : List Int} {bs : List Bool} {ps : List Rg} (hfl : flatArgs s8.args vs w = some (is, bs, ps)) : F8 is bs = ([], [true, true]) := by
  obtain ⟨h1, h2, _, _⟩ := flatArgs_len hfl
  have hr := flatArgs_rng hfl
  obtain ⟨i0, t0, rfl, g0⟩ := len_cons (n := 6) h1
  obtain ⟨i1, t1, rfl, g1⟩ := len_cons (n := 5) g0
  obtain ⟨i2, t2, rfl, g2⟩ := len_cons (n := 4) g1
  obtain ⟨i3, t3, rfl, g3⟩ := len_cons (n := 3) g2
  obtain ⟨i4, t4, rfl, g4⟩ := len_cons (n := 2) g3
  obtain ⟨i5, t5, rfl, g5⟩ := len_cons (n := 1) g4
  obtain ⟨i6, t6, rfl, g6⟩ := len_cons (n := 0) g5
  obtain rfl := len_nil g6
  obtain ⟨b0, u0, rfl, k0⟩ := len_cons (n := 1) h2
  obtain ⟨b1, u1, rfl, k1⟩ := len_cons (n := 0) k0
  obtain rfl := len_nil k1
  have hq : slRng [.int .u8, .bool] i0 i1 := hr.1
  have hq' : slRng [.int .u8, .bool] i2 i3 := hr.2.1
  obtain ⟨l, rfl, rfl⟩ := slP rfl hq
  obtain ⟨m, rfl, rfl⟩ := slP rfl hq'
  exact v8 l m i4 i5 i6 b0 b1

set_option maxRecDepth 100000 in
theorem lifted8 (os : Os) (started : os.Started) (H : Type) (enc : TypeId × Value → H) :
    ReturnsInHanded {} Try.checked os 8 .any (Rows.cellsAlikeSpec.pre6 enc Try.prog Try.f8 Rows.cellsAlikeRow.domain false) (Rows.cellsAlikeSpec.post enc Try.prog Try.f8 false true false false) := by
  refine returnsInHanded_of_change_shaped (C := Try.checked) own started (by kernel_rfl) Try.func8
    (ChangeSpec.witness6 (enc := enc) (C := Try.checked) false ⟨#[], #[.slice none 0 0, .slice none 0 0, .agg #[.int .i64 0, .int .u8 0, .bool false, .int .u8 0, .bool false]], []⟩ 8 (by kernel_rfl) (by kernel_rfl) (by kernel_rfl) (by kernel_rfl)) ?_
  intro W base args ds gs before hval0 hW _ _ hsh _
  have hval : ∀ (j : Nat) t v, Try.f8.params[j]? = some t → args[j]? = some v → Value.okWide Try.prog W .any base t v := hval0
  have hW' := hW
  obtain ⟨p, q, hA0, hV, rfl, hfz, hnd⟩ := hW
  have hA : DataW.TrodAll enc Try.prog W 0 (fun _ => true) true Try.f8.params.toList args.toList ds p := hA0
  have hA3 := hA
  rw [params8] at hA3 hval
  obtain ⟨rfl, rfl⟩ := trodVars_none hV
  obtain ⟨is, bs, hfl, _⟩ := flat_of_trod shs8 (fun j t v hj hv => hval j t v (by simpa using hj) (by simpa using hv)) hA3
  have hds : ∃ d1 d2 d3, ds = [d1, d2, d3] := by
    have := (trodAll_len hA3).2
    obtain ⟨d1, t1, rfl, g1⟩ := len_cons (n := 2) this
    obtain ⟨d2, t2, rfl, g2⟩ := len_cons (n := 1) g1
    obtain ⟨d3, t3, rfl, g3⟩ := len_cons (n := 0) g2
    obtain rfl := len_nil g3
    exact ⟨d1, d2, d3, rfl⟩
  have hlaw := law8 hfl
  have hL : Laid gl W := fun g' vs hg' => by simp [gl] at hg'
  have hc := c8 args.toList W _ _ [] hL hfl trivial (fun r hr => by cases hr) (fun r hr => by cases hr) (fun q hq => by cases hq) (fun _ => by rw [hlaw]; rfl)
  rw [show args.toList.toArray = args by simp] at hc
  refine Calls.mono hc fun e W' he => ?_
  obtain ⟨v, rfl, hk, ho, _⟩ := he
  rw [hlaw] at ho
  obtain rfl := out_trueP rfl rfl rfl rfl ho
  obtain ⟨d1, d2, d3, rfl⟩ := hds
  exact ⟨_, rfl, law_post laidOut plain8 res8 bool8 rfl hW' hA (by simp) rfl rfl hk⟩

/-- THE STATEMENT. -/
theorem cellsAlike_holds : Rows.CellsAlikeSaid :=
  OpenClaim.holds_of_wide 8 Try.f8 rfl rfl rfl rfl rfl rfl rfl ⟨rfl, rfl, rfl, rfl, rfl⟩ rfl rfl rfl rfl rfl (by kernel_rfl) Try.func8 (by kernel_rfl)
    (of_decide_eq_true (by kernel_rfl)) (by unfold Func.isWrapper; first | (rw [if_pos (by decide +kernel)]; kernel_rfl) | (rw [if_neg (by decide +kernel)]; exact ⟨rfl, rfl⟩))
    (fun os started H enc _ => lifted8 os started H enc)
#print axioms cellsAlike_holds
end Go.Proofs.Ytgbgibbonhklgaa.Ce
