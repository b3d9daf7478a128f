/-
  THE ROW AND THE TIED CARD OF 'seepagelaw.ApuSteps'.  WRITTEN BY PROGRAM (wip/gen/rowgen.py). No condition.
-/
import Derived.Test.YtdpogmikhfgcmaaDoorApI
import Derived.Test.YtdpogmikhfgcmaaDoorApT
import Derived.Test.YtdpogmikhfgcmaaDoorTie
import Derived.Test.YtdpogmikhfgcmaaDoorCards
import Derived.SevenTiedAt
set_option linter.unusedVariables false
set_option linter.unusedSimpArgs false
namespace Go.Proofs.YtdpogmikhfgcmaaDoor.Ap
open Go Go.ChangeShapes Go.WideShapes Go.ChangeAt Go.RowKit Go.Proofs.YtdpogmikhfgcmaaDoor.Sx

theorem params3 : Tryd.f3.params = #[4, 4, 5] := by kernel_rfl
theorem res3 : Tryd.f3.resultTypes = #[4] := by kernel_rfl
theorem bool3 : Tryd.prog.underlying 4 = some .bool := by kernel_rfl
theorem shs3 : shsOf Tryd.prog [4, 4, 5] = some s3.args := by kernel_rfl
theorem plain3 : ∀ t, t ∈ Tryd.f3.params.toList → Tryd.prog.readableRec t = true ∧ t < Tryd.prog.types.size := by
  intro t ht
  rw [params3] at ht
  simp only [List.mem_cons, List.not_mem_nil, or_false] at ht
  rcases ht with rfl | rfl | rfl
  · exact ⟨by kernel_rfl, of_decide_eq_true (by kernel_rfl)⟩
  · exact ⟨by kernel_rfl, of_decide_eq_true (by kernel_rfl)⟩
  · exact ⟨by kernel_rfl, of_decide_eq_true (by kernel_rfl)⟩
theorem law3 {vs : List Value} {w : World} {is : List Int} {bs : List Bool} {ps : List Rg} (hfl : flatArgs s3.args vs w = some (is, bs, ps)) : F3 is bs = ([], [true, true]) := by
  obtain ⟨h1, h2, _, _⟩ := flatArgs_len hfl
  have hr := flatArgs_rng hfl
  obtain ⟨i0, t0, rfl, g0⟩ := len_cons (n := 0) h1
  obtain rfl := len_nil g0
  obtain ⟨b0, u0, rfl, k0⟩ := len_cons (n := 1) h2
  obtain ⟨b1, u1, rfl, k1⟩ := len_cons (n := 0) k0
  obtain rfl := len_nil k1
  simp only [s3, rngA, rngK, IntKind.min, IntKind.max, IntKind.signed, IntKind.bits, Bool.false_eq_true, if_false, if_true] at hr
  exact stepsA _ _ _ (by omega)

set_option maxRecDepth 100000 in
theorem lifted3 (os : Os) (started : os.Started) (H : Type) (enc : TypeId × Value → H) :
    ReturnsInHanded {} Tryd.checked os 3 .any (fun w args => (Rows.apuStepsSpec.pre enc Tryd.prog Tryd.f3 Rows.apuStepsRow.domain false w args ∧ laidMet Tryd.prog Rows.apuStepsRow.laid w) ∧ sizedMet enc Tryd.prog Tryd.f3 (OpenSpec.ofChange Rows.apuStepsSpec) false w args)
      (Rows.apuStepsSpec.post enc Tryd.prog Tryd.f3 false true false false) := by
  refine returnsInHanded_of_change_and (C := Tryd.checked) (X := fun w _ => laidMet Tryd.prog Rows.apuStepsRow.laid w) (fun _ _ _ hh h => h.of_heap hh) own started (by kernel_rfl) Tryd.func3
    (ChangeSpec.witness_at (enc := enc) (C := Tryd.checked) (os := os) (X := fun w _ => laidMet Tryd.prog Rows.apuStepsRow.laid w) false (laidWorld os)
      #[.bool false, .bool false, .int .u8 0]
      8 rfl (by kernel_rfl) (by kernel_rfl) (by kernel_rfl) (by kernel_rfl) (by kernel_rfl) (laid_met os _)) ?_
  intro W base args ds gs before hval0 hW _ _ hL _
  have hval : ∀ (j : Nat) t v, Tryd.f3.params[j]? = some t → args[j]? = some v → Value.okWide Tryd.prog W .any base t v := hval0
  have hW' := hW
  obtain ⟨p, q, hA0, hV, rfl, hfz, hnd⟩ := hW
  have hA : DataW.TrodAll enc Tryd.prog W 0 (fun _ => true) true Tryd.f3.params.toList args.toList ds p := hA0
  have hA3 := hA
  rw [params3] at hA3 hval
  obtain ⟨rfl, rfl⟩ := trodVars_none hV
  obtain ⟨is, bs, hfl, _⟩ := flat_of_trod shs3 (fun j t v hj hv => hval j t v (by simpa using hj) (by simpa using hv)) hA3
  have hds : ∃ d1 d2 d3, ds = [d1, d2, d3] := by
    have := (trodAll_len hA3).2
    obtain ⟨d1, t1, rfl, g1⟩ := len_cons (n := 2) this
    obtain ⟨d2, t2, rfl, g2⟩ := len_cons (n := 1) g1
    obtain ⟨d3, t3, rfl, g3⟩ := len_cons (n := 0) g2
    obtain rfl := len_nil g3
    exact ⟨d1, d2, d3, rfl⟩
  have hlaw := law3 hfl
  have hc := c3 args.toList W _ _ [] (laid_of hL) hfl trivial (fun r hr => by cases hr) (fun r hr => by cases hr) (fun q hq => by cases hq) (fun _ => by rw [hlaw]; rfl)
  rw [show args.toList.toArray = args by simp] at hc
  refine Calls.mono hc fun e W' he => ?_
  obtain ⟨v, rfl, hk, ho⟩ := he
  rw [hlaw] at ho
  obtain rfl := out_trueP rfl rfl rfl rfl ho
  obtain ⟨d1, d2, d3, rfl⟩ := hds
  exact ⟨_, rfl, law_post laidOut plain3 res3 bool3 rfl hW' hA (by simp) rfl rfl hk⟩

theorem row3 : Rows.ApuStepsSaid :=
  OpenClaim.holds_of_wide 3 Tryd.f3 rfl rfl rfl rfl rfl rfl rfl ⟨rfl, rfl, rfl, rfl, rfl⟩ rfl rfl rfl rfl rfl (by kernel_rfl) Tryd.func3 (by kernel_rfl)
    (of_decide_eq_true (by kernel_rfl)) (by unfold Func.isWrapper; first | (rw [if_pos (by decide +kernel)]; kernel_rfl) | (rw [if_neg (by decide +kernel)]; exact ⟨rfl, rfl⟩))
    (fun os started H enc _ => lifted3 os started H enc)

/-- THE STATEMENT. -/
theorem apuSteps_holds : Rows.ApuStepsCardSaid :=
  Claim7.holds_tied_plain_at .later [] [.data, .data, .data] true (true, "6734af80180b8141d5542da56eb563cbb649fca3ffd11d4a1fa92860871affd3") false
    row3 (fun _ h => by cases h) (by kernel_rfl) (fun _ h => by cases h) apuSteps_row_tie rfl ⟨rfl, rfl⟩ (by kernel_rfl) rfl
    (fun f fn hf hfn => by
      obtain rfl : f = 3 := Option.some.inj ((show Tryd.prog.funcNamed Rows.apuStepsRow.func = some 3 by kernel_rfl).symm.trans hf) |>.symm
      obtain rfl : fn = Tryd.f3 := (Option.some.inj (Tryd.func3.symm.trans hfn)).symm
      exact ⟨by kernel_rfl, fun j t ht => by
        rw [params3] at ht
        have h3 : t = 4 ∨ t = 4 ∨ t = 5 := by
          rcases j with _ | _ | _ | j
          · exact .inl (by simpa using ht.symm)
          · exact .inr (.inl (by simpa using ht.symm))
          · exact .inr (.inr (by simpa using ht.symm))
          · simp at ht
        rcases h3 with rfl | rfl | rfl
        · exact (show Tryd.prog.wantsStandIn 4 = false by kernel_rfl)
        · exact (show Tryd.prog.wantsStandIn 4 = false by kernel_rfl)
        · exact (show Tryd.prog.wantsStandIn 5 = false by kernel_rfl)⟩)
    (by kernel_rfl)
#print axioms apuSteps_holds
end Go.Proofs.YtdpogmikhfgcmaaDoor.Ap
