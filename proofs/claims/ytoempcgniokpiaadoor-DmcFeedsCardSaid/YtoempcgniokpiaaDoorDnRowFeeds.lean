/-
  THE ROW AND THE TIED CARD OF 'seepagelaw.DmcFeeds'.  WRITTEN BY PROGRAM (wip/gen/rowgen.py). No condition.
-/
import Derived.Test.YtoempcgniokpiaaDoorDnC
import Derived.Test.YtoempcgniokpiaaDoorDnT
import Derived.Test.YtoempcgniokpiaaDoorTie
import Derived.Test.YtoempcgniokpiaaDoorCards
import Derived.SevenTiedAt
set_option linter.unusedVariables false
namespace Go.Proofs.YtoempcgniokpiaaDoor.Dn
open Go Go.ChangeShapes Go.WideShapes Go.ChangeAt Go.RowKit Go.Proofs.YtoempcgniokpiaaDoor.Sx

theorem params5 : Tryd.f5.params = #[41] := by kernel_rfl
theorem res5 : Tryd.f5.resultTypes = #[4] := by kernel_rfl
theorem bool5 : Tryd.prog.underlying 4 = some .bool := by kernel_rfl
theorem shs5 : shsOf Tryd.prog [41] = some s5.args := by kernel_rfl
theorem plain5 : ∀ t, t ∈ Tryd.f5.params.toList → Tryd.prog.readableRec t = true ∧ t < Tryd.prog.types.size := by
  intro t ht
  rw [params5] at ht
  simp only [List.mem_cons, List.not_mem_nil, or_false] at ht
  rcases ht with rfl
  · exact ⟨by kernel_rfl, of_decide_eq_true (by kernel_rfl)⟩
theorem law5 {vs : List Value} {w : World} {is : List Int} {bs : List Bool} {ps : List Rg} (hfl : flatArgs s5.args vs w = some (is, bs, ps)) : F5 is bs = ([], [true, true]) := by
  obtain ⟨h1, h2, _, _⟩ := flatArgs_len hfl
  have hr := flatArgs_rng hfl
  obtain ⟨i0, t0, rfl, g0⟩ := len_cons (n := 1) h1
  obtain ⟨i1, t1, rfl, g1⟩ := len_cons (n := 0) g0
  obtain rfl := len_nil g1
  obtain ⟨b0, u0, rfl, k0⟩ := len_cons (n := 1) h2
  obtain ⟨b1, u1, rfl, k1⟩ := len_cons (n := 0) k0
  obtain rfl := len_nil k1
  simp only [s5, argCK, List.cons_append, List.nil_append, rngC, IntKind.min, IntKind.max, IntKind.signed, IntKind.bits, Bool.false_eq_true, if_false] at hr
  exact feeds i0 i1 b0 b1 (by omega) (by omega) (by omega) (by omega)

set_option maxRecDepth 100000 in
theorem lifted5 (os : Os) (started : os.Started) (H : Type) (enc : TypeId × Value → H) :
    ReturnsInHanded {} Tryd.checked os 5 .any (fun w args => (Rows.dmcFeedsSpec.pre enc Tryd.prog Tryd.f5 Rows.dmcFeedsRow.domain false w args ∧ laidMet Tryd.prog Rows.dmcFeedsRow.laid w) ∧ sizedMet enc Tryd.prog Tryd.f5 (OpenSpec.ofChange Rows.dmcFeedsSpec) false w args)
      (Rows.dmcFeedsSpec.post enc Tryd.prog Tryd.f5 false true false false) := by
  refine returnsInHanded_of_change_and (C := Tryd.checked) (X := fun w _ => laidMet Tryd.prog Rows.dmcFeedsRow.laid w) (fun _ _ _ hh h => h.of_heap hh) own started (by kernel_rfl) Tryd.func5
    (ChangeSpec.witness_at (enc := enc) (C := Tryd.checked) (os := os) (X := fun w _ => laidMet Tryd.prog Rows.dmcFeedsRow.laid w) false (laidWorld os)
      #[.agg #[.int .u8 0, .int .u8 0, .bool false, .bool false]]
      8 rfl (by kernel_rfl) (by kernel_rfl) (by kernel_rfl) (by kernel_rfl) (by kernel_rfl) (laid_met os _)) ?_
  intro W base args ds gs before hval0 hW _ _ hL _
  have hval : ∀ (j : Nat) t v, Tryd.f5.params[j]? = some t → args[j]? = some v → Value.okWide Tryd.prog W .any base t v := hval0
  have hW' := hW
  obtain ⟨p, q, hA0, hV, rfl, hfz, hnd⟩ := hW
  have hA : DataW.TrodAll enc Tryd.prog W 0 (fun _ => true) true Tryd.f5.params.toList args.toList ds p := hA0
  have hA3 := hA
  rw [params5] at hA3 hval
  obtain ⟨rfl, rfl⟩ := trodVars_none hV
  obtain ⟨is, bs, hfl, _⟩ := flat_of_trod shs5 (fun j t v hj hv => hval j t v (by simpa using hj) (by simpa using hv)) hA3
  have hds : ∃ d1, ds = [d1] := by
    have := (trodAll_len hA3).2
    obtain ⟨d1, t1, rfl, g1⟩ := len_cons (n := 0) this
    obtain rfl := len_nil g1
    exact ⟨d1, rfl⟩
  have hlaw := law5 hfl
  have hc := c5 args.toList W _ _ [] (laid_of hL) hfl trivial (fun r hr => by cases hr) (fun r hr => by cases hr) (fun _ => by rw [hlaw]; rfl)
  rw [show args.toList.toArray = args by simp] at hc
  refine Calls.mono hc fun e W' he => ?_
  obtain ⟨v, rfl, hk, ho⟩ := he
  rw [hlaw] at ho
  obtain rfl := out_trueP rfl rfl rfl rfl ho
  obtain ⟨d1, rfl⟩ := hds
  exact ⟨_, rfl, law_post laidOut plain5 res5 bool5 rfl hW' hA (by simp) rfl rfl hk⟩

theorem row5 : Rows.DmcFeedsSaid :=
  OpenClaim.holds_of_wide 5 Tryd.f5 rfl rfl rfl rfl rfl rfl rfl ⟨rfl, rfl, rfl, rfl, rfl⟩ rfl rfl rfl rfl rfl (by kernel_rfl) Tryd.func5 (by kernel_rfl)
    (of_decide_eq_true (by kernel_rfl)) (by unfold Func.isWrapper; first | (rw [if_pos (by decide +kernel)]; kernel_rfl) | (rw [if_neg (by decide +kernel)]; exact ⟨rfl, rfl⟩))
    (fun os started H enc _ => lifted5 os started H enc)

/-- THE STATEMENT. -/
theorem dmcFeeds_holds : Rows.DmcFeedsCardSaid :=
  Claim7.holds_tied_plain_at .later [] [.data] true (true, "eb70bf60f8237103f259a08e5df4e1638c1571ca8df180ddb8db3253291ad564") false
    row5 (fun _ h => by cases h) (by kernel_rfl) (fun _ h => by cases h) dmcFeeds_row_tie rfl ⟨rfl, rfl⟩ (by kernel_rfl) rfl
    (fun f fn hf hfn => by
      obtain rfl : f = 5 := Option.some.inj ((show Tryd.prog.funcNamed Rows.dmcFeedsRow.func = some 5 by kernel_rfl).symm.trans hf) |>.symm
      obtain rfl : fn = Tryd.f5 := (Option.some.inj (Tryd.func5.symm.trans hfn)).symm
      exact ⟨by kernel_rfl, fun j t ht => by
        rw [params5] at ht
        have h3 : t = 41 := by
          rcases j with _ | j
          · exact (by simpa using ht.symm)
          · simp at ht
        rcases h3 with rfl
        · exact (show Tryd.prog.wantsStandIn 41 = false by kernel_rfl)⟩)
    (by kernel_rfl)
#print axioms dmcFeeds_holds
end Go.Proofs.YtoempcgniokpiaaDoor.Dn
