/-
  THE ROW AND THE TIED CARD OF 'seepagelaw.DmcPlays'.  WRITTEN BY PROGRAM (wip/gen/rowgen.py). No condition.
-/
import Derived.Test.YtoempcgniokpiaaDoorDnE
import Derived.Test.YtoempcgniokpiaaDoorDnT
import Derived.Test.YtoempcgniokpiaaDoorTie
import Derived.Test.YtoempcgniokpiaaDoorCards
import Derived.SevenTiedAt
set_option linter.unusedVariables false
namespace Go.Proofs.YtoempcgniokpiaaDoor.Dn
open Go Go.ChangeShapes Go.WideShapes Go.ChangeAt Go.RowKit Go.Proofs.YtoempcgniokpiaaDoor.Sx

theorem params6 : Tryd.f6.params = #[5, 5, 5] := by kernel_rfl
theorem res6 : Tryd.f6.resultTypes = #[4] := by kernel_rfl
theorem bool6 : Tryd.prog.underlying 4 = some .bool := by kernel_rfl
theorem shs6 : shsOf Tryd.prog [5, 5, 5] = some s6.args := by kernel_rfl
theorem plain6 : ∀ t, t ∈ Tryd.f6.params.toList → Tryd.prog.readableRec t = true ∧ t < Tryd.prog.types.size := by
  intro t ht
  rw [params6] at ht
  simp only [List.mem_cons, List.not_mem_nil, or_false] at ht
  rcases ht with rfl | rfl | rfl
  · exact ⟨by kernel_rfl, of_decide_eq_true (by kernel_rfl)⟩
  · exact ⟨by kernel_rfl, of_decide_eq_true (by kernel_rfl)⟩
  · exact ⟨by kernel_rfl, of_decide_eq_true (by kernel_rfl)⟩
theorem law6 {vs : List Value} {w : World} {is : List Int} {bs : List Bool} {ps : List Rg} (hfl : flatArgs s6.args vs w = some (is, bs, ps)) : F6 is bs = ([], [true, true]) := by
  obtain ⟨h1, h2, _, _⟩ := flatArgs_len hfl
  have hr := flatArgs_rng hfl
  obtain ⟨i0, t0, rfl, g0⟩ := len_cons (n := 2) h1
  obtain ⟨i1, t1, rfl, g1⟩ := len_cons (n := 1) g0
  obtain ⟨i2, t2, rfl, g2⟩ := len_cons (n := 0) g1
  obtain rfl := len_nil g2
  obtain rfl := len_nil h2
  simp only [s6, argCK, List.cons_append, List.nil_append, rngC, IntKind.min, IntKind.max, IntKind.signed, IntKind.bits, Bool.false_eq_true, if_false] at hr
  exact plays i0 i1 i2 (by omega) (by omega) (by omega) (by omega) (by omega) (by omega)

set_option maxRecDepth 100000 in
theorem lifted6 (os : Os) (started : os.Started) (H : Type) (enc : TypeId × Value → H) :
    ReturnsInHanded {} Tryd.checked os 6 .any (fun w args => (Rows.dmcPlaysSpec.pre enc Tryd.prog Tryd.f6 Rows.dmcPlaysRow.domain false w args ∧ laidMet Tryd.prog Rows.dmcPlaysRow.laid w) ∧ sizedMet enc Tryd.prog Tryd.f6 (OpenSpec.ofChange Rows.dmcPlaysSpec) false w args)
      (Rows.dmcPlaysSpec.post enc Tryd.prog Tryd.f6 false true false false) := by
  refine returnsInHanded_of_change_and (C := Tryd.checked) (X := fun w _ => laidMet Tryd.prog Rows.dmcPlaysRow.laid w) (fun _ _ _ hh h => h.of_heap hh) own started (by kernel_rfl) Tryd.func6
    (ChangeSpec.witness_at (enc := enc) (C := Tryd.checked) (os := os) (X := fun w _ => laidMet Tryd.prog Rows.dmcPlaysRow.laid w) false (laidWorld os)
      #[.int .u8 0, .int .u8 0, .int .u8 0]
      8 rfl (by kernel_rfl) (by kernel_rfl) (by kernel_rfl) (by kernel_rfl) (by kernel_rfl) (laid_met os _)) ?_
  intro W base args ds gs before hval0 hW _ _ hL _
  have hval : ∀ (j : Nat) t v, Tryd.f6.params[j]? = some t → args[j]? = some v → Value.okWide Tryd.prog W .any base t v := hval0
  have hW' := hW
  obtain ⟨p, q, hA0, hV, rfl, hfz, hnd⟩ := hW
  have hA : DataW.TrodAll enc Tryd.prog W 0 (fun _ => true) true Tryd.f6.params.toList args.toList ds p := hA0
  have hA3 := hA
  rw [params6] at hA3 hval
  obtain ⟨rfl, rfl⟩ := trodVars_none hV
  obtain ⟨is, bs, hfl, _⟩ := flat_of_trod shs6 (fun j t v hj hv => hval j t v (by simpa using hj) (by simpa using hv)) hA3
  have hds : ∃ d1 d2 d3, ds = [d1, d2, d3] := by
    have := (trodAll_len hA3).2
    obtain ⟨d1, t1, rfl, g1⟩ := len_cons (n := 2) this
    obtain ⟨d2, t2, rfl, g2⟩ := len_cons (n := 1) g1
    obtain ⟨d3, t3, rfl, g3⟩ := len_cons (n := 0) g2
    obtain rfl := len_nil g3
    exact ⟨d1, d2, d3, rfl⟩
  have hlaw := law6 hfl
  have hc := c6 args.toList W _ _ [] (laid_of hL) hfl trivial (fun r hr => by cases hr) (fun r hr => by cases hr) (fun _ => by rw [hlaw]; rfl)
  rw [show args.toList.toArray = args by simp] at hc
  refine Calls.mono hc fun e W' he => ?_
  obtain ⟨v, rfl, hk, ho⟩ := he
  rw [hlaw] at ho
  obtain rfl := out_trueP rfl rfl rfl rfl ho
  obtain ⟨d1, d2, d3, rfl⟩ := hds
  exact ⟨_, rfl, law_post laidOut plain6 res6 bool6 rfl hW' hA (by simp) rfl rfl hk⟩

theorem row6 : Rows.DmcPlaysSaid :=
  OpenClaim.holds_of_wide 6 Tryd.f6 rfl rfl rfl rfl rfl rfl rfl ⟨rfl, rfl, rfl, rfl, rfl⟩ rfl rfl rfl rfl rfl (by kernel_rfl) Tryd.func6 (by kernel_rfl)
    (of_decide_eq_true (by kernel_rfl)) (by unfold Func.isWrapper; first | (rw [if_pos (by decide +kernel)]; kernel_rfl) | (rw [if_neg (by decide +kernel)]; exact ⟨rfl, rfl⟩))
    (fun os started H enc _ => lifted6 os started H enc)

/-- THE STATEMENT. -/
theorem dmcPlays_holds : Rows.DmcPlaysCardSaid :=
  Claim7.holds_tied_plain_at .later [] [.data] true (true, "eb70bf60f8237103f259a08e5df4e1638c1571ca8df180ddb8db3253291ad564") false
    row6 (fun _ h => by cases h) (by kernel_rfl) (fun _ h => by cases h) dmcPlays_row_tie rfl ⟨rfl, rfl⟩ (by kernel_rfl) rfl
    (fun f fn hf hfn => by
      obtain rfl : f = 6 := Option.some.inj ((show Tryd.prog.funcNamed Rows.dmcPlaysRow.func = some 6 by kernel_rfl).symm.trans hf) |>.symm
      obtain rfl : fn = Tryd.f6 := (Option.some.inj (Tryd.func6.symm.trans hfn)).symm
      exact ⟨by kernel_rfl, fun j t ht => by
        rw [params6] at ht
        have h3 : t = 5 ∨ t = 5 ∨ t = 5 := by
          rcases j with _ | _ | _ | j
          · exact .inl (by simpa using ht.symm)
          · exact .inr (.inl (by simpa using ht.symm))
          · exact .inr (.inr (by simpa using ht.symm))
          · simp at ht
        rcases h3 with rfl | rfl | rfl
        · exact (show Tryd.prog.wantsStandIn 5 = false by kernel_rfl)
        · exact (show Tryd.prog.wantsStandIn 5 = false by kernel_rfl)
        · exact (show Tryd.prog.wantsStandIn 5 = false by kernel_rfl)⟩)
    (by kernel_rfl)
#print axioms dmcPlays_holds
end Go.Proofs.YtoempcgniokpiaaDoor.Dn
