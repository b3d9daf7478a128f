/-
  THE ROW AND THE TIED CARD of 'seepagelaw19.DmcTells'. No condition.
-/
import Derived.Test.YtoempcgniokpiaaDoorDmA
import Derived.Test.YtoempcgniokpiaaDoorDmB
import Derived.Test.YtoempcgniokpiaaDoorTie
import Derived.Test.YtoempcgniokpiaaDoorCards
import Derived.SevenTiedAt
set_option linter.unusedVariables false
namespace Go.Proofs.YtoempcgniokpiaaDoor.Dm
open Go Go.ChangeShapes Go.WideShapes Go.ChangeAt Go.RowKit Go.Proofs.YtoempcgniokpiaaDoor.Sx

theorem params3 : Tryd.f3.params = #[24, 3, 5] := by kernel_rfl
theorem res3 : Tryd.f3.resultTypes = #[4] := by kernel_rfl
theorem bool4 : Tryd.prog.underlying 4 = some .bool := by kernel_rfl
theorem shs3 : shsOf Tryd.prog [24, 3, 5] = some s3.args := by kernel_rfl
theorem plain3 : ∀ t, t ∈ Tryd.f3.params.toList → Tryd.prog.readableRec t = true ∧ t < Tryd.prog.types.size := by
  intro t ht
  rw [params3] at ht
  simp only [List.mem_cons, List.not_mem_nil, or_false] at ht
  rcases ht with rfl | rfl | rfl
  · exact ⟨by kernel_rfl, of_decide_eq_true (by kernel_rfl)⟩
  · exact ⟨by kernel_rfl, of_decide_eq_true (by kernel_rfl)⟩
  · exact ⟨by kernel_rfl, of_decide_eq_true (by kernel_rfl)⟩

set_option maxRecDepth 100000 in
theorem tells_lifted (os : Os) (started : os.Started) (H : Type) (enc : TypeId × Value → H) :
    ReturnsInHanded {} Tryd.checked os 3 .any (fun w args => (Rows.dmcTellsSpec.pre enc Tryd.prog Tryd.f3 Rows.dmcTellsRow.domain false w args ∧ laidMet Tryd.prog Rows.dmcTellsRow.laid w) ∧ sizedMet enc Tryd.prog Tryd.f3 (OpenSpec.ofChange Rows.dmcTellsSpec) false w args)
      (Rows.dmcTellsSpec.post enc Tryd.prog Tryd.f3 false true false false) := by
  refine returnsInHanded_of_change_and (C := Tryd.checked) (X := fun w _ => laidMet Tryd.prog Rows.dmcTellsRow.laid w) (fun _ _ _ hh h => h.of_heap hh) own started (by kernel_rfl) Tryd.func3
    (ChangeSpec.witness_at (enc := enc) (C := Tryd.checked) (os := os) (X := fun w _ => laidMet Tryd.prog Rows.dmcTellsRow.laid w) false (laidWorld os)
      #[.agg #[.bool false, .bool false, .bool false, .int .u8 0, .int .u8 0, .int .u16 0, .int .u16 0, .int .u16 0, .int .u16 0, .int .u8 0, .bool false, .int .u8 0, .int .u8 0, .bool false, .int .u16 0], .int .i64 0, .int .u8 0]
      8 rfl (by kernel_rfl) (by kernel_rfl) (by kernel_rfl) (by kernel_rfl) (by kernel_rfl) (laid_met os _)) ?_
  intro W base args ds gs before hval0 hW _ _ hL _
  have hval : ∀ (j : Nat) t v, Tryd.f3.params[j]? = some t → args[j]? = some v → Value.okWide Tryd.prog W .any base t v := hval0
  have hW' := hW
  obtain ⟨p, q, hA0, hV, rfl, hfz, hnd⟩ := hW
  have hA : DataW.TrodAll enc Tryd.prog W 0 (fun _ => true) true Tryd.f3.params.toList args.toList ds p := hA0
  have hA3 := hA
  rw [params3] at hA3 hval
  obtain ⟨rfl, rfl⟩ := trodVars_none hV
  obtain ⟨is, bs, hfl, _⟩ := flat_of_trod shs3 (fun j t v hj hv => hval j t v (by simpa using hj) (by simpa using hv)) hA3
  obtain ⟨i0, i1, i2, i3, i4, i5, i6, i7, i8, i9, i10, i11, b0, b1, b2, b3, b4, rfl, rfl⟩ := args3 hfl
  have hds : ∃ d1 d2 d3, ds = [d1, d2, d3] := by
    have := (trodAll_len hA3).2
    obtain ⟨d1, t1, rfl, g1⟩ := len_cons (n := 2) this
    obtain ⟨d2, t2, rfl, g2⟩ := len_cons g1
    obtain ⟨d3, t3, rfl, g3⟩ := len_cons g2
    obtain rfl := len_nil g3
    exact ⟨d1, d2, d3, rfl⟩
  have hc := c3 args.toList W _ _ [] (laid_of hL) hfl trivial (fun r hr => by cases hr) (fun r hr => by cases hr) (fun h => by cases h)
  rw [show args.toList.toArray = args by simp] at hc
  refine Calls.mono hc fun e W' he => ?_
  obtain ⟨v, rfl, hk, ho⟩ := he
  rw [tells _ _ _ _ _ _ _ _ _ _ _ _ _ _ _ _ _ (flatArgs_rng hfl)] at ho
  obtain rfl := out_true rfl rfl rfl rfl ho
  obtain ⟨d1, d2, d3, rfl⟩ := hds
  exact ⟨_, rfl, law_post (q := []) laidOut plain3 res3 bool4 rfl hW' hA (by simp) rfl rfl hk⟩

theorem tells_row : Rows.DmcTellsSaid :=
  OpenClaim.holds_of_wide 3 Tryd.f3 rfl rfl rfl rfl rfl rfl rfl ⟨rfl, rfl, rfl, rfl, rfl⟩ rfl rfl rfl rfl rfl (by kernel_rfl) Tryd.func3 (by kernel_rfl)
    (of_decide_eq_true (by kernel_rfl)) (by unfold Func.isWrapper; first | (rw [if_pos (by decide +kernel)]; kernel_rfl) | (rw [if_neg (by decide +kernel)]; exact ⟨rfl, rfl⟩))
    (fun os started H enc _ => tells_lifted os started H enc)

/-- THE STATEMENT. -/
theorem dmcTells_holds : Rows.DmcTellsCardSaid :=
  Claim7.holds_tied_plain_at .later [] [.data] true (true, "eb70bf60f8237103f259a08e5df4e1638c1571ca8df180ddb8db3253291ad564") false
    tells_row (fun _ h => by cases h) (by kernel_rfl) (fun _ h => by cases h) dmcTells_row_tie rfl ⟨rfl, rfl⟩ (by kernel_rfl) rfl
    (fun f fn hf hfn => by
      obtain rfl : f = 3 := Option.some.inj ((show Tryd.prog.funcNamed "seepage/seepagelaw19.DmcTells" = some 3 by kernel_rfl).symm.trans hf) |>.symm
      obtain rfl : fn = Tryd.f3 := (Option.some.inj (Tryd.func3.symm.trans hfn)).symm
      exact ⟨by kernel_rfl, fun j t ht => by
        rw [params3] at ht
        have h3 : t = 24 ∨ t = 3 ∨ t = 5 := by
          rcases j with _ | _ | _ | j
          · exact .inl (by simpa using ht.symm)
          · exact .inr (.inl (by simpa using ht.symm))
          · exact .inr (.inr (by simpa using ht.symm))
          · simp at ht
        rcases h3 with rfl | rfl | rfl
        · exact (show Tryd.prog.wantsStandIn 24 = false by kernel_rfl)
        · exact (show Tryd.prog.wantsStandIn 3 = false by kernel_rfl)
        · exact (show Tryd.prog.wantsStandIn 5 = false by kernel_rfl)⟩)
    (by kernel_rfl)
#print axioms dmcTells_holds
end Go.Proofs.YtoempcgniokpiaaDoor.Dm
