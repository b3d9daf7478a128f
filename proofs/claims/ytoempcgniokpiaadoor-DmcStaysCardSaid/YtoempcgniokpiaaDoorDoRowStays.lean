/-
  THE ROW AND THE TIED CARD OF 'seepagelaw.DmcStays'.  WRITTEN BY PROGRAM (wip/gen/rowgen.py). No condition.
-/
import Derived.Test.YtoempcgniokpiaaDoorDoA
import Derived.Test.YtoempcgniokpiaaDoorDoT
import Derived.Test.YtoempcgniokpiaaDoorTie
import Derived.Test.YtoempcgniokpiaaDoorCards
import Derived.SevenTiedAt
set_option linter.unusedVariables false
set_option linter.unusedSimpArgs false
namespace Go.Proofs.YtoempcgniokpiaaDoor.Do
open Go Go.ChangeShapes Go.WideShapes Go.ChangeAt Go.RowKit Go.Proofs.YtoempcgniokpiaaDoor.Sx

theorem params4 : Tryd.f4.params = #[24, 37] := by kernel_rfl
theorem res4 : Tryd.f4.resultTypes = #[4] := by kernel_rfl
theorem bool4 : Tryd.prog.underlying 4 = some .bool := by kernel_rfl
theorem shs4 : shsOf Tryd.prog [24, 37] = some s4.args := by kernel_rfl
theorem plain4 : ∀ t, t ∈ Tryd.f4.params.toList → Tryd.prog.readableRec t = true ∧ t < Tryd.prog.types.size := by
  intro t ht
  rw [params4] at ht
  simp only [List.mem_cons, List.not_mem_nil, or_false] at ht
  rcases ht with rfl | rfl
  · exact ⟨by kernel_rfl, of_decide_eq_true (by kernel_rfl)⟩
  · exact ⟨by kernel_rfl, of_decide_eq_true (by kernel_rfl)⟩
theorem law4 {vs : List Value} {w : World} {is : List Int} {bs : List Bool} {ps : List Rg} (hfl : flatArgs s4.args vs w = some (is, bs, ps)) : F4 is bs = ([], [true, true]) := by
  obtain ⟨h1, h2, _, _⟩ := flatArgs_len hfl
  have hr := flatArgs_rng hfl
  obtain ⟨i0, t0, rfl, g0⟩ := len_cons (n := 11) h1
  obtain ⟨i1, t1, rfl, g1⟩ := len_cons (n := 10) g0
  obtain ⟨i2, t2, rfl, g2⟩ := len_cons (n := 9) g1
  obtain ⟨i3, t3, rfl, g3⟩ := len_cons (n := 8) g2
  obtain ⟨i4, t4, rfl, g4⟩ := len_cons (n := 7) g3
  obtain ⟨i5, t5, rfl, g5⟩ := len_cons (n := 6) g4
  obtain ⟨i6, t6, rfl, g6⟩ := len_cons (n := 5) g5
  obtain ⟨i7, t7, rfl, g7⟩ := len_cons (n := 4) g6
  obtain ⟨i8, t8, rfl, g8⟩ := len_cons (n := 3) g7
  obtain ⟨i9, t9, rfl, g9⟩ := len_cons (n := 2) g8
  obtain ⟨i10, t10, rfl, g10⟩ := len_cons (n := 1) g9
  obtain ⟨i11, t11, rfl, g11⟩ := len_cons (n := 0) g10
  obtain rfl := len_nil g11
  obtain ⟨b0, u0, rfl, k0⟩ := len_cons (n := 4) h2
  obtain ⟨b1, u1, rfl, k1⟩ := len_cons (n := 3) k0
  obtain ⟨b2, u2, rfl, k2⟩ := len_cons (n := 2) k1
  obtain ⟨b3, u3, rfl, k3⟩ := len_cons (n := 1) k2
  obtain ⟨b4, u4, rfl, k4⟩ := len_cons (n := 0) k3
  obtain rfl := len_nil k4
  simp only [s4, rngA, rngK, IntKind.min, IntKind.max, IntKind.signed, IntKind.bits, Bool.false_eq_true, if_false, if_true] at hr
  obtain ⟨q0, q1, q2, q3, q4, q5, q6, q7, q8, q9, hq, _⟩ := hr
  exact stays _ _ _ _ _ _ _ _ _ _ _ _ _ _ _ _ _ hq (by omega) (by omega) (by omega) (by omega) (by omega) (by omega) (by omega) (by omega) (by omega) (by omega) (by omega)

set_option maxRecDepth 100000 in
theorem lifted4 (os : Os) (started : os.Started) (H : Type) (enc : TypeId × Value → H) :
    ReturnsInHanded {} Tryd.checked os 4 .any (fun w args => (Rows.dmcStaysSpec.pre enc Tryd.prog Tryd.f4 Rows.dmcStaysRow.domain false w args ∧ laidMet Tryd.prog Rows.dmcStaysRow.laid w) ∧ sizedMet enc Tryd.prog Tryd.f4 (OpenSpec.ofChange Rows.dmcStaysSpec) false w args)
      (Rows.dmcStaysSpec.post enc Tryd.prog Tryd.f4 false true false false) := by
  refine returnsInHanded_of_change_and (C := Tryd.checked) (X := fun w _ => laidMet Tryd.prog Rows.dmcStaysRow.laid w) (fun _ _ _ hh h => h.of_heap hh) own started (by kernel_rfl) Tryd.func4
    (ChangeSpec.witness_at (enc := enc) (C := Tryd.checked) (os := os) (X := fun w _ => laidMet Tryd.prog Rows.dmcStaysRow.laid w) false (laidWorld os)
      #[.agg #[.bool false, .bool false, .bool false, .int .u8 0, .int .u8 0, .int .u16 0, .int .u16 0, .int .u16 0, .int .u16 0, .int .u8 0, .bool false, .int .u8 0, .int .u8 0, .bool false, .int .u16 0], .slice none 0 0]
      8 rfl (by kernel_rfl) (by kernel_rfl) (by kernel_rfl) (by kernel_rfl) (by kernel_rfl) (laid_met os _)) ?_
  intro W base args ds gs before hval0 hW _ _ hL _
  have hval : ∀ (j : Nat) t v, Tryd.f4.params[j]? = some t → args[j]? = some v → Value.okWide Tryd.prog W .any base t v := hval0
  have hW' := hW
  obtain ⟨p, q, hA0, hV, rfl, hfz, hnd⟩ := hW
  have hA : DataW.TrodAll enc Tryd.prog W 0 (fun _ => true) true Tryd.f4.params.toList args.toList ds p := hA0
  have hA3 := hA
  rw [params4] at hA3 hval
  obtain ⟨rfl, rfl⟩ := trodVars_none hV
  obtain ⟨is, bs, hfl, _⟩ := flat_of_trod shs4 (fun j t v hj hv => hval j t v (by simpa using hj) (by simpa using hv)) hA3
  have hds : ∃ d1 d2, ds = [d1, d2] := by
    have := (trodAll_len hA3).2
    obtain ⟨d1, t1, rfl, g1⟩ := len_cons (n := 1) this
    obtain ⟨d2, t2, rfl, g2⟩ := len_cons (n := 0) g1
    obtain rfl := len_nil g2
    exact ⟨d1, d2, rfl⟩
  have hlaw := law4 hfl
  have hc := c4 args.toList W _ _ [] (laid_of hL) hfl trivial (fun r hr => by cases hr) (fun r hr => by cases hr) (fun q hq => by cases hq) (fun _ => by rw [hlaw]; rfl)
  rw [show args.toList.toArray = args by simp] at hc
  refine Calls.mono hc fun e W' he => ?_
  obtain ⟨v, rfl, hk, ho⟩ := he
  rw [hlaw] at ho
  obtain rfl := out_trueP rfl rfl rfl rfl ho
  obtain ⟨d1, d2, rfl⟩ := hds
  exact ⟨_, rfl, law_post laidOut plain4 res4 bool4 rfl hW' hA (by simp) rfl rfl hk⟩

theorem row4 : Rows.DmcStaysSaid :=
  OpenClaim.holds_of_wide 4 Tryd.f4 rfl rfl rfl rfl rfl rfl rfl ⟨rfl, rfl, rfl, rfl, rfl⟩ rfl rfl rfl rfl rfl (by kernel_rfl) Tryd.func4 (by kernel_rfl)
    (of_decide_eq_true (by kernel_rfl)) (by unfold Func.isWrapper; first | (rw [if_pos (by decide +kernel)]; kernel_rfl) | (rw [if_neg (by decide +kernel)]; exact ⟨rfl, rfl⟩))
    (fun os started H enc _ => lifted4 os started H enc)

/-- THE STATEMENT. -/
theorem dmcStays_holds : Rows.DmcStaysCardSaid :=
  Claim7.holds_tied_plain_at .later [] [.data] true (true, "eb70bf60f8237103f259a08e5df4e1638c1571ca8df180ddb8db3253291ad564") false
    row4 (fun _ h => by cases h) (by kernel_rfl) (fun _ h => by cases h) dmcStays_row_tie rfl ⟨rfl, rfl⟩ (by kernel_rfl) rfl
    (fun f fn hf hfn => by
      obtain rfl : f = 4 := Option.some.inj ((show Tryd.prog.funcNamed Rows.dmcStaysRow.func = some 4 by kernel_rfl).symm.trans hf) |>.symm
      obtain rfl : fn = Tryd.f4 := (Option.some.inj (Tryd.func4.symm.trans hfn)).symm
      exact ⟨by kernel_rfl, fun j t ht => by
        rw [params4] at ht
        have h3 : t = 24 ∨ t = 37 := by
          rcases j with _ | _ | j
          · exact .inl (by simpa using ht.symm)
          · exact .inr (by simpa using ht.symm)
          · simp at ht
        rcases h3 with rfl | rfl
        · exact (show Tryd.prog.wantsStandIn 24 = false by kernel_rfl)
        · exact (show Tryd.prog.wantsStandIn 37 = false by kernel_rfl)⟩)
    (by kernel_rfl)
#print axioms dmcStays_holds
end Go.Proofs.YtoempcgniokpiaaDoor.Do
