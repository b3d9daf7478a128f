/-
  THE ROW AND THE TIED CARD OF 'seepagelaw03.PolicyJoins'.  WRITTEN BY PROGRAM (wip/gen/rowgen.py). No condition.
-/
import Derived.Test.YtfgbfdlacnihkaaDoorTie
import Derived.Test.YtfgbfdlacnihkaaDoorCards
import Derived.SevenTiedAt
import Derived.Test.YtfgbfdlacnihkaaDoorPj11
set_option linter.unusedVariables false
set_option linter.unusedSimpArgs false
namespace Go.Proofs.YtfgbfdlacnihkaaDoor.Po
open Go Go.ChangeShapes Go.WideShapes Go.ChangeAt Go.RowKit Go.Proofs.YtfgbfdlacnihkaaDoor.Sx

theorem params6 : Tryd.f6.params = #[25, 25, 25] := by kernel_rfl
theorem res6 : Tryd.f6.resultTypes = #[4] := by kernel_rfl
theorem bool6 : Tryd.prog.underlying 4 = some .bool := by kernel_rfl
theorem shs6 : shsOf Tryd.prog [25, 25, 25] = some s6.args := by kernel_rfl
theorem plain6 : ∀ t, t ∈ Tryd.f6.params.toList -> Tryd.prog.readableRec t = true /\ t < Tryd.prog.types.size := by
 intro t ht
 rw [params6] at ht
 simp only [List.mem_cons, List.not_mem_nil, or_false] at ht
 rcases ht with rfl | rfl | rfl
 ·exact ⟨by kernel_rfl, of_decide_eq_true (by kernel_rfl)⟩
 ·exact ⟨by kernel_rfl, of_decide_eq_true (by kernel_rfl)⟩
 ·exact ⟨by kernel_rfl, of_decide_eq_true (by kernel_rfl)⟩
theorem law6 {vs : List Value} {w : World} {is : List Int} {bs : List Bool} {ps : List Rg} (hfl : flatArgs s6.args vs w = some (is, bs, ps)) : F6 is bs = ([], [true, true]) := by
 obtain ⟨h1, h2, _, _⟩ := flatArgs_len hfl
 have hr := flatArgs_rng hfl
 obtain ⟨i0, t0, rfl, g0⟩ := len_cons (n := 11) h1
 obtain ⟨i1, t1, rfl, g1⟩ := len_cons (n := 10) g0
 obtain ⟨i2, t2, rfl, g2⟩ := len_cons (n := 9) g1
 obtain ⟨i3, t3, rfl, g3⟩ := len_cons (n := 8) g2
 obtain ⟨i4, t4, rfl, g4⟩ := len_cons (n := 7) g3
 obtain ⟨i5, t5, rfl, g5⟩ := len_cons (n := 6) g4
 obtain ⟨i6, t6, rfl, g6⟩ := len_cons (n := 5) g5
 obtain ⟨i7, t7, rfl, g7⟩ := len_cons (n := 4) g6
 obtain ⟨i8, t8, rfl, g8⟩ := len_cons (n := 3) g7
 obtain ⟨i9, t9, rfl, g9⟩ := len_cons (n := 2) g8
 obtain ⟨i10, t10, rfl, g10⟩ := len_cons (n := 1) g9
 obtain ⟨i11, t11, rfl, g11⟩ := len_cons (n := 0) g10
 obtain rfl := len_nil g11
 obtain ⟨b0, u0, rfl, k0⟩ := len_cons (n := 5) h2
 obtain ⟨b1, u1, rfl, k1⟩ := len_cons (n := 4) k0
 obtain ⟨b2, u2, rfl, k2⟩ := len_cons (n := 3) k1
 obtain ⟨b3, u3, rfl, k3⟩ := len_cons (n := 2) k2
 obtain ⟨b4, u4, rfl, k4⟩ := len_cons (n := 1) k3
 obtain ⟨b5, u5, rfl, k5⟩ := len_cons (n := 0) k4
 obtain rfl := len_nil k5
 have q0 : slRng [.int .i64, .int .i64] i0 i1 := hr.1
 obtain ⟨l0, rfl, rfl⟩ := slP rfl q0
 have q1 : slRng [.int .i64, .int .i64] i2 i3 := hr.2.1
 obtain ⟨l1, rfl, rfl⟩ := slP rfl q1
 have q2 : slRng [.int .i64, .int .i64] i4 i5 := hr.2.2.1
 obtain ⟨l2, rfl, rfl⟩ := slP rfl q2
 have q3 : slRng [.int .i64, .int .i64] i6 i7 := hr.2.2.2.1
 obtain ⟨l3, rfl, rfl⟩ := slP rfl q3
 have q4 : slRng [.int .i64, .int .i64] i8 i9 := hr.2.2.2.2.1
 obtain ⟨l4, rfl, rfl⟩ := slP rfl q4
 have q5 : slRng [.int .i64, .int .i64] i10 i11 := hr.2.2.2.2.2.1
 obtain ⟨l5, rfl, rfl⟩ := slP rfl q5
 exact f6 ⟨b0, b1, l0, l1⟩ ⟨b2, b3, l2, l3⟩ ⟨b4, b5, l4, l5⟩

set_option maxRecDepth 100000 in
theorem lifted6 (os : Os) (started : os.Started) (H : Type) (enc : TypeId × Value -> H) :
  ReturnsInHanded {} Tryd.checked os 6 .any (fun w args => (Rows.policyJoinsSpec.pre enc Tryd.prog Tryd.f6 Rows.policyJoinsRow.domain false w args /\ laidMet Tryd.prog Rows.policyJoinsRow.laid w) /\ sizedMet enc Tryd.prog Tryd.f6 (OpenSpec.ofChange Rows.policyJoinsSpec) false w args)
   (Rows.policyJoinsSpec.post enc Tryd.prog Tryd.f6 false true false false) := by
 refine returns_and_shaped (C := Tryd.checked) (X := fun w _ => laidMet Tryd.prog Rows.policyJoinsRow.laid w) (fun _ _ _ hh h => h.of_heap hh) own started (by kernel_rfl) Tryd.func6
  (ChangeSpec.witness_at (enc := enc) (C := Tryd.checked) (os := os) (X := fun w _ => laidMet Tryd.prog Rows.policyJoinsRow.laid w) false (laidWorld os)
   #[.agg #[.bool false, .bool false, .slice none 0 0, .slice none 0 0], .agg #[.bool false, .bool false, .slice none 0 0, .slice none 0 0], .agg #[.bool false, .bool false, .slice none 0 0, .slice none 0 0]]
   8 rfl (by kernel_rfl) (by kernel_rfl) (by kernel_rfl) (by kernel_rfl) (by kernel_rfl) (laid_met os _)) ?_
 intro W base args ds gs before hval0 hW _ _ hLm hsh _
 obtain ⟨m, hL⟩ := laid_of hLm hsh
 have hval : ∀ (j : Nat) t v, Tryd.f6.params[j]? = some t -> args[j]? = some v -> Value.okWide Tryd.prog W .any base t v := hval0
 have hW' := hW
 obtain ⟨p, q, hA0, hV, rfl, hfz, hnd⟩ := hW
 have hA : DataW.TrodAll enc Tryd.prog W 0 (fun _ => true) true Tryd.f6.params.toList args.toList ds p := hA0
 have hA3 := hA
 rw [params6] at hA3 hval
 obtain ⟨rfl, rfl⟩ := trodVars_none hV
 obtain ⟨is, bs, hfl, _⟩ := flat_of_trod shs6 (fun j t v hj hv => hval j t v (by simpa using hj) (by simpa using hv)) hA3
 have hds : ∃ d1 d2 d3, ds = [d1, d2, d3] := by
  have := (trodAll_len hA3).2
  obtain ⟨d1, t1, rfl, g1⟩ := len_cons (n := 2) this
  obtain ⟨d2, t2, rfl, g2⟩ := len_cons (n := 1) g1
  obtain ⟨d3, t3, rfl, g3⟩ := len_cons (n := 0) g2
  obtain rfl := len_nil g3
  exact ⟨d1, d2, d3, rfl⟩
 have hlaw := law6 hfl
 have hc := c6 (m := m) args.toList W _ _ [] hL hfl trivial (fun r hr => by cases hr) (fun r hr => by cases hr) (fun q hq => by cases hq) (fun _ => by rw [hlaw]; rfl)
 rw [show args.toList.toArray = args by simp] at hc
 refine Calls.mono hc fun e W' he => ?_
 obtain ⟨v, rfl, hk, ho, _⟩ := he
 rw [hlaw] at ho
 obtain rfl := out_trueP rfl rfl rfl rfl ho
 obtain ⟨d1, d2, d3, rfl⟩ := hds
 exact ⟨_, rfl, law_post laidOut plain6 res6 bool6 rfl hW' hA (by simp) rfl rfl hk⟩

theorem row6 : Rows.PolicyJoinsSaid :=
 OpenClaim.holds_of_wide 6 Tryd.f6 rfl rfl rfl rfl rfl rfl rfl ⟨rfl, rfl, rfl, rfl, rfl⟩ rfl rfl rfl rfl rfl (by kernel_rfl) Tryd.func6 (by kernel_rfl)
  (of_decide_eq_true (by kernel_rfl)) (by unfold Func.isWrapper; first | (rw [if_pos (by decide +kernel)]; kernel_rfl) | (rw [if_neg (by decide +kernel)]; exact ⟨rfl, rfl⟩))
  (fun os started H enc _ => lifted6 os started H enc)

theorem policyJoins_holds : Rows.PolicyJoinsCardSaid :=
 Claim7.holds_tied_plain_at .later [] [.data, .data, .data, .data, .pinned] true (true, "f44089ce474c402202a3bafec72fa66a7f2aef18a8853520bd5d5a8a2b0b9148") false
  row6 (fun _ h => by cases h) (by kernel_rfl) (fun _ h => by cases h) policyJoins_row_tie rfl ⟨rfl, rfl⟩ (by kernel_rfl) rfl
  (fun f fn hf hfn => by
   obtain rfl : f = 6 := Option.some.inj ((show Tryd.prog.funcNamed Rows.policyJoinsRow.func = some 6 by kernel_rfl).symm.trans hf) |>.symm
   obtain rfl : fn = Tryd.f6 := (Option.some.inj (Tryd.func6.symm.trans hfn)).symm
   exact ⟨by kernel_rfl, fun j t ht => by
    rw [params6] at ht
    have h3 : t = 25 \/ t = 25 \/ t = 25 := by
     rcases j with _ | _ | _ | j
     ·exact .inl (by simpa using ht.symm)
     ·exact .inr (.inl (by simpa using ht.symm))
     ·exact .inr (.inr (by simpa using ht.symm))
     ·simp at ht
    rcases h3 with rfl | rfl | rfl
    ·exact (show Tryd.prog.wantsStandIn 25 = false by kernel_rfl)
    ·exact (show Tryd.prog.wantsStandIn 25 = false by kernel_rfl)
    ·exact (show Tryd.prog.wantsStandIn 25 = false by kernel_rfl)⟩)
  (by kernel_rfl)
end Go.Proofs.YtfgbfdlacnihkaaDoor.Po
