/-
  THE ROW AND THE TIED CARD OF 'seepagelaw.ToneAgain'.  WRITTEN BY PROGRAM (wip/gen/rowgen.py). No condition.
-/
import Derived.Test.YtoempcgniokpiaaDoorTdP
import Derived.Test.YtoempcgniokpiaaDoorTdT
import Derived.Test.YtoempcgniokpiaaDoorTie
import Derived.Test.YtoempcgniokpiaaDoorCards
import Derived.SevenTiedAt
set_option linter.unusedVariables false
set_option linter.unusedSimpArgs false
namespace Go.Proofs.YtoempcgniokpiaaDoor.Td
open Go Go.ChangeShapes Go.WideShapes Go.ChangeAt Go.RowKit Go.Proofs.YtoempcgniokpiaaDoor.Sx

theorem params12 : Tryd.f12.params = #[58, 4] := by kernel_rfl
theorem res12 : Tryd.f12.resultTypes = #[4] := by kernel_rfl
theorem bool12 : Tryd.prog.underlying 4 = some .bool := by kernel_rfl
theorem shs12 : shsOf Tryd.prog [58, 4] = some s12.args := by kernel_rfl
theorem plain12 : ∀ t, t ∈ Tryd.f12.params.toList → Tryd.prog.readableRec t = true ∧ t < Tryd.prog.types.size := by
  intro t ht
  rw [params12] at ht
  simp only [List.mem_cons, List.not_mem_nil, or_false] at ht
  rcases ht with rfl | rfl
  · exact ⟨by kernel_rfl, of_decide_eq_true (by kernel_rfl)⟩
  · exact ⟨by kernel_rfl, of_decide_eq_true (by kernel_rfl)⟩
theorem law12 {vs : List Value} {w : World} {is : List Int} {bs : List Bool} {ps : List Rg} (hfl : flatArgs s12.args vs w = some (is, bs, ps)) : F12 is bs = ([], [true, true]) := by
  obtain ⟨h1, h2, _, _⟩ := flatArgs_len hfl
  have hr := flatArgs_rng hfl
  obtain ⟨i0, t0, rfl, g0⟩ := len_cons (n := 25) h1
  obtain ⟨i1, t1, rfl, g1⟩ := len_cons (n := 24) g0
  obtain ⟨i2, t2, rfl, g2⟩ := len_cons (n := 23) g1
  obtain ⟨i3, t3, rfl, g3⟩ := len_cons (n := 22) g2
  obtain ⟨i4, t4, rfl, g4⟩ := len_cons (n := 21) g3
  obtain ⟨i5, t5, rfl, g5⟩ := len_cons (n := 20) g4
  obtain ⟨i6, t6, rfl, g6⟩ := len_cons (n := 19) g5
  obtain ⟨i7, t7, rfl, g7⟩ := len_cons (n := 18) g6
  obtain ⟨i8, t8, rfl, g8⟩ := len_cons (n := 17) g7
  obtain ⟨i9, t9, rfl, g9⟩ := len_cons (n := 16) g8
  obtain ⟨i10, t10, rfl, g10⟩ := len_cons (n := 15) g9
  obtain ⟨i11, t11, rfl, g11⟩ := len_cons (n := 14) g10
  obtain ⟨i12, t12, rfl, g12⟩ := len_cons (n := 13) g11
  obtain ⟨i13, t13, rfl, g13⟩ := len_cons (n := 12) g12
  obtain ⟨i14, t14, rfl, g14⟩ := len_cons (n := 11) g13
  obtain ⟨i15, t15, rfl, g15⟩ := len_cons (n := 10) g14
  obtain ⟨i16, t16, rfl, g16⟩ := len_cons (n := 9) g15
  obtain ⟨i17, t17, rfl, g17⟩ := len_cons (n := 8) g16
  obtain ⟨i18, t18, rfl, g18⟩ := len_cons (n := 7) g17
  obtain ⟨i19, t19, rfl, g19⟩ := len_cons (n := 6) g18
  obtain ⟨i20, t20, rfl, g20⟩ := len_cons (n := 5) g19
  obtain ⟨i21, t21, rfl, g21⟩ := len_cons (n := 4) g20
  obtain ⟨i22, t22, rfl, g22⟩ := len_cons (n := 3) g21
  obtain ⟨i23, t23, rfl, g23⟩ := len_cons (n := 2) g22
  obtain ⟨i24, t24, rfl, g24⟩ := len_cons (n := 1) g23
  obtain ⟨i25, t25, rfl, g25⟩ := len_cons (n := 0) g24
  obtain rfl := len_nil g25
  obtain ⟨b0, u0, rfl, k0⟩ := len_cons (n := 18) h2
  obtain ⟨b1, u1, rfl, k1⟩ := len_cons (n := 17) k0
  obtain ⟨b2, u2, rfl, k2⟩ := len_cons (n := 16) k1
  obtain ⟨b3, u3, rfl, k3⟩ := len_cons (n := 15) k2
  obtain ⟨b4, u4, rfl, k4⟩ := len_cons (n := 14) k3
  obtain ⟨b5, u5, rfl, k5⟩ := len_cons (n := 13) k4
  obtain ⟨b6, u6, rfl, k6⟩ := len_cons (n := 12) k5
  obtain ⟨b7, u7, rfl, k7⟩ := len_cons (n := 11) k6
  obtain ⟨b8, u8, rfl, k8⟩ := len_cons (n := 10) k7
  obtain ⟨b9, u9, rfl, k9⟩ := len_cons (n := 9) k8
  obtain ⟨b10, u10, rfl, k10⟩ := len_cons (n := 8) k9
  obtain ⟨b11, u11, rfl, k11⟩ := len_cons (n := 7) k10
  obtain ⟨b12, u12, rfl, k12⟩ := len_cons (n := 6) k11
  obtain ⟨b13, u13, rfl, k13⟩ := len_cons (n := 5) k12
  obtain ⟨b14, u14, rfl, k14⟩ := len_cons (n := 4) k13
  obtain ⟨b15, u15, rfl, k15⟩ := len_cons (n := 3) k14
  obtain ⟨b16, u16, rfl, k16⟩ := len_cons (n := 2) k15
  obtain ⟨b17, u17, rfl, k17⟩ := len_cons (n := 1) k16
  obtain ⟨b18, u18, rfl, k18⟩ := len_cons (n := 0) k17
  obtain rfl := len_nil k18
  simp only [s12, rngA, rngK, IntKind.min, IntKind.max, IntKind.signed, IntKind.bits, Bool.false_eq_true, if_false, if_true] at hr
  exact again _ _ _ _ _ _ _ _ _ _ _ _ _ _ _ _ _ _ _ _ _ _ _ _ _ _ _ _ _ _ _ _ _ _ _ _ _ _ _ _ _ _ _ _ _ (by omega) (by omega) (by omega) (by omega) (by omega) (by omega) (by omega) (by omega) (by omega) (by omega) (by omega) (by omega) (by omega) (by omega) (by omega) (by omega) (by omega) (by omega) (by omega) (by omega) (by omega) (by omega) (by omega) (by omega)

set_option maxRecDepth 100000 in
theorem lifted12 (os : Os) (started : os.Started) (H : Type) (enc : TypeId × Value → H) :
    ReturnsInHanded {} Tryd.checked os 12 .any (fun w args => (Rows.toneAgainSpec.pre enc Tryd.prog Tryd.f12 Rows.toneAgainRow.domain false w args ∧ laidMet Tryd.prog Rows.toneAgainRow.laid w) ∧ sizedMet enc Tryd.prog Tryd.f12 (OpenSpec.ofChange Rows.toneAgainSpec) false w args)
      (Rows.toneAgainSpec.post enc Tryd.prog Tryd.f12 false true false false) := by
  refine returnsInHanded_of_change_and (C := Tryd.checked) (X := fun w _ => laidMet Tryd.prog Rows.toneAgainRow.laid w) (fun _ _ _ hh h => h.of_heap hh) own started (by kernel_rfl) Tryd.func12
    (ChangeSpec.witness_at (enc := enc) (C := Tryd.checked) (os := os) (X := fun w _ => laidMet Tryd.prog Rows.toneAgainRow.laid w) false (laidWorld os)
      #[.agg #[.bool false, .bool false, .bool false, .bool false, .int .u8 0, .int .u8 0, .int .u8 0, .bool false, .bool false, .int .u8 0, .int .u8 0, .int .u8 0, .int .u16 0, .int .u16 0, .bool false, .bool false, .bool false, .int .u8 0, .int .u8 0, .int .u8 0, .bool false, .bool false, .int .u8 0, .int .u8 0, .int .u8 0, .bool false, .int .u8 0, .int .u16 0, .int .u16 0, .bool false, .bool false, .bool false, .int .u8 0, .int .u8 0, .int .u8 0, .bool false, .bool false, .int .u8 0, .bool false, .int .u8 0, .int .u16 0, .int .u16 0, .int .i64 0, .int .u8 0], .bool false]
      8 rfl (by kernel_rfl) (by kernel_rfl) (by kernel_rfl) (by kernel_rfl) (by kernel_rfl) (laid_met os _)) ?_
  intro W base args ds gs before hval0 hW _ _ hL _
  have hval : ∀ (j : Nat) t v, Tryd.f12.params[j]? = some t → args[j]? = some v → Value.okWide Tryd.prog W .any base t v := hval0
  have hW' := hW
  obtain ⟨p, q, hA0, hV, rfl, hfz, hnd⟩ := hW
  have hA : DataW.TrodAll enc Tryd.prog W 0 (fun _ => true) true Tryd.f12.params.toList args.toList ds p := hA0
  have hA3 := hA
  rw [params12] at hA3 hval
  obtain ⟨rfl, rfl⟩ := trodVars_none hV
  obtain ⟨is, bs, hfl, _⟩ := flat_of_trod shs12 (fun j t v hj hv => hval j t v (by simpa using hj) (by simpa using hv)) hA3
  have hds : ∃ d1 d2, ds = [d1, d2] := by
    have := (trodAll_len hA3).2
    obtain ⟨d1, t1, rfl, g1⟩ := len_cons (n := 1) this
    obtain ⟨d2, t2, rfl, g2⟩ := len_cons (n := 0) g1
    obtain rfl := len_nil g2
    exact ⟨d1, d2, rfl⟩
  have hlaw := law12 hfl
  have hc := c12 args.toList W _ _ [] (laid_of hL) hfl trivial (fun r hr => by cases hr) (fun r hr => by cases hr) (fun q hq => by cases hq) (fun _ => by rw [hlaw]; rfl)
  rw [show args.toList.toArray = args by simp] at hc
  refine Calls.mono hc fun e W' he => ?_
  obtain ⟨v, rfl, hk, ho⟩ := he
  rw [hlaw] at ho
  obtain rfl := out_trueP rfl rfl rfl rfl ho
  obtain ⟨d1, d2, rfl⟩ := hds
  exact ⟨_, rfl, law_post laidOut plain12 res12 bool12 rfl hW' hA (by simp) rfl rfl hk⟩

theorem row12 : Rows.ToneAgainSaid :=
  OpenClaim.holds_of_wide 12 Tryd.f12 rfl rfl rfl rfl rfl rfl rfl ⟨rfl, rfl, rfl, rfl, rfl⟩ rfl rfl rfl rfl rfl (by kernel_rfl) Tryd.func12 (by kernel_rfl)
    (of_decide_eq_true (by kernel_rfl)) (by unfold Func.isWrapper; first | (rw [if_pos (by decide +kernel)]; kernel_rfl) | (rw [if_neg (by decide +kernel)]; exact ⟨rfl, rfl⟩))
    (fun os started H enc _ => lifted12 os started H enc)

/-- THE STATEMENT. -/
theorem toneAgain_holds : Rows.ToneAgainCardSaid :=
  Claim7.holds_tied_plain_at .later [] [.data, .data] true (true, "eb70bf60f8237103f259a08e5df4e1638c1571ca8df180ddb8db3253291ad564") false
    row12 (fun _ h => by cases h) (by kernel_rfl) (fun _ h => by cases h) toneAgain_row_tie rfl ⟨rfl, rfl⟩ (by kernel_rfl) rfl
    (fun f fn hf hfn => by
      obtain rfl : f = 12 := Option.some.inj ((show Tryd.prog.funcNamed Rows.toneAgainRow.func = some 12 by kernel_rfl).symm.trans hf) |>.symm
      obtain rfl : fn = Tryd.f12 := (Option.some.inj (Tryd.func12.symm.trans hfn)).symm
      exact ⟨by kernel_rfl, fun j t ht => by
        rw [params12] at ht
        have h3 : t = 58 ∨ t = 4 := by
          rcases j with _ | _ | j
          · exact .inl (by simpa using ht.symm)
          · exact .inr (by simpa using ht.symm)
          · simp at ht
        rcases h3 with rfl | rfl
        · exact (show Tryd.prog.wantsStandIn 58 = false by kernel_rfl)
        · exact (show Tryd.prog.wantsStandIn 4 = false by kernel_rfl)⟩)
    (by kernel_rfl)
#print axioms toneAgain_holds
end Go.Proofs.YtoempcgniokpiaaDoor.Td
