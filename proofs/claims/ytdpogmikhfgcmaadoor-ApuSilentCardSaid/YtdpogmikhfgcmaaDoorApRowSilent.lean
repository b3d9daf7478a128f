/-
  THE ROW AND THE TIED CARD OF 'seepagelaw.ApuSilent'.  WRITTEN BY PROGRAM (wip/gen/rowgen.py). No condition.
-/
import Derived.Test.YtdpogmikhfgcmaaDoorApP
import Derived.Test.YtdpogmikhfgcmaaDoorApT
import Derived.Test.YtdpogmikhfgcmaaDoorTie
import Derived.Test.YtdpogmikhfgcmaaDoorCards
import Derived.SevenTiedAt
set_option linter.unusedVariables false
set_option linter.unusedSimpArgs false
namespace Go.Proofs.YtdpogmikhfgcmaaDoor.Ap
open Go Go.ChangeShapes Go.WideShapes Go.ChangeAt Go.RowKit Go.Proofs.YtdpogmikhfgcmaaDoor.Sx

theorem params5 : Tryd.f5.params = #[36, 48, 5] := by kernel_rfl
theorem res5 : Tryd.f5.resultTypes = #[4] := by kernel_rfl
theorem bool5 : Tryd.prog.underlying 4 = some .bool := by kernel_rfl
theorem shs5 : shsOf Tryd.prog [36, 48, 5] = some s5.args := by kernel_rfl
theorem plain5 : ∀ t, t ∈ Tryd.f5.params.toList → Tryd.prog.readableRec t = true ∧ t < Tryd.prog.types.size := by
  intro t ht
  rw [params5] at ht
  simp only [List.mem_cons, List.not_mem_nil, or_false] at ht
  rcases ht with rfl | rfl | rfl
  · exact ⟨by kernel_rfl, of_decide_eq_true (by kernel_rfl)⟩
  · exact ⟨by kernel_rfl, of_decide_eq_true (by kernel_rfl)⟩
  · exact ⟨by kernel_rfl, of_decide_eq_true (by kernel_rfl)⟩
theorem law5 {vs : List Value} {w : World} {is : List Int} {bs : List Bool} {ps : List Rg} (hfl : flatArgs s5.args vs w = some (is, bs, ps)) : F5 is bs = ([], [true, true]) := by
  obtain ⟨h1, h2, _, _⟩ := flatArgs_len hfl
  have hr := flatArgs_rng hfl
  obtain ⟨i0, t0, rfl, g0⟩ := len_cons (n := 48) h1
  obtain ⟨i1, t1, rfl, g1⟩ := len_cons (n := 47) g0
  obtain ⟨i2, t2, rfl, g2⟩ := len_cons (n := 46) g1
  obtain ⟨i3, t3, rfl, g3⟩ := len_cons (n := 45) g2
  obtain ⟨i4, t4, rfl, g4⟩ := len_cons (n := 44) g3
  obtain ⟨i5, t5, rfl, g5⟩ := len_cons (n := 43) g4
  obtain ⟨i6, t6, rfl, g6⟩ := len_cons (n := 42) g5
  obtain ⟨i7, t7, rfl, g7⟩ := len_cons (n := 41) g6
  obtain ⟨i8, t8, rfl, g8⟩ := len_cons (n := 40) g7
  obtain ⟨i9, t9, rfl, g9⟩ := len_cons (n := 39) g8
  obtain ⟨i10, t10, rfl, g10⟩ := len_cons (n := 38) g9
  obtain ⟨i11, t11, rfl, g11⟩ := len_cons (n := 37) g10
  obtain ⟨i12, t12, rfl, g12⟩ := len_cons (n := 36) g11
  obtain ⟨i13, t13, rfl, g13⟩ := len_cons (n := 35) g12
  obtain ⟨i14, t14, rfl, g14⟩ := len_cons (n := 34) g13
  obtain ⟨i15, t15, rfl, g15⟩ := len_cons (n := 33) g14
  obtain ⟨i16, t16, rfl, g16⟩ := len_cons (n := 32) g15
  obtain ⟨i17, t17, rfl, g17⟩ := len_cons (n := 31) g16
  obtain ⟨i18, t18, rfl, g18⟩ := len_cons (n := 30) g17
  obtain ⟨i19, t19, rfl, g19⟩ := len_cons (n := 29) g18
  obtain ⟨i20, t20, rfl, g20⟩ := len_cons (n := 28) g19
  obtain ⟨i21, t21, rfl, g21⟩ := len_cons (n := 27) g20
  obtain ⟨i22, t22, rfl, g22⟩ := len_cons (n := 26) g21
  obtain ⟨i23, t23, rfl, g23⟩ := len_cons (n := 25) g22
  obtain ⟨i24, t24, rfl, g24⟩ := len_cons (n := 24) g23
  obtain ⟨i25, t25, rfl, g25⟩ := len_cons (n := 23) g24
  obtain ⟨i26, t26, rfl, g26⟩ := len_cons (n := 22) g25
  obtain ⟨i27, t27, rfl, g27⟩ := len_cons (n := 21) g26
  obtain ⟨i28, t28, rfl, g28⟩ := len_cons (n := 20) g27
  obtain ⟨i29, t29, rfl, g29⟩ := len_cons (n := 19) g28
  obtain ⟨i30, t30, rfl, g30⟩ := len_cons (n := 18) g29
  obtain ⟨i31, t31, rfl, g31⟩ := len_cons (n := 17) g30
  obtain ⟨i32, t32, rfl, g32⟩ := len_cons (n := 16) g31
  obtain ⟨i33, t33, rfl, g33⟩ := len_cons (n := 15) g32
  obtain ⟨i34, t34, rfl, g34⟩ := len_cons (n := 14) g33
  obtain ⟨i35, t35, rfl, g35⟩ := len_cons (n := 13) g34
  obtain ⟨i36, t36, rfl, g36⟩ := len_cons (n := 12) g35
  obtain ⟨i37, t37, rfl, g37⟩ := len_cons (n := 11) g36
  obtain ⟨i38, t38, rfl, g38⟩ := len_cons (n := 10) g37
  obtain ⟨i39, t39, rfl, g39⟩ := len_cons (n := 9) g38
  obtain ⟨i40, t40, rfl, g40⟩ := len_cons (n := 8) g39
  obtain ⟨i41, t41, rfl, g41⟩ := len_cons (n := 7) g40
  obtain ⟨i42, t42, rfl, g42⟩ := len_cons (n := 6) g41
  obtain ⟨i43, t43, rfl, g43⟩ := len_cons (n := 5) g42
  obtain ⟨i44, t44, rfl, g44⟩ := len_cons (n := 4) g43
  obtain ⟨i45, t45, rfl, g45⟩ := len_cons (n := 3) g44
  obtain ⟨i46, t46, rfl, g46⟩ := len_cons (n := 2) g45
  obtain ⟨i47, t47, rfl, g47⟩ := len_cons (n := 1) g46
  obtain ⟨i48, t48, rfl, g48⟩ := len_cons (n := 0) g47
  obtain rfl := len_nil g48
  obtain ⟨b0, u0, rfl, k0⟩ := len_cons (n := 35) h2
  obtain ⟨b1, u1, rfl, k1⟩ := len_cons (n := 34) k0
  obtain ⟨b2, u2, rfl, k2⟩ := len_cons (n := 33) k1
  obtain ⟨b3, u3, rfl, k3⟩ := len_cons (n := 32) k2
  obtain ⟨b4, u4, rfl, k4⟩ := len_cons (n := 31) k3
  obtain ⟨b5, u5, rfl, k5⟩ := len_cons (n := 30) k4
  obtain ⟨b6, u6, rfl, k6⟩ := len_cons (n := 29) k5
  obtain ⟨b7, u7, rfl, k7⟩ := len_cons (n := 28) k6
  obtain ⟨b8, u8, rfl, k8⟩ := len_cons (n := 27) k7
  obtain ⟨b9, u9, rfl, k9⟩ := len_cons (n := 26) k8
  obtain ⟨b10, u10, rfl, k10⟩ := len_cons (n := 25) k9
  obtain ⟨b11, u11, rfl, k11⟩ := len_cons (n := 24) k10
  obtain ⟨b12, u12, rfl, k12⟩ := len_cons (n := 23) k11
  obtain ⟨b13, u13, rfl, k13⟩ := len_cons (n := 22) k12
  obtain ⟨b14, u14, rfl, k14⟩ := len_cons (n := 21) k13
  obtain ⟨b15, u15, rfl, k15⟩ := len_cons (n := 20) k14
  obtain ⟨b16, u16, rfl, k16⟩ := len_cons (n := 19) k15
  obtain ⟨b17, u17, rfl, k17⟩ := len_cons (n := 18) k16
  obtain ⟨b18, u18, rfl, k18⟩ := len_cons (n := 17) k17
  obtain ⟨b19, u19, rfl, k19⟩ := len_cons (n := 16) k18
  obtain ⟨b20, u20, rfl, k20⟩ := len_cons (n := 15) k19
  obtain ⟨b21, u21, rfl, k21⟩ := len_cons (n := 14) k20
  obtain ⟨b22, u22, rfl, k22⟩ := len_cons (n := 13) k21
  obtain ⟨b23, u23, rfl, k23⟩ := len_cons (n := 12) k22
  obtain ⟨b24, u24, rfl, k24⟩ := len_cons (n := 11) k23
  obtain ⟨b25, u25, rfl, k25⟩ := len_cons (n := 10) k24
  obtain ⟨b26, u26, rfl, k26⟩ := len_cons (n := 9) k25
  obtain ⟨b27, u27, rfl, k27⟩ := len_cons (n := 8) k26
  obtain ⟨b28, u28, rfl, k28⟩ := len_cons (n := 7) k27
  obtain ⟨b29, u29, rfl, k29⟩ := len_cons (n := 6) k28
  obtain ⟨b30, u30, rfl, k30⟩ := len_cons (n := 5) k29
  obtain ⟨b31, u31, rfl, k31⟩ := len_cons (n := 4) k30
  obtain ⟨b32, u32, rfl, k32⟩ := len_cons (n := 3) k31
  obtain ⟨b33, u33, rfl, k33⟩ := len_cons (n := 2) k32
  obtain ⟨b34, u34, rfl, k34⟩ := len_cons (n := 1) k33
  obtain ⟨b35, u35, rfl, k35⟩ := len_cons (n := 0) k34
  obtain rfl := len_nil k35
  simp only [s5, rngA, rngK, IntKind.min, IntKind.max, IntKind.signed, IntKind.bits, Bool.false_eq_true, if_false, if_true] at hr
  obtain ⟨r0, r1, r2, r3, r4, r5, r6, r7, r8, r9, r10, r11, r12, r13, r14, r15, r16, r17, r18, r19, r20, r21, r22, r23, r24, r25, r26, r27, r28, r29, r30, r31, r32, r33, r34, r35, r36, r37, r38, r39, r40, r41, r42, r43, r44, r45, hq, hr⟩ := hr
  exact silentA _ _ _ _ _ _ _ _ _ _ _ _ _ _ _ _ _ _ _ _ _ _ _ _ _ _ _ _ _ _ _ _ _ _ _ _ _ _ _ _ _ _ _ _ _ _ _ _ _ _ _ _ _ _ _ _ _ _ _ _ _ _ _ _ _ _ _ _ _ _ _ _ _ _ _ _ _ _ _ _ _ _ _ _ _ hq (by omega) (by omega) (by omega) (by omega) (by omega) (by omega) (by omega) (by omega) (by omega) (by omega) (by omega) (by omega) (by omega) (by omega) (by omega) (by omega) (by omega) (by omega) (by omega) (by omega) (by omega) (by omega) (by omega) (by omega) (by omega) (by omega) (by omega) (by omega) (by omega) (by omega) (by omega) (by omega) (by omega) (by omega) (by omega) (by omega) (by omega) (by omega) (by omega) (by omega) (by omega) (by omega) (by omega) (by omega) (by omega)

set_option maxRecDepth 100000 in
theorem lifted5 (os : Os) (started : os.Started) (H : Type) (enc : TypeId × Value → H) :
    ReturnsInHanded {} Tryd.checked os 5 .any (fun w args => (Rows.apuSilentSpec.pre enc Tryd.prog Tryd.f5 Rows.apuSilentRow.domain false w args ∧ laidMet Tryd.prog Rows.apuSilentRow.laid w) ∧ sizedMet enc Tryd.prog Tryd.f5 (OpenSpec.ofChange Rows.apuSilentSpec) false w args)
      (Rows.apuSilentSpec.post enc Tryd.prog Tryd.f5 false true false false) := by
  refine returnsInHanded_of_change_and (C := Tryd.checked) (X := fun w _ => laidMet Tryd.prog Rows.apuSilentRow.laid w) (fun _ _ _ hh h => h.of_heap hh) own started (by kernel_rfl) Tryd.func5
    (ChangeSpec.witness_at (enc := enc) (C := Tryd.checked) (os := os) (X := fun w _ => laidMet Tryd.prog Rows.apuSilentRow.laid w) false (laidWorld os)
      #[.agg #[.bool false, .bool false, .bool false, .bool false, .int .u8 0, .int .u8 0, .int .u8 0, .bool false, .bool false, .int .u8 0, .int .u8 0, .int .u8 0, .int .u16 0, .int .u16 0, .bool false, .bool false, .bool false, .int .u8 0, .int .u8 0, .int .u8 0, .bool false, .bool false, .bool false, .bool false, .int .u8 0, .int .u8 0, .int .u8 0, .bool false, .bool false, .int .u8 0, .int .u8 0, .int .u8 0, .int .u16 0, .int .u16 0, .bool false, .bool false, .bool false, .int .u8 0, .int .u8 0, .int .u8 0, .bool false, .bool false, .int .u8 0, .int .u8 0, .int .u8 0, .bool false, .int .u8 0, .int .u16 0, .int .u16 0, .bool false, .bool false, .bool false, .int .u8 0, .int .u8 0, .int .u8 0, .bool false, .bool false, .int .u8 0, .bool false, .int .u8 0, .int .u16 0, .int .u16 0, .bool false, .bool false, .bool false, .int .u8 0, .int .u8 0, .int .u16 0, .int .u16 0, .int .u16 0, .int .u16 0, .int .u8 0, .bool false, .int .u8 0, .int .u8 0, .bool false, .int .u16 0, .bool false, .bool false, .bool false, .int .i64 0, .bool false], .slice none 0 0, .int .u8 0]
      8 rfl (by kernel_rfl) (by kernel_rfl) (by kernel_rfl) (by kernel_rfl) (by kernel_rfl) (laid_met os _)) ?_
  intro W base args ds gs before hval0 hW _ _ hL _
  have hval : ∀ (j : Nat) t v, Tryd.f5.params[j]? = some t → args[j]? = some v → Value.okWide Tryd.prog W .any base t v := hval0
  have hW' := hW
  obtain ⟨p, q, hA0, hV, rfl, hfz, hnd⟩ := hW
  have hA : DataW.TrodAll enc Tryd.prog W 0 (fun _ => true) true Tryd.f5.params.toList args.toList ds p := hA0
  have hA3 := hA
  rw [params5] at hA3 hval
  obtain ⟨rfl, rfl⟩ := trodVars_none hV
  obtain ⟨is, bs, hfl, _⟩ := flat_of_trod shs5 (fun j t v hj hv => hval j t v (by simpa using hj) (by simpa using hv)) hA3
  have hds : ∃ d1 d2 d3, ds = [d1, d2, d3] := by
    have := (trodAll_len hA3).2
    obtain ⟨d1, t1, rfl, g1⟩ := len_cons (n := 2) this
    obtain ⟨d2, t2, rfl, g2⟩ := len_cons (n := 1) g1
    obtain ⟨d3, t3, rfl, g3⟩ := len_cons (n := 0) g2
    obtain rfl := len_nil g3
    exact ⟨d1, d2, d3, rfl⟩
  have hlaw := law5 hfl
  have hc := c5 args.toList W _ _ [] (laid_of hL) hfl trivial (fun r hr => by cases hr) (fun r hr => by cases hr) (fun q hq => by cases hq) (fun _ => by rw [hlaw]; rfl)
  rw [show args.toList.toArray = args by simp] at hc
  refine Calls.mono hc fun e W' he => ?_
  obtain ⟨v, rfl, hk, ho⟩ := he
  rw [hlaw] at ho
  obtain rfl := out_trueP rfl rfl rfl rfl ho
  obtain ⟨d1, d2, d3, rfl⟩ := hds
  exact ⟨_, rfl, law_post laidOut plain5 res5 bool5 rfl hW' hA (by simp) rfl rfl hk⟩

theorem row5 : Rows.ApuSilentSaid :=
  OpenClaim.holds_of_wide 5 Tryd.f5 rfl rfl rfl rfl rfl rfl rfl ⟨rfl, rfl, rfl, rfl, rfl⟩ rfl rfl rfl rfl rfl (by kernel_rfl) Tryd.func5 (by kernel_rfl)
    (of_decide_eq_true (by kernel_rfl)) (by unfold Func.isWrapper; first | (rw [if_pos (by decide +kernel)]; kernel_rfl) | (rw [if_neg (by decide +kernel)]; exact ⟨rfl, rfl⟩))
    (fun os started H enc _ => lifted5 os started H enc)

/-- THE STATEMENT. -/
theorem apuSilent_holds : Rows.ApuSilentCardSaid :=
  Claim7.holds_tied_plain_at .later [] [.data, .data, .data] true (true, "6734af80180b8141d5542da56eb563cbb649fca3ffd11d4a1fa92860871affd3") false
    row5 (fun _ h => by cases h) (by kernel_rfl) (fun _ h => by cases h) apuSilent_row_tie rfl ⟨rfl, rfl⟩ (by kernel_rfl) rfl
    (fun f fn hf hfn => by
      obtain rfl : f = 5 := Option.some.inj ((show Tryd.prog.funcNamed Rows.apuSilentRow.func = some 5 by kernel_rfl).symm.trans hf) |>.symm
      obtain rfl : fn = Tryd.f5 := (Option.some.inj (Tryd.func5.symm.trans hfn)).symm
      exact ⟨by kernel_rfl, fun j t ht => by
        rw [params5] at ht
        have h3 : t = 36 ∨ t = 48 ∨ t = 5 := by
          rcases j with _ | _ | _ | j
          · exact .inl (by simpa using ht.symm)
          · exact .inr (.inl (by simpa using ht.symm))
          · exact .inr (.inr (by simpa using ht.symm))
          · simp at ht
        rcases h3 with rfl | rfl | rfl
        · exact (show Tryd.prog.wantsStandIn 36 = false by kernel_rfl)
        · exact (show Tryd.prog.wantsStandIn 48 = false by kernel_rfl)
        · exact (show Tryd.prog.wantsStandIn 5 = false by kernel_rfl)⟩)
    (by kernel_rfl)
#print axioms apuSilent_holds
end Go.Proofs.YtdpogmikhfgcmaaDoor.Ap
