/-
  THE ROW AND THE TIED CARD OF 'seepagelaw.ToneStays'.  WRITTEN BY PROGRAM (wip/gen/rowgen.py). No condition.
-/
import Derived.Test.YtoempcgniokpiaaDoorTcN
import Derived.Test.YtoempcgniokpiaaDoorTcT
import Derived.Test.YtoempcgniokpiaaDoorTie
import Derived.Test.YtoempcgniokpiaaDoorCards
import Derived.SevenTiedAt
set_option linter.unusedVariables false
set_option linter.unusedSimpArgs false
namespace Go.Proofs.YtoempcgniokpiaaDoor.Tc
open Go Go.ChangeShapes Go.WideShapes Go.ChangeAt Go.RowKit Go.Proofs.YtoempcgniokpiaaDoor.Sx

theorem params14 : Tryd.f14.params = #[58, 37] := by kernel_rfl
theorem res14 : Tryd.f14.resultTypes = #[4] := by kernel_rfl
theorem bool14 : Tryd.prog.underlying 4 = some .bool := by kernel_rfl
theorem shs14 : shsOf Tryd.prog [58, 37] = some s14.args := by kernel_rfl
theorem plain14 : ∀ t, t ∈ Tryd.f14.params.toList → Tryd.prog.readableRec t = true ∧ t < Tryd.prog.types.size := by
  intro t ht
  rw [params14] at ht
  simp only [List.mem_cons, List.not_mem_nil, or_false] at ht
  rcases ht with rfl | rfl
  · exact ⟨by kernel_rfl, of_decide_eq_true (by kernel_rfl)⟩
  · exact ⟨by kernel_rfl, of_decide_eq_true (by kernel_rfl)⟩
theorem law14 {vs : List Value} {w : World} {is : List Int} {bs : List Bool} {ps : List Rg} (hfl : flatArgs s14.args vs w = some (is, bs, ps)) : F14 is bs = ([], [true, true]) := by
  obtain ⟨h1, h2, _, _⟩ := flatArgs_len hfl
  have hr := flatArgs_rng hfl
  obtain ⟨i0, t0, rfl, g0⟩ := len_cons (n := 27) h1
  obtain ⟨i1, t1, rfl, g1⟩ := len_cons (n := 26) g0
  obtain ⟨i2, t2, rfl, g2⟩ := len_cons (n := 25) g1
  obtain ⟨i3, t3, rfl, g3⟩ := len_cons (n := 24) g2
  obtain ⟨i4, t4, rfl, g4⟩ := len_cons (n := 23) g3
  obtain ⟨i5, t5, rfl, g5⟩ := len_cons (n := 22) g4
  obtain ⟨i6, t6, rfl, g6⟩ := len_cons (n := 21) g5
  obtain ⟨i7, t7, rfl, g7⟩ := len_cons (n := 20) g6
  obtain ⟨i8, t8, rfl, g8⟩ := len_cons (n := 19) g7
  obtain ⟨i9, t9, rfl, g9⟩ := len_cons (n := 18) g8
  obtain ⟨i10, t10, rfl, g10⟩ := len_cons (n := 17) g9
  obtain ⟨i11, t11, rfl, g11⟩ := len_cons (n := 16) g10
  obtain ⟨i12, t12, rfl, g12⟩ := len_cons (n := 15) g11
  obtain ⟨i13, t13, rfl, g13⟩ := len_cons (n := 14) g12
  obtain ⟨i14, t14, rfl, g14⟩ := len_cons (n := 13) g13
  obtain ⟨i15, t15, rfl, g15⟩ := len_cons (n := 12) g14
  obtain ⟨i16, t16, rfl, g16⟩ := len_cons (n := 11) g15
  obtain ⟨i17, t17, rfl, g17⟩ := len_cons (n := 10) g16
  obtain ⟨i18, t18, rfl, g18⟩ := len_cons (n := 9) g17
  obtain ⟨i19, t19, rfl, g19⟩ := len_cons (n := 8) g18
  obtain ⟨i20, t20, rfl, g20⟩ := len_cons (n := 7) g19
  obtain ⟨i21, t21, rfl, g21⟩ := len_cons (n := 6) g20
  obtain ⟨i22, t22, rfl, g22⟩ := len_cons (n := 5) g21
  obtain ⟨i23, t23, rfl, g23⟩ := len_cons (n := 4) g22
  obtain ⟨i24, t24, rfl, g24⟩ := len_cons (n := 3) g23
  obtain ⟨i25, t25, rfl, g25⟩ := len_cons (n := 2) g24
  obtain ⟨i26, t26, rfl, g26⟩ := len_cons (n := 1) g25
  obtain ⟨i27, t27, rfl, g27⟩ := len_cons (n := 0) g26
  obtain rfl := len_nil g27
  obtain ⟨b0, u0, rfl, k0⟩ := len_cons (n := 17) h2
  obtain ⟨b1, u1, rfl, k1⟩ := len_cons (n := 16) k0
  obtain ⟨b2, u2, rfl, k2⟩ := len_cons (n := 15) k1
  obtain ⟨b3, u3, rfl, k3⟩ := len_cons (n := 14) k2
  obtain ⟨b4, u4, rfl, k4⟩ := len_cons (n := 13) k3
  obtain ⟨b5, u5, rfl, k5⟩ := len_cons (n := 12) k4
  obtain ⟨b6, u6, rfl, k6⟩ := len_cons (n := 11) k5
  obtain ⟨b7, u7, rfl, k7⟩ := len_cons (n := 10) k6
  obtain ⟨b8, u8, rfl, k8⟩ := len_cons (n := 9) k7
  obtain ⟨b9, u9, rfl, k9⟩ := len_cons (n := 8) k8
  obtain ⟨b10, u10, rfl, k10⟩ := len_cons (n := 7) k9
  obtain ⟨b11, u11, rfl, k11⟩ := len_cons (n := 6) k10
  obtain ⟨b12, u12, rfl, k12⟩ := len_cons (n := 5) k11
  obtain ⟨b13, u13, rfl, k13⟩ := len_cons (n := 4) k12
  obtain ⟨b14, u14, rfl, k14⟩ := len_cons (n := 3) k13
  obtain ⟨b15, u15, rfl, k15⟩ := len_cons (n := 2) k14
  obtain ⟨b16, u16, rfl, k16⟩ := len_cons (n := 1) k15
  obtain ⟨b17, u17, rfl, k17⟩ := len_cons (n := 0) k16
  obtain rfl := len_nil k17
  simp only [s14, rngA, rngK, IntKind.min, IntKind.max, IntKind.signed, IntKind.bits, Bool.false_eq_true, if_false, if_true] at hr
  obtain ⟨r0, r1, r2, r3, r4, r5, r6, r7, r8, r9, r10, r11, r12, r13, r14, r15, r16, r17, r18, r19, r20, r21, r22, r23, r24, r25, hq, _⟩ := hr
  exact stays _ _ _ _ _ _ _ _ _ _ _ _ _ _ _ _ _ _ _ _ _ _ _ _ _ _ _ _ _ _ _ _ _ _ _ _ _ _ _ _ _ _ _ _ _ _ hq (by omega) (by omega) (by omega) (by omega) (by omega) (by omega) (by omega) (by omega) (by omega) (by omega) (by omega) (by omega) (by omega) (by omega) (by omega) (by omega) (by omega) (by omega) (by omega) (by omega) (by omega) (by omega) (by omega) (by omega)

set_option maxRecDepth 100000 in
theorem lifted14 (os : Os) (started : os.Started) (H : Type) (enc : TypeId × Value → H) :
    ReturnsInHanded {} Tryd.checked os 14 .any (fun w args => (Rows.toneStaysSpec.pre enc Tryd.prog Tryd.f14 Rows.toneStaysRow.domain false w args ∧ laidMet Tryd.prog Rows.toneStaysRow.laid w) ∧ sizedMet enc Tryd.prog Tryd.f14 (OpenSpec.ofChange Rows.toneStaysSpec) false w args)
      (Rows.toneStaysSpec.post enc Tryd.prog Tryd.f14 false true false false) := by
  refine returnsInHanded_of_change_and (C := Tryd.checked) (X := fun w _ => laidMet Tryd.prog Rows.toneStaysRow.laid w) (fun _ _ _ hh h => h.of_heap hh) own started (by kernel_rfl) Tryd.func14
    (ChangeSpec.witness_at (enc := enc) (C := Tryd.checked) (os := os) (X := fun w _ => laidMet Tryd.prog Rows.toneStaysRow.laid w) false (laidWorld os)
      #[.agg #[.bool false, .bool false, .bool false, .bool false, .int .u8 0, .int .u8 0, .int .u8 0, .bool false, .bool false, .int .u8 0, .int .u8 0, .int .u8 0, .int .u16 0, .int .u16 0, .bool false, .bool false, .bool false, .int .u8 0, .int .u8 0, .int .u8 0, .bool false, .bool false, .int .u8 0, .int .u8 0, .int .u8 0, .bool false, .int .u8 0, .int .u16 0, .int .u16 0, .bool false, .bool false, .bool false, .int .u8 0, .int .u8 0, .int .u8 0, .bool false, .bool false, .int .u8 0, .bool false, .int .u8 0, .int .u16 0, .int .u16 0, .int .i64 0, .int .u8 0], .slice none 0 0]
      8 rfl (by kernel_rfl) (by kernel_rfl) (by kernel_rfl) (by kernel_rfl) (by kernel_rfl) (laid_met os _)) ?_
  intro W base args ds gs before hval0 hW _ _ hL _
  have hval : ∀ (j : Nat) t v, Tryd.f14.params[j]? = some t → args[j]? = some v → Value.okWide Tryd.prog W .any base t v := hval0
  have hW' := hW
  obtain ⟨p, q, hA0, hV, rfl, hfz, hnd⟩ := hW
  have hA : DataW.TrodAll enc Tryd.prog W 0 (fun _ => true) true Tryd.f14.params.toList args.toList ds p := hA0
  have hA3 := hA
  rw [params14] at hA3 hval
  obtain ⟨rfl, rfl⟩ := trodVars_none hV
  obtain ⟨is, bs, hfl, _⟩ := flat_of_trod shs14 (fun j t v hj hv => hval j t v (by simpa using hj) (by simpa using hv)) hA3
  have hds : ∃ d1 d2, ds = [d1, d2] := by
    have := (trodAll_len hA3).2
    obtain ⟨d1, t1, rfl, g1⟩ := len_cons (n := 1) this
    obtain ⟨d2, t2, rfl, g2⟩ := len_cons (n := 0) g1
    obtain rfl := len_nil g2
    exact ⟨d1, d2, rfl⟩
  have hlaw := law14 hfl
  have hc := c14 args.toList W _ _ [] (laid_of hL) hfl trivial (fun r hr => by cases hr) (fun r hr => by cases hr) (fun q hq => by cases hq) (fun _ => by rw [hlaw]; rfl)
  rw [show args.toList.toArray = args by simp] at hc
  refine Calls.mono hc fun e W' he => ?_
  obtain ⟨v, rfl, hk, ho⟩ := he
  rw [hlaw] at ho
  obtain rfl := out_trueP rfl rfl rfl rfl ho
  obtain ⟨d1, d2, rfl⟩ := hds
  exact ⟨_, rfl, law_post laidOut plain14 res14 bool14 rfl hW' hA (by simp) rfl rfl hk⟩

theorem row14 : Rows.ToneStaysSaid :=
  OpenClaim.holds_of_wide 14 Tryd.f14 rfl rfl rfl rfl rfl rfl rfl ⟨rfl, rfl, rfl, rfl, rfl⟩ rfl rfl rfl rfl rfl (by kernel_rfl) Tryd.func14 (by kernel_rfl)
    (of_decide_eq_true (by kernel_rfl)) (by unfold Func.isWrapper; first | (rw [if_pos (by decide +kernel)]; kernel_rfl) | (rw [if_neg (by decide +kernel)]; exact ⟨rfl, rfl⟩))
    (fun os started H enc _ => lifted14 os started H enc)

/-- THE STATEMENT. -/
theorem toneStays_holds : Rows.ToneStaysCardSaid :=
  Claim7.holds_tied_plain_at .later [] [.data, .data] true (true, "eb70bf60f8237103f259a08e5df4e1638c1571ca8df180ddb8db3253291ad564") false
    row14 (fun _ h => by cases h) (by kernel_rfl) (fun _ h => by cases h) toneStays_row_tie rfl ⟨rfl, rfl⟩ (by kernel_rfl) rfl
    (fun f fn hf hfn => by
      obtain rfl : f = 14 := Option.some.inj ((show Tryd.prog.funcNamed Rows.toneStaysRow.func = some 14 by kernel_rfl).symm.trans hf) |>.symm
      obtain rfl : fn = Tryd.f14 := (Option.some.inj (Tryd.func14.symm.trans hfn)).symm
      exact ⟨by kernel_rfl, fun j t ht => by
        rw [params14] at ht
        have h3 : t = 58 ∨ t = 37 := by
          rcases j with _ | _ | j
          · exact .inl (by simpa using ht.symm)
          · exact .inr (by simpa using ht.symm)
          · simp at ht
        rcases h3 with rfl | rfl
        · exact (show Tryd.prog.wantsStandIn 58 = false by kernel_rfl)
        · exact (show Tryd.prog.wantsStandIn 37 = false by kernel_rfl)⟩)
    (by kernel_rfl)
#print axioms toneStays_holds
end Go.Proofs.YtoempcgniokpiaaDoor.Tc
