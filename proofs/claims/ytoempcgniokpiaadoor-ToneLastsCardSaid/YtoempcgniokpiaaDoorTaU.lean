/-
  tone: what one step of a length and of a sweep leaves. WRITTEN BY PROGRAM (wip/gen/ta9.py). No condition.
-/
import Derived.Test.YtoempcgniokpiaaDoorTaR
set_option linter.unusedVariables false
set_option linter.unusedSimpArgs false
namespace Go.Proofs.YtoempcgniokpiaaDoor.Ta
open Go Go.Proofs.YtoempcgniokpiaaDoor.Sx

theorem len43 (i0 : Int) (b0 b1 : Bool) : F43 [i0] [b0, b1] = ([if !b0 && i0 != 0 then (i0 - 1) % 256 else i0], [b0, b1]) := by
  unfold F43
  obtain ⟨ρ, e1, e2, e3, e4⟩ := Smry.run_spec (Φ := tabF T12) (S := S43) (is := [i0]) (bs := [b0, b1]) rfl
  rw [e1]
  clear e1
  simp only [S43, eqns, Em.eqn, headsI, headsB, RI.d, RB.d, A.d, B.d, cm_eql, cm_neq, cm_lss, cm_leq, cm_gtr, cm_geq, List.map_cons, List.map_nil, and_true, Nat.zero_add, Nat.reduceAdd, ltn, upto, true_and, Nat.add_zero, List.getD_cons_zero, List.getD_cons_succ, add8, sub8, add16, sub16, mul16, wrap_u8, wrap_u16, and8_1, and8_7, and8_8, and8_15, and8_16, and8_31, and8_32, and8_64, and8_127, and8_128, and16_1, and16_255, and16_1792, shr8_1, shr8_3, shr8_4, shr8_6, shr16_1, shr16_6, shr16_8, shl16_8, shl16_14] at e2 e3 e4 ⊢
  simp only [e2, e3] at e4 ⊢
  grind
/-- ONE STEP of a pulse that may be: it may be again, its length counts. -/
theorem st64 (i0 i1 i2 i3 i4 i5 i6 i7 i8 i9 i10 : Int) (b0 b1 b2 b3 b4 b5 b6 b7 b8 : Bool) (h0 : 0 ≤ i0) (h1 : 0 ≤ i1) (h2 : 0 ≤ i2) (h3 : 0 ≤ i3) (h4 : 0 ≤ i4) (h5 : 0 ≤ i5) (h6 : 0 ≤ i6) (h7 : 0 ≤ i7) (h8 : 0 ≤ i8) (h9 : 0 ≤ i9) (h10 : 0 ≤ i10) (hok : okP i0 i1 i2 i4 i5 i6 i7 i8 i9 i10 = true) :
    ∃ p r b, F64 [i0, i1, i2, i3, i4, i5, i6, i7, i8, i9, i10] [b0, b1, b2, b3, b4, b5, b6, b7, b8] = ([i0, i1, i2, if !b4 && i3 != 0 then (i3 - 1) % 256 else i3, i4, i5, p, i7, i8, i9, r], [true, b0, b1, b2, b3, b4, b5, b6, b7, b]) ∧ 0 ≤ p ∧ 0 ≤ r ∧ okP i0 i1 i2 i4 i5 p i7 i8 i9 r = true := by
  unfold F64
  obtain ⟨ρ, e1, e2, e3, e4⟩ := Smry.run_specT (Φ := tabF T45) (S := S64) (is := [i0, i1, i2, i3, i4, i5, i6, i7, i8, i9, i10]) (bs := [b0, b1, b2, b3, b4, b5, b6, b7, b8]) rfl
  rw [e1, obAll_eq]
  clear e1
  simp only [S64, obs, Gd.d_cons, Gd.d_nil, eqns, Em.eqn, headsI, headsB, RI.d, RB.d, A.d, B.d, cm_eql, cm_neq, cm_lss, cm_leq, cm_gtr, cm_geq, List.map_cons, List.map_nil, and_true, Nat.zero_add, Nat.reduceAdd, ltn, upto, true_and, Nat.add_zero, List.getD_cons_zero, List.getD_cons_succ, add8, sub8, add16, sub16, mul16, wrap_u8, wrap_u16, and8_1, and8_7, and8_8, and8_15, and8_16, and8_31, and8_32, and8_64, and8_127, and8_128, and16_1, and16_255, and16_1792, shr8_1, shr8_3, shr8_4, shr8_6, shr16_1, shr16_6, shr16_8, shl16_8, shl16_14] at e2 e3 e4 ⊢
  simp only [e2, e3] at e4 ⊢
  rw [show tabF T45 37 = F37 by rfl, v37, show tabF T45 43 = F43 by rfl, len43, show tabF T45 83 = F83 by rfl, show tabF T45 84 = F84 by rfl] at e4
  rw [hok] at e4
  simp only [okP, okE, Bool.and_eq_true, decide_eq_true_eq] at hok ⊢
  rw [mu83 (h6 := by omega) (h9 := by omega), tg84 (h6 := by omega) (h9 := by omega)] at e4
  simp only [List.getD_cons_zero, List.getD_cons_succ] at e4
  have hc := pow_div i6 i9.toNat h6
  have ht : ∀ c, 0 ≤ c → c ≤ i6 → 0 ≤ tgt i6 c b7 b0 ∧ tgt i6 c b7 b0 < 4096 := fun c _ _ => by unfold tgt; grind
  have ht := ht _ hc.1 hc.2
  generalize tgt i6 (i6 / ((2 ^ i9.toNat : Nat) : Int)) b7 b0 = t at *
  clear hc
  have gb9 := e4.1
  have r0 := e4.2
  clear e4
  have gb10 := r0.1
  have r1 := r0.2
  clear r0
  have gi11 := r1.1.1
  have gb11 := r1.1.2.1
  have gb12 := r1.1.2.2
  have r2 := r1.2
  clear r1
  have gb13 := r2.1
  have r3 := r2.2
  clear r2
  have gb14 := r3.1
  have r4 := r3.2
  clear r3
  have gb15 := r4.1
  have r5 := r4.2
  clear r4
  have gb16 := r5.1
  have r6 := r5.2
  clear r5
  have gb17 := r6.1.1
  have gb18 := r6.1.2
  have r7 := r6.2
  clear r6
  have gb19 := r7.1
  have r8 := r7.2
  clear r7
  have gb20 := r8.1
  have r9 := r8.2
  clear r8
  have gi12 := r9.1.1
  have gb21 := r9.1.2
  have r10 := r9.2
  clear r9
  have gi13 := r10.1
  have r11 := r10.2
  clear r10
  have gi14 := r11.1
  have r12 := r11.2
  clear r11
  have gb22 := r12.1
  have r13 := r12.2
  clear r12
  have gi15 := r13.1
  have r14 := r13.2
  clear r13
  have gb23 := r14.1
  have r15 := r14.2
  clear r14
  have gi16 := r15.1
  have r16 := r15.2
  clear r15
  have gb24 := r16.1
  have r17 := r16.2
  clear r16
  have gb25 := r17.1
  have r18 := r17.2
  clear r17
  have gb26 := r18.1
  have r19 := r18.2
  clear r18
  have gi17 := r19.1
  have r20 := r19.2
  clear r19
  have gi18 := r20.1
  have r21 := r20.2
  clear r20
  have gb27 := r21.1
  have r22 := r21.2
  clear r21
  have gi19 := r22
  refine ⟨ρ.i 18, ρ.i 19, ρ.b 27, by simp [gb9, gb10, gi11, gb11, gb12, gb13, gb14, gb15, gb16, gb17, gb18, gb19, gb20, gi12, gb21, gi13, gi14, gb22, gi15, gb23, gi16, gb24, gb25, gb26, gi17], ?_, ?_, ?_⟩
  all_goals grind
end Go.Proofs.YtoempcgniokpiaaDoor.Ta
