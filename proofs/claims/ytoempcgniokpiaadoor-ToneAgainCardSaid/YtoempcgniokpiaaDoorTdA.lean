/-
  ToneAgain: one tick of each, and what comes out. WRITTEN BY PROGRAM (wip/gen/td2.py). No condition.
-/
import Derived.Test.YtoempcgniokpiaaDoorTdV
set_option linter.unusedVariables false
set_option linter.unusedSimpArgs false
namespace Go.Proofs.YtoempcgniokpiaaDoor.Td
open Go Go.Proofs.YtoempcgniokpiaaDoor.Sx

theorem tk60 (i0 i1 i2 i3 i4 i5 i8 i9 i10 : Int) (b0 b1 b2 b3 b4 b5 b6 b7 b8 : Bool) (h5 : 0 ≤ i5) (hok : okP i0 i1 i2 i4 i5 0 0 i8 i9 i10 = true) : F60 [i0, i1, i2, i3, i4, i5, 0, 0, i8, i9, i10] [b0, b1, b2, b3, b4, b5, b6, b7, b8] = ([i0, i1, i2, i3, i4, ((i5 - 1) % 8), 0, 0, i8, i9, i10], [b0, b1, b2, b3, b4, b5, b6, b7, b8]) := by
  unfold F60
  obtain ⟨ρ, e1, e2, e3, e4⟩ := Smry.run_spec (Φ := tabF T15) (S := S60) (is := [i0, i1, i2, i3, i4, i5, 0, 0, i8, i9, i10]) (bs := [b0, b1, b2, b3, b4, b5, b6, b7, b8]) rfl
  rw [e1]
  clear e1
  simp only [S60, obs, Gd.d_cons, Gd.d_nil, eqns, Em.eqn, headsI, headsB, RI.d, RB.d, A.d, B.d, cm_eql, cm_neq, cm_lss, cm_leq, cm_gtr, cm_geq, List.map_cons, List.map_nil, and_true, Nat.zero_add, Nat.reduceAdd, ltn, upto, true_and, Nat.add_zero, List.getD_cons_zero, List.getD_cons_succ, add8, sub8, add16, sub16, mul16, wrap_u8, wrap_u16, and8_1, and8_7, and8_8, and8_15, and8_16, and8_31, and8_32, and8_64, and8_127, and8_128, and16_1, and16_255, and16_1792, shr8_1, shr8_3, shr8_4, shr8_6, shr16_1, shr16_6, shr16_8, shl16_8, shl16_14] at e2 e3 e4 ⊢
  simp only [e2, e3] at e4 ⊢
  clear e2 e3
  rw [show tabF T15 68 = F68 by rfl, v68, hok] at e4
  simp only [List.getD_cons_zero] at e4
  have hb9 := e4.1
  have r0 := e4.2
  clear e4
  have hb10 := r0.1
  have r1 := r0.2
  clear r0
  have hb11 := r1.1
  have r2 := r1.2
  clear r1
  have hi11 := r2.1
  have r3 := r2.2
  clear r2
  have hi12 := r3.1
  have r4 := r3.2
  clear r3
  have hi13 := r4.1
  have r5 := r4.2
  clear r4
  have hi14 := r5.1
  have r6 := r5.2
  clear r5
  have hi15 := r6.1
  have r7 := r6.2
  clear r6
  have hi16 := r7.1
  have r8 := r7.2
  clear r7
  have hi17 := r8
  simp only [okP, okE, Bool.and_eq_true, decide_eq_true_eq] at hok
  have t10 : ρ.b 10 = false := by rw [hb10, hb9]; rfl
  have t11 : ρ.b 11 = false := by rw [hb11]; rfl
  have t13 : ρ.i 13 = (i5 - 1) % 8 := by rw [hi13, hi12]; clear hb9 hb10 hb11 hi11 hi12 hi13 hi14 hi15 hi16 hi17; omega
  have t16 : ρ.i 16 = (i5 - 1) % 8 := by simp only [hi16, hi14, t10, t11, t13, Bool.false_eq_true, if_false]
  have t17 : ρ.i 17 = 0 := by simp only [hi17, hi15, t10, t11, Bool.false_eq_true, if_false]
  rw [t16, t17]
theorem tk54 (i2 i3 : Int) (b0 b1 b2 : Bool) (h3 : 0 ≤ i3) (hok : okT 1 i2 i3 0 0 = true) : F54 [1, 1, i2, i3, 0, 0] [b0, b1, b2] = ([1, 1, i2, (i3 + 1) % 32, 0, 0], [b0, b1, b2]) := by
  unfold F54
  obtain ⟨ρ, e1, e2, e3, e4⟩ := Smry.run_spec (Φ := tabF T16) (S := S54) (is := [1, 1, i2, i3, 0, 0]) (bs := [b0, b1, b2]) rfl
  rw [e1]
  clear e1
  simp only [S54, obs, Gd.d_cons, Gd.d_nil, eqns, Em.eqn, headsI, headsB, RI.d, RB.d, A.d, B.d, cm_eql, cm_neq, cm_lss, cm_leq, cm_gtr, cm_geq, List.map_cons, List.map_nil, and_true, Nat.zero_add, Nat.reduceAdd, ltn, upto, true_and, Nat.add_zero, List.getD_cons_zero, List.getD_cons_succ, add8, sub8, add16, sub16, mul16, wrap_u8, wrap_u16, and8_1, and8_7, and8_8, and8_15, and8_16, and8_31, and8_32, and8_64, and8_127, and8_128, and16_1, and16_255, and16_1792, shr8_1, shr8_3, shr8_4, shr8_6, shr16_1, shr16_6, shr16_8, shl16_8, shl16_14] at e2 e3 e4 ⊢
  simp only [e2, e3] at e4 ⊢
  clear e2 e3
  rw [show tabF T16 69 = F69 by rfl, v69, hok] at e4
  simp only [List.getD_cons_zero] at e4
  have hb3 := e4.1
  have r0 := e4.2
  clear e4
  have hb4 := r0.1
  have r1 := r0.2
  clear r0
  have hb5 := r1.1
  have r2 := r1.2
  clear r1
  have hi6 := r2.1
  have r3 := r2.2
  clear r2
  have hb6 := r3.1
  have r4 := r3.2
  clear r3
  have hb7 := r4.1
  have r5 := r4.2
  clear r4
  have hb8 := r5.1
  have r6 := r5.2
  clear r5
  have hi7 := r6.1
  have r7 := r6.2
  clear r6
  have hi8 := r7.1
  have r8 := r7.2
  clear r7
  have hi9 := r8.1
  have r9 := r8.2
  clear r8
  have hi10 := r9.1
  have r10 := r9.2
  clear r9
  have hi11 := r10.1
  have r11 := r10.2
  clear r10
  have hi12 := r11.1
  have r12 := r11.2
  clear r11
  have hi13 := r12
  simp only [okT, Bool.and_eq_true, decide_eq_true_eq] at hok
  have t4 : ρ.b 4 = false := by rw [hb4, hb3]; rfl
  have t5 : ρ.b 5 = false := by rw [hb5]; rfl
  have t8 : ρ.b 8 = true := by rw [hb8, hb6, hb7]; rfl
  have t88 : ρ.i 8 = (i3 + 1) % 32 := by rw [hi8, hi7]; clear hb3 hb4 hb5 hi6 hb6 hb7 hb8 hi7 hi8 hi9 hi10 hi11 hi12 hi13; omega
  have t12 : ρ.i 12 = (i3 + 1) % 32 := by simp only [hi12, hi10, hi9, t4, t5, t8, t88, Bool.false_eq_true, if_false, if_true]
  have t13 : ρ.i 13 = 0 := by simp only [hi13, hi11, t4, t5, Bool.false_eq_true, if_false]
  rw [t12, t13]
def ot (s : Int) : Int := if s < 16 then 15 - s else s - 16
theorem sd58 (i2 i3 : Int) (b0 b1 b2 : Bool) (h3 : 0 ≤ i3) (hok : okT 1 i2 i3 0 0 = true) : F58 [1, 1, i2, i3, 0, 0] [b0, b1, b2] = ([ot i3], []) := by
  unfold F58
  obtain ⟨ρ, e1, e2, e3, e4⟩ := Smry.run_spec (Φ := tabF T9) (S := S58) (is := [1, 1, i2, i3, 0, 0]) (bs := [b0, b1, b2]) rfl
  rw [e1]
  clear e1
  simp only [S58, obs, Gd.d_cons, Gd.d_nil, eqns, Em.eqn, headsI, headsB, RI.d, RB.d, A.d, B.d, cm_eql, cm_neq, cm_lss, cm_leq, cm_gtr, cm_geq, List.map_cons, List.map_nil, and_true, Nat.zero_add, Nat.reduceAdd, ltn, upto, true_and, Nat.add_zero, List.getD_cons_zero, List.getD_cons_succ, add8, sub8, add16, sub16, mul16, wrap_u8, wrap_u16, and8_1, and8_7, and8_8, and8_15, and8_16, and8_31, and8_32, and8_64, and8_127, and8_128, and16_1, and16_255, and16_1792, shr8_1, shr8_3, shr8_4, shr8_6, shr16_1, shr16_6, shr16_8, shl16_8, shl16_14] at e2 e3 e4 ⊢
  simp only [e2, e3] at e4 ⊢
  clear e2 e3
  rw [show tabF T9 69 = F69 by rfl, v69, hok] at e4
  simp only [List.getD_cons_zero] at e4
  simp only [okT, Bool.and_eq_true, decide_eq_true_eq] at hok
  unfold ot
  grind
/-- The next bits of noise. -/
def nx (s : Bool) (b : Int) : Int := b / 2 + 16384 * ((b + (if s then b / 64 else b / 2)) % 2)
theorem or14 (x u : Int) (h : (u = 0 ∨ u = 1) ∧ 0 ≤ x ∧ x < 16384) : arI .or .u16 x (16384 * u) = x + 16384 * u := by
  have := or16_add u x 14 (by omega) (by omega) (by omega) (by omega)
  rw [show (2 : Int) ^ 14 * u = 16384 * u by omega] at this
  rw [show arI .or .u16 x (16384 * u) = arI .or .u16 (16384 * u) x by
    show IntKind.wrap .u16 ↑(BitVec.ofInt 16 x ||| BitVec.ofInt 16 (16384 * u)).toNat = IntKind.wrap .u16 ↑(BitVec.ofInt 16 (16384 * u) ||| BitVec.ofInt 16 x).toNat
    rw [BitVec.or_comm], this]
  omega
theorem xor1 (x y : Int) (h : 0 ≤ x ∧ x < 65536 ∧ 0 ≤ y ∧ y < 65536) : arI .xor .u16 x y % 65536 % 2 = (x + y) % 2 := by
  obtain ⟨m, rfl⟩ := Int.eq_ofNat_of_zero_le h.1
  obtain ⟨n, rfl⟩ := Int.eq_ofNat_of_zero_le h.2.2.1
  rw [xor16_nat, show ((m : Int) % 65536).toNat = m by omega, show ((n : Int) % 65536).toNat = n by omega]
  have h : (m ^^^ n) % 2 = 1 ↔ ¬ (m % 2 = 1 ↔ n % 2 = 1) := by simp
  omega
theorem tk48 (i0 i1 i2 i3 i4 i6 : Int) (b0 b1 b2 b3 b4 b5 : Bool) (h4 : 0 ≤ i4) (h6 : 0 ≤ i6) (hok : okN i0 i1 i2 i4 0 i6 = true) : ∃ c, F48 [i0, i1, i2, i3, i4, 0, i6] [b0, b1, b2, b3, b4, b5] = ([i0, i1, i2, i3, i4, c, nx b5 i6], [true, b0, b1, b2, b3, b4, b5]) := by
  unfold F48
  obtain ⟨ρ, e1, e2, e3, e4⟩ := Smry.run_specT (Φ := tabF T17) (S := S48) (is := [i0, i1, i2, i3, i4, 0, i6]) (bs := [b0, b1, b2, b3, b4, b5]) rfl
  rw [e1, obAll_eq]
  clear e1
  simp only [S48, obs, Gd.d_cons, Gd.d_nil, eqns, Em.eqn, headsI, headsB, RI.d, RB.d, A.d, B.d, cm_eql, cm_neq, cm_lss, cm_leq, cm_gtr, cm_geq, List.map_cons, List.map_nil, and_true, Nat.zero_add, Nat.reduceAdd, ltn, upto, true_and, Nat.add_zero, List.getD_cons_zero, List.getD_cons_succ, add8, sub8, add16, sub16, mul16, wrap_u8, wrap_u16, and8_1, and8_7, and8_8, and8_15, and8_16, and8_31, and8_32, and8_64, and8_127, and8_128, and16_1, and16_255, and16_1792, shr8_1, shr8_3, shr8_4, shr8_6, shr16_1, shr16_6, shr16_8, shl16_8, shl16_14] at e2 e3 e4 ⊢
  simp only [e2, e3] at e4 ⊢
  clear e2 e3
  rw [show tabF T17 70 = F70 by rfl, v70 (h6 := h6), hok] at e4
  simp only [List.getD_cons_zero] at e4
  have hb6 := e4.1
  have r0 := e4.2
  clear e4
  have hb7 := r0.1
  have r1 := r0.2
  clear r0
  have hb8 := r1.1
  have r2 := r1.2
  clear r1
  have hi7 := r2.1
  have r3 := r2.2
  clear r2
  have hb9 := r3.1
  have r4 := r3.2
  clear r3
  have hi8 := r4.1
  have r5 := r4.2
  clear r4
  have hb10 := r5.1
  have r6 := r5.2
  clear r5
  have hb11 := r6.1
  have r7 := r6.2
  clear r6
  have hi9 := r7.1
  have r8 := r7.2
  clear r7
  have hi10 := r8.1
  have r9 := r8.2
  clear r8
  have hi11 := r9.1
  have r10 := r9.2
  clear r9
  have hi12 := r10.1
  have r11 := r10.2
  clear r10
  have hb12 := r11.1
  have r12 := r11.2
  clear r11
  have hi13 := r12.1
  have r13 := r12.2
  clear r12
  have hi14 := r13.1
  have r14 := r13.2
  clear r13
  have hi15 := r14.1
  have r15 := r14.2
  clear r14
  have hi16 := r15.1
  have r16 := r15.2
  clear r15
  have hi17 := r16.1
  have r17 := r16.2
  clear r16
  have hb13 := r17.1
  have r18 := r17.2
  clear r17
  have hb14 := r18.1
  have r19 := r18.2
  clear r18
  have hb15 := r19.1
  have r20 := r19.2
  clear r19
  have hi18 := r20.1
  have r21 := r20.2
  clear r20
  have hi19 := r21
  simp only [okN, okE, Bool.and_eq_true, decide_eq_true_eq] at hok
  have t7 : ρ.b 7 = false := by rw [hb7, hb6]; rfl
  have t8 : ρ.b 8 = false := by rw [hb8]; rfl
  have t15 : ρ.b 15 = true := by rw [hb15, hb13, hb14, t7, t8]; rfl
  have t10 : ρ.b 10 = true := by rw [hb10]; exact decide_eq_true h4
  have t11 : ρ.b 11 = true := by rw [hb11]; exact decide_eq_true (by clear hb6 hb7 hb8 hi7 hb9 hi8 hb10 hb11 hi9 hi10 hi11 hi12 hb12 hi13 hi14 hi15 hi16 hi17 hb13 hb14 hb15 hi18 hi19; omega)
  have t12 : ρ.b 12 = true := by rw [hb12, hi11]; exact decide_eq_true (by clear hb6 hb7 hb8 hi7 hb9 hi8 hb10 hb11 hi9 hi10 hi11 hi12 hb12 hi13 hi14 hi15 hi16 hi17 hb13 hb14 hb15 hi18 hi19; cases b5 <;> simp)
  have a13 : ρ.i 13 = if b5 = true then i6 / 64 else i6 / 2 := by
    rw [hi13, hi11]
    clear hb6 hb7 hb8 hi7 hb9 hi8 hb10 hb11 hi9 hi10 hi11 hi12 hb12 hi13 hi14 hi15 hi16 hi17 hb13 hb14 hb15 hi18 hi19
    cases b5
    · simp [shr16_1]
    · simp [shr16_6]
  have d13 : 0 ≤ ρ.i 13 ∧ ρ.i 13 < 65536 := by rw [a13]; clear hb6 hb7 hb8 hi7 hb9 hi8 hb10 hb11 hi9 hi10 hi11 hi12 hb12 hi13 hi14 hi15 hi16 hi17 hb13 hb14 hb15 hi18 hi19 a13; cases b5 <;> simp <;> omega
  have a15 : ρ.i 15 = (i6 + ρ.i 13) % 2 := by
    rw [hi15, hi14]
    exact xor1 i6 (ρ.i 13) (by clear hb6 hb7 hb8 hi7 hb9 hi8 hb10 hb11 hi9 hi10 hi11 hi12 hb12 hi13 hi14 hi15 hi16 hi17 hb13 hb14 hb15 hi18 hi19; omega)
  have a16 : ρ.i 16 = 16384 * ρ.i 15 := by rw [hi16]; clear hb6 hb7 hb8 hi7 hb9 hi8 hb10 hb11 hi9 hi10 hi11 hi12 hb12 hi13 hi14 hi15 hi16 hi17 hb13 hb14 hb15 hi18 hi19; omega
  have a17 : ρ.i 17 = nx b5 i6 := by
    rw [hi17, a16, hi12, or14 (i6 / 2) (ρ.i 15) (by clear hb6 hb7 hb8 hi7 hb9 hi8 hb10 hb11 hi9 hi10 hi11 hi12 hb12 hi13 hi14 hi15 hi16 hi17 hb13 hb14 hb15 hi18 hi19 a16; omega), a15, a13]
    rfl
  have t19 : ρ.i 19 = nx b5 i6 := by simp only [hi19, t15, a17, if_true]
  refine ⟨ρ.i 18, ?_⟩
  rw [t19]
  simp [t10, t11, t12]
theorem nx_in (s : Bool) (b : Int) (h : 1 ≤ b ∧ b ≤ 32767) : 1 ≤ nx s b ∧ nx s b ≤ 32767 := by
  unfold nx
  cases s
  · simp
    rcases (show b = 1 ∨ 2 ≤ b by omega) with rfl | h2
    · decide
    · omega
  · simp
    rcases (show b = 1 ∨ 2 ≤ b by omega) with rfl | h2
    · decide
    · omega
end Go.Proofs.YtoempcgniokpiaaDoor.Td
