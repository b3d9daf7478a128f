/-
  tone: writes keep a channel that may be. WRITTEN BY PROGRAM (wip/gen/tc3.py). No condition.
-/
import Derived.Test.YtdpogmikhfgcmaaDoorApK
set_option linter.unusedVariables false
set_option linter.unusedSimpArgs false
namespace Go.Proofs.YtdpogmikhfgcmaaDoor.Ap
open Go Go.Proofs.YtdpogmikhfgcmaaDoor.Sx

theorem obPair {a : List Int} {o : Bool} {b : List Bool} (h : o = true) : (a, o :: b) = (a, true :: b) := by rw [h]
theorem orW_lt (x y : Int) (n : Nat) (h : n ≤ 15) (hx : 0 ≤ x ∧ x < 2 ^ n) (hy : 0 ≤ y ∧ y < 2 ^ n) : 0 ≤ arI .or .u16 x y ∧ arI .or .u16 x y < 2 ^ n ∧ x ≤ arI .or .u16 x y ∧ y ≤ arI .or .u16 x y := by
  obtain ⟨a, rfl⟩ := Int.eq_ofNat_of_zero_le hx.1
  obtain ⟨b, rfl⟩ := Int.eq_ofNat_of_zero_le hy.1
  have ha : a < 2 ^ n := by have := hx.2; exact_mod_cast this
  have hb : b < 2 ^ n := by have := hy.2; exact_mod_cast this
  have hn : 2 ^ n ≤ 2 ^ 15 := Nat.pow_le_pow_right (by decide) h
  have hab : a ||| b < 2 ^ n := Nat.or_lt_two_pow ha hb
  have e : arI .or .u16 (a : Int) b = ((a ||| b : Nat) : Int) := by
    show IntKind.wrap .u16 ↑(BitVec.ofInt 16 (a : Int) ||| BitVec.ofInt 16 (b : Int)).toNat = _
    rw [BitVec.toNat_or, BitVec.ofInt_natCast, BitVec.ofInt_natCast, BitVec.toNat_ofNat, BitVec.toNat_ofNat, Nat.mod_eq_of_lt (by omega), Nat.mod_eq_of_lt (by omega), wrap_u16]
    omega
  rw [e]
  have h1 : a ≤ a ||| b := Nat.left_le_or
  have h2 : b ≤ a ||| b := Nat.right_le_or
  refine ⟨by omega, by exact_mod_cast hab, by omega, by omega⟩
theorem mkP {a0 a1 a2 a3 a4 a5 a6 a7 a8 a9 a10 : Int} {x0 x1 x2 x3 x4 x5 x6 x7 x8 : Bool} (h0 : 0 ≤ a0 ∧ a0 < 16) (h1 : 0 ≤ a1 ∧ a1 < 16) (h2 : 0 ≤ a2 ∧ a2 < 16) (h3 : 0 ≤ a3) (h4 : 0 ≤ a4 ∧ a4 < 4) (h5 : 0 ≤ a5 ∧ a5 < 8) (h6 : 0 ≤ a6 ∧ a6 < 2048) (h7 : 0 ≤ a7 ∧ a7 < 2048) (h8 : 0 ≤ a8 ∧ a8 < 8) (h9 : 0 ≤ a9 ∧ a9 < 8) (h10 : 0 ≤ a10 ∧ a10 < 8) : Pok [a0, a1, a2, a3, a4, a5, a6, a7, a8, a9, a10] [x0, x1, x2, x3, x4, x5, x6, x7, x8] :=
  ⟨a0, a1, a2, a3, a4, a5, a6, a7, a8, a9, a10, x0, x1, x2, x3, x4, x5, x6, x7, x8, rfl, rfl, ⟨h0.1, h1.1, h2.1, h3, h4.1, h5.1, h6.1, h7.1, h8.1, h9.1, h10.1⟩, by simp only [okP, okE, Bool.and_eq_true, decide_eq_true_eq]; omega⟩
theorem mkT {a0 a1 a2 a3 a4 a5 : Int} {x0 x1 x2 : Bool} (h0 : 0 ≤ a0) (h1 : 0 ≤ a1 ∧ a1 < 128) (h2 : 0 ≤ a2 ∧ a2 < 128) (h3 : 0 ≤ a3 ∧ a3 < 32) (h4 : 0 ≤ a4 ∧ a4 < 2048) (h5 : 0 ≤ a5 ∧ a5 < 2048) : Tok [a0, a1, a2, a3, a4, a5] [x0, x1, x2] :=
  ⟨a0, a1, a2, a3, a4, a5, x0, x1, x2, rfl, rfl, ⟨h0, h1.1, h2.1, h3.1, h4.1, h5.1⟩, by simp only [okT, Bool.and_eq_true, decide_eq_true_eq]; omega⟩
theorem mkN {a0 a1 a2 a3 a4 a5 a6 : Int} {x0 x1 x2 x3 x4 x5 : Bool} (h0 : 0 ≤ a0 ∧ a0 < 16) (h1 : 0 ≤ a1 ∧ a1 < 16) (h2 : 0 ≤ a2 ∧ a2 < 16) (h3 : 0 ≤ a3) (h4 : 0 ≤ a4 ∧ a4 < 16) (h5 : 0 ≤ a5 ∧ a5 < 4096) (h6 : 1 ≤ a6 ∧ a6 < 32768) : Nok [a0, a1, a2, a3, a4, a5, a6] [x0, x1, x2, x3, x4, x5] :=
  ⟨a0, a1, a2, a3, a4, a5, a6, x0, x1, x2, x3, x4, x5, rfl, rfl, ⟨h0.1, h1.1, h2.1, h3, h4.1, h5.1, by omega⟩, by simp only [okN, okE, Bool.and_eq_true, decide_eq_true_eq]; omega⟩
theorem k_19 (i0 i1 i2 i3 i4 i5 : Int) (b0 b1 b2 : Bool) (i6 i7 : Int) (h0 : 0 ≤ i0) (h1 : 0 ≤ i1) (h2 : 0 ≤ i2) (h3 : 0 ≤ i3) (h4 : 0 ≤ i4) (h5 : 0 ≤ i5) (h7 : 0 ≤ i7 ∧ i7 ≤ 255) (hok : okT i1 i2 i3 i4 i5 = true) : ∃ is' bs', F19 [i0, i1, i2, i3, i4, i5, i6, i7] [b0, b1, b2] = (is', true :: bs') ∧ Tok is' bs' := by
  unfold F19
  obtain ⟨ρ, e1, e2, e3, e4⟩ := Smry.run_specT (Φ := tabF T39) (S := S19) (is := [i0, i1, i2, i3, i4, i5, i6, i7]) (bs := [b0, b1, b2]) rfl
  rw [e1, obAll_eq]
  clear e1
  simp only [S19, obs, Gd.d_cons, Gd.d_nil, eqns, Em.eqn, headsI, headsB, RI.d, RB.d, A.d, B.d, cm_eql, cm_neq, cm_lss, cm_leq, cm_gtr, cm_geq, List.map_cons, List.map_nil, and_true, Nat.zero_add, Nat.reduceAdd, ltn, upto, true_and, Nat.add_zero, List.getD_cons_zero, List.getD_cons_succ, add8, sub8, add16, sub16, mul16, wrap_u8, wrap_u16, and8_1, and8_7, and8_8, and8_15, and8_16, and8_31, and8_32, and8_64, and8_127, and8_128, and16_1, and16_255, and16_1792, shr8_1, shr8_3, shr8_4, shr8_6, shr16_1, shr16_6, shr16_8, shl16_8, shl16_14, rem_eq, quo8_eq, quo16_eq] at e2 e3 e4 ⊢
  simp only [e2, e3] at e4 ⊢
  rw [show tabF T39 41 = F41 by rfl, v41, hok] at e4
  simp only [List.getD_cons_zero] at e4
  simp only [okT, Bool.and_eq_true, decide_eq_true_eq] at hok
  have p0 : 0 ≤ i0 := h0
  have p1 : 0 ≤ i1 ∧ i1 < 128 := ⟨h1, by clear e2 e3 e4; omega⟩
  have p2 : 0 ≤ i2 ∧ i2 < 128 := ⟨h2, by clear e2 e3 e4; omega⟩
  have p3 : 0 ≤ i3 ∧ i3 < 32 := ⟨h3, by clear e2 e3 e4; omega⟩
  have p4 : 0 ≤ i4 ∧ i4 < 2048 := ⟨h4, by clear e2 e3 e4; omega⟩
  have p5 : 0 ≤ i5 ∧ i5 < 2048 := ⟨h5, by clear e2 e3 e4; omega⟩
  clear hok h0 h1 h2 h3 h4 h5 e2 e3
  obtain ⟨c, hL, hc⟩ := l40 i0 i7 b0 b1 p0 h7
  rw [show tabF T39 40 = F40 by rfl, hL] at e4
  simp only [List.getD_cons_zero, List.getD_cons_succ] at e4
  have hb3 := e4.1
  have r0 := e4.2
  clear e4
  have hb4 := r0.1
  have r1 := r0.2
  clear r0
  have hb5 := r1.1
  have r2 := r1.2
  clear r1
  have hi8 := r2.1
  have r3 := r2.2
  clear r2
  have hb6 := r3.1
  have r4 := r3.2
  clear r3
  have hi9 := r4.1
  have r5 := r4.2
  clear r4
  have hb7 := r5.1
  have r6 := r5.2
  clear r5
  have hb8 := r6.1
  have r7 := r6.2
  clear r6
  have hb9 := r7.1
  have r8 := r7.2
  clear r7
  have hb10 := r8.1
  have r9 := r8.2
  clear r8
  have hi10 := r9.1
  have r10 := r9.2
  clear r9
  have hi11 := r10.1
  have r11 := r10.2
  clear r10
  have hi12 := r11.1
  have r12 := r11.2
  clear r11
  have hi13 := r12.1
  have r13 := r12.2
  clear r12
  have hi14 := r13.1
  have r14 := r13.2
  clear r13
  have hi15 := r14.1
  have r15 := r14.2
  clear r14
  have hi16 := r15.1
  have r16 := r15.2
  clear r15
  have hi17 := r16.1
  have r17 := r16.2
  clear r16
  have hi18 := r17.1
  have r18 := r17.2
  clear r17
  have hb11 := r18.1
  have r19 := r18.2
  clear r18
  have hi19 := r19.1.1
  have hb12 := r19.1.2.1
  have hb13 := r19.1.2.2.1
  have hb14 := r19.1.2.2.2
  have r20 := r19.2
  clear r19
  have hb15 := r20.1
  have r21 := r20.2
  clear r20
  have hb16 := r21.1
  have r22 := r21.2
  clear r21
  have hi20 := r22.1
  have r23 := r22.2
  clear r22
  have hb17 := r23.1
  have r24 := r23.2
  clear r23
  have hb18 := r24.1
  have r25 := r24.2
  clear r24
  have hb19 := r25.1
  have r26 := r25.2
  clear r25
  have hi21 := r26.1
  have r27 := r26.2
  clear r26
  have hb20 := r27.1
  have r28 := r27.2
  clear r27
  have hi22 := r28.1
  have r29 := r28.2
  clear r28
  have hb21 := r29.1
  have r30 := r29.2
  clear r29
  have hb22 := r30.1
  have r31 := r30.2
  clear r30
  have hi23 := r31.1
  have r32 := r31.2
  clear r31
  have hi24 := r32.1
  have r33 := r32.2
  clear r32
  have hb23 := r33.1
  have r34 := r33.2
  clear r33
  have hi25 := r34.1
  have r35 := r34.2
  clear r34
  have hb24 := r35.1
  have r36 := r35.2
  clear r35
  have hb25 := r36.1
  have r37 := r36.2
  clear r36
  have hb26 := r37.1
  have r38 := r37.2
  clear r37
  have hi26 := r38.1
  have r39 := r38.2
  clear r38
  have hi27 := r39.1
  have r40 := r39.2
  clear r39
  have hb27 := r40.1
  have r41 := r40.2
  clear r40
  have hi28 := r41
  have o12 : 0 ≤ ρ.i 12 ∧ ρ.i 12 < 2048 := by
    have z := orW_lt (ρ.i 10) (ρ.i 11) 11 (by decide) (by rw [hi10]; clear hb3 hb4 hb5 hi8 hb6 hi9 hb7 hb8 hb9 hb10 hi10 hi11 hi12 hi13 hi14 hi15 hi16 hi17 hi18 hb11 hi19 hb12 hb13 hb14 hb15 hb16 hi20 hb17 hb18 hb19 hi21 hb20 hi22 hb21 hb22 hi23 hi24 hb23 hi25 hb24 hb25 hb26 hi26 hi27 hb27 hi28; omega) (by rw [hi11]; clear hb3 hb4 hb5 hi8 hb6 hi9 hb7 hb8 hb9 hb10 hi10 hi11 hi12 hi13 hi14 hi15 hi16 hi17 hi18 hb11 hi19 hb12 hb13 hb14 hb15 hb16 hi20 hb17 hb18 hb19 hi21 hb20 hi22 hb21 hb22 hi23 hi24 hb23 hi25 hb24 hb25 hb26 hi26 hi27 hb27 hi28; omega)
    rw [hi12]; exact ⟨z.1, z.2.1⟩
  have o17 : 0 ≤ ρ.i 17 ∧ ρ.i 17 < 2048 := by
    have z := orW_lt (ρ.i 13) (ρ.i 16) 11 (by decide) (by rw [hi13]; clear hb3 hb4 hb5 hi8 hb6 hi9 hb7 hb8 hb9 hb10 hi10 hi11 hi12 hi13 hi14 hi15 hi16 hi17 hi18 hb11 hi19 hb12 hb13 hb14 hb15 hb16 hi20 hb17 hb18 hb19 hi21 hb20 hi22 hb21 hb22 hi23 hi24 hb23 hi25 hb24 hb25 hb26 hi26 hi27 hb27 hi28; omega) (by rw [hi16, hi15, hi14]; clear hb3 hb4 hb5 hi8 hb6 hi9 hb7 hb8 hb9 hb10 hi10 hi11 hi12 hi13 hi14 hi15 hi16 hi17 hi18 hb11 hi19 hb12 hb13 hb14 hb15 hb16 hi20 hb17 hb18 hb19 hi21 hb20 hi22 hb21 hb22 hi23 hi24 hb23 hi25 hb24 hb25 hb26 hi26 hi27 hb27 hi28; omega)
    rw [hi17]; exact ⟨z.1, z.2.1⟩
  have q0 : 0 ≤ ρ.i 26 := by
    clear h7 hb10 hb12 hb13 hb14 hb15 hb16 hb17 hb18 hb19 hb20 hb21 hb22 hb23 hb25 hb26 hb27 hb6 hi10 hi11 hi12 hi13 hi14 hi15 hi16 hi17 hi18 hi22 hi24 hi25 hi27 hi28 hi8 hi9 o12 o17 p1 p2 p3 p4 p5
    grind
  have q2 : 0 ≤ ρ.i 27 ∧ ρ.i 27 < 128 := by
    clear hb10 hb11 hb12 hb13 hb14 hb15 hb16 hb17 hb18 hb19 hb20 hb21 hb22 hb23 hb25 hb26 hb27 hb6 hb7 hb8 hb9 hc hi10 hi11 hi12 hi13 hi14 hi15 hi16 hi17 hi18 hi19 hi20 hi21 hi22 hi23 hi25 hi26 hi28 hi8 o12 o17 p0 p1 p3 p4 p5
    grind
  have q4 : 0 ≤ ρ.i 28 ∧ ρ.i 28 < 2048 := by
    clear h7 hb11 hb12 hb13 hb14 hb15 hb16 hb17 hb18 hb19 hb20 hb21 hb22 hb23 hb25 hb26 hb27 hb6 hc hi10 hi11 hi12 hi13 hi14 hi15 hi16 hi17 hi19 hi20 hi21 hi23 hi24 hi26 hi27 hi8 hi9 p0 p1 p2 p3 p5
    grind
  refine ⟨_, _, obPair ?ob, mkT q0 p1 q2 p3 q4 p5⟩
  simp [hb12]
theorem k_20 (i0 i1 i2 i3 i4 i5 i6 : Int) (b0 b1 b2 b3 b4 b5 : Bool) (i7 i8 : Int) (h0 : 0 ≤ i0) (h1 : 0 ≤ i1) (h2 : 0 ≤ i2) (h3 : 0 ≤ i3) (h4 : 0 ≤ i4) (h5 : 0 ≤ i5) (h6 : 0 ≤ i6) (h8 : 0 ≤ i8 ∧ i8 ≤ 255) (hok : okN i0 i1 i2 i4 i5 i6 = true) : ∃ is' bs', F20 [i0, i1, i2, i3, i4, i5, i6, i7, i8] [b0, b1, b2, b3, b4, b5] = (is', true :: bs') ∧ Nok is' bs' := by
  unfold F20
  obtain ⟨ρ, e1, e2, e3, e4⟩ := Smry.run_specT (Φ := tabF T40) (S := S20) (is := [i0, i1, i2, i3, i4, i5, i6, i7, i8]) (bs := [b0, b1, b2, b3, b4, b5]) rfl
  rw [e1, obAll_eq]
  clear e1
  simp only [S20, obs, Gd.d_cons, Gd.d_nil, eqns, Em.eqn, headsI, headsB, RI.d, RB.d, A.d, B.d, cm_eql, cm_neq, cm_lss, cm_leq, cm_gtr, cm_geq, List.map_cons, List.map_nil, and_true, Nat.zero_add, Nat.reduceAdd, ltn, upto, true_and, Nat.add_zero, List.getD_cons_zero, List.getD_cons_succ, add8, sub8, add16, sub16, mul16, wrap_u8, wrap_u16, and8_1, and8_7, and8_8, and8_15, and8_16, and8_31, and8_32, and8_64, and8_127, and8_128, and16_1, and16_255, and16_1792, shr8_1, shr8_3, shr8_4, shr8_6, shr16_1, shr16_6, shr16_8, shl16_8, shl16_14, rem_eq, quo8_eq, quo16_eq] at e2 e3 e4 ⊢
  simp only [e2, e3] at e4 ⊢
  rw [show tabF T40 42 = F42 by rfl, v42 (h6 := h6), hok] at e4
  simp only [List.getD_cons_zero] at e4
  simp only [okN, okE, Bool.and_eq_true, decide_eq_true_eq] at hok
  have p0 : 0 ≤ i0 ∧ i0 < 16 := ⟨h0, by clear e2 e3 e4; omega⟩
  have p1 : 0 ≤ i1 ∧ i1 < 16 := ⟨h1, by clear e2 e3 e4; omega⟩
  have p2 : 0 ≤ i2 ∧ i2 < 16 := ⟨h2, by clear e2 e3 e4; omega⟩
  have p3 : 0 ≤ i3 := h3
  have p4 : 0 ≤ i4 ∧ i4 < 16 := ⟨h4, by clear e2 e3 e4; omega⟩
  have p5 : 0 ≤ i5 ∧ i5 < 4096 := ⟨h5, by clear e2 e3 e4; omega⟩
  have p6 : 1 ≤ i6 ∧ i6 < 32768 := by clear e2 e3 e4; omega
  clear hok h0 h1 h2 h3 h4 h5 h6 e2 e3
  obtain ⟨c, hL, hc⟩ := l40 i3 i8 b3 b4 p3 h8
  rw [show tabF T40 40 = F40 by rfl, hL] at e4
  simp only [List.getD_cons_zero, List.getD_cons_succ] at e4
  have hb6 := e4.1
  have r0 := e4.2
  clear e4
  have hb7 := r0.1
  have r1 := r0.2
  clear r0
  have hb8 := r1.1
  have r2 := r1.2
  clear r1
  have hi9 := r2.1
  have r3 := r2.2
  clear r2
  have hb9 := r3.1
  have r4 := r3.2
  clear r3
  have hi10 := r4.1
  have r5 := r4.2
  clear r4
  have hb10 := r5.1
  have r6 := r5.2
  clear r5
  have hi11 := r6.1
  have r7 := r6.2
  clear r6
  have hb11 := r7.1
  have r8 := r7.2
  clear r7
  have hi12 := r8.1
  have r9 := r8.2
  clear r8
  have hb12 := r9.1
  have r10 := r9.2
  clear r9
  have hi13 := r10.1
  have r11 := r10.2
  clear r10
  have hb13 := r11.1
  have r12 := r11.2
  clear r11
  have hi14 := r12.1.1
  have hb14 := r12.1.2.1
  have hb15 := r12.1.2.2.1
  have hb16 := r12.1.2.2.2
  have r13 := r12.2
  clear r12
  have hb17 := r13.1
  have r14 := r13.2
  clear r13
  have hb18 := r14.1
  have r15 := r14.2
  clear r14
  have hb19 := r15.1
  have r16 := r15.2
  clear r15
  have hi15 := r16.1
  have r17 := r16.2
  clear r16
  have hb20 := r17.1
  have r18 := r17.2
  clear r17
  have hb21 := r18.1
  have r19 := r18.2
  clear r18
  have hb22 := r19.1
  have r20 := r19.2
  clear r19
  have hi16 := r20.1
  have r21 := r20.2
  clear r20
  have hb23 := r21.1
  have r22 := r21.2
  clear r21
  have hi17 := r22.1
  have r23 := r22.2
  clear r22
  have hb24 := r23.1
  have r24 := r23.2
  clear r23
  have hb25 := r24.1
  have r25 := r24.2
  clear r24
  have hb26 := r25.1
  have r26 := r25.2
  clear r25
  have hi18 := r26.1
  have r27 := r26.2
  clear r26
  have hb27 := r27.1
  have r28 := r27.2
  clear r27
  have hb28 := r28.1
  have r29 := r28.2
  clear r28
  have hi19 := r29.1
  have r30 := r29.2
  clear r29
  have hb29 := r30.1
  have r31 := r30.2
  clear r30
  have hi20 := r31.1
  have r32 := r31.2
  clear r31
  have hb30 := r32.1
  have r33 := r32.2
  clear r32
  have hb31 := r33.1
  have r34 := r33.2
  clear r33
  have hb32 := r34.1
  have r35 := r34.2
  clear r34
  have hb33 := r35.1
  have r36 := r35.2
  clear r35
  have hi21 := r36.1
  have r37 := r36.2
  clear r36
  have hb34 := r37.1
  have r38 := r37.2
  clear r37
  have hb35 := r38.1
  have r39 := r38.2
  clear r38
  have hi22 := r39.1
  have r40 := r39.2
  clear r39
  have hb36 := r40.1
  have r41 := r40.2
  clear r40
  have hi23 := r41
  have q0 : 0 ≤ ρ.i 21 ∧ ρ.i 21 < 16 := by
    clear hb10 hb11 hb12 hb13 hb14 hb15 hb16 hb17 hb18 hb19 hb20 hb21 hb22 hb23 hb24 hb25 hb26 hb27 hb28 hb29 hb31 hb32 hb33 hb34 hb35 hb36 hb9 hc hi10 hi12 hi13 hi14 hi15 hi16 hi17 hi19 hi20 hi22 hi23 hi9 p1 p2 p3 p4 p5 p6
    grind
  have q3 : 0 ≤ ρ.i 22 := by
    clear h8 hb10 hb12 hb14 hb15 hb16 hb17 hb18 hb19 hb20 hb21 hb22 hb23 hb24 hb25 hb26 hb27 hb28 hb29 hb31 hb32 hb33 hb34 hb35 hb36 hb9 hi10 hi11 hi12 hi13 hi17 hi18 hi20 hi21 hi23 hi9 p0 p1 p2 p4 p5 p6
    grind
  have q4 : 0 ≤ ρ.i 23 ∧ ρ.i 23 < 16 := by
    clear hb10 hb12 hb13 hb14 hb15 hb16 hb17 hb18 hb19 hb20 hb21 hb22 hb23 hb24 hb25 hb26 hb27 hb28 hb29 hb31 hb32 hb33 hb34 hb35 hb36 hb9 hc hi10 hi11 hi12 hi14 hi15 hi16 hi18 hi19 hi21 hi22 hi9 p0 p1 p2 p3 p5 p6
    grind
  refine ⟨_, _, obPair ?ob, mkN q0 p1 p2 q3 q4 p5 p6⟩
  simp [hb14]
end Go.Proofs.YtdpogmikhfgcmaaDoor.Ap
