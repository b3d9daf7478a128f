/-
  apu: channels turned on and off; quarters and halves; what is written keeps one that may be. WRITTEN BY PROGRAM (wip/gen/ap5.py). No condition.
-/
import Derived.Test.YtdpogmikhfgcmaaDoorApW
set_option linter.unusedVariables false
set_option linter.unusedSimpArgs false
namespace Go.Proofs.YtdpogmikhfgcmaaDoor.Ap
open Go Go.Proofs.YtdpogmikhfgcmaaDoor.Sx

theorem shr8_0 (x : Int) : arI .shr .u8 x 0 = x / 1 := shrC .u8 x 0 1 (by decide)
theorem shr8_2 (x : Int) : arI .shr .u8 x 2 = x / 4 := shrC .u8 x 2 4 (by decide)
theorem q43 (n : Int) (a b c : Bool) : F43 [n] [a, b, c] = ([if c then n else 0], [a, c]) := by
  unfold F43
  obtain ⟨ρ, e1, e2, e3, e4⟩ := Smry.run_spec (Φ := tabF T42) (S := S43) (is := [n]) (bs := [a, b, c]) rfl
  rw [e1]
  clear e1
  simp only [S43, eqns, Em.eqn, headsI, headsB, RI.d, RB.d, A.d, B.d, cm_eql, cm_neq, cm_lss, cm_leq, cm_gtr, cm_geq, List.map_cons, List.map_nil, and_true, Nat.zero_add, Nat.reduceAdd, ltn, upto, true_and, Nat.add_zero, List.getD_cons_zero, List.getD_cons_succ, add8, sub8, add16, sub16, mul16, wrap_u8, wrap_u16, and8_1, and8_7, and8_8, and8_15, and8_16, and8_31, and8_32, and8_64, and8_127, and8_128, and16_1, and16_255, and16_1792, shr8_1, shr8_3, shr8_4, shr8_6, shr16_1, shr16_6, shr16_8, shl16_8, shl16_14] at e2 e3 e4 ⊢
  simp only [e2, e3] at e4 ⊢
  grind
theorem q22 (i0 i1 i2 i3 i4 i5 i6 i7 i8 i9 i10 i11 i12 i13 i14 i15 i16 i17 i18 i19 i20 i21 i22 i23 i24 i25 i26 i27 i28 i29 i30 i31 i32 i33 i34 i35 i36 i37 i38 i39 i40 i41 i42 i43 i44 i45 v : Int) (b0 b1 b2 b3 b4 b5 b6 b7 b8 b9 b10 b11 b12 b13 b14 b15 b16 b17 b18 b19 b20 b21 b22 b23 b24 b25 b26 b27 b28 b29 b30 b31 b32 b33 b34 b35 : Bool) (hm : may i35 i36 i37 i38 i39 i40 i43 i44 = true) (hv : 0 ≤ v ∧ v ≤ 255) : F22 [i0, i1, i2, i3, i4, i5, i6, i7, i8, i9, i10, i11, i12, i13, i14, i15, i16, i17, i18, i19, i20, i21, i22, i23, i24, i25, i26, i27, i28, i29, i30, i31, i32, i33, i34, i35, i36, i37, i38, i39, i40, i41, i42, i43, i44, i45, v] [b0, b1, b2, b3, b4, b5, b6, b7, b8, b9, b10, b11, b12, b13, b14, b15, b16, b17, b18, b19, b20, b21, b22, b23, b24, b25, b26, b27, b28, b29, b30, b31, b32, b33, b34, b35] = ([i0, i1, i2, (if (decide (v / 1 % 2 = 1)) then i3 else 0), i4, i5, i6, i7, i8, i9, i10, i11, i12, i13, (if (decide (v / 2 % 2 = 1)) then i14 else 0), i15, i16, i17, i18, i19, i20, i21, (if (decide (v / 4 % 2 = 1)) then i22 else 0), i23, i24, i25, i26, i27, i28, i29, i30, (if (decide (v / 8 % 2 = 1)) then i31 else 0), i32, i33, i34, i35, i36, i37, i38, (if (decide (v / 16 % 2 = 1)) && i40 == 0 then i37 else i39), (if (decide (v / 16 % 2 = 1)) then (if i40 = 0 then i38 else i40) else 0), i41, i42, i43, i44, i45], [b0, b1, b2, b3, b4, (decide (v / 1 % 2 = 1)), b6, b7, b8, b9, b10, b11, b12, b13, (decide (v / 2 % 2 = 1)), b15, b16, b17, b18, (decide (v / 4 % 2 = 1)), b20, b21, b22, b23, b24, (decide (v / 8 % 2 = 1)), b26, b27, b28, false, b30, b31, b32, b33, b34, b35]) := by
  unfold F22
  obtain ⟨ρ, e1, e2, e3, e4⟩ := Smry.run_spec (Φ := tabF T45) (S := S22) (is := [i0, i1, i2, i3, i4, i5, i6, i7, i8, i9, i10, i11, i12, i13, i14, i15, i16, i17, i18, i19, i20, i21, i22, i23, i24, i25, i26, i27, i28, i29, i30, i31, i32, i33, i34, i35, i36, i37, i38, i39, i40, i41, i42, i43, i44, i45, v]) (bs := [b0, b1, b2, b3, b4, b5, b6, b7, b8, b9, b10, b11, b12, b13, b14, b15, b16, b17, b18, b19, b20, b21, b22, b23, b24, b25, b26, b27, b28, b29, b30, b31, b32, b33, b34, b35]) rfl
  rw [e1]
  clear e1
  simp only [S22, eqns, Em.eqn, headsI, headsB, RI.d, RB.d, A.d, B.d, cm_eql, cm_neq, cm_lss, cm_leq, cm_gtr, cm_geq, List.map_cons, List.map_nil, and_true, Nat.zero_add, Nat.reduceAdd, ltn, upto, true_and, Nat.add_zero, List.getD_cons_zero, List.getD_cons_succ, add8, sub8, add16, sub16, mul16, wrap_u8, wrap_u16, and8_1, and8_7, and8_8, and8_15, and8_16, and8_31, and8_32, and8_64, and8_127, and8_128, and16_1, and16_255, and16_1792, shr8_1, shr8_3, shr8_4, shr8_6, shr16_1, shr16_6, shr16_8, shl16_8, shl16_14, shr8_0, shr8_2] at e2 e3 e4 ⊢
  simp only [e2, e3] at e4 ⊢
  clear e2 e3
  rw [show tabF T45 43 = F43 by rfl, show tabF T45 44 = F44 by rfl] at e4
  simp only [q43, turnOn _ _ _ _ _ _ _ _ _ _ _ _ _ _ _ _ hm, List.getD_cons_zero, List.getD_cons_succ] at e4
  have hi47 := e4.1
  have r0 := e4.2
  clear e4
  have hi48 := r0.1
  have r1 := r0.2
  clear r0
  have hb36 := r1.1
  have r2 := r1.2
  clear r1
  have hi49 := r2.1.1
  have hb37 := r2.1.2.1
  have hb38 := r2.1.2.2
  have r3 := r2.2
  clear r2
  have hi50 := r3.1
  have r4 := r3.2
  clear r3
  have hi51 := r4.1
  have r5 := r4.2
  clear r4
  have hb39 := r5.1
  have r6 := r5.2
  clear r5
  have hi52 := r6.1.1
  have hb40 := r6.1.2.1
  have hb41 := r6.1.2.2
  have r7 := r6.2
  clear r6
  have hi53 := r7.1
  have r8 := r7.2
  clear r7
  have hi54 := r8.1
  have r9 := r8.2
  clear r8
  have hb42 := r9.1
  have r10 := r9.2
  clear r9
  have hi55 := r10.1.1
  have hb43 := r10.1.2.1
  have hb44 := r10.1.2.2
  have r11 := r10.2
  clear r10
  have hi56 := r11.1
  have r12 := r11.2
  clear r11
  have hi57 := r12.1
  have r13 := r12.2
  clear r12
  have hb45 := r13.1
  have r14 := r13.2
  clear r13
  have hi58 := r14.1.1
  have hb46 := r14.1.2.1
  have hb47 := r14.1.2.2
  have r15 := r14.2
  clear r14
  have hi59 := r15.1
  have r16 := r15.2
  clear r15
  have hb48 := r16.1
  have r17 := r16.2
  clear r16
  have hi60 := r17.1.1
  have hi61 := r17.1.2.1
  have hi62 := r17.1.2.2.1
  have hi63 := r17.1.2.2.2.1
  have hi64 := r17.1.2.2.2.2.1
  have hi65 := r17.1.2.2.2.2.2.1
  have hi66 := r17.1.2.2.2.2.2.2.1
  have hi67 := r17.1.2.2.2.2.2.2.2.1
  have hi68 := r17.1.2.2.2.2.2.2.2.2.1
  have hi69 := r17.1.2.2.2.2.2.2.2.2.2
  have hb49 := r17.2.1
  have hb50 := r17.2.2.1
  have hb51 := r17.2.2.2.1
  have hb52 := r17.2.2.2.2.1
  have hb53 := r17.2.2.2.2.2
  have t36 : ρ.b 36 = (decide (v / 1 % 2 = 1)) := by rw [hb36, hi48, hi47]; exact decide_eq_decide.2 (by clear hi47 hi48 hb36 hi49 hb37 hb38 hi50 hi51 hb39 hi52 hb40 hb41 hi53 hi54 hb42 hi55 hb43 hb44 hi56 hi57 hb45 hi58 hb46 hb47 hi59 hb48 hi60 hi61 hi62 hi63 hi64 hi65 hi66 hi67 hi68 hi69 hb49 hb50 hb51 hb52 hb53; omega)
  have t39 : ρ.b 39 = (decide (v / 2 % 2 = 1)) := by rw [hb39, hi51, hi50]; exact decide_eq_decide.2 (by clear hi47 hi48 hb36 hi49 hb37 hb38 hi50 hi51 hb39 hi52 hb40 hb41 hi53 hi54 hb42 hi55 hb43 hb44 hi56 hi57 hb45 hi58 hb46 hb47 hi59 hb48 hi60 hi61 hi62 hi63 hi64 hi65 hi66 hi67 hi68 hi69 hb49 hb50 hb51 hb52 hb53; omega)
  have t42 : ρ.b 42 = (decide (v / 4 % 2 = 1)) := by rw [hb42, hi54, hi53]; exact decide_eq_decide.2 (by clear hi47 hi48 hb36 hi49 hb37 hb38 hi50 hi51 hb39 hi52 hb40 hb41 hi53 hi54 hb42 hi55 hb43 hb44 hi56 hi57 hb45 hi58 hb46 hb47 hi59 hb48 hi60 hi61 hi62 hi63 hi64 hi65 hi66 hi67 hi68 hi69 hb49 hb50 hb51 hb52 hb53; omega)
  have t45 : ρ.b 45 = (decide (v / 8 % 2 = 1)) := by rw [hb45, hi57, hi56]; exact decide_eq_decide.2 (by clear hi47 hi48 hb36 hi49 hb37 hb38 hi50 hi51 hb39 hi52 hb40 hb41 hi53 hi54 hb42 hi55 hb43 hb44 hi56 hi57 hb45 hi58 hb46 hb47 hi59 hb48 hi60 hi61 hi62 hi63 hi64 hi65 hi66 hi67 hi68 hi69 hb49 hb50 hb51 hb52 hb53; omega)
  have t48 : ρ.b 48 = (decide (v / 16 % 2 = 1)) := by rw [hb48, hi59]; exact decide_eq_decide.2 (by clear hi47 hi48 hb36 hi49 hb37 hb38 hi50 hi51 hb39 hi52 hb40 hb41 hi53 hi54 hb42 hi55 hb43 hb44 hi56 hi57 hb45 hi58 hb46 hb47 hi59 hb48 hi60 hi61 hi62 hi63 hi64 hi65 hi66 hi67 hi68 hi69 hb49 hb50 hb51 hb52 hb53; omega)
  rw [t36] at hi49 hb38
  rw [t39] at hi52 hb41
  rw [t42] at hi55 hb44
  rw [t45] at hi58 hb47
  rw [t48] at hi64 hi65
  rw [hi49, hi52, hi55, hi58, hi60, hi61, hi62, hi63, hi64, hi65, hi66, hi67, hi68, hi69, hb37, hb38, hb40, hb41, hb43, hb44, hb46, hb47, hb49, hb50, hb51, hb52, hb53]
theorem tn {c : Bool} {n : Int} (h : 0 ≤ n) : 0 ≤ (if c = true then n else 0) := by cases c <;> simp [h]
theorem kp22 (i0 i1 i2 i3 i4 i5 i6 i7 i8 i9 i10 i11 i12 i13 i14 i15 i16 i17 i18 i19 i20 i21 i22 i23 i24 i25 i26 i27 i28 i29 i30 i31 i32 i33 i34 i35 i36 i37 i38 i39 i40 i41 i42 i43 i44 i45 v : Int) (b0 b1 b2 b3 b4 b5 b6 b7 b8 b9 b10 b11 b12 b13 b14 b15 b16 b17 b18 b19 b20 b21 b22 b23 b24 b25 b26 b27 b28 b29 b30 b31 b32 b33 b34 b35 : Bool) (hA : Ak i0 i1 i2 i3 i4 i5 i6 i7 i8 i9 i10 i11 i12 i13 i14 i15 i16 i17 i18 i19 i20 i21 i22 i23 i24 i25 i26 i27 i28 i29 i30 i31 i32 i33 i34 i35 i36 i37 i38 i39 i40 i41 i42 i43 i44 i45 b32) (hv : 0 ≤ v ∧ v ≤ 255) : Ak i0 i1 i2 (if (decide (v / 1 % 2 = 1)) then i3 else 0) i4 i5 i6 i7 i8 i9 i10 i11 i12 i13 (if (decide (v / 2 % 2 = 1)) then i14 else 0) i15 i16 i17 i18 i19 i20 i21 (if (decide (v / 4 % 2 = 1)) then i22 else 0) i23 i24 i25 i26 i27 i28 i29 i30 (if (decide (v / 8 % 2 = 1)) then i31 else 0) i32 i33 i34 i35 i36 i37 i38 (if (decide (v / 16 % 2 = 1)) && i40 == 0 then i37 else i39) (if (decide (v / 16 % 2 = 1)) then (if i40 = 0 then i38 else i40) else 0) i41 i42 i43 i44 i45 b32 := by
  obtain ⟨h1, h2, h3, h4, h5, h6, h7⟩ := hA
  refine ⟨?_, ?_, ?_, ?_, ?_, h6, h7⟩
  · unfold Pk at h1 ⊢
    have := tn (c := (decide (v / 1 % 2 = 1))) (n := i3) (by omega)
    omega
  · unfold Pk at h2 ⊢
    have := tn (c := (decide (v / 2 % 2 = 1))) (n := i14) (by omega)
    omega
  · unfold Tk at h3 ⊢
    have := tn (c := (decide (v / 4 % 2 = 1))) (n := i22) (by omega)
    omega
  · unfold Nk at h4 ⊢
    have := tn (c := (decide (v / 8 % 2 = 1))) (n := i31) (by omega)
    omega
  · unfold Ok at h5 ⊢
    generalize (decide (v / 16 % 2 = 1)) = c
    cases c
    · simp only [Bool.false_and, Bool.false_eq_true, if_false]
      omega
    · by_cases h : i40 = 0
      · subst h; simp; omega
      · simp [h]; omega
/-- The four channels of sound may be. -/
def Ck (i0 i1 i2 i3 i4 i5 i6 i7 i8 i9 i10 i11 i12 i13 i14 i15 i16 i17 i18 i19 i20 i21 i22 i23 i24 i25 i26 i27 i28 i29 i30 i31 i32 i33 i34 : Int) : Prop := Pk i0 i1 i2 i3 i4 i5 i6 i7 i8 i9 i10 ∧ Pk i11 i12 i13 i14 i15 i16 i17 i18 i19 i20 i21 ∧ Tk i22 i23 i24 i25 i26 i27 ∧ Nk i28 i29 i30 i31 i32 i33 i34
theorem kp28 (i0 i1 i2 i3 i4 i5 i6 i7 i8 i9 i10 i11 i12 i13 i14 i15 i16 i17 i18 i19 i20 i21 i22 i23 i24 i25 i26 i27 i28 i29 i30 i31 i32 i33 i34 i35 i36 i37 i38 i39 i40 i41 i42 i43 i44 i45 : Int) (b0 b1 b2 b3 b4 b5 b6 b7 b8 b9 b10 b11 b12 b13 b14 b15 b16 b17 b18 b19 b20 b21 b22 b23 b24 b25 b26 b27 b28 b29 b30 b31 b32 b33 b34 b35 : Bool) (h : Ck i0 i1 i2 i3 i4 i5 i6 i7 i8 i9 i10 i11 i12 i13 i14 i15 i16 i17 i18 i19 i20 i21 i22 i23 i24 i25 i26 i27 i28 i29 i30 i31 i32 i33 i34) : ∃ (c0 c1 c2 c3 c4 c5 c6 c7 c8 c9 c10 c11 c12 c13 c14 c15 c16 c17 c18 c19 c20 c21 c22 c23 c24 c25 c26 c27 c28 c29 c30 c31 c32 c33 c34 : Int) (x0 x1 x2 x3 x4 x5 x6 x7 x8 x9 x10 x11 x12 x13 x14 x15 x16 x17 x18 x19 x20 x21 x22 x23 x24 x25 x26 : Bool), F28 [i0, i1, i2, i3, i4, i5, i6, i7, i8, i9, i10, i11, i12, i13, i14, i15, i16, i17, i18, i19, i20, i21, i22, i23, i24, i25, i26, i27, i28, i29, i30, i31, i32, i33, i34, i35, i36, i37, i38, i39, i40, i41, i42, i43, i44, i45] [b0, b1, b2, b3, b4, b5, b6, b7, b8, b9, b10, b11, b12, b13, b14, b15, b16, b17, b18, b19, b20, b21, b22, b23, b24, b25, b26, b27, b28, b29, b30, b31, b32, b33, b34, b35] = ([c0, c1, c2, c3, c4, c5, c6, c7, c8, c9, c10, c11, c12, c13, c14, c15, c16, c17, c18, c19, c20, c21, c22, c23, c24, c25, c26, c27, c28, c29, c30, c31, c32, c33, c34, i35, i36, i37, i38, i39, i40, i41, i42, i43, i44, i45], [x0, x1, x2, x3, x4, x5, x6, x7, x8, x9, x10, x11, x12, x13, x14, x15, x16, x17, x18, x19, x20, x21, x22, x23, x24, x25, x26, b27, b28, b29, b30, b31, b32, b33, b34, b35]) ∧ Ck c0 c1 c2 c3 c4 c5 c6 c7 c8 c9 c10 c11 c12 c13 c14 c15 c16 c17 c18 c19 c20 c21 c22 c23 c24 c25 c26 c27 c28 c29 c30 c31 c32 c33 c34 := by
  obtain ⟨h1, h2, h3, h4⟩ := h
  obtain ⟨_, _, hp, k1⟩ := k_48 i0 i1 i2 i3 i4 i5 i6 i7 i8 i9 i10 b0 b1 b2 b3 b4 b5 b6 b7 b8  (Pk_nn h1).1 (Pk_nn h1).2.1 (Pk_nn h1).2.2.1 (Pk_nn h1).2.2.2.1 (Pk_nn h1).2.2.2.2.1 (Pk_nn h1).2.2.2.2.2.1 (Pk_nn h1).2.2.2.2.2.2.1 (Pk_nn h1).2.2.2.2.2.2.2.1 (Pk_nn h1).2.2.2.2.2.2.2.2.1 (Pk_nn h1).2.2.2.2.2.2.2.2.2.1 (Pk_nn h1).2.2.2.2.2.2.2.2.2.2  (Pk_ok h1)
  obtain ⟨p0, p1, p2, p3, p4, p5, p6, p7, p8, p9, p10, u0, u1, u2, u3, u4, u5, u6, u7, u8, rfl, rfl, l1⟩ := Pk_of k1
  obtain ⟨_, _, hq, k2⟩ := k_48 i11 i12 i13 i14 i15 i16 i17 i18 i19 i20 i21 b9 b10 b11 b12 b13 b14 b15 b16 b17  (Pk_nn h2).1 (Pk_nn h2).2.1 (Pk_nn h2).2.2.1 (Pk_nn h2).2.2.2.1 (Pk_nn h2).2.2.2.2.1 (Pk_nn h2).2.2.2.2.2.1 (Pk_nn h2).2.2.2.2.2.2.1 (Pk_nn h2).2.2.2.2.2.2.2.1 (Pk_nn h2).2.2.2.2.2.2.2.2.1 (Pk_nn h2).2.2.2.2.2.2.2.2.2.1 (Pk_nn h2).2.2.2.2.2.2.2.2.2.2  (Pk_ok h2)
  obtain ⟨q0, q1, q2, q3, q4, q5, q6, q7, q8, q9, q10, v0, v1, v2, v3, v4, v5, v6, v7, v8, rfl, rfl, l2⟩ := Pk_of k2
  obtain ⟨_, _, ht, k3⟩ := k_49 i22 i23 i24 i25 i26 i27 b18 b19 b20  (Tk_nn h3).1 (Tk_nn h3).2.1 (Tk_nn h3).2.2.1 (Tk_nn h3).2.2.2.1 (Tk_nn h3).2.2.2.2.1 (Tk_nn h3).2.2.2.2.2  (Tk_ok h3)
  obtain ⟨t0, t1, t2, t3, t4, t5, w0, w1, w2, rfl, rfl, l3⟩ := Tk_of k3
  have h4' := h4
  unfold Nk at h4'
  obtain ⟨a, c, d, x, y, z, hE, q⟩ := env50 i28 i29 i30 b21 b22 b23 (by omega) (by omega) (by omega)
  have k4 : Nk a c d i31 i32 i33 i34 := by unfold Nk; omega
  unfold F28
  obtain ⟨ρ, e1, e2, e3, e4⟩ := Smry.run_spec (Φ := tabF T27) (S := S28) (is := [i0, i1, i2, i3, i4, i5, i6, i7, i8, i9, i10, i11, i12, i13, i14, i15, i16, i17, i18, i19, i20, i21, i22, i23, i24, i25, i26, i27, i28, i29, i30, i31, i32, i33, i34, i35, i36, i37, i38, i39, i40, i41, i42, i43, i44, i45]) (bs := [b0, b1, b2, b3, b4, b5, b6, b7, b8, b9, b10, b11, b12, b13, b14, b15, b16, b17, b18, b19, b20, b21, b22, b23, b24, b25, b26, b27, b28, b29, b30, b31, b32, b33, b34, b35]) rfl
  rw [e1]
  clear e1
  simp only [S28, obs, Gd.d_cons, Gd.d_nil, eqns, Em.eqn, headsI, headsB, RI.d, RB.d, A.d, B.d, cm_eql, cm_neq, cm_lss, cm_leq, cm_gtr, cm_geq, List.map_cons, List.map_nil, and_true, Nat.zero_add, Nat.reduceAdd, ltn, upto, true_and, Nat.add_zero, List.getD_cons_zero, List.getD_cons_succ, add8, sub8, add16, sub16, mul16, wrap_u8, wrap_u16, and8_1, and8_7, and8_8, and8_15, and8_16, and8_31, and8_32, and8_64, and8_127, and8_128, and16_1, and16_255, and16_1792, shr8_1, shr8_3, shr8_4, shr8_6, shr16_1, shr16_6, shr16_8, shl16_8, shl16_14] at e2 e3 e4 ⊢
  simp only [e2, e3] at e4 ⊢
  clear e2 e3
  rw [show tabF T27 48 = F48 by rfl, show tabF T27 49 = F49 by rfl, show tabF T27 50 = F50 by rfl, hp, hq, ht, hE] at e4
  simp only [List.getD_cons_zero, List.getD_cons_succ] at e4
  have hi46 := e4.1.1.1
  have hi47 := e4.1.1.2.1
  have hi48 := e4.1.1.2.2.1
  have hi49 := e4.1.1.2.2.2.1
  have hi50 := e4.1.1.2.2.2.2.1
  have hi51 := e4.1.1.2.2.2.2.2.1
  have hi52 := e4.1.1.2.2.2.2.2.2.1
  have hi53 := e4.1.1.2.2.2.2.2.2.2.1
  have hi54 := e4.1.1.2.2.2.2.2.2.2.2.1
  have hi55 := e4.1.1.2.2.2.2.2.2.2.2.2.1
  have hi56 := e4.1.1.2.2.2.2.2.2.2.2.2.2
  have hb36 := e4.1.2.1
  have hb37 := e4.1.2.2.1
  have hb38 := e4.1.2.2.2.1
  have hb39 := e4.1.2.2.2.2.1
  have hb40 := e4.1.2.2.2.2.2.1
  have hb41 := e4.1.2.2.2.2.2.2.1
  have hb42 := e4.1.2.2.2.2.2.2.2.1
  have hb43 := e4.1.2.2.2.2.2.2.2.2.1
  have hb44 := e4.1.2.2.2.2.2.2.2.2.2
  have r0 := e4.2
  clear e4
  have hi57 := r0.1.1.1
  have hi58 := r0.1.1.2.1
  have hi59 := r0.1.1.2.2.1
  have hi60 := r0.1.1.2.2.2.1
  have hi61 := r0.1.1.2.2.2.2.1
  have hi62 := r0.1.1.2.2.2.2.2.1
  have hi63 := r0.1.1.2.2.2.2.2.2.1
  have hi64 := r0.1.1.2.2.2.2.2.2.2.1
  have hi65 := r0.1.1.2.2.2.2.2.2.2.2.1
  have hi66 := r0.1.1.2.2.2.2.2.2.2.2.2.1
  have hi67 := r0.1.1.2.2.2.2.2.2.2.2.2.2
  have hb45 := r0.1.2.1
  have hb46 := r0.1.2.2.1
  have hb47 := r0.1.2.2.2.1
  have hb48 := r0.1.2.2.2.2.1
  have hb49 := r0.1.2.2.2.2.2.1
  have hb50 := r0.1.2.2.2.2.2.2.1
  have hb51 := r0.1.2.2.2.2.2.2.2.1
  have hb52 := r0.1.2.2.2.2.2.2.2.2.1
  have hb53 := r0.1.2.2.2.2.2.2.2.2.2
  have r1 := r0.2
  clear r0
  have hi68 := r1.1.1.1
  have hi69 := r1.1.1.2.1
  have hi70 := r1.1.1.2.2.1
  have hi71 := r1.1.1.2.2.2.1
  have hi72 := r1.1.1.2.2.2.2.1
  have hi73 := r1.1.1.2.2.2.2.2
  have hb54 := r1.1.2.1
  have hb55 := r1.1.2.2.1
  have hb56 := r1.1.2.2.2
  have r2 := r1.2
  clear r1
  have hi74 := r2.1.1
  have hi75 := r2.1.2.1
  have hi76 := r2.1.2.2
  have hb57 := r2.2.1
  have hb58 := r2.2.2.1
  have hb59 := r2.2.2.2
  refine ⟨p0, p1, p2, p3, p4, p5, p6, p7, p8, p9, p10, q0, q1, q2, q3, q4, q5, q6, q7, q8, q9, q10, t0, t1, t2, t3, t4, t5, a, c, d, i31, i32, i33, i34, u0, u1, u2, u3, u4, u5, u6, u7, u8, v0, v1, v2, v3, v4, v5, v6, v7, v8, w0, w1, w2, x, y, z, b24, b25, b26, ?_, l1, l2, l3, k4⟩
  rw [hi46, hi47, hi48, hi49, hi50, hi51, hi52, hi53, hi54, hi55, hi56, hb36, hb37, hb38, hb39, hb40, hb41, hb42, hb43, hb44, hi57, hi58, hi59, hi60, hi61, hi62, hi63, hi64, hi65, hi66, hi67, hb45, hb46, hb47, hb48, hb49, hb50, hb51, hb52, hb53, hi68, hi69, hi70, hi71, hi72, hi73, hb54, hb55, hb56, hi74, hi75, hi76, hb57, hb58, hb59]
set_option maxHeartbeats 2000000 in
theorem kp23 (i0 i1 i2 i3 i4 i5 i6 i7 i8 i9 i10 i11 i12 i13 i14 i15 i16 i17 i18 i19 i20 i21 i22 i23 i24 i25 i26 i27 i28 i29 i30 i31 i32 i33 i34 i35 i36 i37 i38 i39 i40 i41 i42 i43 i44 i45 : Int) (b0 b1 b2 b3 b4 b5 b6 b7 b8 b9 b10 b11 b12 b13 b14 b15 b16 b17 b18 b19 b20 b21 b22 b23 b24 b25 b26 b27 b28 b29 b30 b31 b32 b33 b34 b35 : Bool) (h : Ck i0 i1 i2 i3 i4 i5 i6 i7 i8 i9 i10 i11 i12 i13 i14 i15 i16 i17 i18 i19 i20 i21 i22 i23 i24 i25 i26 i27 i28 i29 i30 i31 i32 i33 i34) : ∃ (c0 c1 c2 c3 c4 c5 c6 c7 c8 c9 c10 c11 c12 c13 c14 c15 c16 c17 c18 c19 c20 c21 c22 c23 c24 c25 c26 c27 c28 c29 c30 c31 c32 c33 c34 : Int) (x0 x1 x2 x3 x4 x5 x6 x7 x8 x9 x10 x11 x12 x13 x14 x15 x16 x17 x18 x19 x20 x21 x22 x23 x24 x25 x26 : Bool), F23 [i0, i1, i2, i3, i4, i5, i6, i7, i8, i9, i10, i11, i12, i13, i14, i15, i16, i17, i18, i19, i20, i21, i22, i23, i24, i25, i26, i27, i28, i29, i30, i31, i32, i33, i34, i35, i36, i37, i38, i39, i40, i41, i42, i43, i44, i45] [b0, b1, b2, b3, b4, b5, b6, b7, b8, b9, b10, b11, b12, b13, b14, b15, b16, b17, b18, b19, b20, b21, b22, b23, b24, b25, b26, b27, b28, b29, b30, b31, b32, b33, b34, b35] = ([c0, c1, c2, c3, c4, c5, c6, c7, c8, c9, c10, c11, c12, c13, c14, c15, c16, c17, c18, c19, c20, c21, c22, c23, c24, c25, c26, c27, c28, c29, c30, c31, c32, c33, c34, i35, i36, i37, i38, i39, i40, i41, i42, i43, i44, i45], [true, x0, x1, x2, x3, x4, x5, x6, x7, x8, x9, x10, x11, x12, x13, x14, x15, x16, x17, x18, x19, x20, x21, x22, x23, x24, x25, x26, b27, b28, b29, b30, b31, b32, b33, b34, b35]) ∧ Ck c0 c1 c2 c3 c4 c5 c6 c7 c8 c9 c10 c11 c12 c13 c14 c15 c16 c17 c18 c19 c20 c21 c22 c23 c24 c25 c26 c27 c28 c29 c30 c31 c32 c33 c34 := by
  obtain ⟨c0, c1, c2, c3, c4, c5, c6, c7, c8, c9, c10, c11, c12, c13, c14, c15, c16, c17, c18, c19, c20, c21, c22, c23, c24, c25, c26, c27, c28, c29, c30, c31, c32, c33, c34, x0, x1, x2, x3, x4, x5, x6, x7, x8, x9, x10, x11, x12, x13, x14, x15, x16, x17, x18, x19, x20, x21, x22, x23, x24, x25, x26, hQ, h1, h2, h3, h4⟩ := kp28 i0 i1 i2 i3 i4 i5 i6 i7 i8 i9 i10 i11 i12 i13 i14 i15 i16 i17 i18 i19 i20 i21 i22 i23 i24 i25 i26 i27 i28 i29 i30 i31 i32 i33 i34 i35 i36 i37 i38 i39 i40 i41 i42 i43 i44 i45 b0 b1 b2 b3 b4 b5 b6 b7 b8 b9 b10 b11 b12 b13 b14 b15 b16 b17 b18 b19 b20 b21 b22 b23 b24 b25 b26 b27 b28 b29 b30 b31 b32 b33 b34 b35 h
  obtain ⟨_, _, hp, k1⟩ := k_45 c0 c1 c2 c3 c4 c5 c6 c7 c8 c9 c10 x0 x1 x2 x3 x4 x5 x6 x7 x8  (Pk_nn h1).1 (Pk_nn h1).2.1 (Pk_nn h1).2.2.1 (Pk_nn h1).2.2.2.1 (Pk_nn h1).2.2.2.2.1 (Pk_nn h1).2.2.2.2.2.1 (Pk_nn h1).2.2.2.2.2.2.1 (Pk_nn h1).2.2.2.2.2.2.2.1 (Pk_nn h1).2.2.2.2.2.2.2.2.1 (Pk_nn h1).2.2.2.2.2.2.2.2.2.1 (Pk_nn h1).2.2.2.2.2.2.2.2.2.2  (Pk_ok h1)
  obtain ⟨p0, p1, p2, p3, p4, p5, p6, p7, p8, p9, p10, u0, u1, u2, u3, u4, u5, u6, u7, u8, rfl, rfl, l1⟩ := Pk_of k1
  obtain ⟨_, _, hq, k2⟩ := k_45 c11 c12 c13 c14 c15 c16 c17 c18 c19 c20 c21 x9 x10 x11 x12 x13 x14 x15 x16 x17  (Pk_nn h2).1 (Pk_nn h2).2.1 (Pk_nn h2).2.2.1 (Pk_nn h2).2.2.2.1 (Pk_nn h2).2.2.2.2.1 (Pk_nn h2).2.2.2.2.2.1 (Pk_nn h2).2.2.2.2.2.2.1 (Pk_nn h2).2.2.2.2.2.2.2.1 (Pk_nn h2).2.2.2.2.2.2.2.2.1 (Pk_nn h2).2.2.2.2.2.2.2.2.2.1 (Pk_nn h2).2.2.2.2.2.2.2.2.2.2  (Pk_ok h2)
  obtain ⟨q0, q1, q2, q3, q4, q5, q6, q7, q8, q9, q10, v0, v1, v2, v3, v4, v5, v6, v7, v8, rfl, rfl, l2⟩ := Pk_of k2
  have h3' := h3
  have h4' := h4
  unfold Tk at h3'
  unfold Nk at h4'
  obtain ⟨m, hm, m0⟩ := len46 c22 x18 x19 (by omega)
  obtain ⟨n, hn, n0⟩ := len46 c31 x24 x25 (by omega)
  have k3 : Tk m c23 c24 c25 c26 c27 := by unfold Tk; omega
  have k4 : Nk c28 c29 c30 n c32 c33 c34 := by unfold Nk; omega
  unfold F23
  obtain ⟨ρ, e1, e2, e3, e4⟩ := Smry.run_specT (Φ := tabF T30) (S := S23) (is := [i0, i1, i2, i3, i4, i5, i6, i7, i8, i9, i10, i11, i12, i13, i14, i15, i16, i17, i18, i19, i20, i21, i22, i23, i24, i25, i26, i27, i28, i29, i30, i31, i32, i33, i34, i35, i36, i37, i38, i39, i40, i41, i42, i43, i44, i45]) (bs := [b0, b1, b2, b3, b4, b5, b6, b7, b8, b9, b10, b11, b12, b13, b14, b15, b16, b17, b18, b19, b20, b21, b22, b23, b24, b25, b26, b27, b28, b29, b30, b31, b32, b33, b34, b35]) rfl
  rw [e1, obAll_eq]
  clear e1
  simp only [S23, obs, Gd.d_cons, Gd.d_nil, eqns, Em.eqn, headsI, headsB, RI.d, RB.d, A.d, B.d, cm_eql, cm_neq, cm_lss, cm_leq, cm_gtr, cm_geq, List.map_cons, List.map_nil, and_true, Nat.zero_add, Nat.reduceAdd, ltn, upto, true_and, Nat.add_zero, List.getD_cons_zero, List.getD_cons_succ, add8, sub8, add16, sub16, mul16, wrap_u8, wrap_u16, and8_1, and8_7, and8_8, and8_15, and8_16, and8_31, and8_32, and8_64, and8_127, and8_128, and16_1, and16_255, and16_1792, shr8_1, shr8_3, shr8_4, shr8_6, shr16_1, shr16_6, shr16_8, shl16_8, shl16_14] at e2 e3 e4 ⊢
  simp only [e2, e3] at e4 ⊢
  clear e2 e3
  rw [show tabF T30 28 = F28 by rfl, show tabF T30 45 = F45 by rfl, show tabF T30 46 = F46 by rfl, hQ] at e4
  simp only [List.getD_cons_zero, List.getD_cons_succ] at e4
  have hi46 := e4.1.1.1
  have hi47 := e4.1.1.2.1
  have hi48 := e4.1.1.2.2.1
  have hi49 := e4.1.1.2.2.2.1
  have hi50 := e4.1.1.2.2.2.2.1
  have hi51 := e4.1.1.2.2.2.2.2.1
  have hi52 := e4.1.1.2.2.2.2.2.2.1
  have hi53 := e4.1.1.2.2.2.2.2.2.2.1
  have hi54 := e4.1.1.2.2.2.2.2.2.2.2.1
  have hi55 := e4.1.1.2.2.2.2.2.2.2.2.2.1
  have hi56 := e4.1.1.2.2.2.2.2.2.2.2.2.2.1
  have hi57 := e4.1.1.2.2.2.2.2.2.2.2.2.2.2.1
  have hi58 := e4.1.1.2.2.2.2.2.2.2.2.2.2.2.2.1
  have hi59 := e4.1.1.2.2.2.2.2.2.2.2.2.2.2.2.2.1
  have hi60 := e4.1.1.2.2.2.2.2.2.2.2.2.2.2.2.2.2.1
  have hi61 := e4.1.1.2.2.2.2.2.2.2.2.2.2.2.2.2.2.2.1
  have hi62 := e4.1.1.2.2.2.2.2.2.2.2.2.2.2.2.2.2.2.2.1
  have hi63 := e4.1.1.2.2.2.2.2.2.2.2.2.2.2.2.2.2.2.2.2.1
  have hi64 := e4.1.1.2.2.2.2.2.2.2.2.2.2.2.2.2.2.2.2.2.2.1
  have hi65 := e4.1.1.2.2.2.2.2.2.2.2.2.2.2.2.2.2.2.2.2.2.2.1
  have hi66 := e4.1.1.2.2.2.2.2.2.2.2.2.2.2.2.2.2.2.2.2.2.2.2.1
  have hi67 := e4.1.1.2.2.2.2.2.2.2.2.2.2.2.2.2.2.2.2.2.2.2.2.2.1
  have hi68 := e4.1.1.2.2.2.2.2.2.2.2.2.2.2.2.2.2.2.2.2.2.2.2.2.2.1
  have hi69 := e4.1.1.2.2.2.2.2.2.2.2.2.2.2.2.2.2.2.2.2.2.2.2.2.2.2.1
  have hi70 := e4.1.1.2.2.2.2.2.2.2.2.2.2.2.2.2.2.2.2.2.2.2.2.2.2.2.2.1
  have hi71 := e4.1.1.2.2.2.2.2.2.2.2.2.2.2.2.2.2.2.2.2.2.2.2.2.2.2.2.2.1
  have hi72 := e4.1.1.2.2.2.2.2.2.2.2.2.2.2.2.2.2.2.2.2.2.2.2.2.2.2.2.2.2.1
  have hi73 := e4.1.1.2.2.2.2.2.2.2.2.2.2.2.2.2.2.2.2.2.2.2.2.2.2.2.2.2.2.2.1
  have hi74 := e4.1.1.2.2.2.2.2.2.2.2.2.2.2.2.2.2.2.2.2.2.2.2.2.2.2.2.2.2.2.2.1
  have hi75 := e4.1.1.2.2.2.2.2.2.2.2.2.2.2.2.2.2.2.2.2.2.2.2.2.2.2.2.2.2.2.2.2.1
  have hi76 := e4.1.1.2.2.2.2.2.2.2.2.2.2.2.2.2.2.2.2.2.2.2.2.2.2.2.2.2.2.2.2.2.2.1
  have hi77 := e4.1.1.2.2.2.2.2.2.2.2.2.2.2.2.2.2.2.2.2.2.2.2.2.2.2.2.2.2.2.2.2.2.2.1
  have hi78 := e4.1.1.2.2.2.2.2.2.2.2.2.2.2.2.2.2.2.2.2.2.2.2.2.2.2.2.2.2.2.2.2.2.2.2.1
  have hi79 := e4.1.1.2.2.2.2.2.2.2.2.2.2.2.2.2.2.2.2.2.2.2.2.2.2.2.2.2.2.2.2.2.2.2.2.2.1
  have hi80 := e4.1.1.2.2.2.2.2.2.2.2.2.2.2.2.2.2.2.2.2.2.2.2.2.2.2.2.2.2.2.2.2.2.2.2.2.2.1
  have hi81 := e4.1.1.2.2.2.2.2.2.2.2.2.2.2.2.2.2.2.2.2.2.2.2.2.2.2.2.2.2.2.2.2.2.2.2.2.2.2.1
  have hi82 := e4.1.1.2.2.2.2.2.2.2.2.2.2.2.2.2.2.2.2.2.2.2.2.2.2.2.2.2.2.2.2.2.2.2.2.2.2.2.2.1
  have hi83 := e4.1.1.2.2.2.2.2.2.2.2.2.2.2.2.2.2.2.2.2.2.2.2.2.2.2.2.2.2.2.2.2.2.2.2.2.2.2.2.2.1
  have hi84 := e4.1.1.2.2.2.2.2.2.2.2.2.2.2.2.2.2.2.2.2.2.2.2.2.2.2.2.2.2.2.2.2.2.2.2.2.2.2.2.2.2.1
  have hi85 := e4.1.1.2.2.2.2.2.2.2.2.2.2.2.2.2.2.2.2.2.2.2.2.2.2.2.2.2.2.2.2.2.2.2.2.2.2.2.2.2.2.2.1
  have hi86 := e4.1.1.2.2.2.2.2.2.2.2.2.2.2.2.2.2.2.2.2.2.2.2.2.2.2.2.2.2.2.2.2.2.2.2.2.2.2.2.2.2.2.2.1
  have hi87 := e4.1.1.2.2.2.2.2.2.2.2.2.2.2.2.2.2.2.2.2.2.2.2.2.2.2.2.2.2.2.2.2.2.2.2.2.2.2.2.2.2.2.2.2.1
  have hi88 := e4.1.1.2.2.2.2.2.2.2.2.2.2.2.2.2.2.2.2.2.2.2.2.2.2.2.2.2.2.2.2.2.2.2.2.2.2.2.2.2.2.2.2.2.2.1
  have hi89 := e4.1.1.2.2.2.2.2.2.2.2.2.2.2.2.2.2.2.2.2.2.2.2.2.2.2.2.2.2.2.2.2.2.2.2.2.2.2.2.2.2.2.2.2.2.2.1
  have hi90 := e4.1.1.2.2.2.2.2.2.2.2.2.2.2.2.2.2.2.2.2.2.2.2.2.2.2.2.2.2.2.2.2.2.2.2.2.2.2.2.2.2.2.2.2.2.2.2.1
  have hi91 := e4.1.1.2.2.2.2.2.2.2.2.2.2.2.2.2.2.2.2.2.2.2.2.2.2.2.2.2.2.2.2.2.2.2.2.2.2.2.2.2.2.2.2.2.2.2.2.2
  have hb36 := e4.1.2.1
  have hb37 := e4.1.2.2.1
  have hb38 := e4.1.2.2.2.1
  have hb39 := e4.1.2.2.2.2.1
  have hb40 := e4.1.2.2.2.2.2.1
  have hb41 := e4.1.2.2.2.2.2.2.1
  have hb42 := e4.1.2.2.2.2.2.2.2.1
  have hb43 := e4.1.2.2.2.2.2.2.2.2.1
  have hb44 := e4.1.2.2.2.2.2.2.2.2.2.1
  have hb45 := e4.1.2.2.2.2.2.2.2.2.2.2.1
  have hb46 := e4.1.2.2.2.2.2.2.2.2.2.2.2.1
  have hb47 := e4.1.2.2.2.2.2.2.2.2.2.2.2.2.1
  have hb48 := e4.1.2.2.2.2.2.2.2.2.2.2.2.2.2.1
  have hb49 := e4.1.2.2.2.2.2.2.2.2.2.2.2.2.2.2.1
  have hb50 := e4.1.2.2.2.2.2.2.2.2.2.2.2.2.2.2.2.1
  have hb51 := e4.1.2.2.2.2.2.2.2.2.2.2.2.2.2.2.2.2.1
  have hb52 := e4.1.2.2.2.2.2.2.2.2.2.2.2.2.2.2.2.2.2.1
  have hb53 := e4.1.2.2.2.2.2.2.2.2.2.2.2.2.2.2.2.2.2.2.1
  have hb54 := e4.1.2.2.2.2.2.2.2.2.2.2.2.2.2.2.2.2.2.2.2.1
  have hb55 := e4.1.2.2.2.2.2.2.2.2.2.2.2.2.2.2.2.2.2.2.2.2.1
  have hb56 := e4.1.2.2.2.2.2.2.2.2.2.2.2.2.2.2.2.2.2.2.2.2.2.1
  have hb57 := e4.1.2.2.2.2.2.2.2.2.2.2.2.2.2.2.2.2.2.2.2.2.2.2.1
  have hb58 := e4.1.2.2.2.2.2.2.2.2.2.2.2.2.2.2.2.2.2.2.2.2.2.2.2.1
  have hb59 := e4.1.2.2.2.2.2.2.2.2.2.2.2.2.2.2.2.2.2.2.2.2.2.2.2.2.1
  have hb60 := e4.1.2.2.2.2.2.2.2.2.2.2.2.2.2.2.2.2.2.2.2.2.2.2.2.2.2.1
  have hb61 := e4.1.2.2.2.2.2.2.2.2.2.2.2.2.2.2.2.2.2.2.2.2.2.2.2.2.2.2.1
  have hb62 := e4.1.2.2.2.2.2.2.2.2.2.2.2.2.2.2.2.2.2.2.2.2.2.2.2.2.2.2.2.1
  have hb63 := e4.1.2.2.2.2.2.2.2.2.2.2.2.2.2.2.2.2.2.2.2.2.2.2.2.2.2.2.2.2.1
  have hb64 := e4.1.2.2.2.2.2.2.2.2.2.2.2.2.2.2.2.2.2.2.2.2.2.2.2.2.2.2.2.2.2.1
  have hb65 := e4.1.2.2.2.2.2.2.2.2.2.2.2.2.2.2.2.2.2.2.2.2.2.2.2.2.2.2.2.2.2.2.1
  have hb66 := e4.1.2.2.2.2.2.2.2.2.2.2.2.2.2.2.2.2.2.2.2.2.2.2.2.2.2.2.2.2.2.2.2.1
  have hb67 := e4.1.2.2.2.2.2.2.2.2.2.2.2.2.2.2.2.2.2.2.2.2.2.2.2.2.2.2.2.2.2.2.2.2.1
  have hb68 := e4.1.2.2.2.2.2.2.2.2.2.2.2.2.2.2.2.2.2.2.2.2.2.2.2.2.2.2.2.2.2.2.2.2.2.1
  have hb69 := e4.1.2.2.2.2.2.2.2.2.2.2.2.2.2.2.2.2.2.2.2.2.2.2.2.2.2.2.2.2.2.2.2.2.2.2.1
  have hb70 := e4.1.2.2.2.2.2.2.2.2.2.2.2.2.2.2.2.2.2.2.2.2.2.2.2.2.2.2.2.2.2.2.2.2.2.2.2.1
  have hb71 := e4.1.2.2.2.2.2.2.2.2.2.2.2.2.2.2.2.2.2.2.2.2.2.2.2.2.2.2.2.2.2.2.2.2.2.2.2.2
  have r0 := e4.2
  clear e4
  have hi92 := r0.1.1.1
  have hi93 := r0.1.1.2.1
  have hi94 := r0.1.1.2.2.1
  have hi95 := r0.1.1.2.2.2.1
  have hi96 := r0.1.1.2.2.2.2.1
  have hi97 := r0.1.1.2.2.2.2.2.1
  have hi98 := r0.1.1.2.2.2.2.2.2.1
  have hi99 := r0.1.1.2.2.2.2.2.2.2.1
  have hi100 := r0.1.1.2.2.2.2.2.2.2.2.1
  have hi101 := r0.1.1.2.2.2.2.2.2.2.2.2.1
  have hi102 := r0.1.1.2.2.2.2.2.2.2.2.2.2
  have hb72 := r0.1.2.1
  have hb73 := r0.1.2.2.1
  have hb74 := r0.1.2.2.2.1
  have hb75 := r0.1.2.2.2.2.1
  have hb76 := r0.1.2.2.2.2.2.1
  have hb77 := r0.1.2.2.2.2.2.2.1
  have hb78 := r0.1.2.2.2.2.2.2.2.1
  have hb79 := r0.1.2.2.2.2.2.2.2.2.1
  have hb80 := r0.1.2.2.2.2.2.2.2.2.2.1
  have hb81 := r0.1.2.2.2.2.2.2.2.2.2.2
  have r1 := r0.2
  clear r0
  have hi103 := r1.1.1.1
  have hi104 := r1.1.1.2.1
  have hi105 := r1.1.1.2.2.1
  have hi106 := r1.1.1.2.2.2.1
  have hi107 := r1.1.1.2.2.2.2.1
  have hi108 := r1.1.1.2.2.2.2.2.1
  have hi109 := r1.1.1.2.2.2.2.2.2.1
  have hi110 := r1.1.1.2.2.2.2.2.2.2.1
  have hi111 := r1.1.1.2.2.2.2.2.2.2.2.1
  have hi112 := r1.1.1.2.2.2.2.2.2.2.2.2.1
  have hi113 := r1.1.1.2.2.2.2.2.2.2.2.2.2
  have hb82 := r1.1.2.1
  have hb83 := r1.1.2.2.1
  have hb84 := r1.1.2.2.2.1
  have hb85 := r1.1.2.2.2.2.1
  have hb86 := r1.1.2.2.2.2.2.1
  have hb87 := r1.1.2.2.2.2.2.2.1
  have hb88 := r1.1.2.2.2.2.2.2.2.1
  have hb89 := r1.1.2.2.2.2.2.2.2.2.1
  have hb90 := r1.1.2.2.2.2.2.2.2.2.2.1
  have hb91 := r1.1.2.2.2.2.2.2.2.2.2.2
  have r2 := r1.2
  clear r1
  have hi114 := r2.1.1
  have hb92 := r2.1.2.1
  have hb93 := r2.1.2.2
  have r3 := r2.2
  clear r2
  have hi115 := r3.1
  have hb94 := r3.2.1
  have hb95 := r3.2.2
  rw [hi46, hi47, hi48, hi49, hi50, hi51, hi52, hi53, hi54, hi55, hi56, hb36, hb37, hb38, hb39, hb40, hb41, hb42, hb43, hb44, hp] at hi92 hi93 hi94 hi95 hi96 hi97 hi98 hi99 hi100 hi101 hi102 hb72 hb73 hb74 hb75 hb76 hb77 hb78 hb79 hb80 hb81
  rw [hi57, hi58, hi59, hi60, hi61, hi62, hi63, hi64, hi65, hi66, hi67, hb45, hb46, hb47, hb48, hb49, hb50, hb51, hb52, hb53, hq] at hi103 hi104 hi105 hi106 hi107 hi108 hi109 hi110 hi111 hi112 hi113 hb82 hb83 hb84 hb85 hb86 hb87 hb88 hb89 hb90 hb91
  rw [hi68, hb54, hb55, hm] at hi114 hb92 hb93
  rw [hi77, hb60, hb61, hn] at hi115 hb94 hb95
  simp only [List.getD_cons_zero, List.getD_cons_succ] at hi92 hi93 hi94 hi95 hi96 hi97 hi98 hi99 hi100 hi101 hi102 hi103 hi104 hi105 hi106 hi107 hi108 hi109 hi110 hi111 hi112 hi113 hi114 hi115 hb72 hb73 hb74 hb75 hb76 hb77 hb78 hb79 hb80 hb81 hb82 hb83 hb84 hb85 hb86 hb87 hb88 hb89 hb90 hb91 hb92 hb93 hb94 hb95
  refine ⟨p0, p1, p2, p3, p4, p5, p6, p7, p8, p9, p10, q0, q1, q2, q3, q4, q5, q6, q7, q8, q9, q10, m, c23, c24, c25, c26, c27, c28, c29, c30, n, c32, c33, c34, u0, u1, u2, u3, u4, u5, u6, u7, u8, v0, v1, v2, v3, v4, v5, v6, v7, v8, x18, x19, x20, x21, x22, x23, x24, x25, x26, ?_, l1, l2, k3, k4⟩
  simp only [hi46, hi47, hi48, hi49, hi50, hi51, hi52, hi53, hi54, hi55, hi56, hi57, hi58, hi59, hi60, hi61, hi62, hi63, hi64, hi65, hi66, hi67, hi68, hi69, hi70, hi71, hi72, hi73, hi74, hi75, hi76, hi77, hi78, hi79, hi80, hi81, hi82, hi83, hi84, hi85, hi86, hi87, hi88, hi89, hi90, hi91, hb36, hb37, hb38, hb39, hb40, hb41, hb42, hb43, hb44, hb45, hb46, hb47, hb48, hb49, hb50, hb51, hb52, hb53, hb54, hb55, hb56, hb57, hb58, hb59, hb60, hb61, hb62, hb63, hb64, hb65, hb66, hb67, hb68, hb69, hb70, hb71, hi92, hi93, hi94, hi95, hi96, hi97, hi98, hi99, hi100, hi101, hi102, hb72, hb73, hb74, hb75, hb76, hb77, hb78, hb79, hb80, hb81, hi103, hi104, hi105, hi106, hi107, hi108, hi109, hi110, hi111, hi112, hi113, hb82, hb83, hb84, hb85, hb86, hb87, hb88, hb89, hb90, hb91, hi114, hb92, hb93, hi115, hb94, hb95]
  rfl
set_option maxHeartbeats 1000000 in
theorem w8K (i0 i1 i2 i3 i4 i5 i6 i7 i8 i9 i10 i11 i12 i13 i14 i15 i16 i17 i18 i19 i20 i21 i22 i23 i24 i25 i26 i27 i28 i29 i30 i31 i32 i33 i34 i35 i36 i37 i38 i39 i40 i41 i42 i43 i44 i45 reg v : Int) (b0 b1 b2 b3 b4 b5 b6 b7 b8 b9 b10 b11 b12 b13 b14 b15 b16 b17 b18 b19 b20 b21 b22 b23 b24 b25 b26 b27 b28 b29 b30 b31 b32 b33 b34 b35 : Bool) (hA : Ak i0 i1 i2 i3 i4 i5 i6 i7 i8 i9 i10 i11 i12 i13 i14 i15 i16 i17 i18 i19 i20 i21 i22 i23 i24 i25 i26 i27 i28 i29 i30 i31 i32 i33 i34 i35 i36 i37 i38 i39 i40 i41 i42 i43 i44 i45 b32) (hv : 0 ≤ v ∧ v ≤ 255) :
    ∃ (c0 c1 c2 c3 c4 c5 c6 c7 c8 c9 c10 c11 c12 c13 c14 c15 c16 c17 c18 c19 c20 c21 c22 c23 c24 c25 c26 c27 c28 c29 c30 c31 c32 c33 c34 c35 c36 c37 c38 c39 c40 c41 c42 c43 c44 c45 : Int) (x0 x1 x2 x3 x4 x5 x6 x7 x8 x9 x10 x11 x12 x13 x14 x15 x16 x17 x18 x19 x20 x21 x22 x23 x24 x25 x26 x27 x28 x29 x30 x31 x32 x33 x34 x35 : Bool), F8 [i0, i1, i2, i3, i4, i5, i6, i7, i8, i9, i10, i11, i12, i13, i14, i15, i16, i17, i18, i19, i20, i21, i22, i23, i24, i25, i26, i27, i28, i29, i30, i31, i32, i33, i34, i35, i36, i37, i38, i39, i40, i41, i42, i43, i44, i45, reg, v] [b0, b1, b2, b3, b4, b5, b6, b7, b8, b9, b10, b11, b12, b13, b14, b15, b16, b17, b18, b19, b20, b21, b22, b23, b24, b25, b26, b27, b28, b29, b30, b31, b32, b33, b34, b35] = ([c0, c1, c2, c3, c4, c5, c6, c7, c8, c9, c10, c11, c12, c13, c14, c15, c16, c17, c18, c19, c20, c21, c22, c23, c24, c25, c26, c27, c28, c29, c30, c31, c32, c33, c34, c35, c36, c37, c38, c39, c40, c41, c42, c43, c44, c45, 0], [true, x0, x1, x2, x3, x4, x5, x6, x7, x8, x9, x10, x11, x12, x13, x14, x15, x16, x17, x18, x19, x20, x21, x22, x23, x24, x25, x26, x27, x28, x29, x30, x31, x32, x33, x34, x35]) ∧ Ak c0 c1 c2 c3 c4 c5 c6 c7 c8 c9 c10 c11 c12 c13 c14 c15 c16 c17 c18 c19 c20 c21 c22 c23 c24 c25 c26 c27 c28 c29 c30 c31 c32 c33 c34 c35 c36 c37 c38 c39 c40 c41 c42 c43 c44 c45 x32 := by
  obtain ⟨wneg, wone, wtwo, wtri, wnoi, wdmc, w20, won, w22, wf, wh, wbig⟩ := w8 i0 i1 i2 i3 i4 i5 i6 i7 i8 i9 i10 i11 i12 i13 i14 i15 i16 i17 i18 i19 i20 i21 i22 i23 i24 i25 i26 i27 i28 i29 i30 i31 i32 i33 i34 i35 i36 i37 i38 i39 i40 i41 i42 i43 i44 i45 reg v b0 b1 b2 b3 b4 b5 b6 b7 b8 b9 b10 b11 b12 b13 b14 b15 b16 b17 b18 b19 b20 b21 b22 b23 b24 b25 b26 b27 b28 b29 b30 b31 b32 b33 b34 b35 hA hv
  have hA' := hA
  obtain ⟨h1, h2, h3, h4, h5, h6, h7⟩ := hA'
  rcases (show reg < 0 ∨ (0 ≤ reg ∧ reg ≤ 3) ∨ (4 ≤ reg ∧ reg ≤ 7) ∨ (8 ≤ reg ∧ reg ≤ 11) ∨ (12 ≤ reg ∧ reg ≤ 15) ∨ (16 ≤ reg ∧ reg ≤ 19) ∨ reg = 20 ∨ reg = 21 ∨ reg = 22 ∨ reg = 23 ∨ 24 ≤ reg by clear wneg wone wtwo wtri wnoi wdmc w20 won w22 wf wh wbig; omega) with hr | hr | hr | hr | hr | hr | hr | hr | hr | hr | hr
  · exact ⟨_, _, _, _, _, _, _, _, _, _, _, _, _, _, _, _, _, _, _, _, _, _, _, _, _, _, _, _, _, _, _, _, _, _, _, _, _, _, _, _, _, _, _, _, _, _, _, _, _, _, _, _, _, _, _, _, _, _, _, _, _, _, _, _, _, _, _, _, _, _, _, _, _, _, _, _, _, _, _, _, _, _, wneg hr, hA⟩
  · obtain ⟨_, _, hF, k⟩ := k_18 i0 i1 i2 i3 i4 i5 i6 i7 i8 i9 i10 b0 b1 b2 b3 b4 b5 b6 b7 b8 reg v (Pk_nn h1).1 (Pk_nn h1).2.1 (Pk_nn h1).2.2.1 (Pk_nn h1).2.2.2.1 (Pk_nn h1).2.2.2.2.1 (Pk_nn h1).2.2.2.2.2.1 (Pk_nn h1).2.2.2.2.2.2.1 (Pk_nn h1).2.2.2.2.2.2.2.1 (Pk_nn h1).2.2.2.2.2.2.2.2.1 (Pk_nn h1).2.2.2.2.2.2.2.2.2.1 (Pk_nn h1).2.2.2.2.2.2.2.2.2.2 hv (Pk_ok h1)
    obtain ⟨p0, p1, p2, p3, p4, p5, p6, p7, p8, p9, p10, u0, u1, u2, u3, u4, u5, u6, u7, u8, rfl, rfl, kq⟩ := Pk_of k
    exact ⟨_, _, _, _, _, _, _, _, _, _, _, _, _, _, _, _, _, _, _, _, _, _, _, _, _, _, _, _, _, _, _, _, _, _, _, _, _, _, _, _, _, _, _, _, _, _, _, _, _, _, _, _, _, _, _, _, _, _, _, _, _, _, _, _, _, _, _, _, _, _, _, _, _, _, _, _, _, _, _, _, _, _, wone p0 p1 p2 p3 p4 p5 p6 p7 p8 p9 p10 u0 u1 u2 u3 u4 u5 u6 u7 u8 hr hF, kq, h2, h3, h4, h5, h6, h7⟩
  · obtain ⟨_, _, hF, k⟩ := k_18 i11 i12 i13 i14 i15 i16 i17 i18 i19 i20 i21 b9 b10 b11 b12 b13 b14 b15 b16 b17 (reg - 4) v (Pk_nn h2).1 (Pk_nn h2).2.1 (Pk_nn h2).2.2.1 (Pk_nn h2).2.2.2.1 (Pk_nn h2).2.2.2.2.1 (Pk_nn h2).2.2.2.2.2.1 (Pk_nn h2).2.2.2.2.2.2.1 (Pk_nn h2).2.2.2.2.2.2.2.1 (Pk_nn h2).2.2.2.2.2.2.2.2.1 (Pk_nn h2).2.2.2.2.2.2.2.2.2.1 (Pk_nn h2).2.2.2.2.2.2.2.2.2.2 hv (Pk_ok h2)
    obtain ⟨p0, p1, p2, p3, p4, p5, p6, p7, p8, p9, p10, u0, u1, u2, u3, u4, u5, u6, u7, u8, rfl, rfl, kq⟩ := Pk_of k
    exact ⟨_, _, _, _, _, _, _, _, _, _, _, _, _, _, _, _, _, _, _, _, _, _, _, _, _, _, _, _, _, _, _, _, _, _, _, _, _, _, _, _, _, _, _, _, _, _, _, _, _, _, _, _, _, _, _, _, _, _, _, _, _, _, _, _, _, _, _, _, _, _, _, _, _, _, _, _, _, _, _, _, _, _, wtwo p0 p1 p2 p3 p4 p5 p6 p7 p8 p9 p10 u0 u1 u2 u3 u4 u5 u6 u7 u8 hr hF, h1, kq, h3, h4, h5, h6, h7⟩
  · obtain ⟨_, _, hF, k⟩ := k_19 i22 i23 i24 i25 i26 i27 b18 b19 b20 (reg - 8) v (Tk_nn h3).1 (Tk_nn h3).2.1 (Tk_nn h3).2.2.1 (Tk_nn h3).2.2.2.1 (Tk_nn h3).2.2.2.2.1 (Tk_nn h3).2.2.2.2.2 hv (Tk_ok h3)
    obtain ⟨p0, p1, p2, p3, p4, p5, u0, u1, u2, rfl, rfl, kq⟩ := Tk_of k
    exact ⟨_, _, _, _, _, _, _, _, _, _, _, _, _, _, _, _, _, _, _, _, _, _, _, _, _, _, _, _, _, _, _, _, _, _, _, _, _, _, _, _, _, _, _, _, _, _, _, _, _, _, _, _, _, _, _, _, _, _, _, _, _, _, _, _, _, _, _, _, _, _, _, _, _, _, _, _, _, _, _, _, _, _, wtri p0 p1 p2 p3 p4 p5 u0 u1 u2 hr hF, h1, h2, kq, h4, h5, h6, h7⟩
  · obtain ⟨_, _, hF, k⟩ := k_20 i28 i29 i30 i31 i32 i33 i34 b21 b22 b23 b24 b25 b26 (reg - 12) v (Nk_nn h4).1 (Nk_nn h4).2.1 (Nk_nn h4).2.2.1 (Nk_nn h4).2.2.2.1 (Nk_nn h4).2.2.2.2.1 (Nk_nn h4).2.2.2.2.2.1 (Nk_nn h4).2.2.2.2.2.2 hv (Nk_ok h4)
    obtain ⟨p0, p1, p2, p3, p4, p5, p6, u0, u1, u2, u3, u4, u5, rfl, rfl, kq⟩ := Nk_of k
    exact ⟨_, _, _, _, _, _, _, _, _, _, _, _, _, _, _, _, _, _, _, _, _, _, _, _, _, _, _, _, _, _, _, _, _, _, _, _, _, _, _, _, _, _, _, _, _, _, _, _, _, _, _, _, _, _, _, _, _, _, _, _, _, _, _, _, _, _, _, _, _, _, _, _, _, _, _, _, _, _, _, _, _, _, wnoi p0 p1 p2 p3 p4 p5 p6 u0 u1 u2 u3 u4 u5 hr hF, h1, h2, h3, kq, h5, h6, h7⟩
  · obtain ⟨p0, p1, p2, p3, p4, p5, p6, p7, p8, p9, u0, u1, u2, u3, u4, hF, k⟩ := write_ok h5 b27 b28 b29 b30 b31 (reg - 16) v hv.1 hv.2
    exact ⟨_, _, _, _, _, _, _, _, _, _, _, _, _, _, _, _, _, _, _, _, _, _, _, _, _, _, _, _, _, _, _, _, _, _, _, _, _, _, _, _, _, _, _, _, _, _, _, _, _, _, _, _, _, _, _, _, _, _, _, _, _, _, _, _, _, _, _, _, _, _, _, _, _, _, _, _, _, _, _, _, _, _, wdmc p0 p1 p2 p3 p4 p5 p6 p7 p8 p9 u0 u1 u2 u3 u4 hr hF, h1, h2, h3, h4, k, h6, h7⟩
  · exact ⟨_, _, _, _, _, _, _, _, _, _, _, _, _, _, _, _, _, _, _, _, _, _, _, _, _, _, _, _, _, _, _, _, _, _, _, _, _, _, _, _, _, _, _, _, _, _, _, _, _, _, _, _, _, _, _, _, _, _, _, _, _, _, _, _, _, _, _, _, _, _, _, _, _, _, _, _, _, _, _, _, _, _, w20 hr, hA⟩
  · exact ⟨_, _, _, _, _, _, _, _, _, _, _, _, _, _, _, _, _, _, _, _, _, _, _, _, _, _, _, _, _, _, _, _, _, _, _, _, _, _, _, _, _, _, _, _, _, _, _, _, _, _, _, _, _, _, _, _, _, _, _, _, _, _, _, _, _, _, _, _, _, _, _, _, _, _, _, _, _, _, _, _, _, _, won _ _ _ _ _ _ _ _ _ _ _ _ _ _ _ _ _ _ _ _ _ _ _ _ _ _ _ _ _ _ _ _ _ _ _ _ _ _ _ _ _ _ _ _ _ _ _ _ _ _ _ _ _ _ _ _ _ _ _ _ _ _ _ _ _ _ _ _ _ _ _ _ _ _ _ _ _ _ _ _ _ _ hr (q22 _ _ _ _ _ _ _ _ _ _ _ _ _ _ _ _ _ _ _ _ _ _ _ _ _ _ _ _ _ _ _ _ _ _ _ _ _ _ _ _ _ _ _ _ _ _ v _ _ _ _ _ _ _ _ _ _ _ _ _ _ _ _ _ _ _ _ _ _ _ _ _ _ _ _ _ _ _ _ _ _ _ _ h5.may hv), kp22 _ _ _ _ _ _ _ _ _ _ _ _ _ _ _ _ _ _ _ _ _ _ _ _ _ _ _ _ _ _ _ _ _ _ _ _ _ _ _ _ _ _ _ _ _ _ v b0 b1 b2 b3 b4 b5 b6 b7 b8 b9 b10 b11 b12 b13 b14 b15 b16 b17 b18 b19 b20 b21 b22 b23 b24 b25 b26 b27 b28 b29 b30 b31 b32 b33 b34 b35 hA hv⟩
  · exact ⟨_, _, _, _, _, _, _, _, _, _, _, _, _, _, _, _, _, _, _, _, _, _, _, _, _, _, _, _, _, _, _, _, _, _, _, _, _, _, _, _, _, _, _, _, _, _, _, _, _, _, _, _, _, _, _, _, _, _, _, _, _, _, _, _, _, _, _, _, _, _, _, _, _, _, _, _, _, _, _, _, _, _, w22 hr, hA⟩
  · by_cases h8 : 128 ≤ v
    · obtain ⟨c0, c1, c2, c3, c4, c5, c6, c7, c8, c9, c10, c11, c12, c13, c14, c15, c16, c17, c18, c19, c20, c21, c22, c23, c24, c25, c26, c27, c28, c29, c30, c31, c32, c33, c34, x0, x1, x2, x3, x4, x5, x6, x7, x8, x9, x10, x11, x12, x13, x14, x15, x16, x17, x18, x19, x20, x21, x22, x23, x24, x25, x26, hF, k1, k2, k3, k4⟩ := kp23 i0 i1 i2 i3 i4 i5 i6 i7 i8 i9 i10 i11 i12 i13 i14 i15 i16 i17 i18 i19 i20 i21 i22 i23 i24 i25 i26 i27 i28 i29 i30 i31 i32 i33 i34 i35 i36 i37 i38 i39 i40 i41 i42 i43 i44 0 b0 b1 b2 b3 b4 b5 b6 b7 b8 b9 b10 b11 b12 b13 b14 b15 b16 b17 b18 b19 b20 b21 b22 b23 b24 b25 b26 b27 b28 b29 b30 b31 true (decide (v / 64 % 2 = 1)) (b34 && !(decide (v / 64 % 2 = 1))) b35 ⟨h1, h2, h3, h4⟩
      exact ⟨_, _, _, _, _, _, _, _, _, _, _, _, _, _, _, _, _, _, _, _, _, _, _, _, _, _, _, _, _, _, _, _, _, _, _, _, _, _, _, _, _, _, _, _, _, _, _, _, _, _, _, _, _, _, _, _, _, _, _, _, _, _, _, _, _, _, _, _, _, _, _, _, _, _, _, _, _, _, _, _, _, _, wf _ _ _ _ _ _ _ _ _ _ _ _ _ _ _ _ _ _ _ _ _ _ _ _ _ _ _ _ _ _ _ _ _ _ _ _ _ _ _ _ _ _ _ _ _ _ _ _ _ _ _ _ _ _ _ _ _ _ _ _ _ _ _ _ _ _ _ _ _ _ _ _ _ _ _ _ _ _ _ _ _ _ hr h8 hF, k1, k2, k3, k4, h5, Int.le_refl 0, by decide⟩
    · exact ⟨_, _, _, _, _, _, _, _, _, _, _, _, _, _, _, _, _, _, _, _, _, _, _, _, _, _, _, _, _, _, _, _, _, _, _, _, _, _, _, _, _, _, _, _, _, _, _, _, _, _, _, _, _, _, _, _, _, _, _, _, _, _, _, _, _, _, _, _, _, _, _, _, _, _, _, _, _, _, _, _, _, _, wh hr (Int.not_le.1 h8), h1, h2, h3, h4, h5, Int.le_refl 0, by decide⟩
  · exact ⟨_, _, _, _, _, _, _, _, _, _, _, _, _, _, _, _, _, _, _, _, _, _, _, _, _, _, _, _, _, _, _, _, _, _, _, _, _, _, _, _, _, _, _, _, _, _, _, _, _, _, _, _, _, _, _, _, _, _, _, _, _, _, _, _, _, _, _, _, _, _, _, _, _, _, _, _, _, _, _, _, _, _, wbig hr, hA⟩
end Go.Proofs.YtdpogmikhfgcmaaDoor.Ap
