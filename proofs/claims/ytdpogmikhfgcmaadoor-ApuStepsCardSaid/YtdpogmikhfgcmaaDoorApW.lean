/-
  apu: a register written, class by class. WRITTEN BY PROGRAM (wip/gen/ap4.py). No condition.
-/
import Derived.Test.YtdpogmikhfgcmaaDoorApA
set_option linter.unusedVariables false
set_option linter.unusedSimpArgs false
namespace Go.Proofs.YtdpogmikhfgcmaaDoor.Ap
open Go Go.Proofs.YtdpogmikhfgcmaaDoor.Sx

theorem rc_neg (reg : Int) (h : reg < 0) : decide (reg < 0) = true ∧ decide (reg < 8) = true ∧ decide (reg < 12) = true ∧ decide (reg < 16) = true ∧ decide (reg < 20) = true ∧ (reg == 21) = false ∧ (reg == 23) = false := ⟨decide_eq_true (by omega), decide_eq_true (by omega), decide_eq_true (by omega), decide_eq_true (by omega), decide_eq_true (by omega), by simp only [beq_eq_false_iff_ne]; omega, by simp only [beq_eq_false_iff_ne]; omega⟩
theorem rc_one (reg : Int) (h : 0 ≤ reg ∧ reg ≤ 3) : decide (reg < 0) = false ∧ decide (reg < 8) = true ∧ decide (reg < 12) = true ∧ decide (reg < 16) = true ∧ decide (reg < 20) = true ∧ (reg == 21) = false ∧ (reg == 23) = false := ⟨decide_eq_false (by omega), decide_eq_true (by omega), decide_eq_true (by omega), decide_eq_true (by omega), decide_eq_true (by omega), by simp only [beq_eq_false_iff_ne]; omega, by simp only [beq_eq_false_iff_ne]; omega⟩
theorem rc_two (reg : Int) (h : 4 ≤ reg ∧ reg ≤ 7) : decide (reg < 0) = false ∧ decide (reg < 8) = true ∧ decide (reg < 12) = true ∧ decide (reg < 16) = true ∧ decide (reg < 20) = true ∧ (reg == 21) = false ∧ (reg == 23) = false := ⟨decide_eq_false (by omega), decide_eq_true (by omega), decide_eq_true (by omega), decide_eq_true (by omega), decide_eq_true (by omega), by simp only [beq_eq_false_iff_ne]; omega, by simp only [beq_eq_false_iff_ne]; omega⟩
theorem rc_tri (reg : Int) (h : 8 ≤ reg ∧ reg ≤ 11) : decide (reg < 0) = false ∧ decide (reg < 8) = false ∧ decide (reg < 12) = true ∧ decide (reg < 16) = true ∧ decide (reg < 20) = true ∧ (reg == 21) = false ∧ (reg == 23) = false := ⟨decide_eq_false (by omega), decide_eq_false (by omega), decide_eq_true (by omega), decide_eq_true (by omega), decide_eq_true (by omega), by simp only [beq_eq_false_iff_ne]; omega, by simp only [beq_eq_false_iff_ne]; omega⟩
theorem rc_noi (reg : Int) (h : 12 ≤ reg ∧ reg ≤ 15) : decide (reg < 0) = false ∧ decide (reg < 8) = false ∧ decide (reg < 12) = false ∧ decide (reg < 16) = true ∧ decide (reg < 20) = true ∧ (reg == 21) = false ∧ (reg == 23) = false := ⟨decide_eq_false (by omega), decide_eq_false (by omega), decide_eq_false (by omega), decide_eq_true (by omega), decide_eq_true (by omega), by simp only [beq_eq_false_iff_ne]; omega, by simp only [beq_eq_false_iff_ne]; omega⟩
theorem rc_dmc (reg : Int) (h : 16 ≤ reg ∧ reg ≤ 19) : decide (reg < 0) = false ∧ decide (reg < 8) = false ∧ decide (reg < 12) = false ∧ decide (reg < 16) = false ∧ decide (reg < 20) = true ∧ (reg == 21) = false ∧ (reg == 23) = false := ⟨decide_eq_false (by omega), decide_eq_false (by omega), decide_eq_false (by omega), decide_eq_false (by omega), decide_eq_true (by omega), by simp only [beq_eq_false_iff_ne]; omega, by simp only [beq_eq_false_iff_ne]; omega⟩
theorem rc_n20 (reg : Int) (h : reg = 20) : decide (reg < 0) = false ∧ decide (reg < 8) = false ∧ decide (reg < 12) = false ∧ decide (reg < 16) = false ∧ decide (reg < 20) = false ∧ (reg == 21) = false ∧ (reg == 23) = false := ⟨decide_eq_false (by omega), decide_eq_false (by omega), decide_eq_false (by omega), decide_eq_false (by omega), decide_eq_false (by omega), by simp only [beq_eq_false_iff_ne]; omega, by simp only [beq_eq_false_iff_ne]; omega⟩
theorem rc_on (reg : Int) (h : reg = 21) : decide (reg < 0) = false ∧ decide (reg < 8) = false ∧ decide (reg < 12) = false ∧ decide (reg < 16) = false ∧ decide (reg < 20) = false ∧ (reg == 21) = true ∧ (reg == 23) = false := ⟨decide_eq_false (by omega), decide_eq_false (by omega), decide_eq_false (by omega), decide_eq_false (by omega), decide_eq_false (by omega), by simp only [beq_iff_eq]; omega, by simp only [beq_eq_false_iff_ne]; omega⟩
theorem rc_n22 (reg : Int) (h : reg = 22) : decide (reg < 0) = false ∧ decide (reg < 8) = false ∧ decide (reg < 12) = false ∧ decide (reg < 16) = false ∧ decide (reg < 20) = false ∧ (reg == 21) = false ∧ (reg == 23) = false := ⟨decide_eq_false (by omega), decide_eq_false (by omega), decide_eq_false (by omega), decide_eq_false (by omega), decide_eq_false (by omega), by simp only [beq_eq_false_iff_ne]; omega, by simp only [beq_eq_false_iff_ne]; omega⟩
theorem rc_f23 (reg : Int) (h : reg = 23) : decide (reg < 0) = false ∧ decide (reg < 8) = false ∧ decide (reg < 12) = false ∧ decide (reg < 16) = false ∧ decide (reg < 20) = false ∧ (reg == 21) = false ∧ (reg == 23) = true := ⟨decide_eq_false (by omega), decide_eq_false (by omega), decide_eq_false (by omega), decide_eq_false (by omega), decide_eq_false (by omega), by simp only [beq_eq_false_iff_ne]; omega, by simp only [beq_iff_eq]; omega⟩
theorem rc_big (reg : Int) (h : 24 ≤ reg) : decide (reg < 0) = false ∧ decide (reg < 8) = false ∧ decide (reg < 12) = false ∧ decide (reg < 16) = false ∧ decide (reg < 20) = false ∧ (reg == 21) = false ∧ (reg == 23) = false := ⟨decide_eq_false (by omega), decide_eq_false (by omega), decide_eq_false (by omega), decide_eq_false (by omega), decide_eq_false (by omega), by simp only [beq_eq_false_iff_ne]; omega, by simp only [beq_eq_false_iff_ne]; omega⟩
theorem tt {α : Type} {a x y z : α} {c : Bool} {i : Decidable (c = true)} (h : a = @ite α (c = true) i x y) (hc : c = true) (hz : x = z) : a = z := by rw [h, if_pos hc, hz]
theorem th {α : Type} {a x y : α} {c : Bool} {i : Decidable (c = true)} (h : a = @ite α (c = true) i x y) (hc : c = true) : a = x := by rw [h, if_pos hc]
theorem ft {α : Type} {a x y z : α} {c : Bool} {i : Decidable (c = true)} (h : a = @ite α (c = true) i x y) (hc : c = false) (hz : y = z) : a = z := by rw [h, if_neg (Bool.eq_false_iff.1 hc), hz]
theorem fh {α : Type} {a x y : α} {c : Bool} {i : Decidable (c = true)} (h : a = @ite α (c = true) i x y) (hc : c = false) : a = y := by rw [h, if_neg (Bool.eq_false_iff.1 hc)]
theorem gi {a d : Int} {k : Nat} {p q : List Int × List Bool} (h : a = p.1.getD k d) (e : p = q) : a = q.1.getD k d := by rw [h, e]
theorem gb {a d : Bool} {k : Nat} {p q : List Int × List Bool} (h : a = p.2.getD k d) (e : p = q) : a = q.2.getD k d := by rw [h, e]
theorem quo64 (x : Int) (h : 0 ≤ x ∧ x < 1000) : arI .quo .i64 x 4 = x / 4 := by
  show IntKind.wrap .i64 (x.tdiv 4) = x / 4
  rw [Int.tdiv_eq_ediv_of_nonneg h.1, wrap_i64_in (by omega) (by omega)]
theorem rem64 (x : Int) (h : 0 ≤ x) (c : Int) : arI .rem .i64 x c = x % c := by rw [rem_eq, if_pos h]
theorem sub64_in (x c : Int) (h : 0 ≤ x ∧ x < 1000) (h' : 0 ≤ c ∧ c < 1000) : arI .sub .i64 x c = x - c := by
  rw [sub64, wrap_i64_in (by omega) (by omega)]
theorem and8_flag (v k : Int) (h : 0 ≤ v ∧ v ≤ 255) : True := trivial
theorem reg_sm {reg : Int} {a b : Int} (h : a ≤ reg ∧ reg ≤ b) (ha : 0 ≤ a := by decide) (hb : b < 1000 := by decide) : 0 ≤ reg ∧ reg < 1000 := by omega
theorem reg_q0 {reg : Int} (h : 0 ≤ reg ∧ reg ≤ 3) : reg / 4 = 0 := by omega
theorem reg_q1 {reg : Int} (h : 4 ≤ reg ∧ reg ≤ 7) : reg / 4 = 1 := by omega
theorem reg_r0 {reg : Int} (h : 0 ≤ reg ∧ reg ≤ 3) : reg % 4 = reg := by omega
theorem reg_r1 {reg : Int} (h : 4 ≤ reg ∧ reg ≤ 7) : reg % 4 = reg - 4 := by omega
theorem reg_w {reg : Int} {a b c : Int} (h : a ≤ reg ∧ reg ≤ b) (ha : 0 ≤ a := by decide) (hb : b < 1000 := by decide) (hc : 0 ≤ c ∧ c < 1000 := by decide) : -9223372036854775808 ≤ reg - c ∧ reg - c < 9223372036854775808 := by omega
theorem m128 (v : Int) (hv : 0 ≤ v ∧ v ≤ 255) : 0 < 128 * (v % 256 / 128) ↔ 128 ≤ v := by omega
theorem m64 (v : Int) (hv : 0 ≤ v ∧ v ≤ 255) : 0 < 64 * (v % 256 / 64 % 2) ↔ v / 64 % 2 = 1 := by omega
set_option maxRecDepth 20000 in
set_option maxHeartbeats 4000000 in
theorem w8 (i0 i1 i2 i3 i4 i5 i6 i7 i8 i9 i10 i11 i12 i13 i14 i15 i16 i17 i18 i19 i20 i21 i22 i23 i24 i25 i26 i27 i28 i29 i30 i31 i32 i33 i34 i35 i36 i37 i38 i39 i40 i41 i42 i43 i44 i45 reg v : Int) (b0 b1 b2 b3 b4 b5 b6 b7 b8 b9 b10 b11 b12 b13 b14 b15 b16 b17 b18 b19 b20 b21 b22 b23 b24 b25 b26 b27 b28 b29 b30 b31 b32 b33 b34 b35 : Bool) (hA : Ak i0 i1 i2 i3 i4 i5 i6 i7 i8 i9 i10 i11 i12 i13 i14 i15 i16 i17 i18 i19 i20 i21 i22 i23 i24 i25 i26 i27 i28 i29 i30 i31 i32 i33 i34 i35 i36 i37 i38 i39 i40 i41 i42 i43 i44 i45 b32) (hv : 0 ≤ v ∧ v ≤ 255) :
  (reg < 0 → F8 [i0, i1, i2, i3, i4, i5, i6, i7, i8, i9, i10, i11, i12, i13, i14, i15, i16, i17, i18, i19, i20, i21, i22, i23, i24, i25, i26, i27, i28, i29, i30, i31, i32, i33, i34, i35, i36, i37, i38, i39, i40, i41, i42, i43, i44, i45, reg, v] [b0, b1, b2, b3, b4, b5, b6, b7, b8, b9, b10, b11, b12, b13, b14, b15, b16, b17, b18, b19, b20, b21, b22, b23, b24, b25, b26, b27, b28, b29, b30, b31, b32, b33, b34, b35] = ([i0, i1, i2, i3, i4, i5, i6, i7, i8, i9, i10, i11, i12, i13, i14, i15, i16, i17, i18, i19, i20, i21, i22, i23, i24, i25, i26, i27, i28, i29, i30, i31, i32, i33, i34, i35, i36, i37, i38, i39, i40, i41, i42, i43, i44, i45, 0], [true, b0, b1, b2, b3, b4, b5, b6, b7, b8, b9, b10, b11, b12, b13, b14, b15, b16, b17, b18, b19, b20, b21, b22, b23, b24, b25, b26, b27, b28, b29, b30, b31, b32, b33, b34, b35])) ∧
  (∀ (c0 c1 c2 c3 c4 c5 c6 c7 c8 c9 c10 : Int) (x0 x1 x2 x3 x4 x5 x6 x7 x8 : Bool), 0 ≤ reg ∧ reg ≤ 3 → F18 [i0, i1, i2, i3, i4, i5, i6, i7, i8, i9, i10, reg, v] [b0, b1, b2, b3, b4, b5, b6, b7, b8] = ([c0, c1, c2, c3, c4, c5, c6, c7, c8, c9, c10], [true, x0, x1, x2, x3, x4, x5, x6, x7, x8]) → F8 [i0, i1, i2, i3, i4, i5, i6, i7, i8, i9, i10, i11, i12, i13, i14, i15, i16, i17, i18, i19, i20, i21, i22, i23, i24, i25, i26, i27, i28, i29, i30, i31, i32, i33, i34, i35, i36, i37, i38, i39, i40, i41, i42, i43, i44, i45, reg, v] [b0, b1, b2, b3, b4, b5, b6, b7, b8, b9, b10, b11, b12, b13, b14, b15, b16, b17, b18, b19, b20, b21, b22, b23, b24, b25, b26, b27, b28, b29, b30, b31, b32, b33, b34, b35] = ([c0, c1, c2, c3, c4, c5, c6, c7, c8, c9, c10, i11, i12, i13, i14, i15, i16, i17, i18, i19, i20, i21, i22, i23, i24, i25, i26, i27, i28, i29, i30, i31, i32, i33, i34, i35, i36, i37, i38, i39, i40, i41, i42, i43, i44, i45, 0], [true, x0, x1, x2, x3, x4, x5, x6, x7, x8, b9, b10, b11, b12, b13, b14, b15, b16, b17, b18, b19, b20, b21, b22, b23, b24, b25, b26, b27, b28, b29, b30, b31, b32, b33, b34, b35])) ∧
  (∀ (c11 c12 c13 c14 c15 c16 c17 c18 c19 c20 c21 : Int) (x9 x10 x11 x12 x13 x14 x15 x16 x17 : Bool), 4 ≤ reg ∧ reg ≤ 7 → F18 [i11, i12, i13, i14, i15, i16, i17, i18, i19, i20, i21, (reg - 4), v] [b9, b10, b11, b12, b13, b14, b15, b16, b17] = ([c11, c12, c13, c14, c15, c16, c17, c18, c19, c20, c21], [true, x9, x10, x11, x12, x13, x14, x15, x16, x17]) → F8 [i0, i1, i2, i3, i4, i5, i6, i7, i8, i9, i10, i11, i12, i13, i14, i15, i16, i17, i18, i19, i20, i21, i22, i23, i24, i25, i26, i27, i28, i29, i30, i31, i32, i33, i34, i35, i36, i37, i38, i39, i40, i41, i42, i43, i44, i45, reg, v] [b0, b1, b2, b3, b4, b5, b6, b7, b8, b9, b10, b11, b12, b13, b14, b15, b16, b17, b18, b19, b20, b21, b22, b23, b24, b25, b26, b27, b28, b29, b30, b31, b32, b33, b34, b35] = ([i0, i1, i2, i3, i4, i5, i6, i7, i8, i9, i10, c11, c12, c13, c14, c15, c16, c17, c18, c19, c20, c21, i22, i23, i24, i25, i26, i27, i28, i29, i30, i31, i32, i33, i34, i35, i36, i37, i38, i39, i40, i41, i42, i43, i44, i45, 0], [true, b0, b1, b2, b3, b4, b5, b6, b7, b8, x9, x10, x11, x12, x13, x14, x15, x16, x17, b18, b19, b20, b21, b22, b23, b24, b25, b26, b27, b28, b29, b30, b31, b32, b33, b34, b35])) ∧
  (∀ (c22 c23 c24 c25 c26 c27 : Int) (x18 x19 x20 : Bool), 8 ≤ reg ∧ reg ≤ 11 → F19 [i22, i23, i24, i25, i26, i27, (reg - 8), v] [b18, b19, b20] = ([c22, c23, c24, c25, c26, c27], [true, x18, x19, x20]) → F8 [i0, i1, i2, i3, i4, i5, i6, i7, i8, i9, i10, i11, i12, i13, i14, i15, i16, i17, i18, i19, i20, i21, i22, i23, i24, i25, i26, i27, i28, i29, i30, i31, i32, i33, i34, i35, i36, i37, i38, i39, i40, i41, i42, i43, i44, i45, reg, v] [b0, b1, b2, b3, b4, b5, b6, b7, b8, b9, b10, b11, b12, b13, b14, b15, b16, b17, b18, b19, b20, b21, b22, b23, b24, b25, b26, b27, b28, b29, b30, b31, b32, b33, b34, b35] = ([i0, i1, i2, i3, i4, i5, i6, i7, i8, i9, i10, i11, i12, i13, i14, i15, i16, i17, i18, i19, i20, i21, c22, c23, c24, c25, c26, c27, i28, i29, i30, i31, i32, i33, i34, i35, i36, i37, i38, i39, i40, i41, i42, i43, i44, i45, 0], [true, b0, b1, b2, b3, b4, b5, b6, b7, b8, b9, b10, b11, b12, b13, b14, b15, b16, b17, x18, x19, x20, b21, b22, b23, b24, b25, b26, b27, b28, b29, b30, b31, b32, b33, b34, b35])) ∧
  (∀ (c28 c29 c30 c31 c32 c33 c34 : Int) (x21 x22 x23 x24 x25 x26 : Bool), 12 ≤ reg ∧ reg ≤ 15 → F20 [i28, i29, i30, i31, i32, i33, i34, (reg - 12), v] [b21, b22, b23, b24, b25, b26] = ([c28, c29, c30, c31, c32, c33, c34], [true, x21, x22, x23, x24, x25, x26]) → F8 [i0, i1, i2, i3, i4, i5, i6, i7, i8, i9, i10, i11, i12, i13, i14, i15, i16, i17, i18, i19, i20, i21, i22, i23, i24, i25, i26, i27, i28, i29, i30, i31, i32, i33, i34, i35, i36, i37, i38, i39, i40, i41, i42, i43, i44, i45, reg, v] [b0, b1, b2, b3, b4, b5, b6, b7, b8, b9, b10, b11, b12, b13, b14, b15, b16, b17, b18, b19, b20, b21, b22, b23, b24, b25, b26, b27, b28, b29, b30, b31, b32, b33, b34, b35] = ([i0, i1, i2, i3, i4, i5, i6, i7, i8, i9, i10, i11, i12, i13, i14, i15, i16, i17, i18, i19, i20, i21, i22, i23, i24, i25, i26, i27, c28, c29, c30, c31, c32, c33, c34, i35, i36, i37, i38, i39, i40, i41, i42, i43, i44, i45, 0], [true, b0, b1, b2, b3, b4, b5, b6, b7, b8, b9, b10, b11, b12, b13, b14, b15, b16, b17, b18, b19, b20, x21, x22, x23, x24, x25, x26, b27, b28, b29, b30, b31, b32, b33, b34, b35])) ∧
  (∀ (c35 c36 c37 c38 c39 c40 c41 c42 c43 c44 : Int) (x27 x28 x29 x30 x31 : Bool), 16 ≤ reg ∧ reg ≤ 19 → F21 [i35, i36, i37, i38, i39, i40, i41, i42, i43, i44, (reg - 16), v] [b27, b28, b29, b30, b31] = ([c35, c36, c37, c38, c39, c40, c41, c42, c43, c44], [x27, x28, x29, x30, x31]) → F8 [i0, i1, i2, i3, i4, i5, i6, i7, i8, i9, i10, i11, i12, i13, i14, i15, i16, i17, i18, i19, i20, i21, i22, i23, i24, i25, i26, i27, i28, i29, i30, i31, i32, i33, i34, i35, i36, i37, i38, i39, i40, i41, i42, i43, i44, i45, reg, v] [b0, b1, b2, b3, b4, b5, b6, b7, b8, b9, b10, b11, b12, b13, b14, b15, b16, b17, b18, b19, b20, b21, b22, b23, b24, b25, b26, b27, b28, b29, b30, b31, b32, b33, b34, b35] = ([i0, i1, i2, i3, i4, i5, i6, i7, i8, i9, i10, i11, i12, i13, i14, i15, i16, i17, i18, i19, i20, i21, i22, i23, i24, i25, i26, i27, i28, i29, i30, i31, i32, i33, i34, c35, c36, c37, c38, c39, c40, c41, c42, c43, c44, i45, 0], [true, b0, b1, b2, b3, b4, b5, b6, b7, b8, b9, b10, b11, b12, b13, b14, b15, b16, b17, b18, b19, b20, b21, b22, b23, b24, b25, b26, x27, x28, x29, x30, x31, b32, b33, b34, b35])) ∧
  (reg = 20 → F8 [i0, i1, i2, i3, i4, i5, i6, i7, i8, i9, i10, i11, i12, i13, i14, i15, i16, i17, i18, i19, i20, i21, i22, i23, i24, i25, i26, i27, i28, i29, i30, i31, i32, i33, i34, i35, i36, i37, i38, i39, i40, i41, i42, i43, i44, i45, reg, v] [b0, b1, b2, b3, b4, b5, b6, b7, b8, b9, b10, b11, b12, b13, b14, b15, b16, b17, b18, b19, b20, b21, b22, b23, b24, b25, b26, b27, b28, b29, b30, b31, b32, b33, b34, b35] = ([i0, i1, i2, i3, i4, i5, i6, i7, i8, i9, i10, i11, i12, i13, i14, i15, i16, i17, i18, i19, i20, i21, i22, i23, i24, i25, i26, i27, i28, i29, i30, i31, i32, i33, i34, i35, i36, i37, i38, i39, i40, i41, i42, i43, i44, i45, 0], [true, b0, b1, b2, b3, b4, b5, b6, b7, b8, b9, b10, b11, b12, b13, b14, b15, b16, b17, b18, b19, b20, b21, b22, b23, b24, b25, b26, b27, b28, b29, b30, b31, b32, b33, b34, b35])) ∧
  (∀ (c0 c1 c2 c3 c4 c5 c6 c7 c8 c9 c10 c11 c12 c13 c14 c15 c16 c17 c18 c19 c20 c21 c22 c23 c24 c25 c26 c27 c28 c29 c30 c31 c32 c33 c34 c35 c36 c37 c38 c39 c40 c41 c42 c43 c44 c45 : Int) (x0 x1 x2 x3 x4 x5 x6 x7 x8 x9 x10 x11 x12 x13 x14 x15 x16 x17 x18 x19 x20 x21 x22 x23 x24 x25 x26 x27 x28 x29 x30 x31 x32 x33 x34 x35 : Bool), reg = 21 → F22 [i0, i1, i2, i3, i4, i5, i6, i7, i8, i9, i10, i11, i12, i13, i14, i15, i16, i17, i18, i19, i20, i21, i22, i23, i24, i25, i26, i27, i28, i29, i30, i31, i32, i33, i34, i35, i36, i37, i38, i39, i40, i41, i42, i43, i44, i45, v] [b0, b1, b2, b3, b4, b5, b6, b7, b8, b9, b10, b11, b12, b13, b14, b15, b16, b17, b18, b19, b20, b21, b22, b23, b24, b25, b26, b27, b28, b29, b30, b31, b32, b33, b34, b35] = ([c0, c1, c2, c3, c4, c5, c6, c7, c8, c9, c10, c11, c12, c13, c14, c15, c16, c17, c18, c19, c20, c21, c22, c23, c24, c25, c26, c27, c28, c29, c30, c31, c32, c33, c34, c35, c36, c37, c38, c39, c40, c41, c42, c43, c44, c45], [x0, x1, x2, x3, x4, x5, x6, x7, x8, x9, x10, x11, x12, x13, x14, x15, x16, x17, x18, x19, x20, x21, x22, x23, x24, x25, x26, x27, x28, x29, x30, x31, x32, x33, x34, x35]) → F8 [i0, i1, i2, i3, i4, i5, i6, i7, i8, i9, i10, i11, i12, i13, i14, i15, i16, i17, i18, i19, i20, i21, i22, i23, i24, i25, i26, i27, i28, i29, i30, i31, i32, i33, i34, i35, i36, i37, i38, i39, i40, i41, i42, i43, i44, i45, reg, v] [b0, b1, b2, b3, b4, b5, b6, b7, b8, b9, b10, b11, b12, b13, b14, b15, b16, b17, b18, b19, b20, b21, b22, b23, b24, b25, b26, b27, b28, b29, b30, b31, b32, b33, b34, b35] = ([c0, c1, c2, c3, c4, c5, c6, c7, c8, c9, c10, c11, c12, c13, c14, c15, c16, c17, c18, c19, c20, c21, c22, c23, c24, c25, c26, c27, c28, c29, c30, c31, c32, c33, c34, c35, c36, c37, c38, c39, c40, c41, c42, c43, c44, c45, 0], [true, x0, x1, x2, x3, x4, x5, x6, x7, x8, x9, x10, x11, x12, x13, x14, x15, x16, x17, x18, x19, x20, x21, x22, x23, x24, x25, x26, x27, x28, x29, x30, x31, x32, x33, x34, x35])) ∧
  (reg = 22 → F8 [i0, i1, i2, i3, i4, i5, i6, i7, i8, i9, i10, i11, i12, i13, i14, i15, i16, i17, i18, i19, i20, i21, i22, i23, i24, i25, i26, i27, i28, i29, i30, i31, i32, i33, i34, i35, i36, i37, i38, i39, i40, i41, i42, i43, i44, i45, reg, v] [b0, b1, b2, b3, b4, b5, b6, b7, b8, b9, b10, b11, b12, b13, b14, b15, b16, b17, b18, b19, b20, b21, b22, b23, b24, b25, b26, b27, b28, b29, b30, b31, b32, b33, b34, b35] = ([i0, i1, i2, i3, i4, i5, i6, i7, i8, i9, i10, i11, i12, i13, i14, i15, i16, i17, i18, i19, i20, i21, i22, i23, i24, i25, i26, i27, i28, i29, i30, i31, i32, i33, i34, i35, i36, i37, i38, i39, i40, i41, i42, i43, i44, i45, 0], [true, b0, b1, b2, b3, b4, b5, b6, b7, b8, b9, b10, b11, b12, b13, b14, b15, b16, b17, b18, b19, b20, b21, b22, b23, b24, b25, b26, b27, b28, b29, b30, b31, b32, b33, b34, b35])) ∧
  (∀ (c0 c1 c2 c3 c4 c5 c6 c7 c8 c9 c10 c11 c12 c13 c14 c15 c16 c17 c18 c19 c20 c21 c22 c23 c24 c25 c26 c27 c28 c29 c30 c31 c32 c33 c34 c35 c36 c37 c38 c39 c40 c41 c42 c43 c44 c45 : Int) (x0 x1 x2 x3 x4 x5 x6 x7 x8 x9 x10 x11 x12 x13 x14 x15 x16 x17 x18 x19 x20 x21 x22 x23 x24 x25 x26 x27 x28 x29 x30 x31 x32 x33 x34 x35 : Bool), reg = 23 → 128 ≤ v → F23 [i0, i1, i2, i3, i4, i5, i6, i7, i8, i9, i10, i11, i12, i13, i14, i15, i16, i17, i18, i19, i20, i21, i22, i23, i24, i25, i26, i27, i28, i29, i30, i31, i32, i33, i34, i35, i36, i37, i38, i39, i40, i41, i42, i43, i44, 0] [b0, b1, b2, b3, b4, b5, b6, b7, b8, b9, b10, b11, b12, b13, b14, b15, b16, b17, b18, b19, b20, b21, b22, b23, b24, b25, b26, b27, b28, b29, b30, b31, true, (decide (v / 64 % 2 = 1)), (b34 && !(decide (v / 64 % 2 = 1))), b35] = ([c0, c1, c2, c3, c4, c5, c6, c7, c8, c9, c10, c11, c12, c13, c14, c15, c16, c17, c18, c19, c20, c21, c22, c23, c24, c25, c26, c27, c28, c29, c30, c31, c32, c33, c34, c35, c36, c37, c38, c39, c40, c41, c42, c43, c44, c45], [true, x0, x1, x2, x3, x4, x5, x6, x7, x8, x9, x10, x11, x12, x13, x14, x15, x16, x17, x18, x19, x20, x21, x22, x23, x24, x25, x26, x27, x28, x29, x30, x31, x32, x33, x34, x35]) → F8 [i0, i1, i2, i3, i4, i5, i6, i7, i8, i9, i10, i11, i12, i13, i14, i15, i16, i17, i18, i19, i20, i21, i22, i23, i24, i25, i26, i27, i28, i29, i30, i31, i32, i33, i34, i35, i36, i37, i38, i39, i40, i41, i42, i43, i44, i45, reg, v] [b0, b1, b2, b3, b4, b5, b6, b7, b8, b9, b10, b11, b12, b13, b14, b15, b16, b17, b18, b19, b20, b21, b22, b23, b24, b25, b26, b27, b28, b29, b30, b31, b32, b33, b34, b35] = ([c0, c1, c2, c3, c4, c5, c6, c7, c8, c9, c10, c11, c12, c13, c14, c15, c16, c17, c18, c19, c20, c21, c22, c23, c24, c25, c26, c27, c28, c29, c30, c31, c32, c33, c34, c35, c36, c37, c38, c39, c40, c41, c42, c43, c44, c45, 0], [true, x0, x1, x2, x3, x4, x5, x6, x7, x8, x9, x10, x11, x12, x13, x14, x15, x16, x17, x18, x19, x20, x21, x22, x23, x24, x25, x26, x27, x28, x29, x30, x31, x32, x33, x34, x35])) ∧
  (reg = 23 → v < 128 → F8 [i0, i1, i2, i3, i4, i5, i6, i7, i8, i9, i10, i11, i12, i13, i14, i15, i16, i17, i18, i19, i20, i21, i22, i23, i24, i25, i26, i27, i28, i29, i30, i31, i32, i33, i34, i35, i36, i37, i38, i39, i40, i41, i42, i43, i44, i45, reg, v] [b0, b1, b2, b3, b4, b5, b6, b7, b8, b9, b10, b11, b12, b13, b14, b15, b16, b17, b18, b19, b20, b21, b22, b23, b24, b25, b26, b27, b28, b29, b30, b31, b32, b33, b34, b35] = ([i0, i1, i2, i3, i4, i5, i6, i7, i8, i9, i10, i11, i12, i13, i14, i15, i16, i17, i18, i19, i20, i21, i22, i23, i24, i25, i26, i27, i28, i29, i30, i31, i32, i33, i34, i35, i36, i37, i38, i39, i40, i41, i42, i43, i44, 0, 0], [true, b0, b1, b2, b3, b4, b5, b6, b7, b8, b9, b10, b11, b12, b13, b14, b15, b16, b17, b18, b19, b20, b21, b22, b23, b24, b25, b26, b27, b28, b29, b30, b31, false, (decide (v / 64 % 2 = 1)), (b34 && !(decide (v / 64 % 2 = 1))), b35])) ∧
  (24 ≤ reg → F8 [i0, i1, i2, i3, i4, i5, i6, i7, i8, i9, i10, i11, i12, i13, i14, i15, i16, i17, i18, i19, i20, i21, i22, i23, i24, i25, i26, i27, i28, i29, i30, i31, i32, i33, i34, i35, i36, i37, i38, i39, i40, i41, i42, i43, i44, i45, reg, v] [b0, b1, b2, b3, b4, b5, b6, b7, b8, b9, b10, b11, b12, b13, b14, b15, b16, b17, b18, b19, b20, b21, b22, b23, b24, b25, b26, b27, b28, b29, b30, b31, b32, b33, b34, b35] = ([i0, i1, i2, i3, i4, i5, i6, i7, i8, i9, i10, i11, i12, i13, i14, i15, i16, i17, i18, i19, i20, i21, i22, i23, i24, i25, i26, i27, i28, i29, i30, i31, i32, i33, i34, i35, i36, i37, i38, i39, i40, i41, i42, i43, i44, i45, 0], [true, b0, b1, b2, b3, b4, b5, b6, b7, b8, b9, b10, b11, b12, b13, b14, b15, b16, b17, b18, b19, b20, b21, b22, b23, b24, b25, b26, b27, b28, b29, b30, b31, b32, b33, b34, b35])) := by
  unfold F8
  obtain ⟨ρ, e1, e2, e3, e4⟩ := Smry.run_specT (Φ := tabF T46) (S := S8) (is := [i0, i1, i2, i3, i4, i5, i6, i7, i8, i9, i10, i11, i12, i13, i14, i15, i16, i17, i18, i19, i20, i21, i22, i23, i24, i25, i26, i27, i28, i29, i30, i31, i32, i33, i34, i35, i36, i37, i38, i39, i40, i41, i42, i43, i44, i45, reg, v]) (bs := [b0, b1, b2, b3, b4, b5, b6, b7, b8, b9, b10, b11, b12, b13, b14, b15, b16, b17, b18, b19, b20, b21, b22, b23, b24, b25, b26, b27, b28, b29, b30, b31, b32, b33, b34, b35]) rfl
  rw [e1, obAll_eq]
  clear e1
  simp only [S8, obs, Gd.d_cons, Gd.d_nil, eqns, Em.eqn, headsI, headsB, RI.d, RB.d, A.d, B.d, cm_eql, cm_neq, cm_lss, cm_leq, cm_gtr, cm_geq, List.map_cons, List.map_nil, and_true, Nat.zero_add, Nat.reduceAdd, ltn, upto, true_and, Nat.add_zero, List.getD_cons_zero, List.getD_cons_succ, add8, sub8, add16, sub16, mul16, wrap_u8, wrap_u16, and8_1, and8_7, and8_8, and8_15, and8_16, and8_31, and8_32, and8_64, and8_127, and8_128, and16_1, and16_255, and16_1792, shr8_1, shr8_3, shr8_4, shr8_6, shr16_1, shr16_6, shr16_8, shl16_8, shl16_14] at e2 e3 e4 ⊢
  simp only [e2, e3] at e4 ⊢
  clear e2 e3
  have n11 := hA.c11 (b0 := b0) (b1 := b1) (b2 := b2) (b3 := b3) (b4 := b4) (b5 := b5) (b6 := b6) (b7 := b7) (b8 := b8) (b9 := b9) (b10 := b10) (b11 := b11) (b12 := b12) (b13 := b13) (b14 := b14) (b15 := b15) (b16 := b16) (b17 := b17) (b18 := b18) (b19 := b19) (b20 := b20) (b21 := b21) (b22 := b22) (b23 := b23) (b24 := b24) (b25 := b25) (b26 := b26) (b27 := b27) (b28 := b28) (b29 := b29) (b30 := b30) (b31 := b31) (b32 := b32) (b33 := b33) (b34 := b34) (b35 := b35)
  have hi48 := e4.1
  have r0 := e4.2
  clear e4
  have hb36 := r0.1
  have r1 := r0.2
  clear r0
  have hb37 := r1.1
  have r2 := r1.2
  clear r1
  have hb38 := r2.1
  have r3 := r2.2
  clear r2
  have hi49 := r3.1
  have r4 := r3.2
  clear r3
  have hb39 := r4.1
  have r5 := r4.2
  clear r4
  have hb40 := r5.1
  have r6 := r5.2
  clear r5
  have hb41 := r6.1
  have r7 := r6.2
  clear r6
  have hb42 := r7.1
  have r8 := r7.2
  clear r7
  have hb43 := r8.1
  have r9 := r8.2
  clear r8
  have hb44 := r9.1
  have r10 := r9.2
  clear r9
  have hb45 := r10.1
  have r11 := r10.2
  clear r10
  have hi50 := r11.1
  have r12 := r11.2
  clear r11
  have hi51 := r12.1
  have r13 := r12.2
  clear r12
  have hi52 := r13.1
  have r14 := r13.2
  clear r13
  have hb46 := r14.1
  have r15 := r14.2
  clear r14
  have hb47 := r15.1
  have r16 := r15.2
  clear r15
  have hi53 := r16.1
  have r17 := r16.2
  clear r16
  have hi54 := r17.1
  have r18 := r17.2
  clear r17
  have hi55 := r18.1
  have r19 := r18.2
  clear r18
  have hi56 := r19.1
  have r20 := r19.2
  clear r19
  have hi57 := r20.1
  have r21 := r20.2
  clear r20
  have hb48 := r21.1
  have r22 := r21.2
  clear r21
  have hb49 := r22.1
  have r23 := r22.2
  clear r22
  have hb50 := r23.1
  have r24 := r23.2
  clear r23
  have hi58 := r24.1
  have r25 := r24.2
  clear r24
  have hi59 := r25.1
  have r26 := r25.2
  clear r25
  have hi60 := r26.1
  have r27 := r26.2
  clear r26
  have hi61 := r27.1
  have r28 := r27.2
  clear r27
  have hi62 := r28.1.1.1
  have hi63 := r28.1.1.2.1
  have hi64 := r28.1.1.2.2.1
  have hi65 := r28.1.1.2.2.2.1
  have hi66 := r28.1.1.2.2.2.2.1
  have hi67 := r28.1.1.2.2.2.2.2.1
  have hi68 := r28.1.1.2.2.2.2.2.2.1
  have hi69 := r28.1.1.2.2.2.2.2.2.2.1
  have hi70 := r28.1.1.2.2.2.2.2.2.2.2.1
  have hi71 := r28.1.1.2.2.2.2.2.2.2.2.2.1
  have hi72 := r28.1.1.2.2.2.2.2.2.2.2.2.2
  have hb51 := r28.1.2.1
  have hb52 := r28.1.2.2.1
  have hb53 := r28.1.2.2.2.1
  have hb54 := r28.1.2.2.2.2.1
  have hb55 := r28.1.2.2.2.2.2.1
  have hb56 := r28.1.2.2.2.2.2.2.1
  have hb57 := r28.1.2.2.2.2.2.2.2.1
  have hb58 := r28.1.2.2.2.2.2.2.2.2.1
  have hb59 := r28.1.2.2.2.2.2.2.2.2.2.1
  have hb60 := r28.1.2.2.2.2.2.2.2.2.2.2
  have r29 := r28.2
  clear r28
  have hb61 := r29.1
  have r30 := r29.2
  clear r29
  have hb62 := r30.1
  have r31 := r30.2
  clear r30
  have hb63 := r31.1
  have r32 := r31.2
  clear r31
  have hb64 := r32.1
  have r33 := r32.2
  clear r32
  have hb65 := r33.1
  have r34 := r33.2
  clear r33
  have hi73 := r34.1
  have r35 := r34.2
  clear r34
  have hi74 := r35.1
  have r36 := r35.2
  clear r35
  have hi75 := r36.1
  have r37 := r36.2
  clear r36
  have hb66 := r37.1
  have r38 := r37.2
  clear r37
  have hb67 := r38.1
  have r39 := r38.2
  clear r38
  have hi76 := r39.1
  have r40 := r39.2
  clear r39
  have hi77 := r40.1
  have r41 := r40.2
  clear r40
  have hi78 := r41.1
  have r42 := r41.2
  clear r41
  have hi79 := r42.1
  have r43 := r42.2
  clear r42
  have hi80 := r43.1
  have r44 := r43.2
  clear r43
  have hb68 := r44.1
  have r45 := r44.2
  clear r44
  have hb69 := r45.1
  have r46 := r45.2
  clear r45
  have hb70 := r46.1
  have r47 := r46.2
  clear r46
  have hi81 := r47.1
  have r48 := r47.2
  clear r47
  have hi82 := r48.1
  have r49 := r48.2
  clear r48
  have hi83 := r49.1
  have r50 := r49.2
  clear r49
  have hb71 := r50.1
  have r51 := r50.2
  clear r50
  have hb72 := r51.1
  have r52 := r51.2
  clear r51
  have hb73 := r52.1
  have r53 := r52.2
  clear r52
  have hb74 := r53.1
  have r54 := r53.2
  clear r53
  have hi84 := r54.1
  have r55 := r54.2
  clear r54
  have hi85 := r55.1
  have r56 := r55.2
  clear r55
  have hi86 := r56.1
  have r57 := r56.2
  clear r56
  have hb75 := r57.1
  have r58 := r57.2
  clear r57
  have hb76 := r58.1
  have r59 := r58.2
  clear r58
  have hi87 := r59.1
  have r60 := r59.2
  clear r59
  have hi88 := r60.1
  have r61 := r60.2
  clear r60
  have hi89 := r61.1
  have r62 := r61.2
  clear r61
  have hi90 := r62.1
  have r63 := r62.2
  clear r62
  have hi91 := r63.1
  have r64 := r63.2
  clear r63
  have hb77 := r64.1
  have r65 := r64.2
  clear r64
  have hb78 := r65.1
  have r66 := r65.2
  clear r65
  have hb79 := r66.1
  have r67 := r66.2
  clear r66
  have hi92 := r67.1
  have r68 := r67.2
  clear r67
  have hi93 := r68.1
  have r69 := r68.2
  clear r68
  have hi94 := r69.1
  have r70 := r69.2
  clear r69
  have hb80 := r70.1
  have r71 := r70.2
  clear r70
  have hi95 := r71.1
  have r72 := r71.2
  clear r71
  have hi96 := r72.1.1.1
  have hi97 := r72.1.1.2.1
  have hi98 := r72.1.1.2.2.1
  have hi99 := r72.1.1.2.2.2.1
  have hi100 := r72.1.1.2.2.2.2.1
  have hi101 := r72.1.1.2.2.2.2.2
  have hb81 := r72.1.2.1
  have hb82 := r72.1.2.2.1
  have hb83 := r72.1.2.2.2.1
  have hb84 := r72.1.2.2.2.2
  have r73 := r72.2
  clear r72
  have hb85 := r73.1
  have r74 := r73.2
  clear r73
  have hi102 := r74.1
  have r75 := r74.2
  clear r74
  have hi103 := r75.1.1.1
  have hi104 := r75.1.1.2.1
  have hi105 := r75.1.1.2.2.1
  have hi106 := r75.1.1.2.2.2.1
  have hi107 := r75.1.1.2.2.2.2.1
  have hi108 := r75.1.1.2.2.2.2.2.1
  have hi109 := r75.1.1.2.2.2.2.2.2
  have hb86 := r75.1.2.1
  have hb87 := r75.1.2.2.1
  have hb88 := r75.1.2.2.2.1
  have hb89 := r75.1.2.2.2.2.1
  have hb90 := r75.1.2.2.2.2.2.1
  have hb91 := r75.1.2.2.2.2.2.2.1
  have hb92 := r75.1.2.2.2.2.2.2.2
  have r76 := r75.2
  clear r75
  have hb93 := r76.1
  have r77 := r76.2
  clear r76
  have hi110 := r77.1
  have r78 := r77.2
  clear r77
  have hi111 := r78.1.1.1
  have hi112 := r78.1.1.2.1
  have hi113 := r78.1.1.2.2.1
  have hi114 := r78.1.1.2.2.2.1
  have hi115 := r78.1.1.2.2.2.2.1
  have hi116 := r78.1.1.2.2.2.2.2.1
  have hi117 := r78.1.1.2.2.2.2.2.2.1
  have hi118 := r78.1.1.2.2.2.2.2.2.2.1
  have hi119 := r78.1.1.2.2.2.2.2.2.2.2.1
  have hi120 := r78.1.1.2.2.2.2.2.2.2.2.2
  have hb94 := r78.1.2.1
  have hb95 := r78.1.2.2.1
  have hb96 := r78.1.2.2.2.1
  have hb97 := r78.1.2.2.2.2.1
  have hb98 := r78.1.2.2.2.2.2
  have r79 := r78.2
  clear r78
  have hb99 := r79.1
  have r80 := r79.2
  clear r79
  have hi121 := r80.1.1.1
  have hi122 := r80.1.1.2.1
  have hi123 := r80.1.1.2.2.1
  have hi124 := r80.1.1.2.2.2.1
  have hi125 := r80.1.1.2.2.2.2.1
  have hi126 := r80.1.1.2.2.2.2.2.1
  have hi127 := r80.1.1.2.2.2.2.2.2.1
  have hi128 := r80.1.1.2.2.2.2.2.2.2.1
  have hi129 := r80.1.1.2.2.2.2.2.2.2.2.1
  have hi130 := r80.1.1.2.2.2.2.2.2.2.2.2.1
  have hi131 := r80.1.1.2.2.2.2.2.2.2.2.2.2.1
  have hi132 := r80.1.1.2.2.2.2.2.2.2.2.2.2.2.1
  have hi133 := r80.1.1.2.2.2.2.2.2.2.2.2.2.2.2.1
  have hi134 := r80.1.1.2.2.2.2.2.2.2.2.2.2.2.2.2.1
  have hi135 := r80.1.1.2.2.2.2.2.2.2.2.2.2.2.2.2.2.1
  have hi136 := r80.1.1.2.2.2.2.2.2.2.2.2.2.2.2.2.2.2.1
  have hi137 := r80.1.1.2.2.2.2.2.2.2.2.2.2.2.2.2.2.2.2.1
  have hi138 := r80.1.1.2.2.2.2.2.2.2.2.2.2.2.2.2.2.2.2.2.1
  have hi139 := r80.1.1.2.2.2.2.2.2.2.2.2.2.2.2.2.2.2.2.2.2.1
  have hi140 := r80.1.1.2.2.2.2.2.2.2.2.2.2.2.2.2.2.2.2.2.2.2.1
  have hi141 := r80.1.1.2.2.2.2.2.2.2.2.2.2.2.2.2.2.2.2.2.2.2.2.1
  have hi142 := r80.1.1.2.2.2.2.2.2.2.2.2.2.2.2.2.2.2.2.2.2.2.2.2.1
  have hi143 := r80.1.1.2.2.2.2.2.2.2.2.2.2.2.2.2.2.2.2.2.2.2.2.2.2.1
  have hi144 := r80.1.1.2.2.2.2.2.2.2.2.2.2.2.2.2.2.2.2.2.2.2.2.2.2.2.1
  have hi145 := r80.1.1.2.2.2.2.2.2.2.2.2.2.2.2.2.2.2.2.2.2.2.2.2.2.2.2.1
  have hi146 := r80.1.1.2.2.2.2.2.2.2.2.2.2.2.2.2.2.2.2.2.2.2.2.2.2.2.2.2.1
  have hi147 := r80.1.1.2.2.2.2.2.2.2.2.2.2.2.2.2.2.2.2.2.2.2.2.2.2.2.2.2.2.1
  have hi148 := r80.1.1.2.2.2.2.2.2.2.2.2.2.2.2.2.2.2.2.2.2.2.2.2.2.2.2.2.2.2.1
  have hi149 := r80.1.1.2.2.2.2.2.2.2.2.2.2.2.2.2.2.2.2.2.2.2.2.2.2.2.2.2.2.2.2.1
  have hi150 := r80.1.1.2.2.2.2.2.2.2.2.2.2.2.2.2.2.2.2.2.2.2.2.2.2.2.2.2.2.2.2.2.1
  have hi151 := r80.1.1.2.2.2.2.2.2.2.2.2.2.2.2.2.2.2.2.2.2.2.2.2.2.2.2.2.2.2.2.2.2.1
  have hi152 := r80.1.1.2.2.2.2.2.2.2.2.2.2.2.2.2.2.2.2.2.2.2.2.2.2.2.2.2.2.2.2.2.2.2.1
  have hi153 := r80.1.1.2.2.2.2.2.2.2.2.2.2.2.2.2.2.2.2.2.2.2.2.2.2.2.2.2.2.2.2.2.2.2.2.1
  have hi154 := r80.1.1.2.2.2.2.2.2.2.2.2.2.2.2.2.2.2.2.2.2.2.2.2.2.2.2.2.2.2.2.2.2.2.2.2.1
  have hi155 := r80.1.1.2.2.2.2.2.2.2.2.2.2.2.2.2.2.2.2.2.2.2.2.2.2.2.2.2.2.2.2.2.2.2.2.2.2.1
  have hi156 := r80.1.1.2.2.2.2.2.2.2.2.2.2.2.2.2.2.2.2.2.2.2.2.2.2.2.2.2.2.2.2.2.2.2.2.2.2.2.1
  have hi157 := r80.1.1.2.2.2.2.2.2.2.2.2.2.2.2.2.2.2.2.2.2.2.2.2.2.2.2.2.2.2.2.2.2.2.2.2.2.2.2.1
  have hi158 := r80.1.1.2.2.2.2.2.2.2.2.2.2.2.2.2.2.2.2.2.2.2.2.2.2.2.2.2.2.2.2.2.2.2.2.2.2.2.2.2.1
  have hi159 := r80.1.1.2.2.2.2.2.2.2.2.2.2.2.2.2.2.2.2.2.2.2.2.2.2.2.2.2.2.2.2.2.2.2.2.2.2.2.2.2.2.1
  have hi160 := r80.1.1.2.2.2.2.2.2.2.2.2.2.2.2.2.2.2.2.2.2.2.2.2.2.2.2.2.2.2.2.2.2.2.2.2.2.2.2.2.2.2.1
  have hi161 := r80.1.1.2.2.2.2.2.2.2.2.2.2.2.2.2.2.2.2.2.2.2.2.2.2.2.2.2.2.2.2.2.2.2.2.2.2.2.2.2.2.2.2.1
  have hi162 := r80.1.1.2.2.2.2.2.2.2.2.2.2.2.2.2.2.2.2.2.2.2.2.2.2.2.2.2.2.2.2.2.2.2.2.2.2.2.2.2.2.2.2.2.1
  have hi163 := r80.1.1.2.2.2.2.2.2.2.2.2.2.2.2.2.2.2.2.2.2.2.2.2.2.2.2.2.2.2.2.2.2.2.2.2.2.2.2.2.2.2.2.2.2.1
  have hi164 := r80.1.1.2.2.2.2.2.2.2.2.2.2.2.2.2.2.2.2.2.2.2.2.2.2.2.2.2.2.2.2.2.2.2.2.2.2.2.2.2.2.2.2.2.2.2.1
  have hi165 := r80.1.1.2.2.2.2.2.2.2.2.2.2.2.2.2.2.2.2.2.2.2.2.2.2.2.2.2.2.2.2.2.2.2.2.2.2.2.2.2.2.2.2.2.2.2.2.1
  have hi166 := r80.1.1.2.2.2.2.2.2.2.2.2.2.2.2.2.2.2.2.2.2.2.2.2.2.2.2.2.2.2.2.2.2.2.2.2.2.2.2.2.2.2.2.2.2.2.2.2
  have hb100 := r80.1.2.1
  have hb101 := r80.1.2.2.1
  have hb102 := r80.1.2.2.2.1
  have hb103 := r80.1.2.2.2.2.1
  have hb104 := r80.1.2.2.2.2.2.1
  have hb105 := r80.1.2.2.2.2.2.2.1
  have hb106 := r80.1.2.2.2.2.2.2.2.1
  have hb107 := r80.1.2.2.2.2.2.2.2.2.1
  have hb108 := r80.1.2.2.2.2.2.2.2.2.2.1
  have hb109 := r80.1.2.2.2.2.2.2.2.2.2.2.1
  have hb110 := r80.1.2.2.2.2.2.2.2.2.2.2.2.1
  have hb111 := r80.1.2.2.2.2.2.2.2.2.2.2.2.2.1
  have hb112 := r80.1.2.2.2.2.2.2.2.2.2.2.2.2.2.1
  have hb113 := r80.1.2.2.2.2.2.2.2.2.2.2.2.2.2.2.1
  have hb114 := r80.1.2.2.2.2.2.2.2.2.2.2.2.2.2.2.2.1
  have hb115 := r80.1.2.2.2.2.2.2.2.2.2.2.2.2.2.2.2.2.1
  have hb116 := r80.1.2.2.2.2.2.2.2.2.2.2.2.2.2.2.2.2.2.1
  have hb117 := r80.1.2.2.2.2.2.2.2.2.2.2.2.2.2.2.2.2.2.2.1
  have hb118 := r80.1.2.2.2.2.2.2.2.2.2.2.2.2.2.2.2.2.2.2.2.1
  have hb119 := r80.1.2.2.2.2.2.2.2.2.2.2.2.2.2.2.2.2.2.2.2.2.1
  have hb120 := r80.1.2.2.2.2.2.2.2.2.2.2.2.2.2.2.2.2.2.2.2.2.2.1
  have hb121 := r80.1.2.2.2.2.2.2.2.2.2.2.2.2.2.2.2.2.2.2.2.2.2.2.1
  have hb122 := r80.1.2.2.2.2.2.2.2.2.2.2.2.2.2.2.2.2.2.2.2.2.2.2.2.1
  have hb123 := r80.1.2.2.2.2.2.2.2.2.2.2.2.2.2.2.2.2.2.2.2.2.2.2.2.2.1
  have hb124 := r80.1.2.2.2.2.2.2.2.2.2.2.2.2.2.2.2.2.2.2.2.2.2.2.2.2.2.1
  have hb125 := r80.1.2.2.2.2.2.2.2.2.2.2.2.2.2.2.2.2.2.2.2.2.2.2.2.2.2.2.1
  have hb126 := r80.1.2.2.2.2.2.2.2.2.2.2.2.2.2.2.2.2.2.2.2.2.2.2.2.2.2.2.2.1
  have hb127 := r80.1.2.2.2.2.2.2.2.2.2.2.2.2.2.2.2.2.2.2.2.2.2.2.2.2.2.2.2.2.1
  have hb128 := r80.1.2.2.2.2.2.2.2.2.2.2.2.2.2.2.2.2.2.2.2.2.2.2.2.2.2.2.2.2.2.1
  have hb129 := r80.1.2.2.2.2.2.2.2.2.2.2.2.2.2.2.2.2.2.2.2.2.2.2.2.2.2.2.2.2.2.2.1
  have hb130 := r80.1.2.2.2.2.2.2.2.2.2.2.2.2.2.2.2.2.2.2.2.2.2.2.2.2.2.2.2.2.2.2.2.1
  have hb131 := r80.1.2.2.2.2.2.2.2.2.2.2.2.2.2.2.2.2.2.2.2.2.2.2.2.2.2.2.2.2.2.2.2.2.1
  have hb132 := r80.1.2.2.2.2.2.2.2.2.2.2.2.2.2.2.2.2.2.2.2.2.2.2.2.2.2.2.2.2.2.2.2.2.2.1
  have hb133 := r80.1.2.2.2.2.2.2.2.2.2.2.2.2.2.2.2.2.2.2.2.2.2.2.2.2.2.2.2.2.2.2.2.2.2.2.1
  have hb134 := r80.1.2.2.2.2.2.2.2.2.2.2.2.2.2.2.2.2.2.2.2.2.2.2.2.2.2.2.2.2.2.2.2.2.2.2.2.1
  have hb135 := r80.1.2.2.2.2.2.2.2.2.2.2.2.2.2.2.2.2.2.2.2.2.2.2.2.2.2.2.2.2.2.2.2.2.2.2.2.2
  have r81 := r80.2
  clear r80
  have hb136 := r81.1
  have r82 := r81.2
  clear r81
  have hi167 := r82.1
  have r83 := r82.2
  clear r82
  have hb137 := r83.1
  have r84 := r83.2
  clear r83
  have hi168 := r84.1
  have r85 := r84.2
  clear r84
  have hb138 := r85.1
  have r86 := r85.2
  clear r85
  have hb139 := r86.1
  have r87 := r86.2
  clear r86
  have hb140 := r87.1
  have r88 := r87.2
  clear r87
  have hi169 := r88.1.1.1
  have hi170 := r88.1.1.2.1
  have hi171 := r88.1.1.2.2.1
  have hi172 := r88.1.1.2.2.2.1
  have hi173 := r88.1.1.2.2.2.2.1
  have hi174 := r88.1.1.2.2.2.2.2.1
  have hi175 := r88.1.1.2.2.2.2.2.2.1
  have hi176 := r88.1.1.2.2.2.2.2.2.2.1
  have hi177 := r88.1.1.2.2.2.2.2.2.2.2.1
  have hi178 := r88.1.1.2.2.2.2.2.2.2.2.2.1
  have hi179 := r88.1.1.2.2.2.2.2.2.2.2.2.2.1
  have hi180 := r88.1.1.2.2.2.2.2.2.2.2.2.2.2.1
  have hi181 := r88.1.1.2.2.2.2.2.2.2.2.2.2.2.2.1
  have hi182 := r88.1.1.2.2.2.2.2.2.2.2.2.2.2.2.2.1
  have hi183 := r88.1.1.2.2.2.2.2.2.2.2.2.2.2.2.2.2.1
  have hi184 := r88.1.1.2.2.2.2.2.2.2.2.2.2.2.2.2.2.2.1
  have hi185 := r88.1.1.2.2.2.2.2.2.2.2.2.2.2.2.2.2.2.2.1
  have hi186 := r88.1.1.2.2.2.2.2.2.2.2.2.2.2.2.2.2.2.2.2.1
  have hi187 := r88.1.1.2.2.2.2.2.2.2.2.2.2.2.2.2.2.2.2.2.2.1
  have hi188 := r88.1.1.2.2.2.2.2.2.2.2.2.2.2.2.2.2.2.2.2.2.2.1
  have hi189 := r88.1.1.2.2.2.2.2.2.2.2.2.2.2.2.2.2.2.2.2.2.2.2.1
  have hi190 := r88.1.1.2.2.2.2.2.2.2.2.2.2.2.2.2.2.2.2.2.2.2.2.2.1
  have hi191 := r88.1.1.2.2.2.2.2.2.2.2.2.2.2.2.2.2.2.2.2.2.2.2.2.2.1
  have hi192 := r88.1.1.2.2.2.2.2.2.2.2.2.2.2.2.2.2.2.2.2.2.2.2.2.2.2.1
  have hi193 := r88.1.1.2.2.2.2.2.2.2.2.2.2.2.2.2.2.2.2.2.2.2.2.2.2.2.2.1
  have hi194 := r88.1.1.2.2.2.2.2.2.2.2.2.2.2.2.2.2.2.2.2.2.2.2.2.2.2.2.2.1
  have hi195 := r88.1.1.2.2.2.2.2.2.2.2.2.2.2.2.2.2.2.2.2.2.2.2.2.2.2.2.2.2.1
  have hi196 := r88.1.1.2.2.2.2.2.2.2.2.2.2.2.2.2.2.2.2.2.2.2.2.2.2.2.2.2.2.2.1
  have hi197 := r88.1.1.2.2.2.2.2.2.2.2.2.2.2.2.2.2.2.2.2.2.2.2.2.2.2.2.2.2.2.2.1
  have hi198 := r88.1.1.2.2.2.2.2.2.2.2.2.2.2.2.2.2.2.2.2.2.2.2.2.2.2.2.2.2.2.2.2.1
  have hi199 := r88.1.1.2.2.2.2.2.2.2.2.2.2.2.2.2.2.2.2.2.2.2.2.2.2.2.2.2.2.2.2.2.2.1
  have hi200 := r88.1.1.2.2.2.2.2.2.2.2.2.2.2.2.2.2.2.2.2.2.2.2.2.2.2.2.2.2.2.2.2.2.2.1
  have hi201 := r88.1.1.2.2.2.2.2.2.2.2.2.2.2.2.2.2.2.2.2.2.2.2.2.2.2.2.2.2.2.2.2.2.2.2.1
  have hi202 := r88.1.1.2.2.2.2.2.2.2.2.2.2.2.2.2.2.2.2.2.2.2.2.2.2.2.2.2.2.2.2.2.2.2.2.2.1
  have hi203 := r88.1.1.2.2.2.2.2.2.2.2.2.2.2.2.2.2.2.2.2.2.2.2.2.2.2.2.2.2.2.2.2.2.2.2.2.2.1
  have hi204 := r88.1.1.2.2.2.2.2.2.2.2.2.2.2.2.2.2.2.2.2.2.2.2.2.2.2.2.2.2.2.2.2.2.2.2.2.2.2.1
  have hi205 := r88.1.1.2.2.2.2.2.2.2.2.2.2.2.2.2.2.2.2.2.2.2.2.2.2.2.2.2.2.2.2.2.2.2.2.2.2.2.2.1
  have hi206 := r88.1.1.2.2.2.2.2.2.2.2.2.2.2.2.2.2.2.2.2.2.2.2.2.2.2.2.2.2.2.2.2.2.2.2.2.2.2.2.2.1
  have hi207 := r88.1.1.2.2.2.2.2.2.2.2.2.2.2.2.2.2.2.2.2.2.2.2.2.2.2.2.2.2.2.2.2.2.2.2.2.2.2.2.2.2.1
  have hi208 := r88.1.1.2.2.2.2.2.2.2.2.2.2.2.2.2.2.2.2.2.2.2.2.2.2.2.2.2.2.2.2.2.2.2.2.2.2.2.2.2.2.2.1
  have hi209 := r88.1.1.2.2.2.2.2.2.2.2.2.2.2.2.2.2.2.2.2.2.2.2.2.2.2.2.2.2.2.2.2.2.2.2.2.2.2.2.2.2.2.2.1
  have hi210 := r88.1.1.2.2.2.2.2.2.2.2.2.2.2.2.2.2.2.2.2.2.2.2.2.2.2.2.2.2.2.2.2.2.2.2.2.2.2.2.2.2.2.2.2.1
  have hi211 := r88.1.1.2.2.2.2.2.2.2.2.2.2.2.2.2.2.2.2.2.2.2.2.2.2.2.2.2.2.2.2.2.2.2.2.2.2.2.2.2.2.2.2.2.2.1
  have hi212 := r88.1.1.2.2.2.2.2.2.2.2.2.2.2.2.2.2.2.2.2.2.2.2.2.2.2.2.2.2.2.2.2.2.2.2.2.2.2.2.2.2.2.2.2.2.2.1
  have hi213 := r88.1.1.2.2.2.2.2.2.2.2.2.2.2.2.2.2.2.2.2.2.2.2.2.2.2.2.2.2.2.2.2.2.2.2.2.2.2.2.2.2.2.2.2.2.2.2.1
  have hi214 := r88.1.1.2.2.2.2.2.2.2.2.2.2.2.2.2.2.2.2.2.2.2.2.2.2.2.2.2.2.2.2.2.2.2.2.2.2.2.2.2.2.2.2.2.2.2.2.2
  have hb141 := r88.1.2.1
  have hb142 := r88.1.2.2.1
  have hb143 := r88.1.2.2.2.1
  have hb144 := r88.1.2.2.2.2.1
  have hb145 := r88.1.2.2.2.2.2.1
  have hb146 := r88.1.2.2.2.2.2.2.1
  have hb147 := r88.1.2.2.2.2.2.2.2.1
  have hb148 := r88.1.2.2.2.2.2.2.2.2.1
  have hb149 := r88.1.2.2.2.2.2.2.2.2.2.1
  have hb150 := r88.1.2.2.2.2.2.2.2.2.2.2.1
  have hb151 := r88.1.2.2.2.2.2.2.2.2.2.2.2.1
  have hb152 := r88.1.2.2.2.2.2.2.2.2.2.2.2.2.1
  have hb153 := r88.1.2.2.2.2.2.2.2.2.2.2.2.2.2.1
  have hb154 := r88.1.2.2.2.2.2.2.2.2.2.2.2.2.2.2.1
  have hb155 := r88.1.2.2.2.2.2.2.2.2.2.2.2.2.2.2.2.1
  have hb156 := r88.1.2.2.2.2.2.2.2.2.2.2.2.2.2.2.2.2.1
  have hb157 := r88.1.2.2.2.2.2.2.2.2.2.2.2.2.2.2.2.2.2.1
  have hb158 := r88.1.2.2.2.2.2.2.2.2.2.2.2.2.2.2.2.2.2.2.1
  have hb159 := r88.1.2.2.2.2.2.2.2.2.2.2.2.2.2.2.2.2.2.2.2.1
  have hb160 := r88.1.2.2.2.2.2.2.2.2.2.2.2.2.2.2.2.2.2.2.2.2.1
  have hb161 := r88.1.2.2.2.2.2.2.2.2.2.2.2.2.2.2.2.2.2.2.2.2.2.1
  have hb162 := r88.1.2.2.2.2.2.2.2.2.2.2.2.2.2.2.2.2.2.2.2.2.2.2.1
  have hb163 := r88.1.2.2.2.2.2.2.2.2.2.2.2.2.2.2.2.2.2.2.2.2.2.2.2.1
  have hb164 := r88.1.2.2.2.2.2.2.2.2.2.2.2.2.2.2.2.2.2.2.2.2.2.2.2.2.1
  have hb165 := r88.1.2.2.2.2.2.2.2.2.2.2.2.2.2.2.2.2.2.2.2.2.2.2.2.2.2.1
  have hb166 := r88.1.2.2.2.2.2.2.2.2.2.2.2.2.2.2.2.2.2.2.2.2.2.2.2.2.2.2.1
  have hb167 := r88.1.2.2.2.2.2.2.2.2.2.2.2.2.2.2.2.2.2.2.2.2.2.2.2.2.2.2.2.1
  have hb168 := r88.1.2.2.2.2.2.2.2.2.2.2.2.2.2.2.2.2.2.2.2.2.2.2.2.2.2.2.2.2.1
  have hb169 := r88.1.2.2.2.2.2.2.2.2.2.2.2.2.2.2.2.2.2.2.2.2.2.2.2.2.2.2.2.2.2.1
  have hb170 := r88.1.2.2.2.2.2.2.2.2.2.2.2.2.2.2.2.2.2.2.2.2.2.2.2.2.2.2.2.2.2.2.1
  have hb171 := r88.1.2.2.2.2.2.2.2.2.2.2.2.2.2.2.2.2.2.2.2.2.2.2.2.2.2.2.2.2.2.2.2.1
  have hb172 := r88.1.2.2.2.2.2.2.2.2.2.2.2.2.2.2.2.2.2.2.2.2.2.2.2.2.2.2.2.2.2.2.2.2.1
  have hb173 := r88.1.2.2.2.2.2.2.2.2.2.2.2.2.2.2.2.2.2.2.2.2.2.2.2.2.2.2.2.2.2.2.2.2.2.1
  have hb174 := r88.1.2.2.2.2.2.2.2.2.2.2.2.2.2.2.2.2.2.2.2.2.2.2.2.2.2.2.2.2.2.2.2.2.2.2.1
  have hb175 := r88.1.2.2.2.2.2.2.2.2.2.2.2.2.2.2.2.2.2.2.2.2.2.2.2.2.2.2.2.2.2.2.2.2.2.2.2.1
  have hb176 := r88.1.2.2.2.2.2.2.2.2.2.2.2.2.2.2.2.2.2.2.2.2.2.2.2.2.2.2.2.2.2.2.2.2.2.2.2.2.1
  have hb177 := r88.1.2.2.2.2.2.2.2.2.2.2.2.2.2.2.2.2.2.2.2.2.2.2.2.2.2.2.2.2.2.2.2.2.2.2.2.2.2
  have r89 := r88.2
  clear r88
  have hb178 := r89.1
  have r90 := r89.2
  clear r89
  have hb179 := r90.1
  have r91 := r90.2
  clear r90
  have hb180 := r91.1
  have r92 := r91.2
  clear r91
  have hb181 := r92.1
  have r93 := r92.2
  clear r92
  have hi215 := r93.1
  have r94 := r93.2
  clear r93
  have hi216 := r94.1
  have r95 := r94.2
  clear r94
  have hi217 := r95.1
  have r96 := r95.2
  clear r95
  have hb182 := r96.1
  have r97 := r96.2
  clear r96
  have hb183 := r97.1
  have r98 := r97.2
  clear r97
  have hi218 := r98.1
  have r99 := r98.2
  clear r98
  have hi219 := r99.1
  have r100 := r99.2
  clear r99
  have hi220 := r100.1
  have r101 := r100.2
  clear r100
  have hi221 := r101.1
  have r102 := r101.2
  clear r101
  have hi222 := r102.1
  have r103 := r102.2
  clear r102
  have hb184 := r103.1
  have r104 := r103.2
  clear r103
  have hb185 := r104.1
  have r105 := r104.2
  clear r104
  have hb186 := r105.1
  have r106 := r105.2
  clear r105
  have hi223 := r106.1
  have r107 := r106.2
  clear r106
  have hi224 := r107.1
  have r108 := r107.2
  clear r107
  have hi225 := r108.1
  have r109 := r108.2
  clear r108
  have hb187 := r109.1
  have r110 := r109.2
  clear r109
  have hb188 := r110.1
  have r111 := r110.2
  clear r110
  have hb189 := r111.1
  have r112 := r111.2
  clear r111
  have hb190 := r112.1
  have r113 := r112.2
  clear r112
  have hi226 := r113.1
  have r114 := r113.2
  clear r113
  have hi227 := r114.1
  have r115 := r114.2
  clear r114
  have hi228 := r115.1
  have r116 := r115.2
  clear r115
  have hb191 := r116.1
  have r117 := r116.2
  clear r116
  have hb192 := r117.1
  have r118 := r117.2
  clear r117
  have hi229 := r118.1
  have r119 := r118.2
  clear r118
  have hi230 := r119.1
  have r120 := r119.2
  clear r119
  have hi231 := r120.1
  have r121 := r120.2
  clear r120
  have hi232 := r121.1
  have r122 := r121.2
  clear r121
  have hi233 := r122.1
  have r123 := r122.2
  clear r122
  have hb193 := r123.1
  have r124 := r123.2
  clear r123
  have hb194 := r124.1
  have r125 := r124.2
  clear r124
  have hb195 := r125.1
  have r126 := r125.2
  clear r125
  have hi234 := r126.1
  have r127 := r126.2
  clear r126
  have hi235 := r127.1
  have r128 := r127.2
  clear r127
  have hi236 := r128.1
  have r129 := r128.2
  clear r128
  have hb196 := r129.1
  have r130 := r129.2
  clear r129
  have hb197 := r130.1
  have r131 := r130.2
  clear r130
  have hi237 := r131.1
  have r132 := r131.2
  clear r131
  have hi238 := r132.1
  have r133 := r132.2
  clear r132
  have hi239 := r133.1
  have r134 := r133.2
  clear r133
  have hb198 := r134.1
  have r135 := r134.2
  clear r134
  have hi240 := r135.1
  have r136 := r135.2
  clear r135
  have hi241 := r136.1
  have r137 := r136.2
  clear r136
  have hi242 := r137.1
  have r138 := r137.2
  clear r137
  have hb199 := r138.1
  have r139 := r138.2
  clear r138
  have hb200 := r139.1
  have r140 := r139.2
  clear r139
  have hb201 := r140.1
  have r141 := r140.2
  clear r140
  have hi243 := r141.1
  have r142 := r141.2
  clear r141
  have hi244 := r142.1
  have r143 := r142.2
  clear r142
  have hi245 := r143.1
  have r144 := r143.2
  clear r143
  have hb202 := r144.1
  have r145 := r144.2
  clear r144
  have hb203 := r145.1
  have r146 := r145.2
  clear r145
  have hi246 := r146.1
  have r147 := r146.2
  clear r146
  have hb204 := r147.1
  have r148 := r147.2
  clear r147
  have hi247 := r148.1
  have r149 := r148.2
  clear r148
  have hi248 := r149.1
  have r150 := r149.2
  clear r149
  have hi249 := r150.1
  have r151 := r150.2
  clear r150
  have hb205 := r151.1
  have r152 := r151.2
  clear r151
  have hb206 := r152.1
  have r153 := r152.2
  clear r152
  have hb207 := r153.1
  have r154 := r153.2
  clear r153
  have hi250 := r154.1
  have r155 := r154.2
  clear r154
  have hi251 := r155.1
  have r156 := r155.2
  clear r155
  have hi252 := r156.1
  have r157 := r156.2
  clear r156
  have hi253 := r157.1
  have r158 := r157.2
  clear r157
  have hi254 := r158.1
  have r159 := r158.2
  clear r158
  have hi255 := r159.1
  have r160 := r159.2
  clear r159
  have hi256 := r160.1
  have r161 := r160.2
  clear r160
  have hb208 := r161.1
  have r162 := r161.2
  clear r161
  have hi257 := r162.1
  have r163 := r162.2
  clear r162
  have hi258 := r163.1
  have r164 := r163.2
  clear r163
  have hb209 := r164.1
  have r165 := r164.2
  clear r164
  have hi259 := r165.1
  have r166 := r165.2
  clear r165
  have hb210 := r166.1
  have r167 := r166.2
  clear r166
  have hb211 := r167.1
  have r168 := r167.2
  clear r167
  have hb212 := r168.1
  have r169 := r168.2
  clear r168
  have hi260 := r169.1
  have r170 := r169.2
  clear r169
  have hb213 := r170.1
  have r171 := r170.2
  clear r170
  have hb214 := r171.1
  have r172 := r171.2
  clear r171
  have hb215 := r172.1
  have r173 := r172.2
  clear r172
  have hb216 := r173.1
  have r174 := r173.2
  clear r173
  have hb217 := r174.1
  have r175 := r174.2
  clear r174
  have hi261 := r175.1
  have r176 := r175.2
  clear r175
  have hi262 := r176.1
  have r177 := r176.2
  clear r176
  have hi263 := r177.1
  have r178 := r177.2
  clear r177
  have hb218 := r178.1
  have r179 := r178.2
  clear r178
  have hb219 := r179.1
  have r180 := r179.2
  clear r179
  have hi264 := r180.1
  have r181 := r180.2
  clear r180
  have hi265 := r181.1
  have r182 := r181.2
  clear r181
  have hi266 := r182.1
  have r183 := r182.2
  clear r182
  have hi267 := r183.1
  have r184 := r183.2
  clear r183
  have hi268 := r184.1
  have r185 := r184.2
  clear r184
  have hb220 := r185.1
  have r186 := r185.2
  clear r185
  have hb221 := r186.1
  have r187 := r186.2
  clear r186
  have hb222 := r187.1
  have r188 := r187.2
  clear r187
  have hi269 := r188.1
  have r189 := r188.2
  clear r188
  have hi270 := r189.1
  have r190 := r189.2
  clear r189
  have hi271 := r190.1
  have r191 := r190.2
  clear r190
  have hb223 := r191.1
  have r192 := r191.2
  clear r191
  have hb224 := r192.1
  have r193 := r192.2
  clear r192
  have hb225 := r193.1
  have r194 := r193.2
  clear r193
  have hb226 := r194.1
  have r195 := r194.2
  clear r194
  have hi272 := r195.1
  have r196 := r195.2
  clear r195
  have hi273 := r196.1
  have r197 := r196.2
  clear r196
  have hi274 := r197.1
  have r198 := r197.2
  clear r197
  have hb227 := r198.1
  have r199 := r198.2
  clear r198
  have hb228 := r199.1
  have r200 := r199.2
  clear r199
  have hi275 := r200.1
  have r201 := r200.2
  clear r200
  have hi276 := r201.1
  have r202 := r201.2
  clear r201
  have hi277 := r202.1
  have r203 := r202.2
  clear r202
  have hi278 := r203.1
  have r204 := r203.2
  clear r203
  have hi279 := r204.1
  have r205 := r204.2
  clear r204
  have hb229 := r205.1
  have r206 := r205.2
  clear r205
  have hb230 := r206.1
  have r207 := r206.2
  clear r206
  have hb231 := r207.1
  have r208 := r207.2
  clear r207
  have hi280 := r208.1
  have r209 := r208.2
  clear r208
  have hi281 := r209.1
  have r210 := r209.2
  clear r209
  have hi282 := r210.1
  have r211 := r210.2
  clear r210
  have hb232 := r211.1
  have r212 := r211.2
  clear r211
  have hb233 := r212.1
  have r213 := r212.2
  clear r212
  have hi283 := r213.1
  have r214 := r213.2
  clear r213
  have hi284 := r214.1
  have r215 := r214.2
  clear r214
  have hi285 := r215.1
  have r216 := r215.2
  clear r215
  have hb234 := r216.1
  have r217 := r216.2
  clear r216
  have hi286 := r217.1
  have r218 := r217.2
  clear r217
  have hi287 := r218.1
  have r219 := r218.2
  clear r218
  have hi288 := r219.1
  have r220 := r219.2
  clear r219
  have hb235 := r220.1
  have r221 := r220.2
  clear r220
  have hb236 := r221.1
  have r222 := r221.2
  clear r221
  have hb237 := r222.1
  have r223 := r222.2
  clear r222
  have hi289 := r223.1
  have r224 := r223.2
  clear r223
  have hi290 := r224.1
  have r225 := r224.2
  clear r224
  have hi291 := r225.1
  have r226 := r225.2
  clear r225
  have hb238 := r226.1
  have r227 := r226.2
  clear r226
  have hb239 := r227.1
  have r228 := r227.2
  clear r227
  have hi292 := r228.1
  have r229 := r228.2
  clear r228
  have hb240 := r229.1
  have r230 := r229.2
  clear r229
  have hi293 := r230.1
  have r231 := r230.2
  clear r230
  have hi294 := r231.1
  have r232 := r231.2
  clear r231
  have hi295 := r232.1
  have r233 := r232.2
  clear r232
  have hb241 := r233.1
  have r234 := r233.2
  clear r233
  have hb242 := r234.1
  have r235 := r234.2
  clear r234
  have hb243 := r235.1
  have r236 := r235.2
  clear r235
  have hi296 := r236.1
  have r237 := r236.2
  clear r236
  have hi297 := r237.1
  have r238 := r237.2
  clear r237
  have hi298 := r238.1
  have r239 := r238.2
  clear r238
  have hi299 := r239.1
  have r240 := r239.2
  clear r239
  have hi300 := r240.1
  have r241 := r240.2
  clear r240
  have hi301 := r241.1
  have r242 := r241.2
  clear r241
  have hi302 := r242.1
  have r243 := r242.2
  clear r242
  have hb244 := r243.1
  have r244 := r243.2
  clear r243
  have hi303 := r244.1
  have r245 := r244.2
  clear r244
  have hi304 := r245.1
  have r246 := r245.2
  clear r245
  have hb245 := r246.1
  have r247 := r246.2
  clear r246
  have hi305 := r247.1
  have r248 := r247.2
  clear r247
  have hb246 := r248.1
  have r249 := r248.2
  clear r248
  have hb247 := r249.1
  have r250 := r249.2
  clear r249
  have hb248 := r250.1
  have r251 := r250.2
  clear r250
  have hi306 := r251.1
  have r252 := r251.2
  clear r251
  have hb249 := r252.1
  have r253 := r252.2
  clear r252
  have hb250 := r253.1
  have r254 := r253.2
  clear r253
  have hb251 := r254.1
  have r255 := r254.2
  clear r254
  have hb252 := r255.1
  have r256 := r255.2
  clear r255
  have hb253 := r256.1
  have r257 := r256.2
  clear r256
  have hi307 := r257.1
  have r258 := r257.2
  clear r257
  have hi308 := r258.1
  have r259 := r258.2
  clear r258
  have hi309 := r259.1
  have r260 := r259.2
  clear r259
  have hb254 := r260.1
  have r261 := r260.2
  clear r260
  have hb255 := r261.1
  have r262 := r261.2
  clear r261
  have hi310 := r262.1
  have r263 := r262.2
  clear r262
  have hi311 := r263.1
  have r264 := r263.2
  clear r263
  have hi312 := r264.1
  have r265 := r264.2
  clear r264
  have hi313 := r265.1
  have r266 := r265.2
  clear r265
  have hi314 := r266.1
  have r267 := r266.2
  clear r266
  have hb256 := r267.1
  have r268 := r267.2
  clear r267
  have hb257 := r268.1
  have r269 := r268.2
  clear r268
  have hb258 := r269.1
  have r270 := r269.2
  clear r269
  have hi315 := r270.1
  have r271 := r270.2
  clear r270
  have hi316 := r271.1
  have r272 := r271.2
  clear r271
  have hi317 := r272.1
  have r273 := r272.2
  clear r272
  have hb259 := r273.1
  have r274 := r273.2
  clear r273
  have hb260 := r274.1
  have r275 := r274.2
  clear r274
  have hb261 := r275.1
  have r276 := r275.2
  clear r275
  have hb262 := r276.1
  have r277 := r276.2
  clear r276
  have hi318 := r277.1
  have r278 := r277.2
  clear r277
  have hi319 := r278.1
  have r279 := r278.2
  clear r278
  have hi320 := r279.1
  have r280 := r279.2
  clear r279
  have hb263 := r280.1
  have r281 := r280.2
  clear r280
  have hb264 := r281.1
  have r282 := r281.2
  clear r281
  have hi321 := r282.1
  have r283 := r282.2
  clear r282
  have hi322 := r283.1
  have r284 := r283.2
  clear r283
  have hi323 := r284.1
  have r285 := r284.2
  clear r284
  have hi324 := r285.1
  have r286 := r285.2
  clear r285
  have hi325 := r286.1
  have r287 := r286.2
  clear r286
  have hb265 := r287.1
  have r288 := r287.2
  clear r287
  have hb266 := r288.1
  have r289 := r288.2
  clear r288
  have hb267 := r289.1
  have r290 := r289.2
  clear r289
  have hi326 := r290.1
  have r291 := r290.2
  clear r290
  have hi327 := r291.1
  have r292 := r291.2
  clear r291
  have hi328 := r292.1
  have r293 := r292.2
  clear r292
  have hb268 := r293.1
  have r294 := r293.2
  clear r293
  have hb269 := r294.1
  have r295 := r294.2
  clear r294
  have hi329 := r295.1
  have r296 := r295.2
  clear r295
  have hi330 := r296.1
  have r297 := r296.2
  clear r296
  have hi331 := r297.1
  have r298 := r297.2
  clear r297
  have hb270 := r298.1
  have r299 := r298.2
  clear r298
  have hi332 := r299.1
  have r300 := r299.2
  clear r299
  have hi333 := r300.1
  have r301 := r300.2
  clear r300
  have hi334 := r301.1
  have r302 := r301.2
  clear r301
  have hb271 := r302.1
  have r303 := r302.2
  clear r302
  have hb272 := r303.1
  have r304 := r303.2
  clear r303
  have hb273 := r304.1
  have r305 := r304.2
  clear r304
  have hi335 := r305.1
  have r306 := r305.2
  clear r305
  have hi336 := r306.1
  have r307 := r306.2
  clear r306
  have hi337 := r307.1
  have r308 := r307.2
  clear r307
  have hb274 := r308.1
  have r309 := r308.2
  clear r308
  have hb275 := r309.1
  have r310 := r309.2
  clear r309
  have hi338 := r310.1
  have r311 := r310.2
  clear r310
  have hb276 := r311.1
  have r312 := r311.2
  clear r311
  have hi339 := r312.1
  have r313 := r312.2
  clear r312
  have hi340 := r313.1
  have r314 := r313.2
  clear r313
  have hi341 := r314.1
  have r315 := r314.2
  clear r314
  have hb277 := r315.1
  have r316 := r315.2
  clear r315
  have hb278 := r316.1
  have r317 := r316.2
  clear r316
  have hb279 := r317.1
  have r318 := r317.2
  clear r317
  have hi342 := r318.1
  have r319 := r318.2
  clear r318
  have hi343 := r319.1
  have r320 := r319.2
  clear r319
  have hi344 := r320.1
  have r321 := r320.2
  clear r320
  have hi345 := r321.1
  have r322 := r321.2
  clear r321
  have hi346 := r322.1
  have r323 := r322.2
  clear r322
  have hi347 := r323.1
  have r324 := r323.2
  clear r323
  have hi348 := r324.1
  have r325 := r324.2
  clear r324
  have hb280 := r325.1
  have r326 := r325.2
  clear r325
  have hi349 := r326.1
  have r327 := r326.2
  clear r326
  have hi350 := r327.1
  have r328 := r327.2
  clear r327
  have hb281 := r328.1
  have r329 := r328.2
  clear r328
  have hi351 := r329.1
  have r330 := r329.2
  clear r329
  have hb282 := r330.1
  have r331 := r330.2
  clear r330
  have hb283 := r331.1
  have r332 := r331.2
  clear r331
  have hb284 := r332.1
  have r333 := r332.2
  clear r332
  have hi352 := r333.1
  have r334 := r333.2
  clear r333
  have hb285 := r334.1
  have r335 := r334.2
  clear r334
  have hb286 := r335.1
  have r336 := r335.2
  clear r335
  have hb287 := r336.1
  have r337 := r336.2
  clear r336
  have hb288 := r337.1
  have r338 := r337.2
  clear r337
  have hb289 := r338.1
  have r339 := r338.2
  clear r338
  have hi353 := r339.1
  have r340 := r339.2
  clear r339
  have hi354 := r340.1
  have r341 := r340.2
  clear r340
  have hi355 := r341.1
  have r342 := r341.2
  clear r341
  have hb290 := r342.1
  have r343 := r342.2
  clear r342
  have hb291 := r343.1
  have r344 := r343.2
  clear r343
  have hi356 := r344.1
  have r345 := r344.2
  clear r344
  have hi357 := r345.1
  have r346 := r345.2
  clear r345
  have hi358 := r346.1
  have r347 := r346.2
  clear r346
  have hi359 := r347.1
  have r348 := r347.2
  clear r347
  have hi360 := r348.1
  have r349 := r348.2
  clear r348
  have hb292 := r349.1
  have r350 := r349.2
  clear r349
  have hb293 := r350.1
  have r351 := r350.2
  clear r350
  have hb294 := r351.1
  have r352 := r351.2
  clear r351
  have hi361 := r352.1
  have r353 := r352.2
  clear r352
  have hi362 := r353.1
  have r354 := r353.2
  clear r353
  have hi363 := r354.1
  have r355 := r354.2
  clear r354
  have hb295 := r355.1
  have r356 := r355.2
  clear r355
  have hb296 := r356.1
  have r357 := r356.2
  clear r356
  have hb297 := r357.1
  have r358 := r357.2
  clear r357
  have hb298 := r358.1
  have r359 := r358.2
  clear r358
  have hi364 := r359.1
  have r360 := r359.2
  clear r359
  have hi365 := r360.1
  have r361 := r360.2
  clear r360
  have hi366 := r361.1
  have r362 := r361.2
  clear r361
  have hb299 := r362.1
  have r363 := r362.2
  clear r362
  have hb300 := r363.1
  have r364 := r363.2
  clear r363
  have hi367 := r364.1
  have r365 := r364.2
  clear r364
  have hi368 := r365.1
  have r366 := r365.2
  clear r365
  have hi369 := r366.1
  have r367 := r366.2
  clear r366
  have hi370 := r367.1
  have r368 := r367.2
  clear r367
  have hi371 := r368.1
  have r369 := r368.2
  clear r368
  have hb301 := r369.1
  have r370 := r369.2
  clear r369
  have hb302 := r370.1
  have r371 := r370.2
  clear r370
  have hb303 := r371.1
  have r372 := r371.2
  clear r371
  have hi372 := r372.1
  have r373 := r372.2
  clear r372
  have hi373 := r373.1
  have r374 := r373.2
  clear r373
  have hi374 := r374.1
  have r375 := r374.2
  clear r374
  have hb304 := r375.1
  have r376 := r375.2
  clear r375
  have hb305 := r376.1
  have r377 := r376.2
  clear r376
  have hi375 := r377.1
  have r378 := r377.2
  clear r377
  have hi376 := r378.1
  have r379 := r378.2
  clear r378
  have hi377 := r379.1
  have r380 := r379.2
  clear r379
  have hb306 := r380.1
  have r381 := r380.2
  clear r380
  have hi378 := r381.1
  have r382 := r381.2
  clear r381
  have hi379 := r382.1
  have r383 := r382.2
  clear r382
  have hi380 := r383.1
  have r384 := r383.2
  clear r383
  have hb307 := r384.1
  have r385 := r384.2
  clear r384
  have hb308 := r385.1
  have r386 := r385.2
  clear r385
  have hb309 := r386.1
  have r387 := r386.2
  clear r386
  have hi381 := r387.1
  have r388 := r387.2
  clear r387
  have hi382 := r388.1
  have r389 := r388.2
  clear r388
  have hi383 := r389.1
  have r390 := r389.2
  clear r389
  have hb310 := r390.1
  have r391 := r390.2
  clear r390
  have hb311 := r391.1
  have r392 := r391.2
  clear r391
  have hi384 := r392.1
  have r393 := r392.2
  clear r392
  have hb312 := r393.1
  have r394 := r393.2
  clear r393
  have hi385 := r394.1
  have r395 := r394.2
  clear r394
  have hi386 := r395.1
  have r396 := r395.2
  clear r395
  have hi387 := r396.1
  have r397 := r396.2
  clear r396
  have hb313 := r397.1
  have r398 := r397.2
  clear r397
  have hb314 := r398.1
  have r399 := r398.2
  clear r398
  have hb315 := r399.1
  have r400 := r399.2
  clear r399
  have hi388 := r400.1
  have r401 := r400.2
  clear r400
  have hi389 := r401.1
  have r402 := r401.2
  clear r401
  have hi390 := r402.1
  have r403 := r402.2
  clear r402
  have hi391 := r403.1
  have r404 := r403.2
  clear r403
  have hi392 := r404.1
  have r405 := r404.2
  clear r404
  have hi393 := r405.1
  have r406 := r405.2
  clear r405
  have hi394 := r406.1
  have r407 := r406.2
  clear r406
  have hb316 := r407.1
  have r408 := r407.2
  clear r407
  have hi395 := r408.1
  have r409 := r408.2
  clear r408
  have hi396 := r409.1
  have r410 := r409.2
  clear r409
  have hb317 := r410.1
  have r411 := r410.2
  clear r410
  have hi397 := r411.1
  have r412 := r411.2
  clear r411
  have hb318 := r412.1
  have r413 := r412.2
  clear r412
  have hb319 := r413.1
  have r414 := r413.2
  clear r413
  have hb320 := r414.1
  have r415 := r414.2
  clear r414
  have hi398 := r415.1
  have r416 := r415.2
  clear r415
  have hb321 := r416.1
  have r417 := r416.2
  clear r416
  have hb322 := r417.1
  have r418 := r417.2
  clear r417
  have hb323 := r418.1
  have r419 := r418.2
  clear r418
  have hb324 := r419.1
  have r420 := r419.2
  clear r419
  have hb325 := r420.1
  have r421 := r420.2
  clear r420
  have hi399 := r421.1
  have r422 := r421.2
  clear r421
  have hi400 := r422.1
  have r423 := r422.2
  clear r422
  have hi401 := r423.1
  have r424 := r423.2
  clear r423
  have hb326 := r424.1
  have r425 := r424.2
  clear r424
  have hb327 := r425.1
  have r426 := r425.2
  clear r425
  have hi402 := r426.1
  have r427 := r426.2
  clear r426
  have hi403 := r427.1
  have r428 := r427.2
  clear r427
  have hi404 := r428.1
  have r429 := r428.2
  clear r428
  have hi405 := r429.1
  have r430 := r429.2
  clear r429
  have hi406 := r430.1
  have r431 := r430.2
  clear r430
  have hb328 := r431.1
  have r432 := r431.2
  clear r431
  have hb329 := r432.1
  have r433 := r432.2
  clear r432
  have hb330 := r433.1
  have r434 := r433.2
  clear r433
  have hi407 := r434.1
  have r435 := r434.2
  clear r434
  have hi408 := r435.1
  have r436 := r435.2
  clear r435
  have hi409 := r436.1
  have r437 := r436.2
  clear r436
  have hb331 := r437.1
  have r438 := r437.2
  clear r437
  have hb332 := r438.1
  have r439 := r438.2
  clear r438
  have hb333 := r439.1
  have r440 := r439.2
  clear r439
  have hb334 := r440.1
  have r441 := r440.2
  clear r440
  have hi410 := r441.1
  have r442 := r441.2
  clear r441
  have hi411 := r442.1
  have r443 := r442.2
  clear r442
  have hi412 := r443.1
  have r444 := r443.2
  clear r443
  have hb335 := r444.1
  have r445 := r444.2
  clear r444
  have hb336 := r445.1
  have r446 := r445.2
  clear r445
  have hi413 := r446.1
  have r447 := r446.2
  clear r446
  have hi414 := r447.1
  have r448 := r447.2
  clear r447
  have hi415 := r448.1
  have r449 := r448.2
  clear r448
  have hi416 := r449.1
  have r450 := r449.2
  clear r449
  have hi417 := r450.1
  have r451 := r450.2
  clear r450
  have hb337 := r451.1
  have r452 := r451.2
  clear r451
  have hb338 := r452.1
  have r453 := r452.2
  clear r452
  have hb339 := r453.1
  have r454 := r453.2
  clear r453
  have hi418 := r454.1
  have r455 := r454.2
  clear r454
  have hi419 := r455.1
  have r456 := r455.2
  clear r455
  have hi420 := r456.1
  have r457 := r456.2
  clear r456
  have hb340 := r457.1
  have r458 := r457.2
  clear r457
  have hb341 := r458.1
  have r459 := r458.2
  clear r458
  have hi421 := r459.1
  have r460 := r459.2
  clear r459
  have hi422 := r460.1
  have r461 := r460.2
  clear r460
  have hi423 := r461.1
  have r462 := r461.2
  clear r461
  have hb342 := r462.1
  have r463 := r462.2
  clear r462
  have hi424 := r463.1
  have r464 := r463.2
  clear r463
  have hi425 := r464.1
  have r465 := r464.2
  clear r464
  have hi426 := r465.1
  have r466 := r465.2
  clear r465
  have hb343 := r466.1
  have r467 := r466.2
  clear r466
  have hb344 := r467.1
  have r468 := r467.2
  clear r467
  have hb345 := r468.1
  have r469 := r468.2
  clear r468
  have hi427 := r469.1
  have r470 := r469.2
  clear r469
  have hi428 := r470.1
  have r471 := r470.2
  clear r470
  have hi429 := r471.1
  have r472 := r471.2
  clear r471
  have hb346 := r472.1
  have r473 := r472.2
  clear r472
  have hb347 := r473.1
  have r474 := r473.2
  clear r473
  have hi430 := r474.1
  have r475 := r474.2
  clear r474
  have hb348 := r475.1
  have r476 := r475.2
  clear r475
  have hi431 := r476.1
  have r477 := r476.2
  clear r476
  have hi432 := r477.1
  have r478 := r477.2
  clear r477
  have hi433 := r478.1
  have r479 := r478.2
  clear r478
  have hb349 := r479.1
  have r480 := r479.2
  clear r479
  have hb350 := r480.1
  have r481 := r480.2
  clear r480
  have hb351 := r481.1
  have r482 := r481.2
  clear r481
  have hi434 := r482.1
  have r483 := r482.2
  clear r482
  have hi435 := r483.1
  have r484 := r483.2
  clear r483
  have hi436 := r484.1
  have r485 := r484.2
  clear r484
  have hi437 := r485.1
  have r486 := r485.2
  clear r485
  have hi438 := r486.1
  have r487 := r486.2
  clear r486
  have hi439 := r487.1
  have r488 := r487.2
  clear r487
  have hi440 := r488.1
  have r489 := r488.2
  clear r488
  have hb352 := r489.1
  have r490 := r489.2
  clear r489
  have hi441 := r490.1
  have r491 := r490.2
  clear r490
  have hi442 := r491.1
  have r492 := r491.2
  clear r491
  have hb353 := r492.1
  have r493 := r492.2
  clear r492
  have hi443 := r493.1
  have r494 := r493.2
  clear r493
  have hb354 := r494.1
  have r495 := r494.2
  clear r494
  have hb355 := r495.1
  have r496 := r495.2
  clear r495
  have hb356 := r496.1
  have r497 := r496.2
  clear r496
  have hi444 := r497.1
  have r498 := r497.2
  clear r497
  have hb357 := r498.1
  have r499 := r498.2
  clear r498
  have hb358 := r499.1
  have r500 := r499.2
  clear r499
  have hb359 := r500.1
  have r501 := r500.2
  clear r500
  have hb360 := r501.1
  have r502 := r501.2
  clear r501
  have hb361 := r502.1
  have r503 := r502.2
  clear r502
  have hi445 := r503.1
  have r504 := r503.2
  clear r503
  have hi446 := r504.1
  have r505 := r504.2
  clear r504
  have hi447 := r505.1
  have r506 := r505.2
  clear r505
  have hb362 := r506.1
  have r507 := r506.2
  clear r506
  have hb363 := r507.1
  have r508 := r507.2
  clear r507
  have hi448 := r508.1
  have r509 := r508.2
  clear r508
  have hi449 := r509.1
  have r510 := r509.2
  clear r509
  have hi450 := r510.1
  have r511 := r510.2
  clear r510
  have hi451 := r511.1
  have r512 := r511.2
  clear r511
  have hi452 := r512.1
  have r513 := r512.2
  clear r512
  have hb364 := r513.1
  have r514 := r513.2
  clear r513
  have hb365 := r514.1
  have r515 := r514.2
  clear r514
  have hb366 := r515.1
  have r516 := r515.2
  clear r515
  have hi453 := r516.1
  have r517 := r516.2
  clear r516
  have hi454 := r517.1
  have r518 := r517.2
  clear r517
  have hi455 := r518.1
  have r519 := r518.2
  clear r518
  have hb367 := r519.1
  have r520 := r519.2
  clear r519
  have hb368 := r520.1
  have r521 := r520.2
  clear r520
  have hb369 := r521.1
  have r522 := r521.2
  clear r521
  have hb370 := r522.1
  have r523 := r522.2
  clear r522
  have hi456 := r523.1
  have r524 := r523.2
  clear r523
  have hi457 := r524.1
  have r525 := r524.2
  clear r524
  have hi458 := r525.1
  have r526 := r525.2
  clear r525
  have hb371 := r526.1
  have r527 := r526.2
  clear r526
  have hb372 := r527.1
  have r528 := r527.2
  clear r527
  have hi459 := r528.1
  have r529 := r528.2
  clear r528
  have hi460 := r529.1
  have r530 := r529.2
  clear r529
  have hi461 := r530.1
  have r531 := r530.2
  clear r530
  have hi462 := r531.1
  have r532 := r531.2
  clear r531
  have hi463 := r532.1
  have r533 := r532.2
  clear r532
  have hb373 := r533.1
  have r534 := r533.2
  clear r533
  have hb374 := r534.1
  have r535 := r534.2
  clear r534
  have hb375 := r535.1
  have r536 := r535.2
  clear r535
  have hi464 := r536.1
  have r537 := r536.2
  clear r536
  have hi465 := r537.1
  have r538 := r537.2
  clear r537
  have hi466 := r538.1
  have r539 := r538.2
  clear r538
  have hb376 := r539.1
  have r540 := r539.2
  clear r539
  have hb377 := r540.1
  have r541 := r540.2
  clear r540
  have hi467 := r541.1
  have r542 := r541.2
  clear r541
  have hi468 := r542.1
  have r543 := r542.2
  clear r542
  have hi469 := r543.1
  have r544 := r543.2
  clear r543
  have hb378 := r544.1
  have r545 := r544.2
  clear r544
  have hi470 := r545.1
  have r546 := r545.2
  clear r545
  have hi471 := r546.1
  have r547 := r546.2
  clear r546
  have hi472 := r547.1
  have r548 := r547.2
  clear r547
  have hb379 := r548.1
  have r549 := r548.2
  clear r548
  have hb380 := r549.1
  have r550 := r549.2
  clear r549
  have hb381 := r550.1
  have r551 := r550.2
  clear r550
  have hi473 := r551.1
  have r552 := r551.2
  clear r551
  have hi474 := r552.1
  have r553 := r552.2
  clear r552
  have hi475 := r553.1
  have r554 := r553.2
  clear r553
  have hb382 := r554.1
  have r555 := r554.2
  clear r554
  have hb383 := r555.1
  have r556 := r555.2
  clear r555
  have hi476 := r556.1
  have r557 := r556.2
  clear r556
  have hb384 := r557.1
  have r558 := r557.2
  clear r557
  have hi477 := r558.1
  have r559 := r558.2
  clear r558
  have hi478 := r559.1
  have r560 := r559.2
  clear r559
  have hi479 := r560.1
  have r561 := r560.2
  clear r560
  have hb385 := r561.1
  have r562 := r561.2
  clear r561
  have hb386 := r562.1
  have r563 := r562.2
  clear r562
  have hb387 := r563.1
  have r564 := r563.2
  clear r563
  have hi480 := r564.1
  have r565 := r564.2
  clear r564
  have hi481 := r565.1
  have r566 := r565.2
  clear r565
  have hi482 := r566.1
  have r567 := r566.2
  clear r566
  have hi483 := r567.1
  have r568 := r567.2
  clear r567
  have hi484 := r568.1
  have r569 := r568.2
  clear r568
  have hi485 := r569.1
  have r570 := r569.2
  clear r569
  have hi486 := r570.1
  have r571 := r570.2
  clear r570
  have hb388 := r571.1
  have r572 := r571.2
  clear r571
  have hi487 := r572.1
  have r573 := r572.2
  clear r572
  have hi488 := r573.1
  have r574 := r573.2
  clear r573
  have hb389 := r574.1
  have r575 := r574.2
  clear r574
  have hi489 := r575.1
  have r576 := r575.2
  clear r575
  have hb390 := r576.1
  have r577 := r576.2
  clear r576
  have hb391 := r577.1
  have r578 := r577.2
  clear r577
  have hb392 := r578.1
  have r579 := r578.2
  clear r578
  have hi490 := r579.1
  have r580 := r579.2
  clear r579
  have hb393 := r580.1
  have r581 := r580.2
  clear r580
  have hb394 := r581.1
  have r582 := r581.2
  clear r581
  have hb395 := r582.1
  have r583 := r582.2
  clear r582
  have hb396 := r583.1
  have r584 := r583.2
  clear r583
  have hb397 := r584.1
  have r585 := r584.2
  clear r584
  have hi491 := r585.1
  have r586 := r585.2
  clear r585
  have hi492 := r586.1
  have r587 := r586.2
  clear r586
  have hi493 := r587.1
  have r588 := r587.2
  clear r587
  have hb398 := r588.1
  have r589 := r588.2
  clear r588
  have hb399 := r589.1
  have r590 := r589.2
  clear r589
  have hi494 := r590.1
  have r591 := r590.2
  clear r590
  have hi495 := r591.1
  have r592 := r591.2
  clear r591
  have hi496 := r592.1
  have r593 := r592.2
  clear r592
  have hi497 := r593.1
  have r594 := r593.2
  clear r593
  have hi498 := r594.1
  have r595 := r594.2
  clear r594
  have hb400 := r595.1
  have r596 := r595.2
  clear r595
  have hb401 := r596.1
  have r597 := r596.2
  clear r596
  have hb402 := r597.1
  have r598 := r597.2
  clear r597
  have hi499 := r598.1
  have r599 := r598.2
  clear r598
  have hi500 := r599.1
  have r600 := r599.2
  clear r599
  have hi501 := r600.1
  have r601 := r600.2
  clear r600
  have hb403 := r601.1
  have r602 := r601.2
  clear r601
  have hb404 := r602.1
  have r603 := r602.2
  clear r602
  have hb405 := r603.1
  have r604 := r603.2
  clear r603
  have hb406 := r604.1
  have r605 := r604.2
  clear r604
  have hi502 := r605.1
  have r606 := r605.2
  clear r605
  have hi503 := r606.1
  have r607 := r606.2
  clear r606
  have hi504 := r607.1
  have r608 := r607.2
  clear r607
  have hb407 := r608.1
  have r609 := r608.2
  clear r608
  have hb408 := r609.1
  have r610 := r609.2
  clear r609
  have hi505 := r610.1
  have r611 := r610.2
  clear r610
  have hi506 := r611.1
  have r612 := r611.2
  clear r611
  have hi507 := r612.1
  have r613 := r612.2
  clear r612
  have hi508 := r613.1
  have r614 := r613.2
  clear r613
  have hi509 := r614.1
  have r615 := r614.2
  clear r614
  have hb409 := r615.1
  have r616 := r615.2
  clear r615
  have hb410 := r616.1
  have r617 := r616.2
  clear r616
  have hb411 := r617.1
  have r618 := r617.2
  clear r617
  have hi510 := r618.1
  have r619 := r618.2
  clear r618
  have hi511 := r619.1
  have r620 := r619.2
  clear r619
  have hi512 := r620.1
  have r621 := r620.2
  clear r620
  have hb412 := r621.1
  have r622 := r621.2
  clear r621
  have hb413 := r622.1
  have r623 := r622.2
  clear r622
  have hi513 := r623.1
  have r624 := r623.2
  clear r623
  have hi514 := r624.1
  have r625 := r624.2
  clear r624
  have hi515 := r625.1
  have r626 := r625.2
  clear r625
  have hb414 := r626.1
  have r627 := r626.2
  clear r626
  have hi516 := r627.1
  have r628 := r627.2
  clear r627
  have hi517 := r628.1
  have r629 := r628.2
  clear r628
  have hi518 := r629.1
  have r630 := r629.2
  clear r629
  have hb415 := r630.1
  have r631 := r630.2
  clear r630
  have hb416 := r631.1
  have r632 := r631.2
  clear r631
  have hb417 := r632.1
  have r633 := r632.2
  clear r632
  have hi519 := r633.1
  have r634 := r633.2
  clear r633
  have hi520 := r634.1
  have r635 := r634.2
  clear r634
  have hi521 := r635.1
  have r636 := r635.2
  clear r635
  have hb418 := r636.1
  have r637 := r636.2
  clear r636
  have hb419 := r637.1
  have r638 := r637.2
  clear r637
  have hi522 := r638.1
  have r639 := r638.2
  clear r638
  have hb420 := r639.1
  have r640 := r639.2
  clear r639
  have hi523 := r640.1
  have r641 := r640.2
  clear r640
  have hi524 := r641.1
  have r642 := r641.2
  clear r641
  have hi525 := r642.1
  have r643 := r642.2
  clear r642
  have hb421 := r643.1
  have r644 := r643.2
  clear r643
  have hb422 := r644.1
  have r645 := r644.2
  clear r644
  have hb423 := r645.1
  have r646 := r645.2
  clear r645
  have hi526 := r646.1
  have r647 := r646.2
  clear r646
  have hi527 := r647.1
  have r648 := r647.2
  clear r647
  have hi528 := r648.1
  have r649 := r648.2
  clear r648
  have hi529 := r649.1
  have r650 := r649.2
  clear r649
  have hi530 := r650.1
  have r651 := r650.2
  clear r650
  have hi531 := r651.1
  have r652 := r651.2
  clear r651
  have hi532 := r652.1
  have r653 := r652.2
  clear r652
  have hb424 := r653.1
  have r654 := r653.2
  clear r653
  have hi533 := r654.1
  have r655 := r654.2
  clear r654
  have hi534 := r655.1
  have r656 := r655.2
  clear r655
  have hb425 := r656.1
  have r657 := r656.2
  clear r656
  have hi535 := r657.1
  have r658 := r657.2
  clear r657
  have hb426 := r658.1
  have r659 := r658.2
  clear r658
  have hb427 := r659.1
  have r660 := r659.2
  clear r659
  have hb428 := r660.1
  have r661 := r660.2
  clear r660
  have hi536 := r661.1
  have r662 := r661.2
  clear r661
  have hb429 := r662.1
  have r663 := r662.2
  clear r662
  have hb430 := r663.1
  have r664 := r663.2
  clear r663
  have hb431 := r664.1
  have r665 := r664.2
  clear r664
  have hb432 := r665.1
  have r666 := r665.2
  clear r665
  have hb433 := r666.1
  have r667 := r666.2
  clear r666
  have hi537 := r667.1
  have r668 := r667.2
  clear r667
  have hi538 := r668.1
  have r669 := r668.2
  clear r668
  have hi539 := r669.1
  have r670 := r669.2
  clear r669
  have hb434 := r670.1
  have r671 := r670.2
  clear r670
  have hb435 := r671.1
  have r672 := r671.2
  clear r671
  have hi540 := r672.1
  have r673 := r672.2
  clear r672
  have hi541 := r673.1
  have r674 := r673.2
  clear r673
  have hi542 := r674.1
  have r675 := r674.2
  clear r674
  have hi543 := r675.1
  have r676 := r675.2
  clear r675
  have hi544 := r676.1
  have r677 := r676.2
  clear r676
  have hb436 := r677.1
  have r678 := r677.2
  clear r677
  have hb437 := r678.1
  have r679 := r678.2
  clear r678
  have hb438 := r679.1
  have r680 := r679.2
  clear r679
  have hi545 := r680.1
  have r681 := r680.2
  clear r680
  have hi546 := r681.1
  have r682 := r681.2
  clear r681
  have hi547 := r682.1
  have r683 := r682.2
  clear r682
  have hb439 := r683.1
  have r684 := r683.2
  clear r683
  have hb440 := r684.1
  have r685 := r684.2
  clear r684
  have hb441 := r685.1
  have r686 := r685.2
  clear r685
  have hb442 := r686.1
  have r687 := r686.2
  clear r686
  have hi548 := r687.1
  have r688 := r687.2
  clear r687
  have hi549 := r688.1
  have r689 := r688.2
  clear r688
  have hi550 := r689.1
  have r690 := r689.2
  clear r689
  have hb443 := r690.1
  have r691 := r690.2
  clear r690
  have hb444 := r691.1
  have r692 := r691.2
  clear r691
  have hi551 := r692.1
  have r693 := r692.2
  clear r692
  have hi552 := r693.1
  have r694 := r693.2
  clear r693
  have hi553 := r694.1
  have r695 := r694.2
  clear r694
  have hi554 := r695.1
  have r696 := r695.2
  clear r695
  have hi555 := r696.1
  have r697 := r696.2
  clear r696
  have hb445 := r697.1
  have r698 := r697.2
  clear r697
  have hb446 := r698.1
  have r699 := r698.2
  clear r698
  have hb447 := r699.1
  have r700 := r699.2
  clear r699
  have hi556 := r700.1
  have r701 := r700.2
  clear r700
  have hi557 := r701.1
  have r702 := r701.2
  clear r701
  have hi558 := r702.1
  have r703 := r702.2
  clear r702
  have hb448 := r703.1
  have r704 := r703.2
  clear r703
  have hb449 := r704.1
  have r705 := r704.2
  clear r704
  have hi559 := r705.1
  have r706 := r705.2
  clear r705
  have hi560 := r706.1
  have r707 := r706.2
  clear r706
  have hi561 := r707.1
  have r708 := r707.2
  clear r707
  have hb450 := r708.1
  have r709 := r708.2
  clear r708
  have hi562 := r709.1
  have r710 := r709.2
  clear r709
  have hi563 := r710.1
  have r711 := r710.2
  clear r710
  have hi564 := r711.1
  have r712 := r711.2
  clear r711
  have hb451 := r712.1
  have r713 := r712.2
  clear r712
  have hb452 := r713.1
  have r714 := r713.2
  clear r713
  have hb453 := r714.1
  have r715 := r714.2
  clear r714
  have hi565 := r715.1
  have r716 := r715.2
  clear r715
  have hi566 := r716.1
  have r717 := r716.2
  clear r716
  have hi567 := r717.1
  have r718 := r717.2
  clear r717
  have hb454 := r718.1
  have r719 := r718.2
  clear r718
  have hb455 := r719.1
  have r720 := r719.2
  clear r719
  have hi568 := r720.1
  have r721 := r720.2
  clear r720
  have hb456 := r721.1
  have r722 := r721.2
  clear r721
  have hi569 := r722.1
  have r723 := r722.2
  clear r722
  have hi570 := r723.1
  have r724 := r723.2
  clear r723
  have hi571 := r724.1
  have r725 := r724.2
  clear r724
  have hb457 := r725.1
  have r726 := r725.2
  clear r725
  have hb458 := r726.1
  have r727 := r726.2
  clear r726
  have hb459 := r727.1
  have r728 := r727.2
  clear r727
  have hi572 := r728.1
  have r729 := r728.2
  clear r728
  have hi573 := r729.1
  have r730 := r729.2
  clear r729
  have hi574 := r730.1
  have r731 := r730.2
  clear r730
  have hi575 := r731.1
  have r732 := r731.2
  clear r731
  have hi576 := r732.1
  have r733 := r732.2
  clear r732
  have hi577 := r733.1
  have r734 := r733.2
  clear r733
  have hi578 := r734.1
  have r735 := r734.2
  clear r734
  have hb460 := r735.1
  have r736 := r735.2
  clear r735
  have hi579 := r736.1
  have r737 := r736.2
  clear r736
  have hi580 := r737.1
  have r738 := r737.2
  clear r737
  have hb461 := r738.1
  have r739 := r738.2
  clear r738
  have hi581 := r739.1
  have r740 := r739.2
  clear r739
  have hb462 := r740.1
  have r741 := r740.2
  clear r740
  have hb463 := r741.1
  have r742 := r741.2
  clear r741
  have hb464 := r742.1
  have r743 := r742.2
  clear r742
  have hi582 := r743.1
  have r744 := r743.2
  clear r743
  have hb465 := r744.1
  have r745 := r744.2
  clear r744
  have hb466 := r745.1
  have r746 := r745.2
  clear r745
  have hi583 := r746.1
  have r747 := r746.2
  clear r746
  have hb467 := r747.1
  have r748 := r747.2
  clear r747
  have hb468 := r748.1
  have r749 := r748.2
  clear r748
  have hb469 := r749.1
  have r750 := r749.2
  clear r749
  have hb470 := r750.1
  have r751 := r750.2
  clear r750
  have hi584 := r751.1
  have r752 := r751.2
  clear r751
  have hi585 := r752.1
  have r753 := r752.2
  clear r752
  have hi586 := r753.1
  have r754 := r753.2
  clear r753
  have hb471 := r754.1
  have r755 := r754.2
  clear r754
  have hb472 := r755.1
  have r756 := r755.2
  clear r755
  have hi587 := r756.1
  have r757 := r756.2
  clear r756
  have hi588 := r757.1
  have r758 := r757.2
  clear r757
  have hi589 := r758.1
  have r759 := r758.2
  clear r758
  have hi590 := r759.1
  have r760 := r759.2
  clear r759
  have hi591 := r760.1
  have r761 := r760.2
  clear r760
  have hb473 := r761.1
  have r762 := r761.2
  clear r761
  have hb474 := r762.1
  have r763 := r762.2
  clear r762
  have hb475 := r763.1
  have r764 := r763.2
  clear r763
  have hi592 := r764.1
  have r765 := r764.2
  clear r764
  have hi593 := r765.1
  have r766 := r765.2
  clear r765
  have hi594 := r766.1
  have r767 := r766.2
  clear r766
  have hb476 := r767.1
  have r768 := r767.2
  clear r767
  have hb477 := r768.1
  have r769 := r768.2
  clear r768
  have hb478 := r769.1
  have r770 := r769.2
  clear r769
  have hb479 := r770.1
  have r771 := r770.2
  clear r770
  have hi595 := r771.1
  have r772 := r771.2
  clear r771
  have hi596 := r772.1
  have r773 := r772.2
  clear r772
  have hi597 := r773.1
  have r774 := r773.2
  clear r773
  have hb480 := r774.1
  have r775 := r774.2
  clear r774
  have hb481 := r775.1
  have r776 := r775.2
  clear r775
  have hi598 := r776.1
  have r777 := r776.2
  clear r776
  have hi599 := r777.1
  have r778 := r777.2
  clear r777
  have hi600 := r778.1
  have r779 := r778.2
  clear r778
  have hi601 := r779.1
  have r780 := r779.2
  clear r779
  have hi602 := r780.1
  have r781 := r780.2
  clear r780
  have hb482 := r781.1
  have r782 := r781.2
  clear r781
  have hb483 := r782.1
  have r783 := r782.2
  clear r782
  have hb484 := r783.1
  have r784 := r783.2
  clear r783
  have hi603 := r784.1
  have r785 := r784.2
  clear r784
  have hi604 := r785.1
  have r786 := r785.2
  clear r785
  have hi605 := r786.1
  have r787 := r786.2
  clear r786
  have hb485 := r787.1
  have r788 := r787.2
  clear r787
  have hb486 := r788.1
  have r789 := r788.2
  clear r788
  have hi606 := r789.1
  have r790 := r789.2
  clear r789
  have hi607 := r790.1
  have r791 := r790.2
  clear r790
  have hi608 := r791.1
  have r792 := r791.2
  clear r791
  have hb487 := r792.1
  have r793 := r792.2
  clear r792
  have hi609 := r793.1
  have r794 := r793.2
  clear r793
  have hi610 := r794.1
  have r795 := r794.2
  clear r794
  have hi611 := r795.1
  have r796 := r795.2
  clear r795
  have hb488 := r796.1
  have r797 := r796.2
  clear r796
  have hb489 := r797.1
  have r798 := r797.2
  clear r797
  have hb490 := r798.1
  have r799 := r798.2
  clear r798
  have hi612 := r799.1
  have r800 := r799.2
  clear r799
  have hi613 := r800.1
  have r801 := r800.2
  clear r800
  have hi614 := r801.1
  have r802 := r801.2
  clear r801
  have hb491 := r802.1
  have r803 := r802.2
  clear r802
  have hb492 := r803.1
  have r804 := r803.2
  clear r803
  have hi615 := r804.1
  have r805 := r804.2
  clear r804
  have hb493 := r805.1
  have r806 := r805.2
  clear r805
  have hi616 := r806.1
  have r807 := r806.2
  clear r806
  have hi617 := r807.1
  have r808 := r807.2
  clear r807
  have hi618 := r808.1
  have r809 := r808.2
  clear r808
  have hb494 := r809.1
  have r810 := r809.2
  clear r809
  have hb495 := r810.1
  have r811 := r810.2
  clear r810
  have hb496 := r811.1
  have r812 := r811.2
  clear r811
  have hi619 := r812.1
  have r813 := r812.2
  clear r812
  have hi620 := r813.1
  have r814 := r813.2
  clear r813
  have hi621 := r814.1
  have r815 := r814.2
  clear r814
  have hi622 := r815.1
  have r816 := r815.2
  clear r815
  have hi623 := r816.1
  have r817 := r816.2
  clear r816
  have hi624 := r817.1
  have r818 := r817.2
  clear r817
  have hi625 := r818.1
  have r819 := r818.2
  clear r818
  have hb497 := r819.1
  have r820 := r819.2
  clear r819
  have hi626 := r820.1
  have r821 := r820.2
  clear r820
  have hi627 := r821.1
  have r822 := r821.2
  clear r821
  have hb498 := r822.1
  have r823 := r822.2
  clear r822
  have hi628 := r823.1
  have r824 := r823.2
  clear r823
  have hb499 := r824.1
  have r825 := r824.2
  clear r824
  have hb500 := r825.1
  have r826 := r825.2
  clear r825
  have hb501 := r826.1
  have r827 := r826.2
  clear r826
  have hi629 := r827.1
  have r828 := r827.2
  clear r827
  have hb502 := r828
  have t36 : ρ.b 36 = false := by rw [hb36, hi48, show tabF T46 11 = F11 by rfl, n11]; rfl
  have g137 : ρ.b 137 = decide (128 ≤ v) := by rw [hb137, hi167]; exact decide_eq_decide.2 (m128 v hv)
  have g138 : ρ.b 138 = decide (v / 64 % 2 = 1) := by rw [hb138, hi168]; exact decide_eq_decide.2 (m64 v hv)
  refine ⟨?_, ?_, ?_, ?_, ?_, ?_, ?_, ?_, ?_, ?_, ?_, ?_⟩
  · intro hr
    have ob36 : ρ.b 36 = false := t36
    have ob466 : ρ.b 466 = true := by rw [hb466, ob36]; rfl
    have ob37 : ρ.b 37 = true := (hb37.trans (rc_neg reg hr).1)
    have ob38 : ρ.b 38 = true := (hb38.trans (rc_neg reg hr).2.1)
    have ob80 : ρ.b 80 = true := (hb80.trans (rc_neg reg hr).2.2.1)
    have ob85 : ρ.b 85 = true := (hb85.trans (rc_neg reg hr).2.2.2.1)
    have ob93 : ρ.b 93 = true := (hb93.trans (rc_neg reg hr).2.2.2.2.1)
    have ob99 : ρ.b 99 = false := (hb99.trans (rc_neg reg hr).2.2.2.2.2.1)
    have ob136 : ρ.b 136 = false := (hb136.trans (rc_neg reg hr).2.2.2.2.2.2)
    refine Prod.ext ?_ (List.cons_eq_cons.2 ⟨?_, ?_⟩)
    · show [ρ.i 584, ρ.i 585, ρ.i 586, ρ.i 587, ρ.i 588, ρ.i 589, ρ.i 590, ρ.i 591, ρ.i 592, ρ.i 593, ρ.i 594, ρ.i 595, ρ.i 596, ρ.i 597, ρ.i 598, ρ.i 599, ρ.i 600, ρ.i 601, ρ.i 602, ρ.i 603, ρ.i 604, ρ.i 605, ρ.i 606, ρ.i 607, ρ.i 608, ρ.i 609, ρ.i 610, ρ.i 611, ρ.i 612, ρ.i 613, ρ.i 614, ρ.i 615, ρ.i 616, ρ.i 617, ρ.i 618, ρ.i 619, ρ.i 620, ρ.i 621, ρ.i 622, ρ.i 623, ρ.i 624, ρ.i 625, ρ.i 626, ρ.i 627, ρ.i 628, ρ.i 629, ρ.i 583] = _
      rw [(tt hi584 ob466 (th hi537 ob37)), (tt hi585 ob466 (th hi538 ob37)), (tt hi586 ob466 (th hi539 ob37)), (tt hi587 ob466 (th hi540 ob37)), (tt hi588 ob466 (th hi541 ob37)), (tt hi589 ob466 (th hi542 ob37)), (tt hi590 ob466 (th hi543 ob37)), (tt hi591 ob466 (th hi544 ob37)), (tt hi592 ob466 (th hi545 ob37)), (tt hi593 ob466 (th hi546 ob37)), (tt hi594 ob466 (th hi547 ob37)), (tt hi595 ob466 (th hi548 ob37)), (tt hi596 ob466 (th hi549 ob37)), (tt hi597 ob466 (th hi550 ob37)), (tt hi598 ob466 (th hi551 ob37)), (tt hi599 ob466 (th hi552 ob37)), (tt hi600 ob466 (th hi553 ob37)), (tt hi601 ob466 (th hi554 ob37)), (tt hi602 ob466 (th hi555 ob37)), (tt hi603 ob466 (th hi556 ob37)), (tt hi604 ob466 (th hi557 ob37)), (tt hi605 ob466 (th hi558 ob37)), (tt hi606 ob466 (th hi559 ob37)), (tt hi607 ob466 (th hi560 ob37)), (tt hi608 ob466 (th hi561 ob37)), (tt hi609 ob466 (th hi562 ob37)), (tt hi610 ob466 (th hi563 ob37)), (tt hi611 ob466 (th hi564 ob37)), (tt hi612 ob466 (th hi565 ob37)), (tt hi613 ob466 (th hi566 ob37)), (tt hi614 ob466 (th hi567 ob37)), (tt hi615 ob466 (th hi568 ob37)), (tt hi616 ob466 (th hi569 ob37)), (tt hi617 ob466 (th hi570 ob37)), (tt hi618 ob466 (th hi571 ob37)), (tt hi619 ob466 (th hi572 ob37)), (tt hi620 ob466 (th hi573 ob37)), (tt hi621 ob466 (th hi574 ob37)), (tt hi622 ob466 (th hi575 ob37)), (tt hi623 ob466 (th hi576 ob37)), (tt hi624 ob466 (th hi577 ob37)), (tt hi625 ob466 (th hi578 ob37)), (tt hi626 ob466 (th hi579 ob37)), (tt hi627 ob466 (th hi580 ob37)), (tt hi628 ob466 (th hi581 ob37)), (tt hi629 ob466 (th hi582 ob37)), (th hi583 ob466)] <;> rfl
    · simp [ob36, ob37, ob38, ob80, ob85, ob93, ob99, ob136]
    · show [ρ.b 467, ρ.b 468, ρ.b 469, ρ.b 470, ρ.b 471, ρ.b 472, ρ.b 473, ρ.b 474, ρ.b 475, ρ.b 476, ρ.b 477, ρ.b 478, ρ.b 479, ρ.b 480, ρ.b 481, ρ.b 482, ρ.b 483, ρ.b 484, ρ.b 485, ρ.b 486, ρ.b 487, ρ.b 488, ρ.b 489, ρ.b 490, ρ.b 491, ρ.b 492, ρ.b 493, ρ.b 494, ρ.b 495, ρ.b 496, ρ.b 497, ρ.b 498, ρ.b 499, ρ.b 500, ρ.b 501, ρ.b 502] = _
      rw [(tt hb467 ob466 (th hb430 ob37)), (tt hb468 ob466 (th hb431 ob37)), (tt hb469 ob466 (th hb432 ob37)), (tt hb470 ob466 (th hb433 ob37)), (tt hb471 ob466 (th hb434 ob37)), (tt hb472 ob466 (th hb435 ob37)), (tt hb473 ob466 (th hb436 ob37)), (tt hb474 ob466 (th hb437 ob37)), (tt hb475 ob466 (th hb438 ob37)), (tt hb476 ob466 (th hb439 ob37)), (tt hb477 ob466 (th hb440 ob37)), (tt hb478 ob466 (th hb441 ob37)), (tt hb479 ob466 (th hb442 ob37)), (tt hb480 ob466 (th hb443 ob37)), (tt hb481 ob466 (th hb444 ob37)), (tt hb482 ob466 (th hb445 ob37)), (tt hb483 ob466 (th hb446 ob37)), (tt hb484 ob466 (th hb447 ob37)), (tt hb485 ob466 (th hb448 ob37)), (tt hb486 ob466 (th hb449 ob37)), (tt hb487 ob466 (th hb450 ob37)), (tt hb488 ob466 (th hb451 ob37)), (tt hb489 ob466 (th hb452 ob37)), (tt hb490 ob466 (th hb453 ob37)), (tt hb491 ob466 (th hb454 ob37)), (tt hb492 ob466 (th hb455 ob37)), (tt hb493 ob466 (th hb456 ob37)), (tt hb494 ob466 (th hb457 ob37)), (tt hb495 ob466 (th hb458 ob37)), (tt hb496 ob466 (th hb459 ob37)), (tt hb497 ob466 (th hb460 ob37)), (tt hb498 ob466 (th hb461 ob37)), (tt hb499 ob466 (th hb462 ob37)), (tt hb500 ob466 (th hb463 ob37)), (tt hb501 ob466 (th hb464 ob37)), (tt hb502 ob466 (th hb465 ob37))] <;> rfl
  · intro c0 c1 c2 c3 c4 c5 c6 c7 c8 c9 c10 x0 x1 x2 x3 x4 x5 x6 x7 x8 hr hF
    have r49 : ρ.i 49 = 0 := by rw [hi49, quo64 reg (reg_sm hr)]; exact reg_q0 hr
    have ob36 : ρ.b 36 = false := t36
    have ob466 : ρ.b 466 = true := by rw [hb466, ob36]; rfl
    have ob37 : ρ.b 37 = false := (hb37.trans (rc_one reg hr).1)
    have ob38 : ρ.b 38 = true := (hb38.trans (rc_one reg hr).2.1)
    have ob41 : ρ.b 41 = true := (by rw [hb41, r49]; rfl)
    have oi61 : ρ.i 61 = reg := (by rw [hi61, rem64 reg (reg_sm hr).1]; exact reg_r0 hr)
    have q18_62_51 : tabF T46 18 [ρ.i 50, ρ.i 51, ρ.i 52, ρ.i 53, ρ.i 54, ρ.i 55, ρ.i 56, ρ.i 57, ρ.i 58, ρ.i 59, ρ.i 60, ρ.i 61, v] [ρ.b 42, ρ.b 43, ρ.b 44, ρ.b 45, ρ.b 46, ρ.b 47, ρ.b 48, ρ.b 49, ρ.b 50] = ([c0, c1, c2, c3, c4, c5, c6, c7, c8, c9, c10], [true, x0, x1, x2, x3, x4, x5, x6, x7, x8]) := by rw [(th hi50 ob41), (th hi51 ob41), (th hi52 ob41), (th hi53 ob41), (th hi54 ob41), (th hi55 ob41), (th hi56 ob41), (th hi57 ob41), (th hi58 ob41), (th hi59 ob41), (th hi60 ob41), oi61, (th hb42 ob41), (th hb43 ob41), (th hb44 ob41), (th hb45 ob41), (th hb46 ob41), (th hb47 ob41), (th hb48 ob41), (th hb49 ob41), (th hb50 ob41)]; exact hF
    have ob61 : ρ.b 61 = false := by rw [hb61, ob41]; rfl
    have ob39 : ρ.b 39 = true := (by rw [hb39, r49]; rfl)
    have ob40 : ρ.b 40 = true := (by rw [hb40, r49]; rfl)
    have ob80 : ρ.b 80 = true := (hb80.trans (rc_one reg hr).2.2.1)
    have ob85 : ρ.b 85 = true := (hb85.trans (rc_one reg hr).2.2.2.1)
    have ob93 : ρ.b 93 = true := (hb93.trans (rc_one reg hr).2.2.2.2.1)
    have ob99 : ρ.b 99 = false := (hb99.trans (rc_one reg hr).2.2.2.2.2.1)
    have ob136 : ρ.b 136 = false := (hb136.trans (rc_one reg hr).2.2.2.2.2.2)
    refine Prod.ext ?_ (List.cons_eq_cons.2 ⟨?_, ?_⟩)
    · show [ρ.i 584, ρ.i 585, ρ.i 586, ρ.i 587, ρ.i 588, ρ.i 589, ρ.i 590, ρ.i 591, ρ.i 592, ρ.i 593, ρ.i 594, ρ.i 595, ρ.i 596, ρ.i 597, ρ.i 598, ρ.i 599, ρ.i 600, ρ.i 601, ρ.i 602, ρ.i 603, ρ.i 604, ρ.i 605, ρ.i 606, ρ.i 607, ρ.i 608, ρ.i 609, ρ.i 610, ρ.i 611, ρ.i 612, ρ.i 613, ρ.i 614, ρ.i 615, ρ.i 616, ρ.i 617, ρ.i 618, ρ.i 619, ρ.i 620, ρ.i 621, ρ.i 622, ρ.i 623, ρ.i 624, ρ.i 625, ρ.i 626, ρ.i 627, ρ.i 628, ρ.i 629, ρ.i 583] = _
      rw [(tt hi584 ob466 (ft hi537 ob37 (tt hi491 ob38 (tt hi73 ob41 (gi hi62 q18_62_51))))), (tt hi585 ob466 (ft hi538 ob37 (tt hi492 ob38 (tt hi74 ob41 (gi hi63 q18_62_51))))), (tt hi586 ob466 (ft hi539 ob37 (tt hi493 ob38 (tt hi75 ob41 (gi hi64 q18_62_51))))), (tt hi587 ob466 (ft hi540 ob37 (tt hi494 ob38 (tt hi76 ob41 (gi hi65 q18_62_51))))), (tt hi588 ob466 (ft hi541 ob37 (tt hi495 ob38 (tt hi77 ob41 (gi hi66 q18_62_51))))), (tt hi589 ob466 (ft hi542 ob37 (tt hi496 ob38 (tt hi78 ob41 (gi hi67 q18_62_51))))), (tt hi590 ob466 (ft hi543 ob37 (tt hi497 ob38 (tt hi79 ob41 (gi hi68 q18_62_51))))), (tt hi591 ob466 (ft hi544 ob37 (tt hi498 ob38 (tt hi80 ob41 (gi hi69 q18_62_51))))), (tt hi592 ob466 (ft hi545 ob37 (tt hi499 ob38 (tt hi81 ob41 (gi hi70 q18_62_51))))), (tt hi593 ob466 (ft hi546 ob37 (tt hi500 ob38 (tt hi82 ob41 (gi hi71 q18_62_51))))), (tt hi594 ob466 (ft hi547 ob37 (tt hi501 ob38 (tt hi83 ob41 (gi hi72 q18_62_51))))), (tt hi595 ob466 (ft hi548 ob37 (tt hi502 ob38 (fh hi84 ob61)))), (tt hi596 ob466 (ft hi549 ob37 (tt hi503 ob38 (fh hi85 ob61)))), (tt hi597 ob466 (ft hi550 ob37 (tt hi504 ob38 (fh hi86 ob61)))), (tt hi598 ob466 (ft hi551 ob37 (tt hi505 ob38 (fh hi87 ob61)))), (tt hi599 ob466 (ft hi552 ob37 (tt hi506 ob38 (fh hi88 ob61)))), (tt hi600 ob466 (ft hi553 ob37 (tt hi507 ob38 (fh hi89 ob61)))), (tt hi601 ob466 (ft hi554 ob37 (tt hi508 ob38 (fh hi90 ob61)))), (tt hi602 ob466 (ft hi555 ob37 (tt hi509 ob38 (fh hi91 ob61)))), (tt hi603 ob466 (ft hi556 ob37 (tt hi510 ob38 (fh hi92 ob61)))), (tt hi604 ob466 (ft hi557 ob37 (tt hi511 ob38 (fh hi93 ob61)))), (tt hi605 ob466 (ft hi558 ob37 (tt hi512 ob38 (fh hi94 ob61)))), (tt hi606 ob466 (ft hi559 ob37 (th hi513 ob38))), (tt hi607 ob466 (ft hi560 ob37 (th hi514 ob38))), (tt hi608 ob466 (ft hi561 ob37 (th hi515 ob38))), (tt hi609 ob466 (ft hi562 ob37 (th hi516 ob38))), (tt hi610 ob466 (ft hi563 ob37 (th hi517 ob38))), (tt hi611 ob466 (ft hi564 ob37 (th hi518 ob38))), (tt hi612 ob466 (ft hi565 ob37 (th hi519 ob38))), (tt hi613 ob466 (ft hi566 ob37 (th hi520 ob38))), (tt hi614 ob466 (ft hi567 ob37 (th hi521 ob38))), (tt hi615 ob466 (ft hi568 ob37 (th hi522 ob38))), (tt hi616 ob466 (ft hi569 ob37 (th hi523 ob38))), (tt hi617 ob466 (ft hi570 ob37 (th hi524 ob38))), (tt hi618 ob466 (ft hi571 ob37 (th hi525 ob38))), (tt hi619 ob466 (ft hi572 ob37 (th hi526 ob38))), (tt hi620 ob466 (ft hi573 ob37 (th hi527 ob38))), (tt hi621 ob466 (ft hi574 ob37 (th hi528 ob38))), (tt hi622 ob466 (ft hi575 ob37 (th hi529 ob38))), (tt hi623 ob466 (ft hi576 ob37 (th hi530 ob38))), (tt hi624 ob466 (ft hi577 ob37 (th hi531 ob38))), (tt hi625 ob466 (ft hi578 ob37 (th hi532 ob38))), (tt hi626 ob466 (ft hi579 ob37 (th hi533 ob38))), (tt hi627 ob466 (ft hi580 ob37 (th hi534 ob38))), (tt hi628 ob466 (ft hi581 ob37 (th hi535 ob38))), (tt hi629 ob466 (ft hi582 ob37 (th hi536 ob38))), (th hi583 ob466)] <;> rfl
    · simp [ob39, ob40, (gb hb51 q18_62_51), ob36, ob37, ob38, ob80, ob85, ob93, ob99, ob136]
    · show [ρ.b 467, ρ.b 468, ρ.b 469, ρ.b 470, ρ.b 471, ρ.b 472, ρ.b 473, ρ.b 474, ρ.b 475, ρ.b 476, ρ.b 477, ρ.b 478, ρ.b 479, ρ.b 480, ρ.b 481, ρ.b 482, ρ.b 483, ρ.b 484, ρ.b 485, ρ.b 486, ρ.b 487, ρ.b 488, ρ.b 489, ρ.b 490, ρ.b 491, ρ.b 492, ρ.b 493, ρ.b 494, ρ.b 495, ρ.b 496, ρ.b 497, ρ.b 498, ρ.b 499, ρ.b 500, ρ.b 501, ρ.b 502] = _
      rw [(tt hb467 ob466 (ft hb430 ob37 (tt hb394 ob38 (tt hb62 ob41 (gb hb52 q18_62_51))))), (tt hb468 ob466 (ft hb431 ob37 (tt hb395 ob38 (tt hb63 ob41 (gb hb53 q18_62_51))))), (tt hb469 ob466 (ft hb432 ob37 (tt hb396 ob38 (tt hb64 ob41 (gb hb54 q18_62_51))))), (tt hb470 ob466 (ft hb433 ob37 (tt hb397 ob38 (tt hb65 ob41 (gb hb55 q18_62_51))))), (tt hb471 ob466 (ft hb434 ob37 (tt hb398 ob38 (tt hb66 ob41 (gb hb56 q18_62_51))))), (tt hb472 ob466 (ft hb435 ob37 (tt hb399 ob38 (tt hb67 ob41 (gb hb57 q18_62_51))))), (tt hb473 ob466 (ft hb436 ob37 (tt hb400 ob38 (tt hb68 ob41 (gb hb58 q18_62_51))))), (tt hb474 ob466 (ft hb437 ob37 (tt hb401 ob38 (tt hb69 ob41 (gb hb59 q18_62_51))))), (tt hb475 ob466 (ft hb438 ob37 (tt hb402 ob38 (tt hb70 ob41 (gb hb60 q18_62_51))))), (tt hb476 ob466 (ft hb439 ob37 (tt hb403 ob38 (fh hb71 ob61)))), (tt hb477 ob466 (ft hb440 ob37 (tt hb404 ob38 (fh hb72 ob61)))), (tt hb478 ob466 (ft hb441 ob37 (tt hb405 ob38 (fh hb73 ob61)))), (tt hb479 ob466 (ft hb442 ob37 (tt hb406 ob38 (fh hb74 ob61)))), (tt hb480 ob466 (ft hb443 ob37 (tt hb407 ob38 (fh hb75 ob61)))), (tt hb481 ob466 (ft hb444 ob37 (tt hb408 ob38 (fh hb76 ob61)))), (tt hb482 ob466 (ft hb445 ob37 (tt hb409 ob38 (fh hb77 ob61)))), (tt hb483 ob466 (ft hb446 ob37 (tt hb410 ob38 (fh hb78 ob61)))), (tt hb484 ob466 (ft hb447 ob37 (tt hb411 ob38 (fh hb79 ob61)))), (tt hb485 ob466 (ft hb448 ob37 (th hb412 ob38))), (tt hb486 ob466 (ft hb449 ob37 (th hb413 ob38))), (tt hb487 ob466 (ft hb450 ob37 (th hb414 ob38))), (tt hb488 ob466 (ft hb451 ob37 (th hb415 ob38))), (tt hb489 ob466 (ft hb452 ob37 (th hb416 ob38))), (tt hb490 ob466 (ft hb453 ob37 (th hb417 ob38))), (tt hb491 ob466 (ft hb454 ob37 (th hb418 ob38))), (tt hb492 ob466 (ft hb455 ob37 (th hb419 ob38))), (tt hb493 ob466 (ft hb456 ob37 (th hb420 ob38))), (tt hb494 ob466 (ft hb457 ob37 (th hb421 ob38))), (tt hb495 ob466 (ft hb458 ob37 (th hb422 ob38))), (tt hb496 ob466 (ft hb459 ob37 (th hb423 ob38))), (tt hb497 ob466 (ft hb460 ob37 (th hb424 ob38))), (tt hb498 ob466 (ft hb461 ob37 (th hb425 ob38))), (tt hb499 ob466 (ft hb462 ob37 (th hb426 ob38))), (tt hb500 ob466 (ft hb463 ob37 (th hb427 ob38))), (tt hb501 ob466 (ft hb464 ob37 (th hb428 ob38))), (tt hb502 ob466 (ft hb465 ob37 (th hb429 ob38)))] <;> rfl
  · intro c11 c12 c13 c14 c15 c16 c17 c18 c19 c20 c21 x9 x10 x11 x12 x13 x14 x15 x16 x17 hr hF
    have r49 : ρ.i 49 = 1 := by rw [hi49, quo64 reg (reg_sm hr)]; exact reg_q1 hr
    have ob36 : ρ.b 36 = false := t36
    have ob466 : ρ.b 466 = true := by rw [hb466, ob36]; rfl
    have ob37 : ρ.b 37 = false := (hb37.trans (rc_two reg hr).1)
    have ob38 : ρ.b 38 = true := (hb38.trans (rc_two reg hr).2.1)
    have ob41 : ρ.b 41 = false := (by rw [hb41, r49]; rfl)
    have ob61 : ρ.b 61 = true := by rw [hb61, ob41]; rfl
    have oi61 : ρ.i 61 = (reg - 4) := (by rw [hi61, rem64 reg (reg_sm hr).1]; exact reg_r1 hr)
    have q18_62_51 : tabF T46 18 [ρ.i 50, ρ.i 51, ρ.i 52, ρ.i 53, ρ.i 54, ρ.i 55, ρ.i 56, ρ.i 57, ρ.i 58, ρ.i 59, ρ.i 60, ρ.i 61, v] [ρ.b 42, ρ.b 43, ρ.b 44, ρ.b 45, ρ.b 46, ρ.b 47, ρ.b 48, ρ.b 49, ρ.b 50] = ([c11, c12, c13, c14, c15, c16, c17, c18, c19, c20, c21], [true, x9, x10, x11, x12, x13, x14, x15, x16, x17]) := by rw [(fh hi50 ob41), (fh hi51 ob41), (fh hi52 ob41), (fh hi53 ob41), (fh hi54 ob41), (fh hi55 ob41), (fh hi56 ob41), (fh hi57 ob41), (fh hi58 ob41), (fh hi59 ob41), (fh hi60 ob41), oi61, (fh hb42 ob41), (fh hb43 ob41), (fh hb44 ob41), (fh hb45 ob41), (fh hb46 ob41), (fh hb47 ob41), (fh hb48 ob41), (fh hb49 ob41), (fh hb50 ob41)]; exact hF
    have ob39 : ρ.b 39 = true := (by rw [hb39, r49]; rfl)
    have ob40 : ρ.b 40 = true := (by rw [hb40, r49]; rfl)
    have ob80 : ρ.b 80 = true := (hb80.trans (rc_two reg hr).2.2.1)
    have ob85 : ρ.b 85 = true := (hb85.trans (rc_two reg hr).2.2.2.1)
    have ob93 : ρ.b 93 = true := (hb93.trans (rc_two reg hr).2.2.2.2.1)
    have ob99 : ρ.b 99 = false := (hb99.trans (rc_two reg hr).2.2.2.2.2.1)
    have ob136 : ρ.b 136 = false := (hb136.trans (rc_two reg hr).2.2.2.2.2.2)
    refine Prod.ext ?_ (List.cons_eq_cons.2 ⟨?_, ?_⟩)
    · show [ρ.i 584, ρ.i 585, ρ.i 586, ρ.i 587, ρ.i 588, ρ.i 589, ρ.i 590, ρ.i 591, ρ.i 592, ρ.i 593, ρ.i 594, ρ.i 595, ρ.i 596, ρ.i 597, ρ.i 598, ρ.i 599, ρ.i 600, ρ.i 601, ρ.i 602, ρ.i 603, ρ.i 604, ρ.i 605, ρ.i 606, ρ.i 607, ρ.i 608, ρ.i 609, ρ.i 610, ρ.i 611, ρ.i 612, ρ.i 613, ρ.i 614, ρ.i 615, ρ.i 616, ρ.i 617, ρ.i 618, ρ.i 619, ρ.i 620, ρ.i 621, ρ.i 622, ρ.i 623, ρ.i 624, ρ.i 625, ρ.i 626, ρ.i 627, ρ.i 628, ρ.i 629, ρ.i 583] = _
      rw [(tt hi584 ob466 (ft hi537 ob37 (tt hi491 ob38 (fh hi73 ob41)))), (tt hi585 ob466 (ft hi538 ob37 (tt hi492 ob38 (fh hi74 ob41)))), (tt hi586 ob466 (ft hi539 ob37 (tt hi493 ob38 (fh hi75 ob41)))), (tt hi587 ob466 (ft hi540 ob37 (tt hi494 ob38 (fh hi76 ob41)))), (tt hi588 ob466 (ft hi541 ob37 (tt hi495 ob38 (fh hi77 ob41)))), (tt hi589 ob466 (ft hi542 ob37 (tt hi496 ob38 (fh hi78 ob41)))), (tt hi590 ob466 (ft hi543 ob37 (tt hi497 ob38 (fh hi79 ob41)))), (tt hi591 ob466 (ft hi544 ob37 (tt hi498 ob38 (fh hi80 ob41)))), (tt hi592 ob466 (ft hi545 ob37 (tt hi499 ob38 (fh hi81 ob41)))), (tt hi593 ob466 (ft hi546 ob37 (tt hi500 ob38 (fh hi82 ob41)))), (tt hi594 ob466 (ft hi547 ob37 (tt hi501 ob38 (fh hi83 ob41)))), (tt hi595 ob466 (ft hi548 ob37 (tt hi502 ob38 (tt hi84 ob61 (gi hi62 q18_62_51))))), (tt hi596 ob466 (ft hi549 ob37 (tt hi503 ob38 (tt hi85 ob61 (gi hi63 q18_62_51))))), (tt hi597 ob466 (ft hi550 ob37 (tt hi504 ob38 (tt hi86 ob61 (gi hi64 q18_62_51))))), (tt hi598 ob466 (ft hi551 ob37 (tt hi505 ob38 (tt hi87 ob61 (gi hi65 q18_62_51))))), (tt hi599 ob466 (ft hi552 ob37 (tt hi506 ob38 (tt hi88 ob61 (gi hi66 q18_62_51))))), (tt hi600 ob466 (ft hi553 ob37 (tt hi507 ob38 (tt hi89 ob61 (gi hi67 q18_62_51))))), (tt hi601 ob466 (ft hi554 ob37 (tt hi508 ob38 (tt hi90 ob61 (gi hi68 q18_62_51))))), (tt hi602 ob466 (ft hi555 ob37 (tt hi509 ob38 (tt hi91 ob61 (gi hi69 q18_62_51))))), (tt hi603 ob466 (ft hi556 ob37 (tt hi510 ob38 (tt hi92 ob61 (gi hi70 q18_62_51))))), (tt hi604 ob466 (ft hi557 ob37 (tt hi511 ob38 (tt hi93 ob61 (gi hi71 q18_62_51))))), (tt hi605 ob466 (ft hi558 ob37 (tt hi512 ob38 (tt hi94 ob61 (gi hi72 q18_62_51))))), (tt hi606 ob466 (ft hi559 ob37 (th hi513 ob38))), (tt hi607 ob466 (ft hi560 ob37 (th hi514 ob38))), (tt hi608 ob466 (ft hi561 ob37 (th hi515 ob38))), (tt hi609 ob466 (ft hi562 ob37 (th hi516 ob38))), (tt hi610 ob466 (ft hi563 ob37 (th hi517 ob38))), (tt hi611 ob466 (ft hi564 ob37 (th hi518 ob38))), (tt hi612 ob466 (ft hi565 ob37 (th hi519 ob38))), (tt hi613 ob466 (ft hi566 ob37 (th hi520 ob38))), (tt hi614 ob466 (ft hi567 ob37 (th hi521 ob38))), (tt hi615 ob466 (ft hi568 ob37 (th hi522 ob38))), (tt hi616 ob466 (ft hi569 ob37 (th hi523 ob38))), (tt hi617 ob466 (ft hi570 ob37 (th hi524 ob38))), (tt hi618 ob466 (ft hi571 ob37 (th hi525 ob38))), (tt hi619 ob466 (ft hi572 ob37 (th hi526 ob38))), (tt hi620 ob466 (ft hi573 ob37 (th hi527 ob38))), (tt hi621 ob466 (ft hi574 ob37 (th hi528 ob38))), (tt hi622 ob466 (ft hi575 ob37 (th hi529 ob38))), (tt hi623 ob466 (ft hi576 ob37 (th hi530 ob38))), (tt hi624 ob466 (ft hi577 ob37 (th hi531 ob38))), (tt hi625 ob466 (ft hi578 ob37 (th hi532 ob38))), (tt hi626 ob466 (ft hi579 ob37 (th hi533 ob38))), (tt hi627 ob466 (ft hi580 ob37 (th hi534 ob38))), (tt hi628 ob466 (ft hi581 ob37 (th hi535 ob38))), (tt hi629 ob466 (ft hi582 ob37 (th hi536 ob38))), (th hi583 ob466)] <;> rfl
    · simp [ob39, ob40, (gb hb51 q18_62_51), ob36, ob37, ob38, ob80, ob85, ob93, ob99, ob136]
    · show [ρ.b 467, ρ.b 468, ρ.b 469, ρ.b 470, ρ.b 471, ρ.b 472, ρ.b 473, ρ.b 474, ρ.b 475, ρ.b 476, ρ.b 477, ρ.b 478, ρ.b 479, ρ.b 480, ρ.b 481, ρ.b 482, ρ.b 483, ρ.b 484, ρ.b 485, ρ.b 486, ρ.b 487, ρ.b 488, ρ.b 489, ρ.b 490, ρ.b 491, ρ.b 492, ρ.b 493, ρ.b 494, ρ.b 495, ρ.b 496, ρ.b 497, ρ.b 498, ρ.b 499, ρ.b 500, ρ.b 501, ρ.b 502] = _
      rw [(tt hb467 ob466 (ft hb430 ob37 (tt hb394 ob38 (fh hb62 ob41)))), (tt hb468 ob466 (ft hb431 ob37 (tt hb395 ob38 (fh hb63 ob41)))), (tt hb469 ob466 (ft hb432 ob37 (tt hb396 ob38 (fh hb64 ob41)))), (tt hb470 ob466 (ft hb433 ob37 (tt hb397 ob38 (fh hb65 ob41)))), (tt hb471 ob466 (ft hb434 ob37 (tt hb398 ob38 (fh hb66 ob41)))), (tt hb472 ob466 (ft hb435 ob37 (tt hb399 ob38 (fh hb67 ob41)))), (tt hb473 ob466 (ft hb436 ob37 (tt hb400 ob38 (fh hb68 ob41)))), (tt hb474 ob466 (ft hb437 ob37 (tt hb401 ob38 (fh hb69 ob41)))), (tt hb475 ob466 (ft hb438 ob37 (tt hb402 ob38 (fh hb70 ob41)))), (tt hb476 ob466 (ft hb439 ob37 (tt hb403 ob38 (tt hb71 ob61 (gb hb52 q18_62_51))))), (tt hb477 ob466 (ft hb440 ob37 (tt hb404 ob38 (tt hb72 ob61 (gb hb53 q18_62_51))))), (tt hb478 ob466 (ft hb441 ob37 (tt hb405 ob38 (tt hb73 ob61 (gb hb54 q18_62_51))))), (tt hb479 ob466 (ft hb442 ob37 (tt hb406 ob38 (tt hb74 ob61 (gb hb55 q18_62_51))))), (tt hb480 ob466 (ft hb443 ob37 (tt hb407 ob38 (tt hb75 ob61 (gb hb56 q18_62_51))))), (tt hb481 ob466 (ft hb444 ob37 (tt hb408 ob38 (tt hb76 ob61 (gb hb57 q18_62_51))))), (tt hb482 ob466 (ft hb445 ob37 (tt hb409 ob38 (tt hb77 ob61 (gb hb58 q18_62_51))))), (tt hb483 ob466 (ft hb446 ob37 (tt hb410 ob38 (tt hb78 ob61 (gb hb59 q18_62_51))))), (tt hb484 ob466 (ft hb447 ob37 (tt hb411 ob38 (tt hb79 ob61 (gb hb60 q18_62_51))))), (tt hb485 ob466 (ft hb448 ob37 (th hb412 ob38))), (tt hb486 ob466 (ft hb449 ob37 (th hb413 ob38))), (tt hb487 ob466 (ft hb450 ob37 (th hb414 ob38))), (tt hb488 ob466 (ft hb451 ob37 (th hb415 ob38))), (tt hb489 ob466 (ft hb452 ob37 (th hb416 ob38))), (tt hb490 ob466 (ft hb453 ob37 (th hb417 ob38))), (tt hb491 ob466 (ft hb454 ob37 (th hb418 ob38))), (tt hb492 ob466 (ft hb455 ob37 (th hb419 ob38))), (tt hb493 ob466 (ft hb456 ob37 (th hb420 ob38))), (tt hb494 ob466 (ft hb457 ob37 (th hb421 ob38))), (tt hb495 ob466 (ft hb458 ob37 (th hb422 ob38))), (tt hb496 ob466 (ft hb459 ob37 (th hb423 ob38))), (tt hb497 ob466 (ft hb460 ob37 (th hb424 ob38))), (tt hb498 ob466 (ft hb461 ob37 (th hb425 ob38))), (tt hb499 ob466 (ft hb462 ob37 (th hb426 ob38))), (tt hb500 ob466 (ft hb463 ob37 (th hb427 ob38))), (tt hb501 ob466 (ft hb464 ob37 (th hb428 ob38))), (tt hb502 ob466 (ft hb465 ob37 (th hb429 ob38)))] <;> rfl
  · intro c22 c23 c24 c25 c26 c27 x18 x19 x20 hr hF
    have ob36 : ρ.b 36 = false := t36
    have ob466 : ρ.b 466 = true := by rw [hb466, ob36]; rfl
    have ob37 : ρ.b 37 = false := (hb37.trans (rc_tri reg hr).1)
    have ob38 : ρ.b 38 = false := (hb38.trans (rc_tri reg hr).2.1)
    have ob80 : ρ.b 80 = true := (hb80.trans (rc_tri reg hr).2.2.1)
    have oi95 : ρ.i 95 = (reg - 8) := (by rw [hi95]; exact wrap_i64_in (reg_w hr).1 (reg_w hr).2)
    have q19_96_81 : tabF T46 19 [i22, i23, i24, i25, i26, i27, ρ.i 95, v] [b18, b19, b20] = ([c22, c23, c24, c25, c26, c27], [true, x18, x19, x20]) := by rw [oi95]; exact hF
    have ob85 : ρ.b 85 = true := (hb85.trans (rc_tri reg hr).2.2.2.1)
    have ob93 : ρ.b 93 = true := (hb93.trans (rc_tri reg hr).2.2.2.2.1)
    have ob99 : ρ.b 99 = false := (hb99.trans (rc_tri reg hr).2.2.2.2.2.1)
    have ob136 : ρ.b 136 = false := (hb136.trans (rc_tri reg hr).2.2.2.2.2.2)
    refine Prod.ext ?_ (List.cons_eq_cons.2 ⟨?_, ?_⟩)
    · show [ρ.i 584, ρ.i 585, ρ.i 586, ρ.i 587, ρ.i 588, ρ.i 589, ρ.i 590, ρ.i 591, ρ.i 592, ρ.i 593, ρ.i 594, ρ.i 595, ρ.i 596, ρ.i 597, ρ.i 598, ρ.i 599, ρ.i 600, ρ.i 601, ρ.i 602, ρ.i 603, ρ.i 604, ρ.i 605, ρ.i 606, ρ.i 607, ρ.i 608, ρ.i 609, ρ.i 610, ρ.i 611, ρ.i 612, ρ.i 613, ρ.i 614, ρ.i 615, ρ.i 616, ρ.i 617, ρ.i 618, ρ.i 619, ρ.i 620, ρ.i 621, ρ.i 622, ρ.i 623, ρ.i 624, ρ.i 625, ρ.i 626, ρ.i 627, ρ.i 628, ρ.i 629, ρ.i 583] = _
      rw [(tt hi584 ob466 (ft hi537 ob37 (ft hi491 ob38 (th hi445 ob80)))), (tt hi585 ob466 (ft hi538 ob37 (ft hi492 ob38 (th hi446 ob80)))), (tt hi586 ob466 (ft hi539 ob37 (ft hi493 ob38 (th hi447 ob80)))), (tt hi587 ob466 (ft hi540 ob37 (ft hi494 ob38 (th hi448 ob80)))), (tt hi588 ob466 (ft hi541 ob37 (ft hi495 ob38 (th hi449 ob80)))), (tt hi589 ob466 (ft hi542 ob37 (ft hi496 ob38 (th hi450 ob80)))), (tt hi590 ob466 (ft hi543 ob37 (ft hi497 ob38 (th hi451 ob80)))), (tt hi591 ob466 (ft hi544 ob37 (ft hi498 ob38 (th hi452 ob80)))), (tt hi592 ob466 (ft hi545 ob37 (ft hi499 ob38 (th hi453 ob80)))), (tt hi593 ob466 (ft hi546 ob37 (ft hi500 ob38 (th hi454 ob80)))), (tt hi594 ob466 (ft hi547 ob37 (ft hi501 ob38 (th hi455 ob80)))), (tt hi595 ob466 (ft hi548 ob37 (ft hi502 ob38 (th hi456 ob80)))), (tt hi596 ob466 (ft hi549 ob37 (ft hi503 ob38 (th hi457 ob80)))), (tt hi597 ob466 (ft hi550 ob37 (ft hi504 ob38 (th hi458 ob80)))), (tt hi598 ob466 (ft hi551 ob37 (ft hi505 ob38 (th hi459 ob80)))), (tt hi599 ob466 (ft hi552 ob37 (ft hi506 ob38 (th hi460 ob80)))), (tt hi600 ob466 (ft hi553 ob37 (ft hi507 ob38 (th hi461 ob80)))), (tt hi601 ob466 (ft hi554 ob37 (ft hi508 ob38 (th hi462 ob80)))), (tt hi602 ob466 (ft hi555 ob37 (ft hi509 ob38 (th hi463 ob80)))), (tt hi603 ob466 (ft hi556 ob37 (ft hi510 ob38 (th hi464 ob80)))), (tt hi604 ob466 (ft hi557 ob37 (ft hi511 ob38 (th hi465 ob80)))), (tt hi605 ob466 (ft hi558 ob37 (ft hi512 ob38 (th hi466 ob80)))), (tt hi606 ob466 (ft hi559 ob37 (ft hi513 ob38 (tt hi467 ob80 (gi hi96 q19_96_81))))), (tt hi607 ob466 (ft hi560 ob37 (ft hi514 ob38 (tt hi468 ob80 (gi hi97 q19_96_81))))), (tt hi608 ob466 (ft hi561 ob37 (ft hi515 ob38 (tt hi469 ob80 (gi hi98 q19_96_81))))), (tt hi609 ob466 (ft hi562 ob37 (ft hi516 ob38 (tt hi470 ob80 (gi hi99 q19_96_81))))), (tt hi610 ob466 (ft hi563 ob37 (ft hi517 ob38 (tt hi471 ob80 (gi hi100 q19_96_81))))), (tt hi611 ob466 (ft hi564 ob37 (ft hi518 ob38 (tt hi472 ob80 (gi hi101 q19_96_81))))), (tt hi612 ob466 (ft hi565 ob37 (ft hi519 ob38 (th hi473 ob80)))), (tt hi613 ob466 (ft hi566 ob37 (ft hi520 ob38 (th hi474 ob80)))), (tt hi614 ob466 (ft hi567 ob37 (ft hi521 ob38 (th hi475 ob80)))), (tt hi615 ob466 (ft hi568 ob37 (ft hi522 ob38 (th hi476 ob80)))), (tt hi616 ob466 (ft hi569 ob37 (ft hi523 ob38 (th hi477 ob80)))), (tt hi617 ob466 (ft hi570 ob37 (ft hi524 ob38 (th hi478 ob80)))), (tt hi618 ob466 (ft hi571 ob37 (ft hi525 ob38 (th hi479 ob80)))), (tt hi619 ob466 (ft hi572 ob37 (ft hi526 ob38 (th hi480 ob80)))), (tt hi620 ob466 (ft hi573 ob37 (ft hi527 ob38 (th hi481 ob80)))), (tt hi621 ob466 (ft hi574 ob37 (ft hi528 ob38 (th hi482 ob80)))), (tt hi622 ob466 (ft hi575 ob37 (ft hi529 ob38 (th hi483 ob80)))), (tt hi623 ob466 (ft hi576 ob37 (ft hi530 ob38 (th hi484 ob80)))), (tt hi624 ob466 (ft hi577 ob37 (ft hi531 ob38 (th hi485 ob80)))), (tt hi625 ob466 (ft hi578 ob37 (ft hi532 ob38 (th hi486 ob80)))), (tt hi626 ob466 (ft hi579 ob37 (ft hi533 ob38 (th hi487 ob80)))), (tt hi627 ob466 (ft hi580 ob37 (ft hi534 ob38 (th hi488 ob80)))), (tt hi628 ob466 (ft hi581 ob37 (ft hi535 ob38 (th hi489 ob80)))), (tt hi629 ob466 (ft hi582 ob37 (ft hi536 ob38 (th hi490 ob80)))), (th hi583 ob466)] <;> rfl
    · simp [(gb hb81 q19_96_81), ob36, ob37, ob38, ob80, ob85, ob93, ob99, ob136]
    · show [ρ.b 467, ρ.b 468, ρ.b 469, ρ.b 470, ρ.b 471, ρ.b 472, ρ.b 473, ρ.b 474, ρ.b 475, ρ.b 476, ρ.b 477, ρ.b 478, ρ.b 479, ρ.b 480, ρ.b 481, ρ.b 482, ρ.b 483, ρ.b 484, ρ.b 485, ρ.b 486, ρ.b 487, ρ.b 488, ρ.b 489, ρ.b 490, ρ.b 491, ρ.b 492, ρ.b 493, ρ.b 494, ρ.b 495, ρ.b 496, ρ.b 497, ρ.b 498, ρ.b 499, ρ.b 500, ρ.b 501, ρ.b 502] = _
      rw [(tt hb467 ob466 (ft hb430 ob37 (ft hb394 ob38 (th hb358 ob80)))), (tt hb468 ob466 (ft hb431 ob37 (ft hb395 ob38 (th hb359 ob80)))), (tt hb469 ob466 (ft hb432 ob37 (ft hb396 ob38 (th hb360 ob80)))), (tt hb470 ob466 (ft hb433 ob37 (ft hb397 ob38 (th hb361 ob80)))), (tt hb471 ob466 (ft hb434 ob37 (ft hb398 ob38 (th hb362 ob80)))), (tt hb472 ob466 (ft hb435 ob37 (ft hb399 ob38 (th hb363 ob80)))), (tt hb473 ob466 (ft hb436 ob37 (ft hb400 ob38 (th hb364 ob80)))), (tt hb474 ob466 (ft hb437 ob37 (ft hb401 ob38 (th hb365 ob80)))), (tt hb475 ob466 (ft hb438 ob37 (ft hb402 ob38 (th hb366 ob80)))), (tt hb476 ob466 (ft hb439 ob37 (ft hb403 ob38 (th hb367 ob80)))), (tt hb477 ob466 (ft hb440 ob37 (ft hb404 ob38 (th hb368 ob80)))), (tt hb478 ob466 (ft hb441 ob37 (ft hb405 ob38 (th hb369 ob80)))), (tt hb479 ob466 (ft hb442 ob37 (ft hb406 ob38 (th hb370 ob80)))), (tt hb480 ob466 (ft hb443 ob37 (ft hb407 ob38 (th hb371 ob80)))), (tt hb481 ob466 (ft hb444 ob37 (ft hb408 ob38 (th hb372 ob80)))), (tt hb482 ob466 (ft hb445 ob37 (ft hb409 ob38 (th hb373 ob80)))), (tt hb483 ob466 (ft hb446 ob37 (ft hb410 ob38 (th hb374 ob80)))), (tt hb484 ob466 (ft hb447 ob37 (ft hb411 ob38 (th hb375 ob80)))), (tt hb485 ob466 (ft hb448 ob37 (ft hb412 ob38 (tt hb376 ob80 (gb hb82 q19_96_81))))), (tt hb486 ob466 (ft hb449 ob37 (ft hb413 ob38 (tt hb377 ob80 (gb hb83 q19_96_81))))), (tt hb487 ob466 (ft hb450 ob37 (ft hb414 ob38 (tt hb378 ob80 (gb hb84 q19_96_81))))), (tt hb488 ob466 (ft hb451 ob37 (ft hb415 ob38 (th hb379 ob80)))), (tt hb489 ob466 (ft hb452 ob37 (ft hb416 ob38 (th hb380 ob80)))), (tt hb490 ob466 (ft hb453 ob37 (ft hb417 ob38 (th hb381 ob80)))), (tt hb491 ob466 (ft hb454 ob37 (ft hb418 ob38 (th hb382 ob80)))), (tt hb492 ob466 (ft hb455 ob37 (ft hb419 ob38 (th hb383 ob80)))), (tt hb493 ob466 (ft hb456 ob37 (ft hb420 ob38 (th hb384 ob80)))), (tt hb494 ob466 (ft hb457 ob37 (ft hb421 ob38 (th hb385 ob80)))), (tt hb495 ob466 (ft hb458 ob37 (ft hb422 ob38 (th hb386 ob80)))), (tt hb496 ob466 (ft hb459 ob37 (ft hb423 ob38 (th hb387 ob80)))), (tt hb497 ob466 (ft hb460 ob37 (ft hb424 ob38 (th hb388 ob80)))), (tt hb498 ob466 (ft hb461 ob37 (ft hb425 ob38 (th hb389 ob80)))), (tt hb499 ob466 (ft hb462 ob37 (ft hb426 ob38 (th hb390 ob80)))), (tt hb500 ob466 (ft hb463 ob37 (ft hb427 ob38 (th hb391 ob80)))), (tt hb501 ob466 (ft hb464 ob37 (ft hb428 ob38 (th hb392 ob80)))), (tt hb502 ob466 (ft hb465 ob37 (ft hb429 ob38 (th hb393 ob80))))] <;> rfl
  · intro c28 c29 c30 c31 c32 c33 c34 x21 x22 x23 x24 x25 x26 hr hF
    have ob36 : ρ.b 36 = false := t36
    have ob466 : ρ.b 466 = true := by rw [hb466, ob36]; rfl
    have ob37 : ρ.b 37 = false := (hb37.trans (rc_noi reg hr).1)
    have ob38 : ρ.b 38 = false := (hb38.trans (rc_noi reg hr).2.1)
    have ob80 : ρ.b 80 = false := (hb80.trans (rc_noi reg hr).2.2.1)
    have ob85 : ρ.b 85 = true := (hb85.trans (rc_noi reg hr).2.2.2.1)
    have oi102 : ρ.i 102 = (reg - 12) := (by rw [hi102]; exact wrap_i64_in (reg_w hr).1 (reg_w hr).2)
    have q20_103_86 : tabF T46 20 [i28, i29, i30, i31, i32, i33, i34, ρ.i 102, v] [b21, b22, b23, b24, b25, b26] = ([c28, c29, c30, c31, c32, c33, c34], [true, x21, x22, x23, x24, x25, x26]) := by rw [oi102]; exact hF
    have ob93 : ρ.b 93 = true := (hb93.trans (rc_noi reg hr).2.2.2.2.1)
    have ob99 : ρ.b 99 = false := (hb99.trans (rc_noi reg hr).2.2.2.2.2.1)
    have ob136 : ρ.b 136 = false := (hb136.trans (rc_noi reg hr).2.2.2.2.2.2)
    refine Prod.ext ?_ (List.cons_eq_cons.2 ⟨?_, ?_⟩)
    · show [ρ.i 584, ρ.i 585, ρ.i 586, ρ.i 587, ρ.i 588, ρ.i 589, ρ.i 590, ρ.i 591, ρ.i 592, ρ.i 593, ρ.i 594, ρ.i 595, ρ.i 596, ρ.i 597, ρ.i 598, ρ.i 599, ρ.i 600, ρ.i 601, ρ.i 602, ρ.i 603, ρ.i 604, ρ.i 605, ρ.i 606, ρ.i 607, ρ.i 608, ρ.i 609, ρ.i 610, ρ.i 611, ρ.i 612, ρ.i 613, ρ.i 614, ρ.i 615, ρ.i 616, ρ.i 617, ρ.i 618, ρ.i 619, ρ.i 620, ρ.i 621, ρ.i 622, ρ.i 623, ρ.i 624, ρ.i 625, ρ.i 626, ρ.i 627, ρ.i 628, ρ.i 629, ρ.i 583] = _
      rw [(tt hi584 ob466 (ft hi537 ob37 (ft hi491 ob38 (ft hi445 ob80 (th hi399 ob85))))), (tt hi585 ob466 (ft hi538 ob37 (ft hi492 ob38 (ft hi446 ob80 (th hi400 ob85))))), (tt hi586 ob466 (ft hi539 ob37 (ft hi493 ob38 (ft hi447 ob80 (th hi401 ob85))))), (tt hi587 ob466 (ft hi540 ob37 (ft hi494 ob38 (ft hi448 ob80 (th hi402 ob85))))), (tt hi588 ob466 (ft hi541 ob37 (ft hi495 ob38 (ft hi449 ob80 (th hi403 ob85))))), (tt hi589 ob466 (ft hi542 ob37 (ft hi496 ob38 (ft hi450 ob80 (th hi404 ob85))))), (tt hi590 ob466 (ft hi543 ob37 (ft hi497 ob38 (ft hi451 ob80 (th hi405 ob85))))), (tt hi591 ob466 (ft hi544 ob37 (ft hi498 ob38 (ft hi452 ob80 (th hi406 ob85))))), (tt hi592 ob466 (ft hi545 ob37 (ft hi499 ob38 (ft hi453 ob80 (th hi407 ob85))))), (tt hi593 ob466 (ft hi546 ob37 (ft hi500 ob38 (ft hi454 ob80 (th hi408 ob85))))), (tt hi594 ob466 (ft hi547 ob37 (ft hi501 ob38 (ft hi455 ob80 (th hi409 ob85))))), (tt hi595 ob466 (ft hi548 ob37 (ft hi502 ob38 (ft hi456 ob80 (th hi410 ob85))))), (tt hi596 ob466 (ft hi549 ob37 (ft hi503 ob38 (ft hi457 ob80 (th hi411 ob85))))), (tt hi597 ob466 (ft hi550 ob37 (ft hi504 ob38 (ft hi458 ob80 (th hi412 ob85))))), (tt hi598 ob466 (ft hi551 ob37 (ft hi505 ob38 (ft hi459 ob80 (th hi413 ob85))))), (tt hi599 ob466 (ft hi552 ob37 (ft hi506 ob38 (ft hi460 ob80 (th hi414 ob85))))), (tt hi600 ob466 (ft hi553 ob37 (ft hi507 ob38 (ft hi461 ob80 (th hi415 ob85))))), (tt hi601 ob466 (ft hi554 ob37 (ft hi508 ob38 (ft hi462 ob80 (th hi416 ob85))))), (tt hi602 ob466 (ft hi555 ob37 (ft hi509 ob38 (ft hi463 ob80 (th hi417 ob85))))), (tt hi603 ob466 (ft hi556 ob37 (ft hi510 ob38 (ft hi464 ob80 (th hi418 ob85))))), (tt hi604 ob466 (ft hi557 ob37 (ft hi511 ob38 (ft hi465 ob80 (th hi419 ob85))))), (tt hi605 ob466 (ft hi558 ob37 (ft hi512 ob38 (ft hi466 ob80 (th hi420 ob85))))), (tt hi606 ob466 (ft hi559 ob37 (ft hi513 ob38 (ft hi467 ob80 (th hi421 ob85))))), (tt hi607 ob466 (ft hi560 ob37 (ft hi514 ob38 (ft hi468 ob80 (th hi422 ob85))))), (tt hi608 ob466 (ft hi561 ob37 (ft hi515 ob38 (ft hi469 ob80 (th hi423 ob85))))), (tt hi609 ob466 (ft hi562 ob37 (ft hi516 ob38 (ft hi470 ob80 (th hi424 ob85))))), (tt hi610 ob466 (ft hi563 ob37 (ft hi517 ob38 (ft hi471 ob80 (th hi425 ob85))))), (tt hi611 ob466 (ft hi564 ob37 (ft hi518 ob38 (ft hi472 ob80 (th hi426 ob85))))), (tt hi612 ob466 (ft hi565 ob37 (ft hi519 ob38 (ft hi473 ob80 (tt hi427 ob85 (gi hi103 q20_103_86)))))), (tt hi613 ob466 (ft hi566 ob37 (ft hi520 ob38 (ft hi474 ob80 (tt hi428 ob85 (gi hi104 q20_103_86)))))), (tt hi614 ob466 (ft hi567 ob37 (ft hi521 ob38 (ft hi475 ob80 (tt hi429 ob85 (gi hi105 q20_103_86)))))), (tt hi615 ob466 (ft hi568 ob37 (ft hi522 ob38 (ft hi476 ob80 (tt hi430 ob85 (gi hi106 q20_103_86)))))), (tt hi616 ob466 (ft hi569 ob37 (ft hi523 ob38 (ft hi477 ob80 (tt hi431 ob85 (gi hi107 q20_103_86)))))), (tt hi617 ob466 (ft hi570 ob37 (ft hi524 ob38 (ft hi478 ob80 (tt hi432 ob85 (gi hi108 q20_103_86)))))), (tt hi618 ob466 (ft hi571 ob37 (ft hi525 ob38 (ft hi479 ob80 (tt hi433 ob85 (gi hi109 q20_103_86)))))), (tt hi619 ob466 (ft hi572 ob37 (ft hi526 ob38 (ft hi480 ob80 (th hi434 ob85))))), (tt hi620 ob466 (ft hi573 ob37 (ft hi527 ob38 (ft hi481 ob80 (th hi435 ob85))))), (tt hi621 ob466 (ft hi574 ob37 (ft hi528 ob38 (ft hi482 ob80 (th hi436 ob85))))), (tt hi622 ob466 (ft hi575 ob37 (ft hi529 ob38 (ft hi483 ob80 (th hi437 ob85))))), (tt hi623 ob466 (ft hi576 ob37 (ft hi530 ob38 (ft hi484 ob80 (th hi438 ob85))))), (tt hi624 ob466 (ft hi577 ob37 (ft hi531 ob38 (ft hi485 ob80 (th hi439 ob85))))), (tt hi625 ob466 (ft hi578 ob37 (ft hi532 ob38 (ft hi486 ob80 (th hi440 ob85))))), (tt hi626 ob466 (ft hi579 ob37 (ft hi533 ob38 (ft hi487 ob80 (th hi441 ob85))))), (tt hi627 ob466 (ft hi580 ob37 (ft hi534 ob38 (ft hi488 ob80 (th hi442 ob85))))), (tt hi628 ob466 (ft hi581 ob37 (ft hi535 ob38 (ft hi489 ob80 (th hi443 ob85))))), (tt hi629 ob466 (ft hi582 ob37 (ft hi536 ob38 (ft hi490 ob80 (th hi444 ob85))))), (th hi583 ob466)] <;> rfl
    · simp [(gb hb86 q20_103_86), ob36, ob37, ob38, ob80, ob85, ob93, ob99, ob136]
    · show [ρ.b 467, ρ.b 468, ρ.b 469, ρ.b 470, ρ.b 471, ρ.b 472, ρ.b 473, ρ.b 474, ρ.b 475, ρ.b 476, ρ.b 477, ρ.b 478, ρ.b 479, ρ.b 480, ρ.b 481, ρ.b 482, ρ.b 483, ρ.b 484, ρ.b 485, ρ.b 486, ρ.b 487, ρ.b 488, ρ.b 489, ρ.b 490, ρ.b 491, ρ.b 492, ρ.b 493, ρ.b 494, ρ.b 495, ρ.b 496, ρ.b 497, ρ.b 498, ρ.b 499, ρ.b 500, ρ.b 501, ρ.b 502] = _
      rw [(tt hb467 ob466 (ft hb430 ob37 (ft hb394 ob38 (ft hb358 ob80 (th hb322 ob85))))), (tt hb468 ob466 (ft hb431 ob37 (ft hb395 ob38 (ft hb359 ob80 (th hb323 ob85))))), (tt hb469 ob466 (ft hb432 ob37 (ft hb396 ob38 (ft hb360 ob80 (th hb324 ob85))))), (tt hb470 ob466 (ft hb433 ob37 (ft hb397 ob38 (ft hb361 ob80 (th hb325 ob85))))), (tt hb471 ob466 (ft hb434 ob37 (ft hb398 ob38 (ft hb362 ob80 (th hb326 ob85))))), (tt hb472 ob466 (ft hb435 ob37 (ft hb399 ob38 (ft hb363 ob80 (th hb327 ob85))))), (tt hb473 ob466 (ft hb436 ob37 (ft hb400 ob38 (ft hb364 ob80 (th hb328 ob85))))), (tt hb474 ob466 (ft hb437 ob37 (ft hb401 ob38 (ft hb365 ob80 (th hb329 ob85))))), (tt hb475 ob466 (ft hb438 ob37 (ft hb402 ob38 (ft hb366 ob80 (th hb330 ob85))))), (tt hb476 ob466 (ft hb439 ob37 (ft hb403 ob38 (ft hb367 ob80 (th hb331 ob85))))), (tt hb477 ob466 (ft hb440 ob37 (ft hb404 ob38 (ft hb368 ob80 (th hb332 ob85))))), (tt hb478 ob466 (ft hb441 ob37 (ft hb405 ob38 (ft hb369 ob80 (th hb333 ob85))))), (tt hb479 ob466 (ft hb442 ob37 (ft hb406 ob38 (ft hb370 ob80 (th hb334 ob85))))), (tt hb480 ob466 (ft hb443 ob37 (ft hb407 ob38 (ft hb371 ob80 (th hb335 ob85))))), (tt hb481 ob466 (ft hb444 ob37 (ft hb408 ob38 (ft hb372 ob80 (th hb336 ob85))))), (tt hb482 ob466 (ft hb445 ob37 (ft hb409 ob38 (ft hb373 ob80 (th hb337 ob85))))), (tt hb483 ob466 (ft hb446 ob37 (ft hb410 ob38 (ft hb374 ob80 (th hb338 ob85))))), (tt hb484 ob466 (ft hb447 ob37 (ft hb411 ob38 (ft hb375 ob80 (th hb339 ob85))))), (tt hb485 ob466 (ft hb448 ob37 (ft hb412 ob38 (ft hb376 ob80 (th hb340 ob85))))), (tt hb486 ob466 (ft hb449 ob37 (ft hb413 ob38 (ft hb377 ob80 (th hb341 ob85))))), (tt hb487 ob466 (ft hb450 ob37 (ft hb414 ob38 (ft hb378 ob80 (th hb342 ob85))))), (tt hb488 ob466 (ft hb451 ob37 (ft hb415 ob38 (ft hb379 ob80 (tt hb343 ob85 (gb hb87 q20_103_86)))))), (tt hb489 ob466 (ft hb452 ob37 (ft hb416 ob38 (ft hb380 ob80 (tt hb344 ob85 (gb hb88 q20_103_86)))))), (tt hb490 ob466 (ft hb453 ob37 (ft hb417 ob38 (ft hb381 ob80 (tt hb345 ob85 (gb hb89 q20_103_86)))))), (tt hb491 ob466 (ft hb454 ob37 (ft hb418 ob38 (ft hb382 ob80 (tt hb346 ob85 (gb hb90 q20_103_86)))))), (tt hb492 ob466 (ft hb455 ob37 (ft hb419 ob38 (ft hb383 ob80 (tt hb347 ob85 (gb hb91 q20_103_86)))))), (tt hb493 ob466 (ft hb456 ob37 (ft hb420 ob38 (ft hb384 ob80 (tt hb348 ob85 (gb hb92 q20_103_86)))))), (tt hb494 ob466 (ft hb457 ob37 (ft hb421 ob38 (ft hb385 ob80 (th hb349 ob85))))), (tt hb495 ob466 (ft hb458 ob37 (ft hb422 ob38 (ft hb386 ob80 (th hb350 ob85))))), (tt hb496 ob466 (ft hb459 ob37 (ft hb423 ob38 (ft hb387 ob80 (th hb351 ob85))))), (tt hb497 ob466 (ft hb460 ob37 (ft hb424 ob38 (ft hb388 ob80 (th hb352 ob85))))), (tt hb498 ob466 (ft hb461 ob37 (ft hb425 ob38 (ft hb389 ob80 (th hb353 ob85))))), (tt hb499 ob466 (ft hb462 ob37 (ft hb426 ob38 (ft hb390 ob80 (th hb354 ob85))))), (tt hb500 ob466 (ft hb463 ob37 (ft hb427 ob38 (ft hb391 ob80 (th hb355 ob85))))), (tt hb501 ob466 (ft hb464 ob37 (ft hb428 ob38 (ft hb392 ob80 (th hb356 ob85))))), (tt hb502 ob466 (ft hb465 ob37 (ft hb429 ob38 (ft hb393 ob80 (th hb357 ob85)))))] <;> rfl
  · intro c35 c36 c37 c38 c39 c40 c41 c42 c43 c44 x27 x28 x29 x30 x31 hr hF
    have ob36 : ρ.b 36 = false := t36
    have ob466 : ρ.b 466 = true := by rw [hb466, ob36]; rfl
    have ob37 : ρ.b 37 = false := (hb37.trans (rc_dmc reg hr).1)
    have ob38 : ρ.b 38 = false := (hb38.trans (rc_dmc reg hr).2.1)
    have ob80 : ρ.b 80 = false := (hb80.trans (rc_dmc reg hr).2.2.1)
    have ob85 : ρ.b 85 = false := (hb85.trans (rc_dmc reg hr).2.2.2.1)
    have ob93 : ρ.b 93 = true := (hb93.trans (rc_dmc reg hr).2.2.2.2.1)
    have oi110 : ρ.i 110 = (reg - 16) := (by rw [hi110]; exact wrap_i64_in (reg_w hr).1 (reg_w hr).2)
    have q21_111_94 : tabF T46 21 [i35, i36, i37, i38, i39, i40, i41, i42, i43, i44, ρ.i 110, v] [b27, b28, b29, b30, b31] = ([c35, c36, c37, c38, c39, c40, c41, c42, c43, c44], [x27, x28, x29, x30, x31]) := by rw [oi110]; exact hF
    have ob99 : ρ.b 99 = false := (hb99.trans (rc_dmc reg hr).2.2.2.2.2.1)
    have ob136 : ρ.b 136 = false := (hb136.trans (rc_dmc reg hr).2.2.2.2.2.2)
    refine Prod.ext ?_ (List.cons_eq_cons.2 ⟨?_, ?_⟩)
    · show [ρ.i 584, ρ.i 585, ρ.i 586, ρ.i 587, ρ.i 588, ρ.i 589, ρ.i 590, ρ.i 591, ρ.i 592, ρ.i 593, ρ.i 594, ρ.i 595, ρ.i 596, ρ.i 597, ρ.i 598, ρ.i 599, ρ.i 600, ρ.i 601, ρ.i 602, ρ.i 603, ρ.i 604, ρ.i 605, ρ.i 606, ρ.i 607, ρ.i 608, ρ.i 609, ρ.i 610, ρ.i 611, ρ.i 612, ρ.i 613, ρ.i 614, ρ.i 615, ρ.i 616, ρ.i 617, ρ.i 618, ρ.i 619, ρ.i 620, ρ.i 621, ρ.i 622, ρ.i 623, ρ.i 624, ρ.i 625, ρ.i 626, ρ.i 627, ρ.i 628, ρ.i 629, ρ.i 583] = _
      rw [(tt hi584 ob466 (ft hi537 ob37 (ft hi491 ob38 (ft hi445 ob80 (ft hi399 ob85 (th hi353 ob93)))))), (tt hi585 ob466 (ft hi538 ob37 (ft hi492 ob38 (ft hi446 ob80 (ft hi400 ob85 (th hi354 ob93)))))), (tt hi586 ob466 (ft hi539 ob37 (ft hi493 ob38 (ft hi447 ob80 (ft hi401 ob85 (th hi355 ob93)))))), (tt hi587 ob466 (ft hi540 ob37 (ft hi494 ob38 (ft hi448 ob80 (ft hi402 ob85 (th hi356 ob93)))))), (tt hi588 ob466 (ft hi541 ob37 (ft hi495 ob38 (ft hi449 ob80 (ft hi403 ob85 (th hi357 ob93)))))), (tt hi589 ob466 (ft hi542 ob37 (ft hi496 ob38 (ft hi450 ob80 (ft hi404 ob85 (th hi358 ob93)))))), (tt hi590 ob466 (ft hi543 ob37 (ft hi497 ob38 (ft hi451 ob80 (ft hi405 ob85 (th hi359 ob93)))))), (tt hi591 ob466 (ft hi544 ob37 (ft hi498 ob38 (ft hi452 ob80 (ft hi406 ob85 (th hi360 ob93)))))), (tt hi592 ob466 (ft hi545 ob37 (ft hi499 ob38 (ft hi453 ob80 (ft hi407 ob85 (th hi361 ob93)))))), (tt hi593 ob466 (ft hi546 ob37 (ft hi500 ob38 (ft hi454 ob80 (ft hi408 ob85 (th hi362 ob93)))))), (tt hi594 ob466 (ft hi547 ob37 (ft hi501 ob38 (ft hi455 ob80 (ft hi409 ob85 (th hi363 ob93)))))), (tt hi595 ob466 (ft hi548 ob37 (ft hi502 ob38 (ft hi456 ob80 (ft hi410 ob85 (th hi364 ob93)))))), (tt hi596 ob466 (ft hi549 ob37 (ft hi503 ob38 (ft hi457 ob80 (ft hi411 ob85 (th hi365 ob93)))))), (tt hi597 ob466 (ft hi550 ob37 (ft hi504 ob38 (ft hi458 ob80 (ft hi412 ob85 (th hi366 ob93)))))), (tt hi598 ob466 (ft hi551 ob37 (ft hi505 ob38 (ft hi459 ob80 (ft hi413 ob85 (th hi367 ob93)))))), (tt hi599 ob466 (ft hi552 ob37 (ft hi506 ob38 (ft hi460 ob80 (ft hi414 ob85 (th hi368 ob93)))))), (tt hi600 ob466 (ft hi553 ob37 (ft hi507 ob38 (ft hi461 ob80 (ft hi415 ob85 (th hi369 ob93)))))), (tt hi601 ob466 (ft hi554 ob37 (ft hi508 ob38 (ft hi462 ob80 (ft hi416 ob85 (th hi370 ob93)))))), (tt hi602 ob466 (ft hi555 ob37 (ft hi509 ob38 (ft hi463 ob80 (ft hi417 ob85 (th hi371 ob93)))))), (tt hi603 ob466 (ft hi556 ob37 (ft hi510 ob38 (ft hi464 ob80 (ft hi418 ob85 (th hi372 ob93)))))), (tt hi604 ob466 (ft hi557 ob37 (ft hi511 ob38 (ft hi465 ob80 (ft hi419 ob85 (th hi373 ob93)))))), (tt hi605 ob466 (ft hi558 ob37 (ft hi512 ob38 (ft hi466 ob80 (ft hi420 ob85 (th hi374 ob93)))))), (tt hi606 ob466 (ft hi559 ob37 (ft hi513 ob38 (ft hi467 ob80 (ft hi421 ob85 (th hi375 ob93)))))), (tt hi607 ob466 (ft hi560 ob37 (ft hi514 ob38 (ft hi468 ob80 (ft hi422 ob85 (th hi376 ob93)))))), (tt hi608 ob466 (ft hi561 ob37 (ft hi515 ob38 (ft hi469 ob80 (ft hi423 ob85 (th hi377 ob93)))))), (tt hi609 ob466 (ft hi562 ob37 (ft hi516 ob38 (ft hi470 ob80 (ft hi424 ob85 (th hi378 ob93)))))), (tt hi610 ob466 (ft hi563 ob37 (ft hi517 ob38 (ft hi471 ob80 (ft hi425 ob85 (th hi379 ob93)))))), (tt hi611 ob466 (ft hi564 ob37 (ft hi518 ob38 (ft hi472 ob80 (ft hi426 ob85 (th hi380 ob93)))))), (tt hi612 ob466 (ft hi565 ob37 (ft hi519 ob38 (ft hi473 ob80 (ft hi427 ob85 (th hi381 ob93)))))), (tt hi613 ob466 (ft hi566 ob37 (ft hi520 ob38 (ft hi474 ob80 (ft hi428 ob85 (th hi382 ob93)))))), (tt hi614 ob466 (ft hi567 ob37 (ft hi521 ob38 (ft hi475 ob80 (ft hi429 ob85 (th hi383 ob93)))))), (tt hi615 ob466 (ft hi568 ob37 (ft hi522 ob38 (ft hi476 ob80 (ft hi430 ob85 (th hi384 ob93)))))), (tt hi616 ob466 (ft hi569 ob37 (ft hi523 ob38 (ft hi477 ob80 (ft hi431 ob85 (th hi385 ob93)))))), (tt hi617 ob466 (ft hi570 ob37 (ft hi524 ob38 (ft hi478 ob80 (ft hi432 ob85 (th hi386 ob93)))))), (tt hi618 ob466 (ft hi571 ob37 (ft hi525 ob38 (ft hi479 ob80 (ft hi433 ob85 (th hi387 ob93)))))), (tt hi619 ob466 (ft hi572 ob37 (ft hi526 ob38 (ft hi480 ob80 (ft hi434 ob85 (tt hi388 ob93 (gi hi111 q21_111_94))))))), (tt hi620 ob466 (ft hi573 ob37 (ft hi527 ob38 (ft hi481 ob80 (ft hi435 ob85 (tt hi389 ob93 (gi hi112 q21_111_94))))))), (tt hi621 ob466 (ft hi574 ob37 (ft hi528 ob38 (ft hi482 ob80 (ft hi436 ob85 (tt hi390 ob93 (gi hi113 q21_111_94))))))), (tt hi622 ob466 (ft hi575 ob37 (ft hi529 ob38 (ft hi483 ob80 (ft hi437 ob85 (tt hi391 ob93 (gi hi114 q21_111_94))))))), (tt hi623 ob466 (ft hi576 ob37 (ft hi530 ob38 (ft hi484 ob80 (ft hi438 ob85 (tt hi392 ob93 (gi hi115 q21_111_94))))))), (tt hi624 ob466 (ft hi577 ob37 (ft hi531 ob38 (ft hi485 ob80 (ft hi439 ob85 (tt hi393 ob93 (gi hi116 q21_111_94))))))), (tt hi625 ob466 (ft hi578 ob37 (ft hi532 ob38 (ft hi486 ob80 (ft hi440 ob85 (tt hi394 ob93 (gi hi117 q21_111_94))))))), (tt hi626 ob466 (ft hi579 ob37 (ft hi533 ob38 (ft hi487 ob80 (ft hi441 ob85 (tt hi395 ob93 (gi hi118 q21_111_94))))))), (tt hi627 ob466 (ft hi580 ob37 (ft hi534 ob38 (ft hi488 ob80 (ft hi442 ob85 (tt hi396 ob93 (gi hi119 q21_111_94))))))), (tt hi628 ob466 (ft hi581 ob37 (ft hi535 ob38 (ft hi489 ob80 (ft hi443 ob85 (tt hi397 ob93 (gi hi120 q21_111_94))))))), (tt hi629 ob466 (ft hi582 ob37 (ft hi536 ob38 (ft hi490 ob80 (ft hi444 ob85 (th hi398 ob93)))))), (th hi583 ob466)] <;> rfl
    · simp [ob36, ob37, ob38, ob80, ob85, ob93, ob99, ob136]
    · show [ρ.b 467, ρ.b 468, ρ.b 469, ρ.b 470, ρ.b 471, ρ.b 472, ρ.b 473, ρ.b 474, ρ.b 475, ρ.b 476, ρ.b 477, ρ.b 478, ρ.b 479, ρ.b 480, ρ.b 481, ρ.b 482, ρ.b 483, ρ.b 484, ρ.b 485, ρ.b 486, ρ.b 487, ρ.b 488, ρ.b 489, ρ.b 490, ρ.b 491, ρ.b 492, ρ.b 493, ρ.b 494, ρ.b 495, ρ.b 496, ρ.b 497, ρ.b 498, ρ.b 499, ρ.b 500, ρ.b 501, ρ.b 502] = _
      rw [(tt hb467 ob466 (ft hb430 ob37 (ft hb394 ob38 (ft hb358 ob80 (ft hb322 ob85 (th hb286 ob93)))))), (tt hb468 ob466 (ft hb431 ob37 (ft hb395 ob38 (ft hb359 ob80 (ft hb323 ob85 (th hb287 ob93)))))), (tt hb469 ob466 (ft hb432 ob37 (ft hb396 ob38 (ft hb360 ob80 (ft hb324 ob85 (th hb288 ob93)))))), (tt hb470 ob466 (ft hb433 ob37 (ft hb397 ob38 (ft hb361 ob80 (ft hb325 ob85 (th hb289 ob93)))))), (tt hb471 ob466 (ft hb434 ob37 (ft hb398 ob38 (ft hb362 ob80 (ft hb326 ob85 (th hb290 ob93)))))), (tt hb472 ob466 (ft hb435 ob37 (ft hb399 ob38 (ft hb363 ob80 (ft hb327 ob85 (th hb291 ob93)))))), (tt hb473 ob466 (ft hb436 ob37 (ft hb400 ob38 (ft hb364 ob80 (ft hb328 ob85 (th hb292 ob93)))))), (tt hb474 ob466 (ft hb437 ob37 (ft hb401 ob38 (ft hb365 ob80 (ft hb329 ob85 (th hb293 ob93)))))), (tt hb475 ob466 (ft hb438 ob37 (ft hb402 ob38 (ft hb366 ob80 (ft hb330 ob85 (th hb294 ob93)))))), (tt hb476 ob466 (ft hb439 ob37 (ft hb403 ob38 (ft hb367 ob80 (ft hb331 ob85 (th hb295 ob93)))))), (tt hb477 ob466 (ft hb440 ob37 (ft hb404 ob38 (ft hb368 ob80 (ft hb332 ob85 (th hb296 ob93)))))), (tt hb478 ob466 (ft hb441 ob37 (ft hb405 ob38 (ft hb369 ob80 (ft hb333 ob85 (th hb297 ob93)))))), (tt hb479 ob466 (ft hb442 ob37 (ft hb406 ob38 (ft hb370 ob80 (ft hb334 ob85 (th hb298 ob93)))))), (tt hb480 ob466 (ft hb443 ob37 (ft hb407 ob38 (ft hb371 ob80 (ft hb335 ob85 (th hb299 ob93)))))), (tt hb481 ob466 (ft hb444 ob37 (ft hb408 ob38 (ft hb372 ob80 (ft hb336 ob85 (th hb300 ob93)))))), (tt hb482 ob466 (ft hb445 ob37 (ft hb409 ob38 (ft hb373 ob80 (ft hb337 ob85 (th hb301 ob93)))))), (tt hb483 ob466 (ft hb446 ob37 (ft hb410 ob38 (ft hb374 ob80 (ft hb338 ob85 (th hb302 ob93)))))), (tt hb484 ob466 (ft hb447 ob37 (ft hb411 ob38 (ft hb375 ob80 (ft hb339 ob85 (th hb303 ob93)))))), (tt hb485 ob466 (ft hb448 ob37 (ft hb412 ob38 (ft hb376 ob80 (ft hb340 ob85 (th hb304 ob93)))))), (tt hb486 ob466 (ft hb449 ob37 (ft hb413 ob38 (ft hb377 ob80 (ft hb341 ob85 (th hb305 ob93)))))), (tt hb487 ob466 (ft hb450 ob37 (ft hb414 ob38 (ft hb378 ob80 (ft hb342 ob85 (th hb306 ob93)))))), (tt hb488 ob466 (ft hb451 ob37 (ft hb415 ob38 (ft hb379 ob80 (ft hb343 ob85 (th hb307 ob93)))))), (tt hb489 ob466 (ft hb452 ob37 (ft hb416 ob38 (ft hb380 ob80 (ft hb344 ob85 (th hb308 ob93)))))), (tt hb490 ob466 (ft hb453 ob37 (ft hb417 ob38 (ft hb381 ob80 (ft hb345 ob85 (th hb309 ob93)))))), (tt hb491 ob466 (ft hb454 ob37 (ft hb418 ob38 (ft hb382 ob80 (ft hb346 ob85 (th hb310 ob93)))))), (tt hb492 ob466 (ft hb455 ob37 (ft hb419 ob38 (ft hb383 ob80 (ft hb347 ob85 (th hb311 ob93)))))), (tt hb493 ob466 (ft hb456 ob37 (ft hb420 ob38 (ft hb384 ob80 (ft hb348 ob85 (th hb312 ob93)))))), (tt hb494 ob466 (ft hb457 ob37 (ft hb421 ob38 (ft hb385 ob80 (ft hb349 ob85 (tt hb313 ob93 (gb hb94 q21_111_94))))))), (tt hb495 ob466 (ft hb458 ob37 (ft hb422 ob38 (ft hb386 ob80 (ft hb350 ob85 (tt hb314 ob93 (gb hb95 q21_111_94))))))), (tt hb496 ob466 (ft hb459 ob37 (ft hb423 ob38 (ft hb387 ob80 (ft hb351 ob85 (tt hb315 ob93 (gb hb96 q21_111_94))))))), (tt hb497 ob466 (ft hb460 ob37 (ft hb424 ob38 (ft hb388 ob80 (ft hb352 ob85 (tt hb316 ob93 (gb hb97 q21_111_94))))))), (tt hb498 ob466 (ft hb461 ob37 (ft hb425 ob38 (ft hb389 ob80 (ft hb353 ob85 (tt hb317 ob93 (gb hb98 q21_111_94))))))), (tt hb499 ob466 (ft hb462 ob37 (ft hb426 ob38 (ft hb390 ob80 (ft hb354 ob85 (th hb318 ob93)))))), (tt hb500 ob466 (ft hb463 ob37 (ft hb427 ob38 (ft hb391 ob80 (ft hb355 ob85 (th hb319 ob93)))))), (tt hb501 ob466 (ft hb464 ob37 (ft hb428 ob38 (ft hb392 ob80 (ft hb356 ob85 (th hb320 ob93)))))), (tt hb502 ob466 (ft hb465 ob37 (ft hb429 ob38 (ft hb393 ob80 (ft hb357 ob85 (th hb321 ob93))))))] <;> rfl
  · intro hr
    have ob36 : ρ.b 36 = false := t36
    have ob466 : ρ.b 466 = true := by rw [hb466, ob36]; rfl
    have ob37 : ρ.b 37 = false := (hb37.trans (rc_n20 reg hr).1)
    have ob38 : ρ.b 38 = false := (hb38.trans (rc_n20 reg hr).2.1)
    have ob80 : ρ.b 80 = false := (hb80.trans (rc_n20 reg hr).2.2.1)
    have ob85 : ρ.b 85 = false := (hb85.trans (rc_n20 reg hr).2.2.2.1)
    have ob93 : ρ.b 93 = false := (hb93.trans (rc_n20 reg hr).2.2.2.2.1)
    have ob99 : ρ.b 99 = false := (hb99.trans (rc_n20 reg hr).2.2.2.2.2.1)
    have ob136 : ρ.b 136 = false := (hb136.trans (rc_n20 reg hr).2.2.2.2.2.2)
    refine Prod.ext ?_ (List.cons_eq_cons.2 ⟨?_, ?_⟩)
    · show [ρ.i 584, ρ.i 585, ρ.i 586, ρ.i 587, ρ.i 588, ρ.i 589, ρ.i 590, ρ.i 591, ρ.i 592, ρ.i 593, ρ.i 594, ρ.i 595, ρ.i 596, ρ.i 597, ρ.i 598, ρ.i 599, ρ.i 600, ρ.i 601, ρ.i 602, ρ.i 603, ρ.i 604, ρ.i 605, ρ.i 606, ρ.i 607, ρ.i 608, ρ.i 609, ρ.i 610, ρ.i 611, ρ.i 612, ρ.i 613, ρ.i 614, ρ.i 615, ρ.i 616, ρ.i 617, ρ.i 618, ρ.i 619, ρ.i 620, ρ.i 621, ρ.i 622, ρ.i 623, ρ.i 624, ρ.i 625, ρ.i 626, ρ.i 627, ρ.i 628, ρ.i 629, ρ.i 583] = _
      rw [(tt hi584 ob466 (ft hi537 ob37 (ft hi491 ob38 (ft hi445 ob80 (ft hi399 ob85 (ft hi353 ob93 (ft hi307 ob99 (fh hi261 ob136)))))))), (tt hi585 ob466 (ft hi538 ob37 (ft hi492 ob38 (ft hi446 ob80 (ft hi400 ob85 (ft hi354 ob93 (ft hi308 ob99 (fh hi262 ob136)))))))), (tt hi586 ob466 (ft hi539 ob37 (ft hi493 ob38 (ft hi447 ob80 (ft hi401 ob85 (ft hi355 ob93 (ft hi309 ob99 (fh hi263 ob136)))))))), (tt hi587 ob466 (ft hi540 ob37 (ft hi494 ob38 (ft hi448 ob80 (ft hi402 ob85 (ft hi356 ob93 (ft hi310 ob99 (fh hi264 ob136)))))))), (tt hi588 ob466 (ft hi541 ob37 (ft hi495 ob38 (ft hi449 ob80 (ft hi403 ob85 (ft hi357 ob93 (ft hi311 ob99 (fh hi265 ob136)))))))), (tt hi589 ob466 (ft hi542 ob37 (ft hi496 ob38 (ft hi450 ob80 (ft hi404 ob85 (ft hi358 ob93 (ft hi312 ob99 (fh hi266 ob136)))))))), (tt hi590 ob466 (ft hi543 ob37 (ft hi497 ob38 (ft hi451 ob80 (ft hi405 ob85 (ft hi359 ob93 (ft hi313 ob99 (fh hi267 ob136)))))))), (tt hi591 ob466 (ft hi544 ob37 (ft hi498 ob38 (ft hi452 ob80 (ft hi406 ob85 (ft hi360 ob93 (ft hi314 ob99 (fh hi268 ob136)))))))), (tt hi592 ob466 (ft hi545 ob37 (ft hi499 ob38 (ft hi453 ob80 (ft hi407 ob85 (ft hi361 ob93 (ft hi315 ob99 (fh hi269 ob136)))))))), (tt hi593 ob466 (ft hi546 ob37 (ft hi500 ob38 (ft hi454 ob80 (ft hi408 ob85 (ft hi362 ob93 (ft hi316 ob99 (fh hi270 ob136)))))))), (tt hi594 ob466 (ft hi547 ob37 (ft hi501 ob38 (ft hi455 ob80 (ft hi409 ob85 (ft hi363 ob93 (ft hi317 ob99 (fh hi271 ob136)))))))), (tt hi595 ob466 (ft hi548 ob37 (ft hi502 ob38 (ft hi456 ob80 (ft hi410 ob85 (ft hi364 ob93 (ft hi318 ob99 (fh hi272 ob136)))))))), (tt hi596 ob466 (ft hi549 ob37 (ft hi503 ob38 (ft hi457 ob80 (ft hi411 ob85 (ft hi365 ob93 (ft hi319 ob99 (fh hi273 ob136)))))))), (tt hi597 ob466 (ft hi550 ob37 (ft hi504 ob38 (ft hi458 ob80 (ft hi412 ob85 (ft hi366 ob93 (ft hi320 ob99 (fh hi274 ob136)))))))), (tt hi598 ob466 (ft hi551 ob37 (ft hi505 ob38 (ft hi459 ob80 (ft hi413 ob85 (ft hi367 ob93 (ft hi321 ob99 (fh hi275 ob136)))))))), (tt hi599 ob466 (ft hi552 ob37 (ft hi506 ob38 (ft hi460 ob80 (ft hi414 ob85 (ft hi368 ob93 (ft hi322 ob99 (fh hi276 ob136)))))))), (tt hi600 ob466 (ft hi553 ob37 (ft hi507 ob38 (ft hi461 ob80 (ft hi415 ob85 (ft hi369 ob93 (ft hi323 ob99 (fh hi277 ob136)))))))), (tt hi601 ob466 (ft hi554 ob37 (ft hi508 ob38 (ft hi462 ob80 (ft hi416 ob85 (ft hi370 ob93 (ft hi324 ob99 (fh hi278 ob136)))))))), (tt hi602 ob466 (ft hi555 ob37 (ft hi509 ob38 (ft hi463 ob80 (ft hi417 ob85 (ft hi371 ob93 (ft hi325 ob99 (fh hi279 ob136)))))))), (tt hi603 ob466 (ft hi556 ob37 (ft hi510 ob38 (ft hi464 ob80 (ft hi418 ob85 (ft hi372 ob93 (ft hi326 ob99 (fh hi280 ob136)))))))), (tt hi604 ob466 (ft hi557 ob37 (ft hi511 ob38 (ft hi465 ob80 (ft hi419 ob85 (ft hi373 ob93 (ft hi327 ob99 (fh hi281 ob136)))))))), (tt hi605 ob466 (ft hi558 ob37 (ft hi512 ob38 (ft hi466 ob80 (ft hi420 ob85 (ft hi374 ob93 (ft hi328 ob99 (fh hi282 ob136)))))))), (tt hi606 ob466 (ft hi559 ob37 (ft hi513 ob38 (ft hi467 ob80 (ft hi421 ob85 (ft hi375 ob93 (ft hi329 ob99 (fh hi283 ob136)))))))), (tt hi607 ob466 (ft hi560 ob37 (ft hi514 ob38 (ft hi468 ob80 (ft hi422 ob85 (ft hi376 ob93 (ft hi330 ob99 (fh hi284 ob136)))))))), (tt hi608 ob466 (ft hi561 ob37 (ft hi515 ob38 (ft hi469 ob80 (ft hi423 ob85 (ft hi377 ob93 (ft hi331 ob99 (fh hi285 ob136)))))))), (tt hi609 ob466 (ft hi562 ob37 (ft hi516 ob38 (ft hi470 ob80 (ft hi424 ob85 (ft hi378 ob93 (ft hi332 ob99 (fh hi286 ob136)))))))), (tt hi610 ob466 (ft hi563 ob37 (ft hi517 ob38 (ft hi471 ob80 (ft hi425 ob85 (ft hi379 ob93 (ft hi333 ob99 (fh hi287 ob136)))))))), (tt hi611 ob466 (ft hi564 ob37 (ft hi518 ob38 (ft hi472 ob80 (ft hi426 ob85 (ft hi380 ob93 (ft hi334 ob99 (fh hi288 ob136)))))))), (tt hi612 ob466 (ft hi565 ob37 (ft hi519 ob38 (ft hi473 ob80 (ft hi427 ob85 (ft hi381 ob93 (ft hi335 ob99 (fh hi289 ob136)))))))), (tt hi613 ob466 (ft hi566 ob37 (ft hi520 ob38 (ft hi474 ob80 (ft hi428 ob85 (ft hi382 ob93 (ft hi336 ob99 (fh hi290 ob136)))))))), (tt hi614 ob466 (ft hi567 ob37 (ft hi521 ob38 (ft hi475 ob80 (ft hi429 ob85 (ft hi383 ob93 (ft hi337 ob99 (fh hi291 ob136)))))))), (tt hi615 ob466 (ft hi568 ob37 (ft hi522 ob38 (ft hi476 ob80 (ft hi430 ob85 (ft hi384 ob93 (ft hi338 ob99 (fh hi292 ob136)))))))), (tt hi616 ob466 (ft hi569 ob37 (ft hi523 ob38 (ft hi477 ob80 (ft hi431 ob85 (ft hi385 ob93 (ft hi339 ob99 (fh hi293 ob136)))))))), (tt hi617 ob466 (ft hi570 ob37 (ft hi524 ob38 (ft hi478 ob80 (ft hi432 ob85 (ft hi386 ob93 (ft hi340 ob99 (fh hi294 ob136)))))))), (tt hi618 ob466 (ft hi571 ob37 (ft hi525 ob38 (ft hi479 ob80 (ft hi433 ob85 (ft hi387 ob93 (ft hi341 ob99 (fh hi295 ob136)))))))), (tt hi619 ob466 (ft hi572 ob37 (ft hi526 ob38 (ft hi480 ob80 (ft hi434 ob85 (ft hi388 ob93 (ft hi342 ob99 (fh hi296 ob136)))))))), (tt hi620 ob466 (ft hi573 ob37 (ft hi527 ob38 (ft hi481 ob80 (ft hi435 ob85 (ft hi389 ob93 (ft hi343 ob99 (fh hi297 ob136)))))))), (tt hi621 ob466 (ft hi574 ob37 (ft hi528 ob38 (ft hi482 ob80 (ft hi436 ob85 (ft hi390 ob93 (ft hi344 ob99 (fh hi298 ob136)))))))), (tt hi622 ob466 (ft hi575 ob37 (ft hi529 ob38 (ft hi483 ob80 (ft hi437 ob85 (ft hi391 ob93 (ft hi345 ob99 (fh hi299 ob136)))))))), (tt hi623 ob466 (ft hi576 ob37 (ft hi530 ob38 (ft hi484 ob80 (ft hi438 ob85 (ft hi392 ob93 (ft hi346 ob99 (fh hi300 ob136)))))))), (tt hi624 ob466 (ft hi577 ob37 (ft hi531 ob38 (ft hi485 ob80 (ft hi439 ob85 (ft hi393 ob93 (ft hi347 ob99 (fh hi301 ob136)))))))), (tt hi625 ob466 (ft hi578 ob37 (ft hi532 ob38 (ft hi486 ob80 (ft hi440 ob85 (ft hi394 ob93 (ft hi348 ob99 (fh hi302 ob136)))))))), (tt hi626 ob466 (ft hi579 ob37 (ft hi533 ob38 (ft hi487 ob80 (ft hi441 ob85 (ft hi395 ob93 (ft hi349 ob99 (fh hi303 ob136)))))))), (tt hi627 ob466 (ft hi580 ob37 (ft hi534 ob38 (ft hi488 ob80 (ft hi442 ob85 (ft hi396 ob93 (ft hi350 ob99 (fh hi304 ob136)))))))), (tt hi628 ob466 (ft hi581 ob37 (ft hi535 ob38 (ft hi489 ob80 (ft hi443 ob85 (ft hi397 ob93 (ft hi351 ob99 (fh hi305 ob136)))))))), (tt hi629 ob466 (ft hi582 ob37 (ft hi536 ob38 (ft hi490 ob80 (ft hi444 ob85 (ft hi398 ob93 (ft hi352 ob99 (fh hi306 ob136)))))))), (th hi583 ob466)] <;> rfl
    · simp [ob36, ob37, ob38, ob80, ob85, ob93, ob99, ob136]
    · show [ρ.b 467, ρ.b 468, ρ.b 469, ρ.b 470, ρ.b 471, ρ.b 472, ρ.b 473, ρ.b 474, ρ.b 475, ρ.b 476, ρ.b 477, ρ.b 478, ρ.b 479, ρ.b 480, ρ.b 481, ρ.b 482, ρ.b 483, ρ.b 484, ρ.b 485, ρ.b 486, ρ.b 487, ρ.b 488, ρ.b 489, ρ.b 490, ρ.b 491, ρ.b 492, ρ.b 493, ρ.b 494, ρ.b 495, ρ.b 496, ρ.b 497, ρ.b 498, ρ.b 499, ρ.b 500, ρ.b 501, ρ.b 502] = _
      rw [(tt hb467 ob466 (ft hb430 ob37 (ft hb394 ob38 (ft hb358 ob80 (ft hb322 ob85 (ft hb286 ob93 (ft hb250 ob99 (fh hb214 ob136)))))))), (tt hb468 ob466 (ft hb431 ob37 (ft hb395 ob38 (ft hb359 ob80 (ft hb323 ob85 (ft hb287 ob93 (ft hb251 ob99 (fh hb215 ob136)))))))), (tt hb469 ob466 (ft hb432 ob37 (ft hb396 ob38 (ft hb360 ob80 (ft hb324 ob85 (ft hb288 ob93 (ft hb252 ob99 (fh hb216 ob136)))))))), (tt hb470 ob466 (ft hb433 ob37 (ft hb397 ob38 (ft hb361 ob80 (ft hb325 ob85 (ft hb289 ob93 (ft hb253 ob99 (fh hb217 ob136)))))))), (tt hb471 ob466 (ft hb434 ob37 (ft hb398 ob38 (ft hb362 ob80 (ft hb326 ob85 (ft hb290 ob93 (ft hb254 ob99 (fh hb218 ob136)))))))), (tt hb472 ob466 (ft hb435 ob37 (ft hb399 ob38 (ft hb363 ob80 (ft hb327 ob85 (ft hb291 ob93 (ft hb255 ob99 (fh hb219 ob136)))))))), (tt hb473 ob466 (ft hb436 ob37 (ft hb400 ob38 (ft hb364 ob80 (ft hb328 ob85 (ft hb292 ob93 (ft hb256 ob99 (fh hb220 ob136)))))))), (tt hb474 ob466 (ft hb437 ob37 (ft hb401 ob38 (ft hb365 ob80 (ft hb329 ob85 (ft hb293 ob93 (ft hb257 ob99 (fh hb221 ob136)))))))), (tt hb475 ob466 (ft hb438 ob37 (ft hb402 ob38 (ft hb366 ob80 (ft hb330 ob85 (ft hb294 ob93 (ft hb258 ob99 (fh hb222 ob136)))))))), (tt hb476 ob466 (ft hb439 ob37 (ft hb403 ob38 (ft hb367 ob80 (ft hb331 ob85 (ft hb295 ob93 (ft hb259 ob99 (fh hb223 ob136)))))))), (tt hb477 ob466 (ft hb440 ob37 (ft hb404 ob38 (ft hb368 ob80 (ft hb332 ob85 (ft hb296 ob93 (ft hb260 ob99 (fh hb224 ob136)))))))), (tt hb478 ob466 (ft hb441 ob37 (ft hb405 ob38 (ft hb369 ob80 (ft hb333 ob85 (ft hb297 ob93 (ft hb261 ob99 (fh hb225 ob136)))))))), (tt hb479 ob466 (ft hb442 ob37 (ft hb406 ob38 (ft hb370 ob80 (ft hb334 ob85 (ft hb298 ob93 (ft hb262 ob99 (fh hb226 ob136)))))))), (tt hb480 ob466 (ft hb443 ob37 (ft hb407 ob38 (ft hb371 ob80 (ft hb335 ob85 (ft hb299 ob93 (ft hb263 ob99 (fh hb227 ob136)))))))), (tt hb481 ob466 (ft hb444 ob37 (ft hb408 ob38 (ft hb372 ob80 (ft hb336 ob85 (ft hb300 ob93 (ft hb264 ob99 (fh hb228 ob136)))))))), (tt hb482 ob466 (ft hb445 ob37 (ft hb409 ob38 (ft hb373 ob80 (ft hb337 ob85 (ft hb301 ob93 (ft hb265 ob99 (fh hb229 ob136)))))))), (tt hb483 ob466 (ft hb446 ob37 (ft hb410 ob38 (ft hb374 ob80 (ft hb338 ob85 (ft hb302 ob93 (ft hb266 ob99 (fh hb230 ob136)))))))), (tt hb484 ob466 (ft hb447 ob37 (ft hb411 ob38 (ft hb375 ob80 (ft hb339 ob85 (ft hb303 ob93 (ft hb267 ob99 (fh hb231 ob136)))))))), (tt hb485 ob466 (ft hb448 ob37 (ft hb412 ob38 (ft hb376 ob80 (ft hb340 ob85 (ft hb304 ob93 (ft hb268 ob99 (fh hb232 ob136)))))))), (tt hb486 ob466 (ft hb449 ob37 (ft hb413 ob38 (ft hb377 ob80 (ft hb341 ob85 (ft hb305 ob93 (ft hb269 ob99 (fh hb233 ob136)))))))), (tt hb487 ob466 (ft hb450 ob37 (ft hb414 ob38 (ft hb378 ob80 (ft hb342 ob85 (ft hb306 ob93 (ft hb270 ob99 (fh hb234 ob136)))))))), (tt hb488 ob466 (ft hb451 ob37 (ft hb415 ob38 (ft hb379 ob80 (ft hb343 ob85 (ft hb307 ob93 (ft hb271 ob99 (fh hb235 ob136)))))))), (tt hb489 ob466 (ft hb452 ob37 (ft hb416 ob38 (ft hb380 ob80 (ft hb344 ob85 (ft hb308 ob93 (ft hb272 ob99 (fh hb236 ob136)))))))), (tt hb490 ob466 (ft hb453 ob37 (ft hb417 ob38 (ft hb381 ob80 (ft hb345 ob85 (ft hb309 ob93 (ft hb273 ob99 (fh hb237 ob136)))))))), (tt hb491 ob466 (ft hb454 ob37 (ft hb418 ob38 (ft hb382 ob80 (ft hb346 ob85 (ft hb310 ob93 (ft hb274 ob99 (fh hb238 ob136)))))))), (tt hb492 ob466 (ft hb455 ob37 (ft hb419 ob38 (ft hb383 ob80 (ft hb347 ob85 (ft hb311 ob93 (ft hb275 ob99 (fh hb239 ob136)))))))), (tt hb493 ob466 (ft hb456 ob37 (ft hb420 ob38 (ft hb384 ob80 (ft hb348 ob85 (ft hb312 ob93 (ft hb276 ob99 (fh hb240 ob136)))))))), (tt hb494 ob466 (ft hb457 ob37 (ft hb421 ob38 (ft hb385 ob80 (ft hb349 ob85 (ft hb313 ob93 (ft hb277 ob99 (fh hb241 ob136)))))))), (tt hb495 ob466 (ft hb458 ob37 (ft hb422 ob38 (ft hb386 ob80 (ft hb350 ob85 (ft hb314 ob93 (ft hb278 ob99 (fh hb242 ob136)))))))), (tt hb496 ob466 (ft hb459 ob37 (ft hb423 ob38 (ft hb387 ob80 (ft hb351 ob85 (ft hb315 ob93 (ft hb279 ob99 (fh hb243 ob136)))))))), (tt hb497 ob466 (ft hb460 ob37 (ft hb424 ob38 (ft hb388 ob80 (ft hb352 ob85 (ft hb316 ob93 (ft hb280 ob99 (fh hb244 ob136)))))))), (tt hb498 ob466 (ft hb461 ob37 (ft hb425 ob38 (ft hb389 ob80 (ft hb353 ob85 (ft hb317 ob93 (ft hb281 ob99 (fh hb245 ob136)))))))), (tt hb499 ob466 (ft hb462 ob37 (ft hb426 ob38 (ft hb390 ob80 (ft hb354 ob85 (ft hb318 ob93 (ft hb282 ob99 (fh hb246 ob136)))))))), (tt hb500 ob466 (ft hb463 ob37 (ft hb427 ob38 (ft hb391 ob80 (ft hb355 ob85 (ft hb319 ob93 (ft hb283 ob99 (fh hb247 ob136)))))))), (tt hb501 ob466 (ft hb464 ob37 (ft hb428 ob38 (ft hb392 ob80 (ft hb356 ob85 (ft hb320 ob93 (ft hb284 ob99 (fh hb248 ob136)))))))), (tt hb502 ob466 (ft hb465 ob37 (ft hb429 ob38 (ft hb393 ob80 (ft hb357 ob85 (ft hb321 ob93 (ft hb285 ob99 (fh hb249 ob136))))))))] <;> rfl
  · intro c0 c1 c2 c3 c4 c5 c6 c7 c8 c9 c10 c11 c12 c13 c14 c15 c16 c17 c18 c19 c20 c21 c22 c23 c24 c25 c26 c27 c28 c29 c30 c31 c32 c33 c34 c35 c36 c37 c38 c39 c40 c41 c42 c43 c44 c45 x0 x1 x2 x3 x4 x5 x6 x7 x8 x9 x10 x11 x12 x13 x14 x15 x16 x17 x18 x19 x20 x21 x22 x23 x24 x25 x26 x27 x28 x29 x30 x31 x32 x33 x34 x35 hr hF
    have ob36 : ρ.b 36 = false := t36
    have ob466 : ρ.b 466 = true := by rw [hb466, ob36]; rfl
    have ob37 : ρ.b 37 = false := (hb37.trans (rc_on reg hr).1)
    have ob38 : ρ.b 38 = false := (hb38.trans (rc_on reg hr).2.1)
    have ob80 : ρ.b 80 = false := (hb80.trans (rc_on reg hr).2.2.1)
    have ob85 : ρ.b 85 = false := (hb85.trans (rc_on reg hr).2.2.2.1)
    have ob93 : ρ.b 93 = false := (hb93.trans (rc_on reg hr).2.2.2.2.1)
    have ob99 : ρ.b 99 = true := (hb99.trans (rc_on reg hr).2.2.2.2.2.1)
    have q22_121_100 : tabF T46 22 [i0, i1, i2, i3, i4, i5, i6, i7, i8, i9, i10, i11, i12, i13, i14, i15, i16, i17, i18, i19, i20, i21, i22, i23, i24, i25, i26, i27, i28, i29, i30, i31, i32, i33, i34, i35, i36, i37, i38, i39, i40, i41, i42, i43, i44, i45, v] [b0, b1, b2, b3, b4, b5, b6, b7, b8, b9, b10, b11, b12, b13, b14, b15, b16, b17, b18, b19, b20, b21, b22, b23, b24, b25, b26, b27, b28, b29, b30, b31, b32, b33, b34, b35] = ([c0, c1, c2, c3, c4, c5, c6, c7, c8, c9, c10, c11, c12, c13, c14, c15, c16, c17, c18, c19, c20, c21, c22, c23, c24, c25, c26, c27, c28, c29, c30, c31, c32, c33, c34, c35, c36, c37, c38, c39, c40, c41, c42, c43, c44, c45], [x0, x1, x2, x3, x4, x5, x6, x7, x8, x9, x10, x11, x12, x13, x14, x15, x16, x17, x18, x19, x20, x21, x22, x23, x24, x25, x26, x27, x28, x29, x30, x31, x32, x33, x34, x35]) := hF
    have ob136 : ρ.b 136 = false := (hb136.trans (rc_on reg hr).2.2.2.2.2.2)
    refine Prod.ext ?_ (List.cons_eq_cons.2 ⟨?_, ?_⟩)
    · show [ρ.i 584, ρ.i 585, ρ.i 586, ρ.i 587, ρ.i 588, ρ.i 589, ρ.i 590, ρ.i 591, ρ.i 592, ρ.i 593, ρ.i 594, ρ.i 595, ρ.i 596, ρ.i 597, ρ.i 598, ρ.i 599, ρ.i 600, ρ.i 601, ρ.i 602, ρ.i 603, ρ.i 604, ρ.i 605, ρ.i 606, ρ.i 607, ρ.i 608, ρ.i 609, ρ.i 610, ρ.i 611, ρ.i 612, ρ.i 613, ρ.i 614, ρ.i 615, ρ.i 616, ρ.i 617, ρ.i 618, ρ.i 619, ρ.i 620, ρ.i 621, ρ.i 622, ρ.i 623, ρ.i 624, ρ.i 625, ρ.i 626, ρ.i 627, ρ.i 628, ρ.i 629, ρ.i 583] = _
      rw [(tt hi584 ob466 (ft hi537 ob37 (ft hi491 ob38 (ft hi445 ob80 (ft hi399 ob85 (ft hi353 ob93 (tt hi307 ob99 (gi hi121 q22_121_100)))))))), (tt hi585 ob466 (ft hi538 ob37 (ft hi492 ob38 (ft hi446 ob80 (ft hi400 ob85 (ft hi354 ob93 (tt hi308 ob99 (gi hi122 q22_121_100)))))))), (tt hi586 ob466 (ft hi539 ob37 (ft hi493 ob38 (ft hi447 ob80 (ft hi401 ob85 (ft hi355 ob93 (tt hi309 ob99 (gi hi123 q22_121_100)))))))), (tt hi587 ob466 (ft hi540 ob37 (ft hi494 ob38 (ft hi448 ob80 (ft hi402 ob85 (ft hi356 ob93 (tt hi310 ob99 (gi hi124 q22_121_100)))))))), (tt hi588 ob466 (ft hi541 ob37 (ft hi495 ob38 (ft hi449 ob80 (ft hi403 ob85 (ft hi357 ob93 (tt hi311 ob99 (gi hi125 q22_121_100)))))))), (tt hi589 ob466 (ft hi542 ob37 (ft hi496 ob38 (ft hi450 ob80 (ft hi404 ob85 (ft hi358 ob93 (tt hi312 ob99 (gi hi126 q22_121_100)))))))), (tt hi590 ob466 (ft hi543 ob37 (ft hi497 ob38 (ft hi451 ob80 (ft hi405 ob85 (ft hi359 ob93 (tt hi313 ob99 (gi hi127 q22_121_100)))))))), (tt hi591 ob466 (ft hi544 ob37 (ft hi498 ob38 (ft hi452 ob80 (ft hi406 ob85 (ft hi360 ob93 (tt hi314 ob99 (gi hi128 q22_121_100)))))))), (tt hi592 ob466 (ft hi545 ob37 (ft hi499 ob38 (ft hi453 ob80 (ft hi407 ob85 (ft hi361 ob93 (tt hi315 ob99 (gi hi129 q22_121_100)))))))), (tt hi593 ob466 (ft hi546 ob37 (ft hi500 ob38 (ft hi454 ob80 (ft hi408 ob85 (ft hi362 ob93 (tt hi316 ob99 (gi hi130 q22_121_100)))))))), (tt hi594 ob466 (ft hi547 ob37 (ft hi501 ob38 (ft hi455 ob80 (ft hi409 ob85 (ft hi363 ob93 (tt hi317 ob99 (gi hi131 q22_121_100)))))))), (tt hi595 ob466 (ft hi548 ob37 (ft hi502 ob38 (ft hi456 ob80 (ft hi410 ob85 (ft hi364 ob93 (tt hi318 ob99 (gi hi132 q22_121_100)))))))), (tt hi596 ob466 (ft hi549 ob37 (ft hi503 ob38 (ft hi457 ob80 (ft hi411 ob85 (ft hi365 ob93 (tt hi319 ob99 (gi hi133 q22_121_100)))))))), (tt hi597 ob466 (ft hi550 ob37 (ft hi504 ob38 (ft hi458 ob80 (ft hi412 ob85 (ft hi366 ob93 (tt hi320 ob99 (gi hi134 q22_121_100)))))))), (tt hi598 ob466 (ft hi551 ob37 (ft hi505 ob38 (ft hi459 ob80 (ft hi413 ob85 (ft hi367 ob93 (tt hi321 ob99 (gi hi135 q22_121_100)))))))), (tt hi599 ob466 (ft hi552 ob37 (ft hi506 ob38 (ft hi460 ob80 (ft hi414 ob85 (ft hi368 ob93 (tt hi322 ob99 (gi hi136 q22_121_100)))))))), (tt hi600 ob466 (ft hi553 ob37 (ft hi507 ob38 (ft hi461 ob80 (ft hi415 ob85 (ft hi369 ob93 (tt hi323 ob99 (gi hi137 q22_121_100)))))))), (tt hi601 ob466 (ft hi554 ob37 (ft hi508 ob38 (ft hi462 ob80 (ft hi416 ob85 (ft hi370 ob93 (tt hi324 ob99 (gi hi138 q22_121_100)))))))), (tt hi602 ob466 (ft hi555 ob37 (ft hi509 ob38 (ft hi463 ob80 (ft hi417 ob85 (ft hi371 ob93 (tt hi325 ob99 (gi hi139 q22_121_100)))))))), (tt hi603 ob466 (ft hi556 ob37 (ft hi510 ob38 (ft hi464 ob80 (ft hi418 ob85 (ft hi372 ob93 (tt hi326 ob99 (gi hi140 q22_121_100)))))))), (tt hi604 ob466 (ft hi557 ob37 (ft hi511 ob38 (ft hi465 ob80 (ft hi419 ob85 (ft hi373 ob93 (tt hi327 ob99 (gi hi141 q22_121_100)))))))), (tt hi605 ob466 (ft hi558 ob37 (ft hi512 ob38 (ft hi466 ob80 (ft hi420 ob85 (ft hi374 ob93 (tt hi328 ob99 (gi hi142 q22_121_100)))))))), (tt hi606 ob466 (ft hi559 ob37 (ft hi513 ob38 (ft hi467 ob80 (ft hi421 ob85 (ft hi375 ob93 (tt hi329 ob99 (gi hi143 q22_121_100)))))))), (tt hi607 ob466 (ft hi560 ob37 (ft hi514 ob38 (ft hi468 ob80 (ft hi422 ob85 (ft hi376 ob93 (tt hi330 ob99 (gi hi144 q22_121_100)))))))), (tt hi608 ob466 (ft hi561 ob37 (ft hi515 ob38 (ft hi469 ob80 (ft hi423 ob85 (ft hi377 ob93 (tt hi331 ob99 (gi hi145 q22_121_100)))))))), (tt hi609 ob466 (ft hi562 ob37 (ft hi516 ob38 (ft hi470 ob80 (ft hi424 ob85 (ft hi378 ob93 (tt hi332 ob99 (gi hi146 q22_121_100)))))))), (tt hi610 ob466 (ft hi563 ob37 (ft hi517 ob38 (ft hi471 ob80 (ft hi425 ob85 (ft hi379 ob93 (tt hi333 ob99 (gi hi147 q22_121_100)))))))), (tt hi611 ob466 (ft hi564 ob37 (ft hi518 ob38 (ft hi472 ob80 (ft hi426 ob85 (ft hi380 ob93 (tt hi334 ob99 (gi hi148 q22_121_100)))))))), (tt hi612 ob466 (ft hi565 ob37 (ft hi519 ob38 (ft hi473 ob80 (ft hi427 ob85 (ft hi381 ob93 (tt hi335 ob99 (gi hi149 q22_121_100)))))))), (tt hi613 ob466 (ft hi566 ob37 (ft hi520 ob38 (ft hi474 ob80 (ft hi428 ob85 (ft hi382 ob93 (tt hi336 ob99 (gi hi150 q22_121_100)))))))), (tt hi614 ob466 (ft hi567 ob37 (ft hi521 ob38 (ft hi475 ob80 (ft hi429 ob85 (ft hi383 ob93 (tt hi337 ob99 (gi hi151 q22_121_100)))))))), (tt hi615 ob466 (ft hi568 ob37 (ft hi522 ob38 (ft hi476 ob80 (ft hi430 ob85 (ft hi384 ob93 (tt hi338 ob99 (gi hi152 q22_121_100)))))))), (tt hi616 ob466 (ft hi569 ob37 (ft hi523 ob38 (ft hi477 ob80 (ft hi431 ob85 (ft hi385 ob93 (tt hi339 ob99 (gi hi153 q22_121_100)))))))), (tt hi617 ob466 (ft hi570 ob37 (ft hi524 ob38 (ft hi478 ob80 (ft hi432 ob85 (ft hi386 ob93 (tt hi340 ob99 (gi hi154 q22_121_100)))))))), (tt hi618 ob466 (ft hi571 ob37 (ft hi525 ob38 (ft hi479 ob80 (ft hi433 ob85 (ft hi387 ob93 (tt hi341 ob99 (gi hi155 q22_121_100)))))))), (tt hi619 ob466 (ft hi572 ob37 (ft hi526 ob38 (ft hi480 ob80 (ft hi434 ob85 (ft hi388 ob93 (tt hi342 ob99 (gi hi156 q22_121_100)))))))), (tt hi620 ob466 (ft hi573 ob37 (ft hi527 ob38 (ft hi481 ob80 (ft hi435 ob85 (ft hi389 ob93 (tt hi343 ob99 (gi hi157 q22_121_100)))))))), (tt hi621 ob466 (ft hi574 ob37 (ft hi528 ob38 (ft hi482 ob80 (ft hi436 ob85 (ft hi390 ob93 (tt hi344 ob99 (gi hi158 q22_121_100)))))))), (tt hi622 ob466 (ft hi575 ob37 (ft hi529 ob38 (ft hi483 ob80 (ft hi437 ob85 (ft hi391 ob93 (tt hi345 ob99 (gi hi159 q22_121_100)))))))), (tt hi623 ob466 (ft hi576 ob37 (ft hi530 ob38 (ft hi484 ob80 (ft hi438 ob85 (ft hi392 ob93 (tt hi346 ob99 (gi hi160 q22_121_100)))))))), (tt hi624 ob466 (ft hi577 ob37 (ft hi531 ob38 (ft hi485 ob80 (ft hi439 ob85 (ft hi393 ob93 (tt hi347 ob99 (gi hi161 q22_121_100)))))))), (tt hi625 ob466 (ft hi578 ob37 (ft hi532 ob38 (ft hi486 ob80 (ft hi440 ob85 (ft hi394 ob93 (tt hi348 ob99 (gi hi162 q22_121_100)))))))), (tt hi626 ob466 (ft hi579 ob37 (ft hi533 ob38 (ft hi487 ob80 (ft hi441 ob85 (ft hi395 ob93 (tt hi349 ob99 (gi hi163 q22_121_100)))))))), (tt hi627 ob466 (ft hi580 ob37 (ft hi534 ob38 (ft hi488 ob80 (ft hi442 ob85 (ft hi396 ob93 (tt hi350 ob99 (gi hi164 q22_121_100)))))))), (tt hi628 ob466 (ft hi581 ob37 (ft hi535 ob38 (ft hi489 ob80 (ft hi443 ob85 (ft hi397 ob93 (tt hi351 ob99 (gi hi165 q22_121_100)))))))), (tt hi629 ob466 (ft hi582 ob37 (ft hi536 ob38 (ft hi490 ob80 (ft hi444 ob85 (ft hi398 ob93 (tt hi352 ob99 (gi hi166 q22_121_100)))))))), (th hi583 ob466)] <;> rfl
    · simp [ob36, ob37, ob38, ob80, ob85, ob93, ob99, ob136]
    · show [ρ.b 467, ρ.b 468, ρ.b 469, ρ.b 470, ρ.b 471, ρ.b 472, ρ.b 473, ρ.b 474, ρ.b 475, ρ.b 476, ρ.b 477, ρ.b 478, ρ.b 479, ρ.b 480, ρ.b 481, ρ.b 482, ρ.b 483, ρ.b 484, ρ.b 485, ρ.b 486, ρ.b 487, ρ.b 488, ρ.b 489, ρ.b 490, ρ.b 491, ρ.b 492, ρ.b 493, ρ.b 494, ρ.b 495, ρ.b 496, ρ.b 497, ρ.b 498, ρ.b 499, ρ.b 500, ρ.b 501, ρ.b 502] = _
      rw [(tt hb467 ob466 (ft hb430 ob37 (ft hb394 ob38 (ft hb358 ob80 (ft hb322 ob85 (ft hb286 ob93 (tt hb250 ob99 (gb hb100 q22_121_100)))))))), (tt hb468 ob466 (ft hb431 ob37 (ft hb395 ob38 (ft hb359 ob80 (ft hb323 ob85 (ft hb287 ob93 (tt hb251 ob99 (gb hb101 q22_121_100)))))))), (tt hb469 ob466 (ft hb432 ob37 (ft hb396 ob38 (ft hb360 ob80 (ft hb324 ob85 (ft hb288 ob93 (tt hb252 ob99 (gb hb102 q22_121_100)))))))), (tt hb470 ob466 (ft hb433 ob37 (ft hb397 ob38 (ft hb361 ob80 (ft hb325 ob85 (ft hb289 ob93 (tt hb253 ob99 (gb hb103 q22_121_100)))))))), (tt hb471 ob466 (ft hb434 ob37 (ft hb398 ob38 (ft hb362 ob80 (ft hb326 ob85 (ft hb290 ob93 (tt hb254 ob99 (gb hb104 q22_121_100)))))))), (tt hb472 ob466 (ft hb435 ob37 (ft hb399 ob38 (ft hb363 ob80 (ft hb327 ob85 (ft hb291 ob93 (tt hb255 ob99 (gb hb105 q22_121_100)))))))), (tt hb473 ob466 (ft hb436 ob37 (ft hb400 ob38 (ft hb364 ob80 (ft hb328 ob85 (ft hb292 ob93 (tt hb256 ob99 (gb hb106 q22_121_100)))))))), (tt hb474 ob466 (ft hb437 ob37 (ft hb401 ob38 (ft hb365 ob80 (ft hb329 ob85 (ft hb293 ob93 (tt hb257 ob99 (gb hb107 q22_121_100)))))))), (tt hb475 ob466 (ft hb438 ob37 (ft hb402 ob38 (ft hb366 ob80 (ft hb330 ob85 (ft hb294 ob93 (tt hb258 ob99 (gb hb108 q22_121_100)))))))), (tt hb476 ob466 (ft hb439 ob37 (ft hb403 ob38 (ft hb367 ob80 (ft hb331 ob85 (ft hb295 ob93 (tt hb259 ob99 (gb hb109 q22_121_100)))))))), (tt hb477 ob466 (ft hb440 ob37 (ft hb404 ob38 (ft hb368 ob80 (ft hb332 ob85 (ft hb296 ob93 (tt hb260 ob99 (gb hb110 q22_121_100)))))))), (tt hb478 ob466 (ft hb441 ob37 (ft hb405 ob38 (ft hb369 ob80 (ft hb333 ob85 (ft hb297 ob93 (tt hb261 ob99 (gb hb111 q22_121_100)))))))), (tt hb479 ob466 (ft hb442 ob37 (ft hb406 ob38 (ft hb370 ob80 (ft hb334 ob85 (ft hb298 ob93 (tt hb262 ob99 (gb hb112 q22_121_100)))))))), (tt hb480 ob466 (ft hb443 ob37 (ft hb407 ob38 (ft hb371 ob80 (ft hb335 ob85 (ft hb299 ob93 (tt hb263 ob99 (gb hb113 q22_121_100)))))))), (tt hb481 ob466 (ft hb444 ob37 (ft hb408 ob38 (ft hb372 ob80 (ft hb336 ob85 (ft hb300 ob93 (tt hb264 ob99 (gb hb114 q22_121_100)))))))), (tt hb482 ob466 (ft hb445 ob37 (ft hb409 ob38 (ft hb373 ob80 (ft hb337 ob85 (ft hb301 ob93 (tt hb265 ob99 (gb hb115 q22_121_100)))))))), (tt hb483 ob466 (ft hb446 ob37 (ft hb410 ob38 (ft hb374 ob80 (ft hb338 ob85 (ft hb302 ob93 (tt hb266 ob99 (gb hb116 q22_121_100)))))))), (tt hb484 ob466 (ft hb447 ob37 (ft hb411 ob38 (ft hb375 ob80 (ft hb339 ob85 (ft hb303 ob93 (tt hb267 ob99 (gb hb117 q22_121_100)))))))), (tt hb485 ob466 (ft hb448 ob37 (ft hb412 ob38 (ft hb376 ob80 (ft hb340 ob85 (ft hb304 ob93 (tt hb268 ob99 (gb hb118 q22_121_100)))))))), (tt hb486 ob466 (ft hb449 ob37 (ft hb413 ob38 (ft hb377 ob80 (ft hb341 ob85 (ft hb305 ob93 (tt hb269 ob99 (gb hb119 q22_121_100)))))))), (tt hb487 ob466 (ft hb450 ob37 (ft hb414 ob38 (ft hb378 ob80 (ft hb342 ob85 (ft hb306 ob93 (tt hb270 ob99 (gb hb120 q22_121_100)))))))), (tt hb488 ob466 (ft hb451 ob37 (ft hb415 ob38 (ft hb379 ob80 (ft hb343 ob85 (ft hb307 ob93 (tt hb271 ob99 (gb hb121 q22_121_100)))))))), (tt hb489 ob466 (ft hb452 ob37 (ft hb416 ob38 (ft hb380 ob80 (ft hb344 ob85 (ft hb308 ob93 (tt hb272 ob99 (gb hb122 q22_121_100)))))))), (tt hb490 ob466 (ft hb453 ob37 (ft hb417 ob38 (ft hb381 ob80 (ft hb345 ob85 (ft hb309 ob93 (tt hb273 ob99 (gb hb123 q22_121_100)))))))), (tt hb491 ob466 (ft hb454 ob37 (ft hb418 ob38 (ft hb382 ob80 (ft hb346 ob85 (ft hb310 ob93 (tt hb274 ob99 (gb hb124 q22_121_100)))))))), (tt hb492 ob466 (ft hb455 ob37 (ft hb419 ob38 (ft hb383 ob80 (ft hb347 ob85 (ft hb311 ob93 (tt hb275 ob99 (gb hb125 q22_121_100)))))))), (tt hb493 ob466 (ft hb456 ob37 (ft hb420 ob38 (ft hb384 ob80 (ft hb348 ob85 (ft hb312 ob93 (tt hb276 ob99 (gb hb126 q22_121_100)))))))), (tt hb494 ob466 (ft hb457 ob37 (ft hb421 ob38 (ft hb385 ob80 (ft hb349 ob85 (ft hb313 ob93 (tt hb277 ob99 (gb hb127 q22_121_100)))))))), (tt hb495 ob466 (ft hb458 ob37 (ft hb422 ob38 (ft hb386 ob80 (ft hb350 ob85 (ft hb314 ob93 (tt hb278 ob99 (gb hb128 q22_121_100)))))))), (tt hb496 ob466 (ft hb459 ob37 (ft hb423 ob38 (ft hb387 ob80 (ft hb351 ob85 (ft hb315 ob93 (tt hb279 ob99 (gb hb129 q22_121_100)))))))), (tt hb497 ob466 (ft hb460 ob37 (ft hb424 ob38 (ft hb388 ob80 (ft hb352 ob85 (ft hb316 ob93 (tt hb280 ob99 (gb hb130 q22_121_100)))))))), (tt hb498 ob466 (ft hb461 ob37 (ft hb425 ob38 (ft hb389 ob80 (ft hb353 ob85 (ft hb317 ob93 (tt hb281 ob99 (gb hb131 q22_121_100)))))))), (tt hb499 ob466 (ft hb462 ob37 (ft hb426 ob38 (ft hb390 ob80 (ft hb354 ob85 (ft hb318 ob93 (tt hb282 ob99 (gb hb132 q22_121_100)))))))), (tt hb500 ob466 (ft hb463 ob37 (ft hb427 ob38 (ft hb391 ob80 (ft hb355 ob85 (ft hb319 ob93 (tt hb283 ob99 (gb hb133 q22_121_100)))))))), (tt hb501 ob466 (ft hb464 ob37 (ft hb428 ob38 (ft hb392 ob80 (ft hb356 ob85 (ft hb320 ob93 (tt hb284 ob99 (gb hb134 q22_121_100)))))))), (tt hb502 ob466 (ft hb465 ob37 (ft hb429 ob38 (ft hb393 ob80 (ft hb357 ob85 (ft hb321 ob93 (tt hb285 ob99 (gb hb135 q22_121_100))))))))] <;> rfl
  · intro hr
    have ob36 : ρ.b 36 = false := t36
    have ob466 : ρ.b 466 = true := by rw [hb466, ob36]; rfl
    have ob37 : ρ.b 37 = false := (hb37.trans (rc_n22 reg hr).1)
    have ob38 : ρ.b 38 = false := (hb38.trans (rc_n22 reg hr).2.1)
    have ob80 : ρ.b 80 = false := (hb80.trans (rc_n22 reg hr).2.2.1)
    have ob85 : ρ.b 85 = false := (hb85.trans (rc_n22 reg hr).2.2.2.1)
    have ob93 : ρ.b 93 = false := (hb93.trans (rc_n22 reg hr).2.2.2.2.1)
    have ob99 : ρ.b 99 = false := (hb99.trans (rc_n22 reg hr).2.2.2.2.2.1)
    have ob136 : ρ.b 136 = false := (hb136.trans (rc_n22 reg hr).2.2.2.2.2.2)
    refine Prod.ext ?_ (List.cons_eq_cons.2 ⟨?_, ?_⟩)
    · show [ρ.i 584, ρ.i 585, ρ.i 586, ρ.i 587, ρ.i 588, ρ.i 589, ρ.i 590, ρ.i 591, ρ.i 592, ρ.i 593, ρ.i 594, ρ.i 595, ρ.i 596, ρ.i 597, ρ.i 598, ρ.i 599, ρ.i 600, ρ.i 601, ρ.i 602, ρ.i 603, ρ.i 604, ρ.i 605, ρ.i 606, ρ.i 607, ρ.i 608, ρ.i 609, ρ.i 610, ρ.i 611, ρ.i 612, ρ.i 613, ρ.i 614, ρ.i 615, ρ.i 616, ρ.i 617, ρ.i 618, ρ.i 619, ρ.i 620, ρ.i 621, ρ.i 622, ρ.i 623, ρ.i 624, ρ.i 625, ρ.i 626, ρ.i 627, ρ.i 628, ρ.i 629, ρ.i 583] = _
      rw [(tt hi584 ob466 (ft hi537 ob37 (ft hi491 ob38 (ft hi445 ob80 (ft hi399 ob85 (ft hi353 ob93 (ft hi307 ob99 (fh hi261 ob136)))))))), (tt hi585 ob466 (ft hi538 ob37 (ft hi492 ob38 (ft hi446 ob80 (ft hi400 ob85 (ft hi354 ob93 (ft hi308 ob99 (fh hi262 ob136)))))))), (tt hi586 ob466 (ft hi539 ob37 (ft hi493 ob38 (ft hi447 ob80 (ft hi401 ob85 (ft hi355 ob93 (ft hi309 ob99 (fh hi263 ob136)))))))), (tt hi587 ob466 (ft hi540 ob37 (ft hi494 ob38 (ft hi448 ob80 (ft hi402 ob85 (ft hi356 ob93 (ft hi310 ob99 (fh hi264 ob136)))))))), (tt hi588 ob466 (ft hi541 ob37 (ft hi495 ob38 (ft hi449 ob80 (ft hi403 ob85 (ft hi357 ob93 (ft hi311 ob99 (fh hi265 ob136)))))))), (tt hi589 ob466 (ft hi542 ob37 (ft hi496 ob38 (ft hi450 ob80 (ft hi404 ob85 (ft hi358 ob93 (ft hi312 ob99 (fh hi266 ob136)))))))), (tt hi590 ob466 (ft hi543 ob37 (ft hi497 ob38 (ft hi451 ob80 (ft hi405 ob85 (ft hi359 ob93 (ft hi313 ob99 (fh hi267 ob136)))))))), (tt hi591 ob466 (ft hi544 ob37 (ft hi498 ob38 (ft hi452 ob80 (ft hi406 ob85 (ft hi360 ob93 (ft hi314 ob99 (fh hi268 ob136)))))))), (tt hi592 ob466 (ft hi545 ob37 (ft hi499 ob38 (ft hi453 ob80 (ft hi407 ob85 (ft hi361 ob93 (ft hi315 ob99 (fh hi269 ob136)))))))), (tt hi593 ob466 (ft hi546 ob37 (ft hi500 ob38 (ft hi454 ob80 (ft hi408 ob85 (ft hi362 ob93 (ft hi316 ob99 (fh hi270 ob136)))))))), (tt hi594 ob466 (ft hi547 ob37 (ft hi501 ob38 (ft hi455 ob80 (ft hi409 ob85 (ft hi363 ob93 (ft hi317 ob99 (fh hi271 ob136)))))))), (tt hi595 ob466 (ft hi548 ob37 (ft hi502 ob38 (ft hi456 ob80 (ft hi410 ob85 (ft hi364 ob93 (ft hi318 ob99 (fh hi272 ob136)))))))), (tt hi596 ob466 (ft hi549 ob37 (ft hi503 ob38 (ft hi457 ob80 (ft hi411 ob85 (ft hi365 ob93 (ft hi319 ob99 (fh hi273 ob136)))))))), (tt hi597 ob466 (ft hi550 ob37 (ft hi504 ob38 (ft hi458 ob80 (ft hi412 ob85 (ft hi366 ob93 (ft hi320 ob99 (fh hi274 ob136)))))))), (tt hi598 ob466 (ft hi551 ob37 (ft hi505 ob38 (ft hi459 ob80 (ft hi413 ob85 (ft hi367 ob93 (ft hi321 ob99 (fh hi275 ob136)))))))), (tt hi599 ob466 (ft hi552 ob37 (ft hi506 ob38 (ft hi460 ob80 (ft hi414 ob85 (ft hi368 ob93 (ft hi322 ob99 (fh hi276 ob136)))))))), (tt hi600 ob466 (ft hi553 ob37 (ft hi507 ob38 (ft hi461 ob80 (ft hi415 ob85 (ft hi369 ob93 (ft hi323 ob99 (fh hi277 ob136)))))))), (tt hi601 ob466 (ft hi554 ob37 (ft hi508 ob38 (ft hi462 ob80 (ft hi416 ob85 (ft hi370 ob93 (ft hi324 ob99 (fh hi278 ob136)))))))), (tt hi602 ob466 (ft hi555 ob37 (ft hi509 ob38 (ft hi463 ob80 (ft hi417 ob85 (ft hi371 ob93 (ft hi325 ob99 (fh hi279 ob136)))))))), (tt hi603 ob466 (ft hi556 ob37 (ft hi510 ob38 (ft hi464 ob80 (ft hi418 ob85 (ft hi372 ob93 (ft hi326 ob99 (fh hi280 ob136)))))))), (tt hi604 ob466 (ft hi557 ob37 (ft hi511 ob38 (ft hi465 ob80 (ft hi419 ob85 (ft hi373 ob93 (ft hi327 ob99 (fh hi281 ob136)))))))), (tt hi605 ob466 (ft hi558 ob37 (ft hi512 ob38 (ft hi466 ob80 (ft hi420 ob85 (ft hi374 ob93 (ft hi328 ob99 (fh hi282 ob136)))))))), (tt hi606 ob466 (ft hi559 ob37 (ft hi513 ob38 (ft hi467 ob80 (ft hi421 ob85 (ft hi375 ob93 (ft hi329 ob99 (fh hi283 ob136)))))))), (tt hi607 ob466 (ft hi560 ob37 (ft hi514 ob38 (ft hi468 ob80 (ft hi422 ob85 (ft hi376 ob93 (ft hi330 ob99 (fh hi284 ob136)))))))), (tt hi608 ob466 (ft hi561 ob37 (ft hi515 ob38 (ft hi469 ob80 (ft hi423 ob85 (ft hi377 ob93 (ft hi331 ob99 (fh hi285 ob136)))))))), (tt hi609 ob466 (ft hi562 ob37 (ft hi516 ob38 (ft hi470 ob80 (ft hi424 ob85 (ft hi378 ob93 (ft hi332 ob99 (fh hi286 ob136)))))))), (tt hi610 ob466 (ft hi563 ob37 (ft hi517 ob38 (ft hi471 ob80 (ft hi425 ob85 (ft hi379 ob93 (ft hi333 ob99 (fh hi287 ob136)))))))), (tt hi611 ob466 (ft hi564 ob37 (ft hi518 ob38 (ft hi472 ob80 (ft hi426 ob85 (ft hi380 ob93 (ft hi334 ob99 (fh hi288 ob136)))))))), (tt hi612 ob466 (ft hi565 ob37 (ft hi519 ob38 (ft hi473 ob80 (ft hi427 ob85 (ft hi381 ob93 (ft hi335 ob99 (fh hi289 ob136)))))))), (tt hi613 ob466 (ft hi566 ob37 (ft hi520 ob38 (ft hi474 ob80 (ft hi428 ob85 (ft hi382 ob93 (ft hi336 ob99 (fh hi290 ob136)))))))), (tt hi614 ob466 (ft hi567 ob37 (ft hi521 ob38 (ft hi475 ob80 (ft hi429 ob85 (ft hi383 ob93 (ft hi337 ob99 (fh hi291 ob136)))))))), (tt hi615 ob466 (ft hi568 ob37 (ft hi522 ob38 (ft hi476 ob80 (ft hi430 ob85 (ft hi384 ob93 (ft hi338 ob99 (fh hi292 ob136)))))))), (tt hi616 ob466 (ft hi569 ob37 (ft hi523 ob38 (ft hi477 ob80 (ft hi431 ob85 (ft hi385 ob93 (ft hi339 ob99 (fh hi293 ob136)))))))), (tt hi617 ob466 (ft hi570 ob37 (ft hi524 ob38 (ft hi478 ob80 (ft hi432 ob85 (ft hi386 ob93 (ft hi340 ob99 (fh hi294 ob136)))))))), (tt hi618 ob466 (ft hi571 ob37 (ft hi525 ob38 (ft hi479 ob80 (ft hi433 ob85 (ft hi387 ob93 (ft hi341 ob99 (fh hi295 ob136)))))))), (tt hi619 ob466 (ft hi572 ob37 (ft hi526 ob38 (ft hi480 ob80 (ft hi434 ob85 (ft hi388 ob93 (ft hi342 ob99 (fh hi296 ob136)))))))), (tt hi620 ob466 (ft hi573 ob37 (ft hi527 ob38 (ft hi481 ob80 (ft hi435 ob85 (ft hi389 ob93 (ft hi343 ob99 (fh hi297 ob136)))))))), (tt hi621 ob466 (ft hi574 ob37 (ft hi528 ob38 (ft hi482 ob80 (ft hi436 ob85 (ft hi390 ob93 (ft hi344 ob99 (fh hi298 ob136)))))))), (tt hi622 ob466 (ft hi575 ob37 (ft hi529 ob38 (ft hi483 ob80 (ft hi437 ob85 (ft hi391 ob93 (ft hi345 ob99 (fh hi299 ob136)))))))), (tt hi623 ob466 (ft hi576 ob37 (ft hi530 ob38 (ft hi484 ob80 (ft hi438 ob85 (ft hi392 ob93 (ft hi346 ob99 (fh hi300 ob136)))))))), (tt hi624 ob466 (ft hi577 ob37 (ft hi531 ob38 (ft hi485 ob80 (ft hi439 ob85 (ft hi393 ob93 (ft hi347 ob99 (fh hi301 ob136)))))))), (tt hi625 ob466 (ft hi578 ob37 (ft hi532 ob38 (ft hi486 ob80 (ft hi440 ob85 (ft hi394 ob93 (ft hi348 ob99 (fh hi302 ob136)))))))), (tt hi626 ob466 (ft hi579 ob37 (ft hi533 ob38 (ft hi487 ob80 (ft hi441 ob85 (ft hi395 ob93 (ft hi349 ob99 (fh hi303 ob136)))))))), (tt hi627 ob466 (ft hi580 ob37 (ft hi534 ob38 (ft hi488 ob80 (ft hi442 ob85 (ft hi396 ob93 (ft hi350 ob99 (fh hi304 ob136)))))))), (tt hi628 ob466 (ft hi581 ob37 (ft hi535 ob38 (ft hi489 ob80 (ft hi443 ob85 (ft hi397 ob93 (ft hi351 ob99 (fh hi305 ob136)))))))), (tt hi629 ob466 (ft hi582 ob37 (ft hi536 ob38 (ft hi490 ob80 (ft hi444 ob85 (ft hi398 ob93 (ft hi352 ob99 (fh hi306 ob136)))))))), (th hi583 ob466)] <;> rfl
    · simp [ob36, ob37, ob38, ob80, ob85, ob93, ob99, ob136]
    · show [ρ.b 467, ρ.b 468, ρ.b 469, ρ.b 470, ρ.b 471, ρ.b 472, ρ.b 473, ρ.b 474, ρ.b 475, ρ.b 476, ρ.b 477, ρ.b 478, ρ.b 479, ρ.b 480, ρ.b 481, ρ.b 482, ρ.b 483, ρ.b 484, ρ.b 485, ρ.b 486, ρ.b 487, ρ.b 488, ρ.b 489, ρ.b 490, ρ.b 491, ρ.b 492, ρ.b 493, ρ.b 494, ρ.b 495, ρ.b 496, ρ.b 497, ρ.b 498, ρ.b 499, ρ.b 500, ρ.b 501, ρ.b 502] = _
      rw [(tt hb467 ob466 (ft hb430 ob37 (ft hb394 ob38 (ft hb358 ob80 (ft hb322 ob85 (ft hb286 ob93 (ft hb250 ob99 (fh hb214 ob136)))))))), (tt hb468 ob466 (ft hb431 ob37 (ft hb395 ob38 (ft hb359 ob80 (ft hb323 ob85 (ft hb287 ob93 (ft hb251 ob99 (fh hb215 ob136)))))))), (tt hb469 ob466 (ft hb432 ob37 (ft hb396 ob38 (ft hb360 ob80 (ft hb324 ob85 (ft hb288 ob93 (ft hb252 ob99 (fh hb216 ob136)))))))), (tt hb470 ob466 (ft hb433 ob37 (ft hb397 ob38 (ft hb361 ob80 (ft hb325 ob85 (ft hb289 ob93 (ft hb253 ob99 (fh hb217 ob136)))))))), (tt hb471 ob466 (ft hb434 ob37 (ft hb398 ob38 (ft hb362 ob80 (ft hb326 ob85 (ft hb290 ob93 (ft hb254 ob99 (fh hb218 ob136)))))))), (tt hb472 ob466 (ft hb435 ob37 (ft hb399 ob38 (ft hb363 ob80 (ft hb327 ob85 (ft hb291 ob93 (ft hb255 ob99 (fh hb219 ob136)))))))), (tt hb473 ob466 (ft hb436 ob37 (ft hb400 ob38 (ft hb364 ob80 (ft hb328 ob85 (ft hb292 ob93 (ft hb256 ob99 (fh hb220 ob136)))))))), (tt hb474 ob466 (ft hb437 ob37 (ft hb401 ob38 (ft hb365 ob80 (ft hb329 ob85 (ft hb293 ob93 (ft hb257 ob99 (fh hb221 ob136)))))))), (tt hb475 ob466 (ft hb438 ob37 (ft hb402 ob38 (ft hb366 ob80 (ft hb330 ob85 (ft hb294 ob93 (ft hb258 ob99 (fh hb222 ob136)))))))), (tt hb476 ob466 (ft hb439 ob37 (ft hb403 ob38 (ft hb367 ob80 (ft hb331 ob85 (ft hb295 ob93 (ft hb259 ob99 (fh hb223 ob136)))))))), (tt hb477 ob466 (ft hb440 ob37 (ft hb404 ob38 (ft hb368 ob80 (ft hb332 ob85 (ft hb296 ob93 (ft hb260 ob99 (fh hb224 ob136)))))))), (tt hb478 ob466 (ft hb441 ob37 (ft hb405 ob38 (ft hb369 ob80 (ft hb333 ob85 (ft hb297 ob93 (ft hb261 ob99 (fh hb225 ob136)))))))), (tt hb479 ob466 (ft hb442 ob37 (ft hb406 ob38 (ft hb370 ob80 (ft hb334 ob85 (ft hb298 ob93 (ft hb262 ob99 (fh hb226 ob136)))))))), (tt hb480 ob466 (ft hb443 ob37 (ft hb407 ob38 (ft hb371 ob80 (ft hb335 ob85 (ft hb299 ob93 (ft hb263 ob99 (fh hb227 ob136)))))))), (tt hb481 ob466 (ft hb444 ob37 (ft hb408 ob38 (ft hb372 ob80 (ft hb336 ob85 (ft hb300 ob93 (ft hb264 ob99 (fh hb228 ob136)))))))), (tt hb482 ob466 (ft hb445 ob37 (ft hb409 ob38 (ft hb373 ob80 (ft hb337 ob85 (ft hb301 ob93 (ft hb265 ob99 (fh hb229 ob136)))))))), (tt hb483 ob466 (ft hb446 ob37 (ft hb410 ob38 (ft hb374 ob80 (ft hb338 ob85 (ft hb302 ob93 (ft hb266 ob99 (fh hb230 ob136)))))))), (tt hb484 ob466 (ft hb447 ob37 (ft hb411 ob38 (ft hb375 ob80 (ft hb339 ob85 (ft hb303 ob93 (ft hb267 ob99 (fh hb231 ob136)))))))), (tt hb485 ob466 (ft hb448 ob37 (ft hb412 ob38 (ft hb376 ob80 (ft hb340 ob85 (ft hb304 ob93 (ft hb268 ob99 (fh hb232 ob136)))))))), (tt hb486 ob466 (ft hb449 ob37 (ft hb413 ob38 (ft hb377 ob80 (ft hb341 ob85 (ft hb305 ob93 (ft hb269 ob99 (fh hb233 ob136)))))))), (tt hb487 ob466 (ft hb450 ob37 (ft hb414 ob38 (ft hb378 ob80 (ft hb342 ob85 (ft hb306 ob93 (ft hb270 ob99 (fh hb234 ob136)))))))), (tt hb488 ob466 (ft hb451 ob37 (ft hb415 ob38 (ft hb379 ob80 (ft hb343 ob85 (ft hb307 ob93 (ft hb271 ob99 (fh hb235 ob136)))))))), (tt hb489 ob466 (ft hb452 ob37 (ft hb416 ob38 (ft hb380 ob80 (ft hb344 ob85 (ft hb308 ob93 (ft hb272 ob99 (fh hb236 ob136)))))))), (tt hb490 ob466 (ft hb453 ob37 (ft hb417 ob38 (ft hb381 ob80 (ft hb345 ob85 (ft hb309 ob93 (ft hb273 ob99 (fh hb237 ob136)))))))), (tt hb491 ob466 (ft hb454 ob37 (ft hb418 ob38 (ft hb382 ob80 (ft hb346 ob85 (ft hb310 ob93 (ft hb274 ob99 (fh hb238 ob136)))))))), (tt hb492 ob466 (ft hb455 ob37 (ft hb419 ob38 (ft hb383 ob80 (ft hb347 ob85 (ft hb311 ob93 (ft hb275 ob99 (fh hb239 ob136)))))))), (tt hb493 ob466 (ft hb456 ob37 (ft hb420 ob38 (ft hb384 ob80 (ft hb348 ob85 (ft hb312 ob93 (ft hb276 ob99 (fh hb240 ob136)))))))), (tt hb494 ob466 (ft hb457 ob37 (ft hb421 ob38 (ft hb385 ob80 (ft hb349 ob85 (ft hb313 ob93 (ft hb277 ob99 (fh hb241 ob136)))))))), (tt hb495 ob466 (ft hb458 ob37 (ft hb422 ob38 (ft hb386 ob80 (ft hb350 ob85 (ft hb314 ob93 (ft hb278 ob99 (fh hb242 ob136)))))))), (tt hb496 ob466 (ft hb459 ob37 (ft hb423 ob38 (ft hb387 ob80 (ft hb351 ob85 (ft hb315 ob93 (ft hb279 ob99 (fh hb243 ob136)))))))), (tt hb497 ob466 (ft hb460 ob37 (ft hb424 ob38 (ft hb388 ob80 (ft hb352 ob85 (ft hb316 ob93 (ft hb280 ob99 (fh hb244 ob136)))))))), (tt hb498 ob466 (ft hb461 ob37 (ft hb425 ob38 (ft hb389 ob80 (ft hb353 ob85 (ft hb317 ob93 (ft hb281 ob99 (fh hb245 ob136)))))))), (tt hb499 ob466 (ft hb462 ob37 (ft hb426 ob38 (ft hb390 ob80 (ft hb354 ob85 (ft hb318 ob93 (ft hb282 ob99 (fh hb246 ob136)))))))), (tt hb500 ob466 (ft hb463 ob37 (ft hb427 ob38 (ft hb391 ob80 (ft hb355 ob85 (ft hb319 ob93 (ft hb283 ob99 (fh hb247 ob136)))))))), (tt hb501 ob466 (ft hb464 ob37 (ft hb428 ob38 (ft hb392 ob80 (ft hb356 ob85 (ft hb320 ob93 (ft hb284 ob99 (fh hb248 ob136)))))))), (tt hb502 ob466 (ft hb465 ob37 (ft hb429 ob38 (ft hb393 ob80 (ft hb357 ob85 (ft hb321 ob93 (ft hb285 ob99 (fh hb249 ob136))))))))] <;> rfl
  · intro c0 c1 c2 c3 c4 c5 c6 c7 c8 c9 c10 c11 c12 c13 c14 c15 c16 c17 c18 c19 c20 c21 c22 c23 c24 c25 c26 c27 c28 c29 c30 c31 c32 c33 c34 c35 c36 c37 c38 c39 c40 c41 c42 c43 c44 c45 x0 x1 x2 x3 x4 x5 x6 x7 x8 x9 x10 x11 x12 x13 x14 x15 x16 x17 x18 x19 x20 x21 x22 x23 x24 x25 x26 x27 x28 x29 x30 x31 x32 x33 x34 x35 hr hv7 hF
    have ob36 : ρ.b 36 = false := t36
    have ob466 : ρ.b 466 = true := by rw [hb466, ob36]; rfl
    have ob37 : ρ.b 37 = false := (hb37.trans (rc_f23 reg hr).1)
    have ob38 : ρ.b 38 = false := (hb38.trans (rc_f23 reg hr).2.1)
    have ob80 : ρ.b 80 = false := (hb80.trans (rc_f23 reg hr).2.2.1)
    have ob85 : ρ.b 85 = false := (hb85.trans (rc_f23 reg hr).2.2.2.1)
    have ob93 : ρ.b 93 = false := (hb93.trans (rc_f23 reg hr).2.2.2.2.1)
    have ob99 : ρ.b 99 = false := (hb99.trans (rc_f23 reg hr).2.2.2.2.2.1)
    have ob136 : ρ.b 136 = true := (hb136.trans (rc_f23 reg hr).2.2.2.2.2.2)
    have ob137 : ρ.b 137 = true := (g137.trans (decide_eq_true hv7))
    have ob138 : ρ.b 138 = (decide (v / 64 % 2 = 1)) := g138
    have ob140 : ρ.b 140 = (b34 && !(decide (v / 64 % 2 = 1))) := (by rw [hb140, hb139, g138])
    have q23_169_141 : tabF T46 23 [i0, i1, i2, i3, i4, i5, i6, i7, i8, i9, i10, i11, i12, i13, i14, i15, i16, i17, i18, i19, i20, i21, i22, i23, i24, i25, i26, i27, i28, i29, i30, i31, i32, i33, i34, i35, i36, i37, i38, i39, i40, i41, i42, i43, i44, 0] [b0, b1, b2, b3, b4, b5, b6, b7, b8, b9, b10, b11, b12, b13, b14, b15, b16, b17, b18, b19, b20, b21, b22, b23, b24, b25, b26, b27, b28, b29, b30, b31, ρ.b 137, ρ.b 138, ρ.b 140, b35] = ([c0, c1, c2, c3, c4, c5, c6, c7, c8, c9, c10, c11, c12, c13, c14, c15, c16, c17, c18, c19, c20, c21, c22, c23, c24, c25, c26, c27, c28, c29, c30, c31, c32, c33, c34, c35, c36, c37, c38, c39, c40, c41, c42, c43, c44, c45], [true, x0, x1, x2, x3, x4, x5, x6, x7, x8, x9, x10, x11, x12, x13, x14, x15, x16, x17, x18, x19, x20, x21, x22, x23, x24, x25, x26, x27, x28, x29, x30, x31, x32, x33, x34, x35]) := by rw [ob137, ob138, ob140]; exact hF
    refine Prod.ext ?_ (List.cons_eq_cons.2 ⟨?_, ?_⟩)
    · show [ρ.i 584, ρ.i 585, ρ.i 586, ρ.i 587, ρ.i 588, ρ.i 589, ρ.i 590, ρ.i 591, ρ.i 592, ρ.i 593, ρ.i 594, ρ.i 595, ρ.i 596, ρ.i 597, ρ.i 598, ρ.i 599, ρ.i 600, ρ.i 601, ρ.i 602, ρ.i 603, ρ.i 604, ρ.i 605, ρ.i 606, ρ.i 607, ρ.i 608, ρ.i 609, ρ.i 610, ρ.i 611, ρ.i 612, ρ.i 613, ρ.i 614, ρ.i 615, ρ.i 616, ρ.i 617, ρ.i 618, ρ.i 619, ρ.i 620, ρ.i 621, ρ.i 622, ρ.i 623, ρ.i 624, ρ.i 625, ρ.i 626, ρ.i 627, ρ.i 628, ρ.i 629, ρ.i 583] = _
      rw [(tt hi584 ob466 (ft hi537 ob37 (ft hi491 ob38 (ft hi445 ob80 (ft hi399 ob85 (ft hi353 ob93 (ft hi307 ob99 (tt hi261 ob136 (tt hi215 ob137 (gi hi169 q23_169_141)))))))))), (tt hi585 ob466 (ft hi538 ob37 (ft hi492 ob38 (ft hi446 ob80 (ft hi400 ob85 (ft hi354 ob93 (ft hi308 ob99 (tt hi262 ob136 (tt hi216 ob137 (gi hi170 q23_169_141)))))))))), (tt hi586 ob466 (ft hi539 ob37 (ft hi493 ob38 (ft hi447 ob80 (ft hi401 ob85 (ft hi355 ob93 (ft hi309 ob99 (tt hi263 ob136 (tt hi217 ob137 (gi hi171 q23_169_141)))))))))), (tt hi587 ob466 (ft hi540 ob37 (ft hi494 ob38 (ft hi448 ob80 (ft hi402 ob85 (ft hi356 ob93 (ft hi310 ob99 (tt hi264 ob136 (tt hi218 ob137 (gi hi172 q23_169_141)))))))))), (tt hi588 ob466 (ft hi541 ob37 (ft hi495 ob38 (ft hi449 ob80 (ft hi403 ob85 (ft hi357 ob93 (ft hi311 ob99 (tt hi265 ob136 (tt hi219 ob137 (gi hi173 q23_169_141)))))))))), (tt hi589 ob466 (ft hi542 ob37 (ft hi496 ob38 (ft hi450 ob80 (ft hi404 ob85 (ft hi358 ob93 (ft hi312 ob99 (tt hi266 ob136 (tt hi220 ob137 (gi hi174 q23_169_141)))))))))), (tt hi590 ob466 (ft hi543 ob37 (ft hi497 ob38 (ft hi451 ob80 (ft hi405 ob85 (ft hi359 ob93 (ft hi313 ob99 (tt hi267 ob136 (tt hi221 ob137 (gi hi175 q23_169_141)))))))))), (tt hi591 ob466 (ft hi544 ob37 (ft hi498 ob38 (ft hi452 ob80 (ft hi406 ob85 (ft hi360 ob93 (ft hi314 ob99 (tt hi268 ob136 (tt hi222 ob137 (gi hi176 q23_169_141)))))))))), (tt hi592 ob466 (ft hi545 ob37 (ft hi499 ob38 (ft hi453 ob80 (ft hi407 ob85 (ft hi361 ob93 (ft hi315 ob99 (tt hi269 ob136 (tt hi223 ob137 (gi hi177 q23_169_141)))))))))), (tt hi593 ob466 (ft hi546 ob37 (ft hi500 ob38 (ft hi454 ob80 (ft hi408 ob85 (ft hi362 ob93 (ft hi316 ob99 (tt hi270 ob136 (tt hi224 ob137 (gi hi178 q23_169_141)))))))))), (tt hi594 ob466 (ft hi547 ob37 (ft hi501 ob38 (ft hi455 ob80 (ft hi409 ob85 (ft hi363 ob93 (ft hi317 ob99 (tt hi271 ob136 (tt hi225 ob137 (gi hi179 q23_169_141)))))))))), (tt hi595 ob466 (ft hi548 ob37 (ft hi502 ob38 (ft hi456 ob80 (ft hi410 ob85 (ft hi364 ob93 (ft hi318 ob99 (tt hi272 ob136 (tt hi226 ob137 (gi hi180 q23_169_141)))))))))), (tt hi596 ob466 (ft hi549 ob37 (ft hi503 ob38 (ft hi457 ob80 (ft hi411 ob85 (ft hi365 ob93 (ft hi319 ob99 (tt hi273 ob136 (tt hi227 ob137 (gi hi181 q23_169_141)))))))))), (tt hi597 ob466 (ft hi550 ob37 (ft hi504 ob38 (ft hi458 ob80 (ft hi412 ob85 (ft hi366 ob93 (ft hi320 ob99 (tt hi274 ob136 (tt hi228 ob137 (gi hi182 q23_169_141)))))))))), (tt hi598 ob466 (ft hi551 ob37 (ft hi505 ob38 (ft hi459 ob80 (ft hi413 ob85 (ft hi367 ob93 (ft hi321 ob99 (tt hi275 ob136 (tt hi229 ob137 (gi hi183 q23_169_141)))))))))), (tt hi599 ob466 (ft hi552 ob37 (ft hi506 ob38 (ft hi460 ob80 (ft hi414 ob85 (ft hi368 ob93 (ft hi322 ob99 (tt hi276 ob136 (tt hi230 ob137 (gi hi184 q23_169_141)))))))))), (tt hi600 ob466 (ft hi553 ob37 (ft hi507 ob38 (ft hi461 ob80 (ft hi415 ob85 (ft hi369 ob93 (ft hi323 ob99 (tt hi277 ob136 (tt hi231 ob137 (gi hi185 q23_169_141)))))))))), (tt hi601 ob466 (ft hi554 ob37 (ft hi508 ob38 (ft hi462 ob80 (ft hi416 ob85 (ft hi370 ob93 (ft hi324 ob99 (tt hi278 ob136 (tt hi232 ob137 (gi hi186 q23_169_141)))))))))), (tt hi602 ob466 (ft hi555 ob37 (ft hi509 ob38 (ft hi463 ob80 (ft hi417 ob85 (ft hi371 ob93 (ft hi325 ob99 (tt hi279 ob136 (tt hi233 ob137 (gi hi187 q23_169_141)))))))))), (tt hi603 ob466 (ft hi556 ob37 (ft hi510 ob38 (ft hi464 ob80 (ft hi418 ob85 (ft hi372 ob93 (ft hi326 ob99 (tt hi280 ob136 (tt hi234 ob137 (gi hi188 q23_169_141)))))))))), (tt hi604 ob466 (ft hi557 ob37 (ft hi511 ob38 (ft hi465 ob80 (ft hi419 ob85 (ft hi373 ob93 (ft hi327 ob99 (tt hi281 ob136 (tt hi235 ob137 (gi hi189 q23_169_141)))))))))), (tt hi605 ob466 (ft hi558 ob37 (ft hi512 ob38 (ft hi466 ob80 (ft hi420 ob85 (ft hi374 ob93 (ft hi328 ob99 (tt hi282 ob136 (tt hi236 ob137 (gi hi190 q23_169_141)))))))))), (tt hi606 ob466 (ft hi559 ob37 (ft hi513 ob38 (ft hi467 ob80 (ft hi421 ob85 (ft hi375 ob93 (ft hi329 ob99 (tt hi283 ob136 (tt hi237 ob137 (gi hi191 q23_169_141)))))))))), (tt hi607 ob466 (ft hi560 ob37 (ft hi514 ob38 (ft hi468 ob80 (ft hi422 ob85 (ft hi376 ob93 (ft hi330 ob99 (tt hi284 ob136 (tt hi238 ob137 (gi hi192 q23_169_141)))))))))), (tt hi608 ob466 (ft hi561 ob37 (ft hi515 ob38 (ft hi469 ob80 (ft hi423 ob85 (ft hi377 ob93 (ft hi331 ob99 (tt hi285 ob136 (tt hi239 ob137 (gi hi193 q23_169_141)))))))))), (tt hi609 ob466 (ft hi562 ob37 (ft hi516 ob38 (ft hi470 ob80 (ft hi424 ob85 (ft hi378 ob93 (ft hi332 ob99 (tt hi286 ob136 (tt hi240 ob137 (gi hi194 q23_169_141)))))))))), (tt hi610 ob466 (ft hi563 ob37 (ft hi517 ob38 (ft hi471 ob80 (ft hi425 ob85 (ft hi379 ob93 (ft hi333 ob99 (tt hi287 ob136 (tt hi241 ob137 (gi hi195 q23_169_141)))))))))), (tt hi611 ob466 (ft hi564 ob37 (ft hi518 ob38 (ft hi472 ob80 (ft hi426 ob85 (ft hi380 ob93 (ft hi334 ob99 (tt hi288 ob136 (tt hi242 ob137 (gi hi196 q23_169_141)))))))))), (tt hi612 ob466 (ft hi565 ob37 (ft hi519 ob38 (ft hi473 ob80 (ft hi427 ob85 (ft hi381 ob93 (ft hi335 ob99 (tt hi289 ob136 (tt hi243 ob137 (gi hi197 q23_169_141)))))))))), (tt hi613 ob466 (ft hi566 ob37 (ft hi520 ob38 (ft hi474 ob80 (ft hi428 ob85 (ft hi382 ob93 (ft hi336 ob99 (tt hi290 ob136 (tt hi244 ob137 (gi hi198 q23_169_141)))))))))), (tt hi614 ob466 (ft hi567 ob37 (ft hi521 ob38 (ft hi475 ob80 (ft hi429 ob85 (ft hi383 ob93 (ft hi337 ob99 (tt hi291 ob136 (tt hi245 ob137 (gi hi199 q23_169_141)))))))))), (tt hi615 ob466 (ft hi568 ob37 (ft hi522 ob38 (ft hi476 ob80 (ft hi430 ob85 (ft hi384 ob93 (ft hi338 ob99 (tt hi292 ob136 (tt hi246 ob137 (gi hi200 q23_169_141)))))))))), (tt hi616 ob466 (ft hi569 ob37 (ft hi523 ob38 (ft hi477 ob80 (ft hi431 ob85 (ft hi385 ob93 (ft hi339 ob99 (tt hi293 ob136 (tt hi247 ob137 (gi hi201 q23_169_141)))))))))), (tt hi617 ob466 (ft hi570 ob37 (ft hi524 ob38 (ft hi478 ob80 (ft hi432 ob85 (ft hi386 ob93 (ft hi340 ob99 (tt hi294 ob136 (tt hi248 ob137 (gi hi202 q23_169_141)))))))))), (tt hi618 ob466 (ft hi571 ob37 (ft hi525 ob38 (ft hi479 ob80 (ft hi433 ob85 (ft hi387 ob93 (ft hi341 ob99 (tt hi295 ob136 (tt hi249 ob137 (gi hi203 q23_169_141)))))))))), (tt hi619 ob466 (ft hi572 ob37 (ft hi526 ob38 (ft hi480 ob80 (ft hi434 ob85 (ft hi388 ob93 (ft hi342 ob99 (tt hi296 ob136 (tt hi250 ob137 (gi hi204 q23_169_141)))))))))), (tt hi620 ob466 (ft hi573 ob37 (ft hi527 ob38 (ft hi481 ob80 (ft hi435 ob85 (ft hi389 ob93 (ft hi343 ob99 (tt hi297 ob136 (tt hi251 ob137 (gi hi205 q23_169_141)))))))))), (tt hi621 ob466 (ft hi574 ob37 (ft hi528 ob38 (ft hi482 ob80 (ft hi436 ob85 (ft hi390 ob93 (ft hi344 ob99 (tt hi298 ob136 (tt hi252 ob137 (gi hi206 q23_169_141)))))))))), (tt hi622 ob466 (ft hi575 ob37 (ft hi529 ob38 (ft hi483 ob80 (ft hi437 ob85 (ft hi391 ob93 (ft hi345 ob99 (tt hi299 ob136 (tt hi253 ob137 (gi hi207 q23_169_141)))))))))), (tt hi623 ob466 (ft hi576 ob37 (ft hi530 ob38 (ft hi484 ob80 (ft hi438 ob85 (ft hi392 ob93 (ft hi346 ob99 (tt hi300 ob136 (tt hi254 ob137 (gi hi208 q23_169_141)))))))))), (tt hi624 ob466 (ft hi577 ob37 (ft hi531 ob38 (ft hi485 ob80 (ft hi439 ob85 (ft hi393 ob93 (ft hi347 ob99 (tt hi301 ob136 (tt hi255 ob137 (gi hi209 q23_169_141)))))))))), (tt hi625 ob466 (ft hi578 ob37 (ft hi532 ob38 (ft hi486 ob80 (ft hi440 ob85 (ft hi394 ob93 (ft hi348 ob99 (tt hi302 ob136 (tt hi256 ob137 (gi hi210 q23_169_141)))))))))), (tt hi626 ob466 (ft hi579 ob37 (ft hi533 ob38 (ft hi487 ob80 (ft hi441 ob85 (ft hi395 ob93 (ft hi349 ob99 (tt hi303 ob136 (tt hi257 ob137 (gi hi211 q23_169_141)))))))))), (tt hi627 ob466 (ft hi580 ob37 (ft hi534 ob38 (ft hi488 ob80 (ft hi442 ob85 (ft hi396 ob93 (ft hi350 ob99 (tt hi304 ob136 (tt hi258 ob137 (gi hi212 q23_169_141)))))))))), (tt hi628 ob466 (ft hi581 ob37 (ft hi535 ob38 (ft hi489 ob80 (ft hi443 ob85 (ft hi397 ob93 (ft hi351 ob99 (tt hi305 ob136 (tt hi259 ob137 (gi hi213 q23_169_141)))))))))), (tt hi629 ob466 (ft hi582 ob37 (ft hi536 ob38 (ft hi490 ob80 (ft hi444 ob85 (ft hi398 ob93 (ft hi352 ob99 (tt hi306 ob136 (tt hi260 ob137 (gi hi214 q23_169_141)))))))))), (th hi583 ob466)] <;> rfl
    · simp [(gb hb141 q23_169_141), ob36, ob37, ob38, ob80, ob85, ob93, ob99, ob136, ob137]
    · show [ρ.b 467, ρ.b 468, ρ.b 469, ρ.b 470, ρ.b 471, ρ.b 472, ρ.b 473, ρ.b 474, ρ.b 475, ρ.b 476, ρ.b 477, ρ.b 478, ρ.b 479, ρ.b 480, ρ.b 481, ρ.b 482, ρ.b 483, ρ.b 484, ρ.b 485, ρ.b 486, ρ.b 487, ρ.b 488, ρ.b 489, ρ.b 490, ρ.b 491, ρ.b 492, ρ.b 493, ρ.b 494, ρ.b 495, ρ.b 496, ρ.b 497, ρ.b 498, ρ.b 499, ρ.b 500, ρ.b 501, ρ.b 502] = _
      rw [(tt hb467 ob466 (ft hb430 ob37 (ft hb394 ob38 (ft hb358 ob80 (ft hb322 ob85 (ft hb286 ob93 (ft hb250 ob99 (tt hb214 ob136 (tt hb178 ob137 (gb hb142 q23_169_141)))))))))), (tt hb468 ob466 (ft hb431 ob37 (ft hb395 ob38 (ft hb359 ob80 (ft hb323 ob85 (ft hb287 ob93 (ft hb251 ob99 (tt hb215 ob136 (tt hb179 ob137 (gb hb143 q23_169_141)))))))))), (tt hb469 ob466 (ft hb432 ob37 (ft hb396 ob38 (ft hb360 ob80 (ft hb324 ob85 (ft hb288 ob93 (ft hb252 ob99 (tt hb216 ob136 (tt hb180 ob137 (gb hb144 q23_169_141)))))))))), (tt hb470 ob466 (ft hb433 ob37 (ft hb397 ob38 (ft hb361 ob80 (ft hb325 ob85 (ft hb289 ob93 (ft hb253 ob99 (tt hb217 ob136 (tt hb181 ob137 (gb hb145 q23_169_141)))))))))), (tt hb471 ob466 (ft hb434 ob37 (ft hb398 ob38 (ft hb362 ob80 (ft hb326 ob85 (ft hb290 ob93 (ft hb254 ob99 (tt hb218 ob136 (tt hb182 ob137 (gb hb146 q23_169_141)))))))))), (tt hb472 ob466 (ft hb435 ob37 (ft hb399 ob38 (ft hb363 ob80 (ft hb327 ob85 (ft hb291 ob93 (ft hb255 ob99 (tt hb219 ob136 (tt hb183 ob137 (gb hb147 q23_169_141)))))))))), (tt hb473 ob466 (ft hb436 ob37 (ft hb400 ob38 (ft hb364 ob80 (ft hb328 ob85 (ft hb292 ob93 (ft hb256 ob99 (tt hb220 ob136 (tt hb184 ob137 (gb hb148 q23_169_141)))))))))), (tt hb474 ob466 (ft hb437 ob37 (ft hb401 ob38 (ft hb365 ob80 (ft hb329 ob85 (ft hb293 ob93 (ft hb257 ob99 (tt hb221 ob136 (tt hb185 ob137 (gb hb149 q23_169_141)))))))))), (tt hb475 ob466 (ft hb438 ob37 (ft hb402 ob38 (ft hb366 ob80 (ft hb330 ob85 (ft hb294 ob93 (ft hb258 ob99 (tt hb222 ob136 (tt hb186 ob137 (gb hb150 q23_169_141)))))))))), (tt hb476 ob466 (ft hb439 ob37 (ft hb403 ob38 (ft hb367 ob80 (ft hb331 ob85 (ft hb295 ob93 (ft hb259 ob99 (tt hb223 ob136 (tt hb187 ob137 (gb hb151 q23_169_141)))))))))), (tt hb477 ob466 (ft hb440 ob37 (ft hb404 ob38 (ft hb368 ob80 (ft hb332 ob85 (ft hb296 ob93 (ft hb260 ob99 (tt hb224 ob136 (tt hb188 ob137 (gb hb152 q23_169_141)))))))))), (tt hb478 ob466 (ft hb441 ob37 (ft hb405 ob38 (ft hb369 ob80 (ft hb333 ob85 (ft hb297 ob93 (ft hb261 ob99 (tt hb225 ob136 (tt hb189 ob137 (gb hb153 q23_169_141)))))))))), (tt hb479 ob466 (ft hb442 ob37 (ft hb406 ob38 (ft hb370 ob80 (ft hb334 ob85 (ft hb298 ob93 (ft hb262 ob99 (tt hb226 ob136 (tt hb190 ob137 (gb hb154 q23_169_141)))))))))), (tt hb480 ob466 (ft hb443 ob37 (ft hb407 ob38 (ft hb371 ob80 (ft hb335 ob85 (ft hb299 ob93 (ft hb263 ob99 (tt hb227 ob136 (tt hb191 ob137 (gb hb155 q23_169_141)))))))))), (tt hb481 ob466 (ft hb444 ob37 (ft hb408 ob38 (ft hb372 ob80 (ft hb336 ob85 (ft hb300 ob93 (ft hb264 ob99 (tt hb228 ob136 (tt hb192 ob137 (gb hb156 q23_169_141)))))))))), (tt hb482 ob466 (ft hb445 ob37 (ft hb409 ob38 (ft hb373 ob80 (ft hb337 ob85 (ft hb301 ob93 (ft hb265 ob99 (tt hb229 ob136 (tt hb193 ob137 (gb hb157 q23_169_141)))))))))), (tt hb483 ob466 (ft hb446 ob37 (ft hb410 ob38 (ft hb374 ob80 (ft hb338 ob85 (ft hb302 ob93 (ft hb266 ob99 (tt hb230 ob136 (tt hb194 ob137 (gb hb158 q23_169_141)))))))))), (tt hb484 ob466 (ft hb447 ob37 (ft hb411 ob38 (ft hb375 ob80 (ft hb339 ob85 (ft hb303 ob93 (ft hb267 ob99 (tt hb231 ob136 (tt hb195 ob137 (gb hb159 q23_169_141)))))))))), (tt hb485 ob466 (ft hb448 ob37 (ft hb412 ob38 (ft hb376 ob80 (ft hb340 ob85 (ft hb304 ob93 (ft hb268 ob99 (tt hb232 ob136 (tt hb196 ob137 (gb hb160 q23_169_141)))))))))), (tt hb486 ob466 (ft hb449 ob37 (ft hb413 ob38 (ft hb377 ob80 (ft hb341 ob85 (ft hb305 ob93 (ft hb269 ob99 (tt hb233 ob136 (tt hb197 ob137 (gb hb161 q23_169_141)))))))))), (tt hb487 ob466 (ft hb450 ob37 (ft hb414 ob38 (ft hb378 ob80 (ft hb342 ob85 (ft hb306 ob93 (ft hb270 ob99 (tt hb234 ob136 (tt hb198 ob137 (gb hb162 q23_169_141)))))))))), (tt hb488 ob466 (ft hb451 ob37 (ft hb415 ob38 (ft hb379 ob80 (ft hb343 ob85 (ft hb307 ob93 (ft hb271 ob99 (tt hb235 ob136 (tt hb199 ob137 (gb hb163 q23_169_141)))))))))), (tt hb489 ob466 (ft hb452 ob37 (ft hb416 ob38 (ft hb380 ob80 (ft hb344 ob85 (ft hb308 ob93 (ft hb272 ob99 (tt hb236 ob136 (tt hb200 ob137 (gb hb164 q23_169_141)))))))))), (tt hb490 ob466 (ft hb453 ob37 (ft hb417 ob38 (ft hb381 ob80 (ft hb345 ob85 (ft hb309 ob93 (ft hb273 ob99 (tt hb237 ob136 (tt hb201 ob137 (gb hb165 q23_169_141)))))))))), (tt hb491 ob466 (ft hb454 ob37 (ft hb418 ob38 (ft hb382 ob80 (ft hb346 ob85 (ft hb310 ob93 (ft hb274 ob99 (tt hb238 ob136 (tt hb202 ob137 (gb hb166 q23_169_141)))))))))), (tt hb492 ob466 (ft hb455 ob37 (ft hb419 ob38 (ft hb383 ob80 (ft hb347 ob85 (ft hb311 ob93 (ft hb275 ob99 (tt hb239 ob136 (tt hb203 ob137 (gb hb167 q23_169_141)))))))))), (tt hb493 ob466 (ft hb456 ob37 (ft hb420 ob38 (ft hb384 ob80 (ft hb348 ob85 (ft hb312 ob93 (ft hb276 ob99 (tt hb240 ob136 (tt hb204 ob137 (gb hb168 q23_169_141)))))))))), (tt hb494 ob466 (ft hb457 ob37 (ft hb421 ob38 (ft hb385 ob80 (ft hb349 ob85 (ft hb313 ob93 (ft hb277 ob99 (tt hb241 ob136 (tt hb205 ob137 (gb hb169 q23_169_141)))))))))), (tt hb495 ob466 (ft hb458 ob37 (ft hb422 ob38 (ft hb386 ob80 (ft hb350 ob85 (ft hb314 ob93 (ft hb278 ob99 (tt hb242 ob136 (tt hb206 ob137 (gb hb170 q23_169_141)))))))))), (tt hb496 ob466 (ft hb459 ob37 (ft hb423 ob38 (ft hb387 ob80 (ft hb351 ob85 (ft hb315 ob93 (ft hb279 ob99 (tt hb243 ob136 (tt hb207 ob137 (gb hb171 q23_169_141)))))))))), (tt hb497 ob466 (ft hb460 ob37 (ft hb424 ob38 (ft hb388 ob80 (ft hb352 ob85 (ft hb316 ob93 (ft hb280 ob99 (tt hb244 ob136 (tt hb208 ob137 (gb hb172 q23_169_141)))))))))), (tt hb498 ob466 (ft hb461 ob37 (ft hb425 ob38 (ft hb389 ob80 (ft hb353 ob85 (ft hb317 ob93 (ft hb281 ob99 (tt hb245 ob136 (tt hb209 ob137 (gb hb173 q23_169_141)))))))))), (tt hb499 ob466 (ft hb462 ob37 (ft hb426 ob38 (ft hb390 ob80 (ft hb354 ob85 (ft hb318 ob93 (ft hb282 ob99 (tt hb246 ob136 (tt hb210 ob137 (gb hb174 q23_169_141)))))))))), (tt hb500 ob466 (ft hb463 ob37 (ft hb427 ob38 (ft hb391 ob80 (ft hb355 ob85 (ft hb319 ob93 (ft hb283 ob99 (tt hb247 ob136 (tt hb211 ob137 (gb hb175 q23_169_141)))))))))), (tt hb501 ob466 (ft hb464 ob37 (ft hb428 ob38 (ft hb392 ob80 (ft hb356 ob85 (ft hb320 ob93 (ft hb284 ob99 (tt hb248 ob136 (tt hb212 ob137 (gb hb176 q23_169_141)))))))))), (tt hb502 ob466 (ft hb465 ob37 (ft hb429 ob38 (ft hb393 ob80 (ft hb357 ob85 (ft hb321 ob93 (ft hb285 ob99 (tt hb249 ob136 (tt hb213 ob137 (gb hb177 q23_169_141))))))))))] <;> rfl
  · intro hr hv7
    have ob36 : ρ.b 36 = false := t36
    have ob466 : ρ.b 466 = true := by rw [hb466, ob36]; rfl
    have ob37 : ρ.b 37 = false := (hb37.trans (rc_f23 reg hr).1)
    have ob38 : ρ.b 38 = false := (hb38.trans (rc_f23 reg hr).2.1)
    have ob80 : ρ.b 80 = false := (hb80.trans (rc_f23 reg hr).2.2.1)
    have ob85 : ρ.b 85 = false := (hb85.trans (rc_f23 reg hr).2.2.2.1)
    have ob93 : ρ.b 93 = false := (hb93.trans (rc_f23 reg hr).2.2.2.2.1)
    have ob99 : ρ.b 99 = false := (hb99.trans (rc_f23 reg hr).2.2.2.2.2.1)
    have ob136 : ρ.b 136 = true := (hb136.trans (rc_f23 reg hr).2.2.2.2.2.2)
    have ob137 : ρ.b 137 = false := (g137.trans (decide_eq_false (by clear hv hA; exact Int.not_le.2 hv7)))
    have ob138 : ρ.b 138 = (decide (v / 64 % 2 = 1)) := g138
    have ob140 : ρ.b 140 = (b34 && !(decide (v / 64 % 2 = 1))) := (by rw [hb140, hb139, g138])
    refine Prod.ext ?_ (List.cons_eq_cons.2 ⟨?_, ?_⟩)
    · show [ρ.i 584, ρ.i 585, ρ.i 586, ρ.i 587, ρ.i 588, ρ.i 589, ρ.i 590, ρ.i 591, ρ.i 592, ρ.i 593, ρ.i 594, ρ.i 595, ρ.i 596, ρ.i 597, ρ.i 598, ρ.i 599, ρ.i 600, ρ.i 601, ρ.i 602, ρ.i 603, ρ.i 604, ρ.i 605, ρ.i 606, ρ.i 607, ρ.i 608, ρ.i 609, ρ.i 610, ρ.i 611, ρ.i 612, ρ.i 613, ρ.i 614, ρ.i 615, ρ.i 616, ρ.i 617, ρ.i 618, ρ.i 619, ρ.i 620, ρ.i 621, ρ.i 622, ρ.i 623, ρ.i 624, ρ.i 625, ρ.i 626, ρ.i 627, ρ.i 628, ρ.i 629, ρ.i 583] = _
      rw [(tt hi584 ob466 (ft hi537 ob37 (ft hi491 ob38 (ft hi445 ob80 (ft hi399 ob85 (ft hi353 ob93 (ft hi307 ob99 (tt hi261 ob136 (fh hi215 ob137))))))))), (tt hi585 ob466 (ft hi538 ob37 (ft hi492 ob38 (ft hi446 ob80 (ft hi400 ob85 (ft hi354 ob93 (ft hi308 ob99 (tt hi262 ob136 (fh hi216 ob137))))))))), (tt hi586 ob466 (ft hi539 ob37 (ft hi493 ob38 (ft hi447 ob80 (ft hi401 ob85 (ft hi355 ob93 (ft hi309 ob99 (tt hi263 ob136 (fh hi217 ob137))))))))), (tt hi587 ob466 (ft hi540 ob37 (ft hi494 ob38 (ft hi448 ob80 (ft hi402 ob85 (ft hi356 ob93 (ft hi310 ob99 (tt hi264 ob136 (fh hi218 ob137))))))))), (tt hi588 ob466 (ft hi541 ob37 (ft hi495 ob38 (ft hi449 ob80 (ft hi403 ob85 (ft hi357 ob93 (ft hi311 ob99 (tt hi265 ob136 (fh hi219 ob137))))))))), (tt hi589 ob466 (ft hi542 ob37 (ft hi496 ob38 (ft hi450 ob80 (ft hi404 ob85 (ft hi358 ob93 (ft hi312 ob99 (tt hi266 ob136 (fh hi220 ob137))))))))), (tt hi590 ob466 (ft hi543 ob37 (ft hi497 ob38 (ft hi451 ob80 (ft hi405 ob85 (ft hi359 ob93 (ft hi313 ob99 (tt hi267 ob136 (fh hi221 ob137))))))))), (tt hi591 ob466 (ft hi544 ob37 (ft hi498 ob38 (ft hi452 ob80 (ft hi406 ob85 (ft hi360 ob93 (ft hi314 ob99 (tt hi268 ob136 (fh hi222 ob137))))))))), (tt hi592 ob466 (ft hi545 ob37 (ft hi499 ob38 (ft hi453 ob80 (ft hi407 ob85 (ft hi361 ob93 (ft hi315 ob99 (tt hi269 ob136 (fh hi223 ob137))))))))), (tt hi593 ob466 (ft hi546 ob37 (ft hi500 ob38 (ft hi454 ob80 (ft hi408 ob85 (ft hi362 ob93 (ft hi316 ob99 (tt hi270 ob136 (fh hi224 ob137))))))))), (tt hi594 ob466 (ft hi547 ob37 (ft hi501 ob38 (ft hi455 ob80 (ft hi409 ob85 (ft hi363 ob93 (ft hi317 ob99 (tt hi271 ob136 (fh hi225 ob137))))))))), (tt hi595 ob466 (ft hi548 ob37 (ft hi502 ob38 (ft hi456 ob80 (ft hi410 ob85 (ft hi364 ob93 (ft hi318 ob99 (tt hi272 ob136 (fh hi226 ob137))))))))), (tt hi596 ob466 (ft hi549 ob37 (ft hi503 ob38 (ft hi457 ob80 (ft hi411 ob85 (ft hi365 ob93 (ft hi319 ob99 (tt hi273 ob136 (fh hi227 ob137))))))))), (tt hi597 ob466 (ft hi550 ob37 (ft hi504 ob38 (ft hi458 ob80 (ft hi412 ob85 (ft hi366 ob93 (ft hi320 ob99 (tt hi274 ob136 (fh hi228 ob137))))))))), (tt hi598 ob466 (ft hi551 ob37 (ft hi505 ob38 (ft hi459 ob80 (ft hi413 ob85 (ft hi367 ob93 (ft hi321 ob99 (tt hi275 ob136 (fh hi229 ob137))))))))), (tt hi599 ob466 (ft hi552 ob37 (ft hi506 ob38 (ft hi460 ob80 (ft hi414 ob85 (ft hi368 ob93 (ft hi322 ob99 (tt hi276 ob136 (fh hi230 ob137))))))))), (tt hi600 ob466 (ft hi553 ob37 (ft hi507 ob38 (ft hi461 ob80 (ft hi415 ob85 (ft hi369 ob93 (ft hi323 ob99 (tt hi277 ob136 (fh hi231 ob137))))))))), (tt hi601 ob466 (ft hi554 ob37 (ft hi508 ob38 (ft hi462 ob80 (ft hi416 ob85 (ft hi370 ob93 (ft hi324 ob99 (tt hi278 ob136 (fh hi232 ob137))))))))), (tt hi602 ob466 (ft hi555 ob37 (ft hi509 ob38 (ft hi463 ob80 (ft hi417 ob85 (ft hi371 ob93 (ft hi325 ob99 (tt hi279 ob136 (fh hi233 ob137))))))))), (tt hi603 ob466 (ft hi556 ob37 (ft hi510 ob38 (ft hi464 ob80 (ft hi418 ob85 (ft hi372 ob93 (ft hi326 ob99 (tt hi280 ob136 (fh hi234 ob137))))))))), (tt hi604 ob466 (ft hi557 ob37 (ft hi511 ob38 (ft hi465 ob80 (ft hi419 ob85 (ft hi373 ob93 (ft hi327 ob99 (tt hi281 ob136 (fh hi235 ob137))))))))), (tt hi605 ob466 (ft hi558 ob37 (ft hi512 ob38 (ft hi466 ob80 (ft hi420 ob85 (ft hi374 ob93 (ft hi328 ob99 (tt hi282 ob136 (fh hi236 ob137))))))))), (tt hi606 ob466 (ft hi559 ob37 (ft hi513 ob38 (ft hi467 ob80 (ft hi421 ob85 (ft hi375 ob93 (ft hi329 ob99 (tt hi283 ob136 (fh hi237 ob137))))))))), (tt hi607 ob466 (ft hi560 ob37 (ft hi514 ob38 (ft hi468 ob80 (ft hi422 ob85 (ft hi376 ob93 (ft hi330 ob99 (tt hi284 ob136 (fh hi238 ob137))))))))), (tt hi608 ob466 (ft hi561 ob37 (ft hi515 ob38 (ft hi469 ob80 (ft hi423 ob85 (ft hi377 ob93 (ft hi331 ob99 (tt hi285 ob136 (fh hi239 ob137))))))))), (tt hi609 ob466 (ft hi562 ob37 (ft hi516 ob38 (ft hi470 ob80 (ft hi424 ob85 (ft hi378 ob93 (ft hi332 ob99 (tt hi286 ob136 (fh hi240 ob137))))))))), (tt hi610 ob466 (ft hi563 ob37 (ft hi517 ob38 (ft hi471 ob80 (ft hi425 ob85 (ft hi379 ob93 (ft hi333 ob99 (tt hi287 ob136 (fh hi241 ob137))))))))), (tt hi611 ob466 (ft hi564 ob37 (ft hi518 ob38 (ft hi472 ob80 (ft hi426 ob85 (ft hi380 ob93 (ft hi334 ob99 (tt hi288 ob136 (fh hi242 ob137))))))))), (tt hi612 ob466 (ft hi565 ob37 (ft hi519 ob38 (ft hi473 ob80 (ft hi427 ob85 (ft hi381 ob93 (ft hi335 ob99 (tt hi289 ob136 (fh hi243 ob137))))))))), (tt hi613 ob466 (ft hi566 ob37 (ft hi520 ob38 (ft hi474 ob80 (ft hi428 ob85 (ft hi382 ob93 (ft hi336 ob99 (tt hi290 ob136 (fh hi244 ob137))))))))), (tt hi614 ob466 (ft hi567 ob37 (ft hi521 ob38 (ft hi475 ob80 (ft hi429 ob85 (ft hi383 ob93 (ft hi337 ob99 (tt hi291 ob136 (fh hi245 ob137))))))))), (tt hi615 ob466 (ft hi568 ob37 (ft hi522 ob38 (ft hi476 ob80 (ft hi430 ob85 (ft hi384 ob93 (ft hi338 ob99 (tt hi292 ob136 (fh hi246 ob137))))))))), (tt hi616 ob466 (ft hi569 ob37 (ft hi523 ob38 (ft hi477 ob80 (ft hi431 ob85 (ft hi385 ob93 (ft hi339 ob99 (tt hi293 ob136 (fh hi247 ob137))))))))), (tt hi617 ob466 (ft hi570 ob37 (ft hi524 ob38 (ft hi478 ob80 (ft hi432 ob85 (ft hi386 ob93 (ft hi340 ob99 (tt hi294 ob136 (fh hi248 ob137))))))))), (tt hi618 ob466 (ft hi571 ob37 (ft hi525 ob38 (ft hi479 ob80 (ft hi433 ob85 (ft hi387 ob93 (ft hi341 ob99 (tt hi295 ob136 (fh hi249 ob137))))))))), (tt hi619 ob466 (ft hi572 ob37 (ft hi526 ob38 (ft hi480 ob80 (ft hi434 ob85 (ft hi388 ob93 (ft hi342 ob99 (tt hi296 ob136 (fh hi250 ob137))))))))), (tt hi620 ob466 (ft hi573 ob37 (ft hi527 ob38 (ft hi481 ob80 (ft hi435 ob85 (ft hi389 ob93 (ft hi343 ob99 (tt hi297 ob136 (fh hi251 ob137))))))))), (tt hi621 ob466 (ft hi574 ob37 (ft hi528 ob38 (ft hi482 ob80 (ft hi436 ob85 (ft hi390 ob93 (ft hi344 ob99 (tt hi298 ob136 (fh hi252 ob137))))))))), (tt hi622 ob466 (ft hi575 ob37 (ft hi529 ob38 (ft hi483 ob80 (ft hi437 ob85 (ft hi391 ob93 (ft hi345 ob99 (tt hi299 ob136 (fh hi253 ob137))))))))), (tt hi623 ob466 (ft hi576 ob37 (ft hi530 ob38 (ft hi484 ob80 (ft hi438 ob85 (ft hi392 ob93 (ft hi346 ob99 (tt hi300 ob136 (fh hi254 ob137))))))))), (tt hi624 ob466 (ft hi577 ob37 (ft hi531 ob38 (ft hi485 ob80 (ft hi439 ob85 (ft hi393 ob93 (ft hi347 ob99 (tt hi301 ob136 (fh hi255 ob137))))))))), (tt hi625 ob466 (ft hi578 ob37 (ft hi532 ob38 (ft hi486 ob80 (ft hi440 ob85 (ft hi394 ob93 (ft hi348 ob99 (tt hi302 ob136 (fh hi256 ob137))))))))), (tt hi626 ob466 (ft hi579 ob37 (ft hi533 ob38 (ft hi487 ob80 (ft hi441 ob85 (ft hi395 ob93 (ft hi349 ob99 (tt hi303 ob136 (fh hi257 ob137))))))))), (tt hi627 ob466 (ft hi580 ob37 (ft hi534 ob38 (ft hi488 ob80 (ft hi442 ob85 (ft hi396 ob93 (ft hi350 ob99 (tt hi304 ob136 (fh hi258 ob137))))))))), (tt hi628 ob466 (ft hi581 ob37 (ft hi535 ob38 (ft hi489 ob80 (ft hi443 ob85 (ft hi397 ob93 (ft hi351 ob99 (tt hi305 ob136 (fh hi259 ob137))))))))), (tt hi629 ob466 (ft hi582 ob37 (ft hi536 ob38 (ft hi490 ob80 (ft hi444 ob85 (ft hi398 ob93 (ft hi352 ob99 (tt hi306 ob136 (fh hi260 ob137))))))))), (th hi583 ob466)] <;> rfl
    · simp [ob36, ob37, ob38, ob80, ob85, ob93, ob99, ob136, ob137]
    · show [ρ.b 467, ρ.b 468, ρ.b 469, ρ.b 470, ρ.b 471, ρ.b 472, ρ.b 473, ρ.b 474, ρ.b 475, ρ.b 476, ρ.b 477, ρ.b 478, ρ.b 479, ρ.b 480, ρ.b 481, ρ.b 482, ρ.b 483, ρ.b 484, ρ.b 485, ρ.b 486, ρ.b 487, ρ.b 488, ρ.b 489, ρ.b 490, ρ.b 491, ρ.b 492, ρ.b 493, ρ.b 494, ρ.b 495, ρ.b 496, ρ.b 497, ρ.b 498, ρ.b 499, ρ.b 500, ρ.b 501, ρ.b 502] = _
      rw [(tt hb467 ob466 (ft hb430 ob37 (ft hb394 ob38 (ft hb358 ob80 (ft hb322 ob85 (ft hb286 ob93 (ft hb250 ob99 (tt hb214 ob136 (fh hb178 ob137))))))))), (tt hb468 ob466 (ft hb431 ob37 (ft hb395 ob38 (ft hb359 ob80 (ft hb323 ob85 (ft hb287 ob93 (ft hb251 ob99 (tt hb215 ob136 (fh hb179 ob137))))))))), (tt hb469 ob466 (ft hb432 ob37 (ft hb396 ob38 (ft hb360 ob80 (ft hb324 ob85 (ft hb288 ob93 (ft hb252 ob99 (tt hb216 ob136 (fh hb180 ob137))))))))), (tt hb470 ob466 (ft hb433 ob37 (ft hb397 ob38 (ft hb361 ob80 (ft hb325 ob85 (ft hb289 ob93 (ft hb253 ob99 (tt hb217 ob136 (fh hb181 ob137))))))))), (tt hb471 ob466 (ft hb434 ob37 (ft hb398 ob38 (ft hb362 ob80 (ft hb326 ob85 (ft hb290 ob93 (ft hb254 ob99 (tt hb218 ob136 (fh hb182 ob137))))))))), (tt hb472 ob466 (ft hb435 ob37 (ft hb399 ob38 (ft hb363 ob80 (ft hb327 ob85 (ft hb291 ob93 (ft hb255 ob99 (tt hb219 ob136 (fh hb183 ob137))))))))), (tt hb473 ob466 (ft hb436 ob37 (ft hb400 ob38 (ft hb364 ob80 (ft hb328 ob85 (ft hb292 ob93 (ft hb256 ob99 (tt hb220 ob136 (fh hb184 ob137))))))))), (tt hb474 ob466 (ft hb437 ob37 (ft hb401 ob38 (ft hb365 ob80 (ft hb329 ob85 (ft hb293 ob93 (ft hb257 ob99 (tt hb221 ob136 (fh hb185 ob137))))))))), (tt hb475 ob466 (ft hb438 ob37 (ft hb402 ob38 (ft hb366 ob80 (ft hb330 ob85 (ft hb294 ob93 (ft hb258 ob99 (tt hb222 ob136 (fh hb186 ob137))))))))), (tt hb476 ob466 (ft hb439 ob37 (ft hb403 ob38 (ft hb367 ob80 (ft hb331 ob85 (ft hb295 ob93 (ft hb259 ob99 (tt hb223 ob136 (fh hb187 ob137))))))))), (tt hb477 ob466 (ft hb440 ob37 (ft hb404 ob38 (ft hb368 ob80 (ft hb332 ob85 (ft hb296 ob93 (ft hb260 ob99 (tt hb224 ob136 (fh hb188 ob137))))))))), (tt hb478 ob466 (ft hb441 ob37 (ft hb405 ob38 (ft hb369 ob80 (ft hb333 ob85 (ft hb297 ob93 (ft hb261 ob99 (tt hb225 ob136 (fh hb189 ob137))))))))), (tt hb479 ob466 (ft hb442 ob37 (ft hb406 ob38 (ft hb370 ob80 (ft hb334 ob85 (ft hb298 ob93 (ft hb262 ob99 (tt hb226 ob136 (fh hb190 ob137))))))))), (tt hb480 ob466 (ft hb443 ob37 (ft hb407 ob38 (ft hb371 ob80 (ft hb335 ob85 (ft hb299 ob93 (ft hb263 ob99 (tt hb227 ob136 (fh hb191 ob137))))))))), (tt hb481 ob466 (ft hb444 ob37 (ft hb408 ob38 (ft hb372 ob80 (ft hb336 ob85 (ft hb300 ob93 (ft hb264 ob99 (tt hb228 ob136 (fh hb192 ob137))))))))), (tt hb482 ob466 (ft hb445 ob37 (ft hb409 ob38 (ft hb373 ob80 (ft hb337 ob85 (ft hb301 ob93 (ft hb265 ob99 (tt hb229 ob136 (fh hb193 ob137))))))))), (tt hb483 ob466 (ft hb446 ob37 (ft hb410 ob38 (ft hb374 ob80 (ft hb338 ob85 (ft hb302 ob93 (ft hb266 ob99 (tt hb230 ob136 (fh hb194 ob137))))))))), (tt hb484 ob466 (ft hb447 ob37 (ft hb411 ob38 (ft hb375 ob80 (ft hb339 ob85 (ft hb303 ob93 (ft hb267 ob99 (tt hb231 ob136 (fh hb195 ob137))))))))), (tt hb485 ob466 (ft hb448 ob37 (ft hb412 ob38 (ft hb376 ob80 (ft hb340 ob85 (ft hb304 ob93 (ft hb268 ob99 (tt hb232 ob136 (fh hb196 ob137))))))))), (tt hb486 ob466 (ft hb449 ob37 (ft hb413 ob38 (ft hb377 ob80 (ft hb341 ob85 (ft hb305 ob93 (ft hb269 ob99 (tt hb233 ob136 (fh hb197 ob137))))))))), (tt hb487 ob466 (ft hb450 ob37 (ft hb414 ob38 (ft hb378 ob80 (ft hb342 ob85 (ft hb306 ob93 (ft hb270 ob99 (tt hb234 ob136 (fh hb198 ob137))))))))), (tt hb488 ob466 (ft hb451 ob37 (ft hb415 ob38 (ft hb379 ob80 (ft hb343 ob85 (ft hb307 ob93 (ft hb271 ob99 (tt hb235 ob136 (fh hb199 ob137))))))))), (tt hb489 ob466 (ft hb452 ob37 (ft hb416 ob38 (ft hb380 ob80 (ft hb344 ob85 (ft hb308 ob93 (ft hb272 ob99 (tt hb236 ob136 (fh hb200 ob137))))))))), (tt hb490 ob466 (ft hb453 ob37 (ft hb417 ob38 (ft hb381 ob80 (ft hb345 ob85 (ft hb309 ob93 (ft hb273 ob99 (tt hb237 ob136 (fh hb201 ob137))))))))), (tt hb491 ob466 (ft hb454 ob37 (ft hb418 ob38 (ft hb382 ob80 (ft hb346 ob85 (ft hb310 ob93 (ft hb274 ob99 (tt hb238 ob136 (fh hb202 ob137))))))))), (tt hb492 ob466 (ft hb455 ob37 (ft hb419 ob38 (ft hb383 ob80 (ft hb347 ob85 (ft hb311 ob93 (ft hb275 ob99 (tt hb239 ob136 (fh hb203 ob137))))))))), (tt hb493 ob466 (ft hb456 ob37 (ft hb420 ob38 (ft hb384 ob80 (ft hb348 ob85 (ft hb312 ob93 (ft hb276 ob99 (tt hb240 ob136 (fh hb204 ob137))))))))), (tt hb494 ob466 (ft hb457 ob37 (ft hb421 ob38 (ft hb385 ob80 (ft hb349 ob85 (ft hb313 ob93 (ft hb277 ob99 (tt hb241 ob136 (fh hb205 ob137))))))))), (tt hb495 ob466 (ft hb458 ob37 (ft hb422 ob38 (ft hb386 ob80 (ft hb350 ob85 (ft hb314 ob93 (ft hb278 ob99 (tt hb242 ob136 (fh hb206 ob137))))))))), (tt hb496 ob466 (ft hb459 ob37 (ft hb423 ob38 (ft hb387 ob80 (ft hb351 ob85 (ft hb315 ob93 (ft hb279 ob99 (tt hb243 ob136 (fh hb207 ob137))))))))), (tt hb497 ob466 (ft hb460 ob37 (ft hb424 ob38 (ft hb388 ob80 (ft hb352 ob85 (ft hb316 ob93 (ft hb280 ob99 (tt hb244 ob136 (fh hb208 ob137))))))))), (tt hb498 ob466 (ft hb461 ob37 (ft hb425 ob38 (ft hb389 ob80 (ft hb353 ob85 (ft hb317 ob93 (ft hb281 ob99 (tt hb245 ob136 (fh hb209 ob137))))))))), (tt hb499 ob466 (ft hb462 ob37 (ft hb426 ob38 (ft hb390 ob80 (ft hb354 ob85 (ft hb318 ob93 (ft hb282 ob99 (tt hb246 ob136 (ft hb210 ob137 ob137))))))))), (tt hb500 ob466 (ft hb463 ob37 (ft hb427 ob38 (ft hb391 ob80 (ft hb355 ob85 (ft hb319 ob93 (ft hb283 ob99 (tt hb247 ob136 (ft hb211 ob137 ob138))))))))), (tt hb501 ob466 (ft hb464 ob37 (ft hb428 ob38 (ft hb392 ob80 (ft hb356 ob85 (ft hb320 ob93 (ft hb284 ob99 (tt hb248 ob136 (ft hb212 ob137 ob140))))))))), (tt hb502 ob466 (ft hb465 ob37 (ft hb429 ob38 (ft hb393 ob80 (ft hb357 ob85 (ft hb321 ob93 (ft hb285 ob99 (tt hb249 ob136 (fh hb213 ob137)))))))))] <;> rfl
  · intro hr
    have ob36 : ρ.b 36 = false := t36
    have ob466 : ρ.b 466 = true := by rw [hb466, ob36]; rfl
    have ob37 : ρ.b 37 = false := (hb37.trans (rc_big reg hr).1)
    have ob38 : ρ.b 38 = false := (hb38.trans (rc_big reg hr).2.1)
    have ob80 : ρ.b 80 = false := (hb80.trans (rc_big reg hr).2.2.1)
    have ob85 : ρ.b 85 = false := (hb85.trans (rc_big reg hr).2.2.2.1)
    have ob93 : ρ.b 93 = false := (hb93.trans (rc_big reg hr).2.2.2.2.1)
    have ob99 : ρ.b 99 = false := (hb99.trans (rc_big reg hr).2.2.2.2.2.1)
    have ob136 : ρ.b 136 = false := (hb136.trans (rc_big reg hr).2.2.2.2.2.2)
    refine Prod.ext ?_ (List.cons_eq_cons.2 ⟨?_, ?_⟩)
    · show [ρ.i 584, ρ.i 585, ρ.i 586, ρ.i 587, ρ.i 588, ρ.i 589, ρ.i 590, ρ.i 591, ρ.i 592, ρ.i 593, ρ.i 594, ρ.i 595, ρ.i 596, ρ.i 597, ρ.i 598, ρ.i 599, ρ.i 600, ρ.i 601, ρ.i 602, ρ.i 603, ρ.i 604, ρ.i 605, ρ.i 606, ρ.i 607, ρ.i 608, ρ.i 609, ρ.i 610, ρ.i 611, ρ.i 612, ρ.i 613, ρ.i 614, ρ.i 615, ρ.i 616, ρ.i 617, ρ.i 618, ρ.i 619, ρ.i 620, ρ.i 621, ρ.i 622, ρ.i 623, ρ.i 624, ρ.i 625, ρ.i 626, ρ.i 627, ρ.i 628, ρ.i 629, ρ.i 583] = _
      rw [(tt hi584 ob466 (ft hi537 ob37 (ft hi491 ob38 (ft hi445 ob80 (ft hi399 ob85 (ft hi353 ob93 (ft hi307 ob99 (fh hi261 ob136)))))))), (tt hi585 ob466 (ft hi538 ob37 (ft hi492 ob38 (ft hi446 ob80 (ft hi400 ob85 (ft hi354 ob93 (ft hi308 ob99 (fh hi262 ob136)))))))), (tt hi586 ob466 (ft hi539 ob37 (ft hi493 ob38 (ft hi447 ob80 (ft hi401 ob85 (ft hi355 ob93 (ft hi309 ob99 (fh hi263 ob136)))))))), (tt hi587 ob466 (ft hi540 ob37 (ft hi494 ob38 (ft hi448 ob80 (ft hi402 ob85 (ft hi356 ob93 (ft hi310 ob99 (fh hi264 ob136)))))))), (tt hi588 ob466 (ft hi541 ob37 (ft hi495 ob38 (ft hi449 ob80 (ft hi403 ob85 (ft hi357 ob93 (ft hi311 ob99 (fh hi265 ob136)))))))), (tt hi589 ob466 (ft hi542 ob37 (ft hi496 ob38 (ft hi450 ob80 (ft hi404 ob85 (ft hi358 ob93 (ft hi312 ob99 (fh hi266 ob136)))))))), (tt hi590 ob466 (ft hi543 ob37 (ft hi497 ob38 (ft hi451 ob80 (ft hi405 ob85 (ft hi359 ob93 (ft hi313 ob99 (fh hi267 ob136)))))))), (tt hi591 ob466 (ft hi544 ob37 (ft hi498 ob38 (ft hi452 ob80 (ft hi406 ob85 (ft hi360 ob93 (ft hi314 ob99 (fh hi268 ob136)))))))), (tt hi592 ob466 (ft hi545 ob37 (ft hi499 ob38 (ft hi453 ob80 (ft hi407 ob85 (ft hi361 ob93 (ft hi315 ob99 (fh hi269 ob136)))))))), (tt hi593 ob466 (ft hi546 ob37 (ft hi500 ob38 (ft hi454 ob80 (ft hi408 ob85 (ft hi362 ob93 (ft hi316 ob99 (fh hi270 ob136)))))))), (tt hi594 ob466 (ft hi547 ob37 (ft hi501 ob38 (ft hi455 ob80 (ft hi409 ob85 (ft hi363 ob93 (ft hi317 ob99 (fh hi271 ob136)))))))), (tt hi595 ob466 (ft hi548 ob37 (ft hi502 ob38 (ft hi456 ob80 (ft hi410 ob85 (ft hi364 ob93 (ft hi318 ob99 (fh hi272 ob136)))))))), (tt hi596 ob466 (ft hi549 ob37 (ft hi503 ob38 (ft hi457 ob80 (ft hi411 ob85 (ft hi365 ob93 (ft hi319 ob99 (fh hi273 ob136)))))))), (tt hi597 ob466 (ft hi550 ob37 (ft hi504 ob38 (ft hi458 ob80 (ft hi412 ob85 (ft hi366 ob93 (ft hi320 ob99 (fh hi274 ob136)))))))), (tt hi598 ob466 (ft hi551 ob37 (ft hi505 ob38 (ft hi459 ob80 (ft hi413 ob85 (ft hi367 ob93 (ft hi321 ob99 (fh hi275 ob136)))))))), (tt hi599 ob466 (ft hi552 ob37 (ft hi506 ob38 (ft hi460 ob80 (ft hi414 ob85 (ft hi368 ob93 (ft hi322 ob99 (fh hi276 ob136)))))))), (tt hi600 ob466 (ft hi553 ob37 (ft hi507 ob38 (ft hi461 ob80 (ft hi415 ob85 (ft hi369 ob93 (ft hi323 ob99 (fh hi277 ob136)))))))), (tt hi601 ob466 (ft hi554 ob37 (ft hi508 ob38 (ft hi462 ob80 (ft hi416 ob85 (ft hi370 ob93 (ft hi324 ob99 (fh hi278 ob136)))))))), (tt hi602 ob466 (ft hi555 ob37 (ft hi509 ob38 (ft hi463 ob80 (ft hi417 ob85 (ft hi371 ob93 (ft hi325 ob99 (fh hi279 ob136)))))))), (tt hi603 ob466 (ft hi556 ob37 (ft hi510 ob38 (ft hi464 ob80 (ft hi418 ob85 (ft hi372 ob93 (ft hi326 ob99 (fh hi280 ob136)))))))), (tt hi604 ob466 (ft hi557 ob37 (ft hi511 ob38 (ft hi465 ob80 (ft hi419 ob85 (ft hi373 ob93 (ft hi327 ob99 (fh hi281 ob136)))))))), (tt hi605 ob466 (ft hi558 ob37 (ft hi512 ob38 (ft hi466 ob80 (ft hi420 ob85 (ft hi374 ob93 (ft hi328 ob99 (fh hi282 ob136)))))))), (tt hi606 ob466 (ft hi559 ob37 (ft hi513 ob38 (ft hi467 ob80 (ft hi421 ob85 (ft hi375 ob93 (ft hi329 ob99 (fh hi283 ob136)))))))), (tt hi607 ob466 (ft hi560 ob37 (ft hi514 ob38 (ft hi468 ob80 (ft hi422 ob85 (ft hi376 ob93 (ft hi330 ob99 (fh hi284 ob136)))))))), (tt hi608 ob466 (ft hi561 ob37 (ft hi515 ob38 (ft hi469 ob80 (ft hi423 ob85 (ft hi377 ob93 (ft hi331 ob99 (fh hi285 ob136)))))))), (tt hi609 ob466 (ft hi562 ob37 (ft hi516 ob38 (ft hi470 ob80 (ft hi424 ob85 (ft hi378 ob93 (ft hi332 ob99 (fh hi286 ob136)))))))), (tt hi610 ob466 (ft hi563 ob37 (ft hi517 ob38 (ft hi471 ob80 (ft hi425 ob85 (ft hi379 ob93 (ft hi333 ob99 (fh hi287 ob136)))))))), (tt hi611 ob466 (ft hi564 ob37 (ft hi518 ob38 (ft hi472 ob80 (ft hi426 ob85 (ft hi380 ob93 (ft hi334 ob99 (fh hi288 ob136)))))))), (tt hi612 ob466 (ft hi565 ob37 (ft hi519 ob38 (ft hi473 ob80 (ft hi427 ob85 (ft hi381 ob93 (ft hi335 ob99 (fh hi289 ob136)))))))), (tt hi613 ob466 (ft hi566 ob37 (ft hi520 ob38 (ft hi474 ob80 (ft hi428 ob85 (ft hi382 ob93 (ft hi336 ob99 (fh hi290 ob136)))))))), (tt hi614 ob466 (ft hi567 ob37 (ft hi521 ob38 (ft hi475 ob80 (ft hi429 ob85 (ft hi383 ob93 (ft hi337 ob99 (fh hi291 ob136)))))))), (tt hi615 ob466 (ft hi568 ob37 (ft hi522 ob38 (ft hi476 ob80 (ft hi430 ob85 (ft hi384 ob93 (ft hi338 ob99 (fh hi292 ob136)))))))), (tt hi616 ob466 (ft hi569 ob37 (ft hi523 ob38 (ft hi477 ob80 (ft hi431 ob85 (ft hi385 ob93 (ft hi339 ob99 (fh hi293 ob136)))))))), (tt hi617 ob466 (ft hi570 ob37 (ft hi524 ob38 (ft hi478 ob80 (ft hi432 ob85 (ft hi386 ob93 (ft hi340 ob99 (fh hi294 ob136)))))))), (tt hi618 ob466 (ft hi571 ob37 (ft hi525 ob38 (ft hi479 ob80 (ft hi433 ob85 (ft hi387 ob93 (ft hi341 ob99 (fh hi295 ob136)))))))), (tt hi619 ob466 (ft hi572 ob37 (ft hi526 ob38 (ft hi480 ob80 (ft hi434 ob85 (ft hi388 ob93 (ft hi342 ob99 (fh hi296 ob136)))))))), (tt hi620 ob466 (ft hi573 ob37 (ft hi527 ob38 (ft hi481 ob80 (ft hi435 ob85 (ft hi389 ob93 (ft hi343 ob99 (fh hi297 ob136)))))))), (tt hi621 ob466 (ft hi574 ob37 (ft hi528 ob38 (ft hi482 ob80 (ft hi436 ob85 (ft hi390 ob93 (ft hi344 ob99 (fh hi298 ob136)))))))), (tt hi622 ob466 (ft hi575 ob37 (ft hi529 ob38 (ft hi483 ob80 (ft hi437 ob85 (ft hi391 ob93 (ft hi345 ob99 (fh hi299 ob136)))))))), (tt hi623 ob466 (ft hi576 ob37 (ft hi530 ob38 (ft hi484 ob80 (ft hi438 ob85 (ft hi392 ob93 (ft hi346 ob99 (fh hi300 ob136)))))))), (tt hi624 ob466 (ft hi577 ob37 (ft hi531 ob38 (ft hi485 ob80 (ft hi439 ob85 (ft hi393 ob93 (ft hi347 ob99 (fh hi301 ob136)))))))), (tt hi625 ob466 (ft hi578 ob37 (ft hi532 ob38 (ft hi486 ob80 (ft hi440 ob85 (ft hi394 ob93 (ft hi348 ob99 (fh hi302 ob136)))))))), (tt hi626 ob466 (ft hi579 ob37 (ft hi533 ob38 (ft hi487 ob80 (ft hi441 ob85 (ft hi395 ob93 (ft hi349 ob99 (fh hi303 ob136)))))))), (tt hi627 ob466 (ft hi580 ob37 (ft hi534 ob38 (ft hi488 ob80 (ft hi442 ob85 (ft hi396 ob93 (ft hi350 ob99 (fh hi304 ob136)))))))), (tt hi628 ob466 (ft hi581 ob37 (ft hi535 ob38 (ft hi489 ob80 (ft hi443 ob85 (ft hi397 ob93 (ft hi351 ob99 (fh hi305 ob136)))))))), (tt hi629 ob466 (ft hi582 ob37 (ft hi536 ob38 (ft hi490 ob80 (ft hi444 ob85 (ft hi398 ob93 (ft hi352 ob99 (fh hi306 ob136)))))))), (th hi583 ob466)] <;> rfl
    · simp [ob36, ob37, ob38, ob80, ob85, ob93, ob99, ob136]
    · show [ρ.b 467, ρ.b 468, ρ.b 469, ρ.b 470, ρ.b 471, ρ.b 472, ρ.b 473, ρ.b 474, ρ.b 475, ρ.b 476, ρ.b 477, ρ.b 478, ρ.b 479, ρ.b 480, ρ.b 481, ρ.b 482, ρ.b 483, ρ.b 484, ρ.b 485, ρ.b 486, ρ.b 487, ρ.b 488, ρ.b 489, ρ.b 490, ρ.b 491, ρ.b 492, ρ.b 493, ρ.b 494, ρ.b 495, ρ.b 496, ρ.b 497, ρ.b 498, ρ.b 499, ρ.b 500, ρ.b 501, ρ.b 502] = _
      rw [(tt hb467 ob466 (ft hb430 ob37 (ft hb394 ob38 (ft hb358 ob80 (ft hb322 ob85 (ft hb286 ob93 (ft hb250 ob99 (fh hb214 ob136)))))))), (tt hb468 ob466 (ft hb431 ob37 (ft hb395 ob38 (ft hb359 ob80 (ft hb323 ob85 (ft hb287 ob93 (ft hb251 ob99 (fh hb215 ob136)))))))), (tt hb469 ob466 (ft hb432 ob37 (ft hb396 ob38 (ft hb360 ob80 (ft hb324 ob85 (ft hb288 ob93 (ft hb252 ob99 (fh hb216 ob136)))))))), (tt hb470 ob466 (ft hb433 ob37 (ft hb397 ob38 (ft hb361 ob80 (ft hb325 ob85 (ft hb289 ob93 (ft hb253 ob99 (fh hb217 ob136)))))))), (tt hb471 ob466 (ft hb434 ob37 (ft hb398 ob38 (ft hb362 ob80 (ft hb326 ob85 (ft hb290 ob93 (ft hb254 ob99 (fh hb218 ob136)))))))), (tt hb472 ob466 (ft hb435 ob37 (ft hb399 ob38 (ft hb363 ob80 (ft hb327 ob85 (ft hb291 ob93 (ft hb255 ob99 (fh hb219 ob136)))))))), (tt hb473 ob466 (ft hb436 ob37 (ft hb400 ob38 (ft hb364 ob80 (ft hb328 ob85 (ft hb292 ob93 (ft hb256 ob99 (fh hb220 ob136)))))))), (tt hb474 ob466 (ft hb437 ob37 (ft hb401 ob38 (ft hb365 ob80 (ft hb329 ob85 (ft hb293 ob93 (ft hb257 ob99 (fh hb221 ob136)))))))), (tt hb475 ob466 (ft hb438 ob37 (ft hb402 ob38 (ft hb366 ob80 (ft hb330 ob85 (ft hb294 ob93 (ft hb258 ob99 (fh hb222 ob136)))))))), (tt hb476 ob466 (ft hb439 ob37 (ft hb403 ob38 (ft hb367 ob80 (ft hb331 ob85 (ft hb295 ob93 (ft hb259 ob99 (fh hb223 ob136)))))))), (tt hb477 ob466 (ft hb440 ob37 (ft hb404 ob38 (ft hb368 ob80 (ft hb332 ob85 (ft hb296 ob93 (ft hb260 ob99 (fh hb224 ob136)))))))), (tt hb478 ob466 (ft hb441 ob37 (ft hb405 ob38 (ft hb369 ob80 (ft hb333 ob85 (ft hb297 ob93 (ft hb261 ob99 (fh hb225 ob136)))))))), (tt hb479 ob466 (ft hb442 ob37 (ft hb406 ob38 (ft hb370 ob80 (ft hb334 ob85 (ft hb298 ob93 (ft hb262 ob99 (fh hb226 ob136)))))))), (tt hb480 ob466 (ft hb443 ob37 (ft hb407 ob38 (ft hb371 ob80 (ft hb335 ob85 (ft hb299 ob93 (ft hb263 ob99 (fh hb227 ob136)))))))), (tt hb481 ob466 (ft hb444 ob37 (ft hb408 ob38 (ft hb372 ob80 (ft hb336 ob85 (ft hb300 ob93 (ft hb264 ob99 (fh hb228 ob136)))))))), (tt hb482 ob466 (ft hb445 ob37 (ft hb409 ob38 (ft hb373 ob80 (ft hb337 ob85 (ft hb301 ob93 (ft hb265 ob99 (fh hb229 ob136)))))))), (tt hb483 ob466 (ft hb446 ob37 (ft hb410 ob38 (ft hb374 ob80 (ft hb338 ob85 (ft hb302 ob93 (ft hb266 ob99 (fh hb230 ob136)))))))), (tt hb484 ob466 (ft hb447 ob37 (ft hb411 ob38 (ft hb375 ob80 (ft hb339 ob85 (ft hb303 ob93 (ft hb267 ob99 (fh hb231 ob136)))))))), (tt hb485 ob466 (ft hb448 ob37 (ft hb412 ob38 (ft hb376 ob80 (ft hb340 ob85 (ft hb304 ob93 (ft hb268 ob99 (fh hb232 ob136)))))))), (tt hb486 ob466 (ft hb449 ob37 (ft hb413 ob38 (ft hb377 ob80 (ft hb341 ob85 (ft hb305 ob93 (ft hb269 ob99 (fh hb233 ob136)))))))), (tt hb487 ob466 (ft hb450 ob37 (ft hb414 ob38 (ft hb378 ob80 (ft hb342 ob85 (ft hb306 ob93 (ft hb270 ob99 (fh hb234 ob136)))))))), (tt hb488 ob466 (ft hb451 ob37 (ft hb415 ob38 (ft hb379 ob80 (ft hb343 ob85 (ft hb307 ob93 (ft hb271 ob99 (fh hb235 ob136)))))))), (tt hb489 ob466 (ft hb452 ob37 (ft hb416 ob38 (ft hb380 ob80 (ft hb344 ob85 (ft hb308 ob93 (ft hb272 ob99 (fh hb236 ob136)))))))), (tt hb490 ob466 (ft hb453 ob37 (ft hb417 ob38 (ft hb381 ob80 (ft hb345 ob85 (ft hb309 ob93 (ft hb273 ob99 (fh hb237 ob136)))))))), (tt hb491 ob466 (ft hb454 ob37 (ft hb418 ob38 (ft hb382 ob80 (ft hb346 ob85 (ft hb310 ob93 (ft hb274 ob99 (fh hb238 ob136)))))))), (tt hb492 ob466 (ft hb455 ob37 (ft hb419 ob38 (ft hb383 ob80 (ft hb347 ob85 (ft hb311 ob93 (ft hb275 ob99 (fh hb239 ob136)))))))), (tt hb493 ob466 (ft hb456 ob37 (ft hb420 ob38 (ft hb384 ob80 (ft hb348 ob85 (ft hb312 ob93 (ft hb276 ob99 (fh hb240 ob136)))))))), (tt hb494 ob466 (ft hb457 ob37 (ft hb421 ob38 (ft hb385 ob80 (ft hb349 ob85 (ft hb313 ob93 (ft hb277 ob99 (fh hb241 ob136)))))))), (tt hb495 ob466 (ft hb458 ob37 (ft hb422 ob38 (ft hb386 ob80 (ft hb350 ob85 (ft hb314 ob93 (ft hb278 ob99 (fh hb242 ob136)))))))), (tt hb496 ob466 (ft hb459 ob37 (ft hb423 ob38 (ft hb387 ob80 (ft hb351 ob85 (ft hb315 ob93 (ft hb279 ob99 (fh hb243 ob136)))))))), (tt hb497 ob466 (ft hb460 ob37 (ft hb424 ob38 (ft hb388 ob80 (ft hb352 ob85 (ft hb316 ob93 (ft hb280 ob99 (fh hb244 ob136)))))))), (tt hb498 ob466 (ft hb461 ob37 (ft hb425 ob38 (ft hb389 ob80 (ft hb353 ob85 (ft hb317 ob93 (ft hb281 ob99 (fh hb245 ob136)))))))), (tt hb499 ob466 (ft hb462 ob37 (ft hb426 ob38 (ft hb390 ob80 (ft hb354 ob85 (ft hb318 ob93 (ft hb282 ob99 (fh hb246 ob136)))))))), (tt hb500 ob466 (ft hb463 ob37 (ft hb427 ob38 (ft hb391 ob80 (ft hb355 ob85 (ft hb319 ob93 (ft hb283 ob99 (fh hb247 ob136)))))))), (tt hb501 ob466 (ft hb464 ob37 (ft hb428 ob38 (ft hb392 ob80 (ft hb356 ob85 (ft hb320 ob93 (ft hb284 ob99 (fh hb248 ob136)))))))), (tt hb502 ob466 (ft hb465 ob37 (ft hb429 ob38 (ft hb393 ob80 (ft hb357 ob85 (ft hb321 ob93 (ft hb285 ob99 (fh hb249 ob136))))))))] <;> rfl
end Go.Proofs.YtdpogmikhfgcmaaDoor.Ap
