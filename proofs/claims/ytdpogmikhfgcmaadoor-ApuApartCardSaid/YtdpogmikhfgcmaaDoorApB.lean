/-
  ApuApart: the law. WRITTEN BY PROGRAM (wip/gen/ap6.py). No condition.
-/
import Derived.Test.YtdpogmikhfgcmaaDoorApU
set_option linter.unusedVariables false
set_option linter.unusedSimpArgs false
namespace Go.Proofs.YtdpogmikhfgcmaaDoor.Ap
open Go Go.Proofs.YtdpogmikhfgcmaaDoor.Sx

theorem on_pos {p : Prop} [Decidable p] {n : Int} (h : 0 < (if decide p = true then n else 0)) : p := by
  by_cases hp : p
  · exact hp
  · simp [hp] at h
theorem an {a b c : Bool} (h : c = (a && b)) (ha : a = true) (hb : b = true) : c = true := by rw [h, ha, hb]; rfl
theorem nez {c : Bool} {a : Int} (h : c = (a != 0)) (ha : a = 0) : c = false := by rw [h, ha]; rfl
theorem fin4 {o r : Bool} (hr : r = true) (ho : o = true) : (([], [o, r]) : List Int × List Bool) = ([], [true, true]) := by rw [hr, ho]
theorem eqs {α : Type} [BEq α] [LawfulBEq α] {a b z : α} {c : Bool} (h : c = (a == b)) (ha : a = z) (hb : b = z) : c = true := by rw [h, ha, hb]; exact beq_self_eq_true _
/-- Channels turned on and off: who is off is silent. -/
theorem offs (i0 i1 i2 i3 i4 i5 i6 i7 i8 i9 i10 i11 i12 i13 i14 i15 i16 i17 i18 i19 i20 i21 i22 i23 i24 i25 i26 i27 i28 i29 i30 i31 i32 i33 i34 i35 i36 i37 i38 i39 i40 i41 i42 i43 i44 i45 v : Int) (b0 b1 b2 b3 b4 b5 b6 b7 b8 b9 b10 b11 b12 b13 b14 b15 b16 b17 b18 b19 b20 b21 b22 b23 b24 b25 b26 b27 b28 b29 b30 b31 b32 b33 b34 b35 : Bool) (hA : Ak i0 i1 i2 i3 i4 i5 i6 i7 i8 i9 i10 i11 i12 i13 i14 i15 i16 i17 i18 i19 i20 i21 i22 i23 i24 i25 i26 i27 i28 i29 i30 i31 i32 i33 i34 i35 i36 i37 i38 i39 i40 i41 i42 i43 i44 i45 b32) (hv : 0 ≤ v ∧ v ≤ 255) :
    ∃ (d0 d1 d2 d3 d4 d5 d6 d7 d8 d9 d10 d11 d12 d13 d14 d15 d16 d17 d18 d19 d20 d21 d22 d23 d24 d25 d26 d27 d28 d29 d30 d31 d32 d33 d34 d35 d36 d37 d38 d39 d40 d41 d42 d43 d44 d45 : Int) (y0 y1 y2 y3 y4 y5 y6 y7 y8 y9 y10 y11 y12 y13 y14 y15 y16 y17 y18 y19 y20 y21 y22 y23 y24 y25 y26 y27 y28 y29 y30 y31 y32 y33 y34 y35 : Bool), F8 [i0, i1, i2, i3, i4, i5, i6, i7, i8, i9, i10, i11, i12, i13, i14, i15, i16, i17, i18, i19, i20, i21, i22, i23, i24, i25, i26, i27, i28, i29, i30, i31, i32, i33, i34, i35, i36, i37, i38, i39, i40, i41, i42, i43, i44, i45, 21, v] [b0, b1, b2, b3, b4, b5, b6, b7, b8, b9, b10, b11, b12, b13, b14, b15, b16, b17, b18, b19, b20, b21, b22, b23, b24, b25, b26, b27, b28, b29, b30, b31, b32, b33, b34, b35] = ([d0, d1, d2, d3, d4, d5, d6, d7, d8, d9, d10, d11, d12, d13, d14, d15, d16, d17, d18, d19, d20, d21, d22, d23, d24, d25, d26, d27, d28, d29, d30, d31, d32, d33, d34, d35, d36, d37, d38, d39, d40, d41, d42, d43, d44, d45, 0], [true, y0, y1, y2, y3, y4, y5, y6, y7, y8, y9, y10, y11, y12, y13, y14, y15, y16, y17, y18, y19, y20, y21, y22, y23, y24, y25, y26, y27, y28, y29, y30, y31, y32, y33, y34, y35]) ∧ Ak d0 d1 d2 d3 d4 d5 d6 d7 d8 d9 d10 d11 d12 d13 d14 d15 d16 d17 d18 d19 d20 d21 d22 d23 d24 d25 d26 d27 d28 d29 d30 d31 d32 d33 d34 d35 d36 d37 d38 d39 d40 d41 d42 d43 d44 d45 y32 ∧ y29 = false ∧
      (0 < d3 → v / 1 % 2 = 1) ∧ (0 < d14 → v / 2 % 2 = 1) ∧ (0 < d22 → v / 4 % 2 = 1) ∧ (0 < d31 → v / 8 % 2 = 1) ∧ (0 < d40 → v / 16 % 2 = 1) ∧
      (y5 = decide (v / 1 % 2 = 1)) ∧ (y14 = decide (v / 2 % 2 = 1)) ∧ (y19 = decide (v / 4 % 2 = 1)) ∧ (y25 = decide (v / 8 % 2 = 1)) := by
  obtain ⟨wneg, wone, wtwo, wtri, wnoi, wdmc, w20, won, w22, wf, wh, wbig⟩ := w8 i0 i1 i2 i3 i4 i5 i6 i7 i8 i9 i10 i11 i12 i13 i14 i15 i16 i17 i18 i19 i20 i21 i22 i23 i24 i25 i26 i27 i28 i29 i30 i31 i32 i33 i34 i35 i36 i37 i38 i39 i40 i41 i42 i43 i44 i45 21 v b0 b1 b2 b3 b4 b5 b6 b7 b8 b9 b10 b11 b12 b13 b14 b15 b16 b17 b18 b19 b20 b21 b22 b23 b24 b25 b26 b27 b28 b29 b30 b31 b32 b33 b34 b35 hA hv
  refine ⟨_, _, _, _, _, _, _, _, _, _, _, _, _, _, _, _, _, _, _, _, _, _, _, _, _, _, _, _, _, _, _, _, _, _, _, _, _, _, _, _, _, _, _, _, _, _, _, _, _, _, _, _, _, _, _, _, _, _, _, _, _, _, _, _, _, _, _, _, _, _, _, _, _, _, _, _, _, _, _, _, _, _, won _ _ _ _ _ _ _ _ _ _ _ _ _ _ _ _ _ _ _ _ _ _ _ _ _ _ _ _ _ _ _ _ _ _ _ _ _ _ _ _ _ _ _ _ _ _ _ _ _ _ _ _ _ _ _ _ _ _ _ _ _ _ _ _ _ _ _ _ _ _ _ _ _ _ _ _ _ _ _ _ _ _ rfl (q22 _ _ _ _ _ _ _ _ _ _ _ _ _ _ _ _ _ _ _ _ _ _ _ _ _ _ _ _ _ _ _ _ _ _ _ _ _ _ _ _ _ _ _ _ _ _ v _ _ _ _ _ _ _ _ _ _ _ _ _ _ _ _ _ _ _ _ _ _ _ _ _ _ _ _ _ _ _ _ _ _ _ _ hA.2.2.2.2.1.may hv), kp22 _ _ _ _ _ _ _ _ _ _ _ _ _ _ _ _ _ _ _ _ _ _ _ _ _ _ _ _ _ _ _ _ _ _ _ _ _ _ _ _ _ _ _ _ _ _ v b0 b1 b2 b3 b4 b5 b6 b7 b8 b9 b10 b11 b12 b13 b14 b15 b16 b17 b18 b19 b20 b21 b22 b23 b24 b25 b26 b27 b28 b29 b30 b31 b32 b33 b34 b35 hA hv, rfl, ?_, ?_, ?_, ?_, ?_, rfl, rfl, rfl, rfl⟩
  all_goals (clear wneg wone wtwo wtri wnoi wdmc w20 won w22 wf wh wbig hA; intro h; exact on_pos h)
theorem an_all : ∀ (a0 a1 a2 a3 a4 p0 p1 p2 p3 p4 q r : Bool) (w : Fin 8), arI .and .u8 (arI .andNot .u8 ((if p0 && a0 then 1 else 0) + (if p1 && a1 then 2 else 0) + (if p2 && a2 then 4 else 0) + (if p3 && a3 then 8 else 0) + (if p4 && a4 then 16 else 0) + (if q then 64 else 0) + (if r then 128 else 0)) ((if a0 then 1 else 0) + (if a1 then 2 else 0) + (if a2 then 4 else 0) + (if a3 then 8 else 0) + (if a4 then 16 else 0) + 32 * ((w.val : Nat) : Int))) 31 = 0 := by decide +kernel
theorem pb {p q : Prop} [Decidable p] [Decidable q] {n : Int} (h : p → q) : (if p then n else 0) = (if (decide p && decide q) = true then n else 0) := by
  by_cases hp : p
  · simp [hp, h hp]
  · simp [hp]
theorem vsum (v : Int) (hv : 0 ≤ v ∧ v ≤ 255) : v = (if decide (v / 1 % 2 = 1) = true then 1 else 0) + (if decide (v / 2 % 2 = 1) = true then 2 else 0) + (if decide (v / 4 % 2 = 1) = true then 4 else 0) + (if decide (v / 8 % 2 = 1) = true then 8 else 0) + (if decide (v / 16 % 2 = 1) = true then 16 else 0) + 32 * (v / 32) := by
  simp only [decide_eq_true_eq]
  omega
theorem andn (v : Int) (hv : 0 ≤ v ∧ v ≤ 255) (d3 d14 d22 d31 d40 : Int) (q r : Bool) (h0 : 0 < d3 → v / 1 % 2 = 1) (h1 : 0 < d14 → v / 2 % 2 = 1) (h2 : 0 < d22 → v / 4 % 2 = 1) (h3 : 0 < d31 → v / 8 % 2 = 1) (h4 : 0 < d40 → v / 16 % 2 = 1) :
    arI .andNot .u8 ((if 0 < d3 then 1 else 0) + (if 0 < d14 then 2 else 0) + (if 0 < d22 then 4 else 0) + (if 0 < d31 then 8 else 0) + (if 0 < d40 then 16 else 0) + (if q then 64 else 0) + (if r then 128 else 0)) v % 256 % 32 = 0 := by
  have k := an_all (decide (v / 1 % 2 = 1)) (decide (v / 2 % 2 = 1)) (decide (v / 4 % 2 = 1)) (decide (v / 8 % 2 = 1)) (decide (v / 16 % 2 = 1)) (decide (0 < d3)) (decide (0 < d14)) (decide (0 < d22)) (decide (0 < d31)) (decide (0 < d40)) q r ⟨(v / 32).toNat, by omega⟩
  rw [show (((v / 32).toNat : Nat) : Int) = v / 32 by omega, ← vsum v hv, ← pb h0, ← pb h1, ← pb h2, ← pb h3, ← pb h4, and8_31] at k
  exact k
theorem cl10 {r : Int} (h : 0 ≤ r ∧ r ≤ 31) : (0 ≤ r ∧ r ≤ 3) ∨ (4 ≤ r ∧ r ≤ 7) ∨ (8 ≤ r ∧ r ≤ 11) ∨ (12 ≤ r ∧ r ≤ 15) ∨ (16 ≤ r ∧ r ≤ 19) ∨ r = 20 ∨ r = 21 ∨ r = 22 ∨ r = 23 ∨ 24 ≤ r := by omega
theorem rg_one {r : Int} (h : 0 ≤ r ∧ r ≤ 3) : ¬ (20 ≤ r) ∧ (r == 21) = false ∧ (r == 23) = false ∧ r / 4 = 0 := ⟨by omega, by simp only [beq_eq_false_iff_ne]; omega, by simp only [beq_eq_false_iff_ne]; omega, by omega⟩
theorem rg_two {r : Int} (h : 4 ≤ r ∧ r ≤ 7) : ¬ (20 ≤ r) ∧ (r == 21) = false ∧ (r == 23) = false ∧ r / 4 = 1 := ⟨by omega, by simp only [beq_eq_false_iff_ne]; omega, by simp only [beq_eq_false_iff_ne]; omega, by omega⟩
theorem rg_tri {r : Int} (h : 8 ≤ r ∧ r ≤ 11) : ¬ (20 ≤ r) ∧ (r == 21) = false ∧ (r == 23) = false ∧ r / 4 = 2 := ⟨by omega, by simp only [beq_eq_false_iff_ne]; omega, by simp only [beq_eq_false_iff_ne]; omega, by omega⟩
theorem rg_noi {r : Int} (h : 12 ≤ r ∧ r ≤ 15) : ¬ (20 ≤ r) ∧ (r == 21) = false ∧ (r == 23) = false ∧ r / 4 = 3 := ⟨by omega, by simp only [beq_eq_false_iff_ne]; omega, by simp only [beq_eq_false_iff_ne]; omega, by omega⟩
theorem rg_dmc {r : Int} (h : 16 ≤ r ∧ r ≤ 19) : ¬ (20 ≤ r) ∧ (r == 21) = false ∧ (r == 23) = false ∧ r / 4 = 4 := ⟨by omega, by simp only [beq_eq_false_iff_ne]; omega, by simp only [beq_eq_false_iff_ne]; omega, by omega⟩
theorem rg_n20 {r : Int} (h : r = 20) : 20 ≤ r ∧ (r == 21) = false ∧ (r == 23) = false ∧ True := ⟨by omega, by simp only [beq_eq_false_iff_ne]; omega, by simp only [beq_eq_false_iff_ne]; omega, by trivial⟩
theorem rg_on {r : Int} (h : r = 21) : 20 ≤ r ∧ (r == 21) = true ∧ (r == 23) = false ∧ True := ⟨by omega, by simp only [beq_iff_eq]; omega, by simp only [beq_eq_false_iff_ne]; omega, by trivial⟩
theorem rg_n22 {r : Int} (h : r = 22) : 20 ≤ r ∧ (r == 21) = false ∧ (r == 23) = false ∧ True := ⟨by omega, by simp only [beq_eq_false_iff_ne]; omega, by simp only [beq_eq_false_iff_ne]; omega, by trivial⟩
theorem rg_f23 {r : Int} (h : r = 23) : 20 ≤ r ∧ (r == 21) = false ∧ (r == 23) = true ∧ True := ⟨by omega, by simp only [beq_eq_false_iff_ne]; omega, by simp only [beq_iff_eq]; omega, by trivial⟩
theorem rg_big {r : Int} (h : 24 ≤ r) : 20 ≤ r ∧ (r == 21) = false ∧ (r == 23) = false ∧ True := ⟨by omega, by simp only [beq_eq_false_iff_ne]; omega, by simp only [beq_eq_false_iff_ne]; omega, by trivial⟩
theorem r51 (reg a b c : Int) (h1 : a = arI .rem .i64 reg 32) (h2 : b = IntKind.wrap .i64 (a + 32)) (h3 : c = arI .rem .i64 b 32) : 0 ≤ c ∧ c ≤ 31 := by
  rw [rem_eq] at h1 h3
  have ha : -32 < a ∧ a < 32 := by rw [h1]; split <;> omega
  rw [wrap_i64_in (by omega) (by omega)] at h2
  rw [h3]
  split <;> omega
set_option maxRecDepth 20000 in
set_option maxHeartbeats 4000000 in
theorem core (i0 i1 i2 i3 i4 i5 i6 i7 i8 i9 i10 i11 i12 i13 i14 i15 i16 i17 i18 i19 i20 i21 i22 i23 i24 i25 i26 i27 i28 i29 i30 i31 i32 i33 i34 i35 i36 i37 i38 i39 i40 i41 i42 i43 i44 i45 reg v r : Int) (b0 b1 b2 b3 b4 b5 b6 b7 b8 b9 b10 b11 b12 b13 b14 b15 b16 b17 b18 b19 b20 b21 b22 b23 b24 b25 b26 b27 b28 b29 b30 b31 b32 b33 b34 b35 : Bool) (hrr : (arI .rem .i64 (IntKind.wrap .i64 (arI .rem .i64 reg 32 + 32)) 32) = r) :
  (F11 [i0, i1, i2, i3, i4, i5, i6, i7, i8, i9, i10, i11, i12, i13, i14, i15, i16, i17, i18, i19, i20, i21, i22, i23, i24, i25, i26, i27, i28, i29, i30, i31, i32, i33, i34, i35, i36, i37, i38, i39, i40, i41, i42, i43, i44, i45] [b0, b1, b2, b3, b4, b5, b6, b7, b8, b9, b10, b11, b12, b13, b14, b15, b16, b17, b18, b19, b20, b21, b22, b23, b24, b25, b26, b27, b28, b29, b30, b31, b32, b33, b34, b35] = ([1], []) → F4 [i0, i1, i2, i3, i4, i5, i6, i7, i8, i9, i10, i11, i12, i13, i14, i15, i16, i17, i18, i19, i20, i21, i22, i23, i24, i25, i26, i27, i28, i29, i30, i31, i32, i33, i34, i35, i36, i37, i38, i39, i40, i41, i42, i43, i44, i45, reg, v] [b0, b1, b2, b3, b4, b5, b6, b7, b8, b9, b10, b11, b12, b13, b14, b15, b16, b17, b18, b19, b20, b21, b22, b23, b24, b25, b26, b27, b28, b29, b30, b31, b32, b33, b34, b35] = ([], [true, true])) ∧ ∀ (d0 d1 d2 d3 d4 d5 d6 d7 d8 d9 d10 d11 d12 d13 d14 d15 d16 d17 d18 d19 d20 d21 d22 d23 d24 d25 d26 d27 d28 d29 d30 d31 d32 d33 d34 d35 d36 d37 d38 d39 d40 d41 d42 d43 d44 d45 : Int) (y0 y1 y2 y3 y4 y5 y6 y7 y8 y9 y10 y11 y12 y13 y14 y15 y16 y17 y18 y19 y20 y21 y22 y23 y24 y25 y26 y27 y28 y30 y31 y32 y33 y34 y35 : Bool)
    (hOff : F8 [i0, i1, i2, i3, i4, i5, i6, i7, i8, i9, i10, i11, i12, i13, i14, i15, i16, i17, i18, i19, i20, i21, i22, i23, i24, i25, i26, i27, i28, i29, i30, i31, i32, i33, i34, i35, i36, i37, i38, i39, i40, i41, i42, i43, i44, i45, 21, v] [b0, b1, b2, b3, b4, b5, b6, b7, b8, b9, b10, b11, b12, b13, b14, b15, b16, b17, b18, b19, b20, b21, b22, b23, b24, b25, b26, b27, b28, b29, b30, b31, b32, b33, b34, b35] = ([d0, d1, d2, d3, d4, d5, d6, d7, d8, d9, d10, d11, d12, d13, d14, d15, d16, d17, d18, d19, d20, d21, d22, d23, d24, d25, d26, d27, d28, d29, d30, d31, d32, d33, d34, d35, d36, d37, d38, d39, d40, d41, d42, d43, d44, d45, 0], [true, y0, y1, y2, y3, y4, y5, y6, y7, y8, y9, y10, y11, y12, y13, y14, y15, y16, y17, y18, y19, y20, y21, y22, y23, y24, y25, y26, y27, y28, false, y30, y31, y32, y33, y34, y35])) (hSt : F12 [d0, d1, d2, d3, d4, d5, d6, d7, d8, d9, d10, d11, d12, d13, d14, d15, d16, d17, d18, d19, d20, d21, d22, d23, d24, d25, d26, d27, d28, d29, d30, d31, d32, d33, d34, d35, d36, d37, d38, d39, d40, d41, d42, d43, d44, d45] [y0, y1, y2, y3, y4, y5, y6, y7, y8, y9, y10, y11, y12, y13, y14, y15, y16, y17, y18, y19, y20, y21, y22, y23, y24, y25, y26, y27, y28, false, y30, y31, y32, y33, y34, y35] = ([d0, d1, d2, d3, d4, d5, d6, d7, d8, d9, d10, d11, d12, d13, d14, d15, d16, d17, d18, d19, d20, d21, d22, d23, d24, d25, d26, d27, d28, d29, d30, d31, d32, d33, d34, d35, d36, d37, d38, d39, d40, d41, d42, d43, d44, d45, ((if 0 < d3 then 1 else 0) + (if 0 < d14 then 2 else 0) + (if 0 < d22 then 4 else 0) + (if 0 < d31 then 8 else 0) + (if 0 < d40 then 16 else 0) + (if y34 then 64 else 0) + (if false then 128 else 0)), 0], [y0, y1, y2, y3, y4, y5, y6, y7, y8, y9, y10, y11, y12, y13, y14, y15, y16, y17, y18, y19, y20, y21, y22, y23, y24, y25, y26, y27, y28, false, y30, y31, y32, y33, false, y35]))
    (hAn : arI .andNot .u8 ((if 0 < d3 then 1 else 0) + (if 0 < d14 then 2 else 0) + (if 0 < d22 then 4 else 0) + (if 0 < d31 then 8 else 0) + (if 0 < d40 then 16 else 0) + (if y34 then 64 else 0) + (if false then 128 else 0)) v % 256 % 32 = 0),
  (∀ (c0 c1 c2 c3 c4 c5 c6 c7 c8 c9 c10 : Int) (x0 x1 x2 x3 x4 x5 x6 x7 x8 : Bool), F11 [i0, i1, i2, i3, i4, i5, i6, i7, i8, i9, i10, i11, i12, i13, i14, i15, i16, i17, i18, i19, i20, i21, i22, i23, i24, i25, i26, i27, i28, i29, i30, i31, i32, i33, i34, i35, i36, i37, i38, i39, i40, i41, i42, i43, i44, i45] [b0, b1, b2, b3, b4, b5, b6, b7, b8, b9, b10, b11, b12, b13, b14, b15, b16, b17, b18, b19, b20, b21, b22, b23, b24, b25, b26, b27, b28, b29, b30, b31, b32, b33, b34, b35] = ([0], []) → 0 ≤ r ∧ r ≤ 3 → F8 [i0, i1, i2, i3, i4, i5, i6, i7, i8, i9, i10, i11, i12, i13, i14, i15, i16, i17, i18, i19, i20, i21, i22, i23, i24, i25, i26, i27, i28, i29, i30, i31, i32, i33, i34, i35, i36, i37, i38, i39, i40, i41, i42, i43, i44, i45, r, v] [b0, b1, b2, b3, b4, b5, b6, b7, b8, b9, b10, b11, b12, b13, b14, b15, b16, b17, b18, b19, b20, b21, b22, b23, b24, b25, b26, b27, b28, b29, b30, b31, b32, b33, b34, b35] = ([c0, c1, c2, c3, c4, c5, c6, c7, c8, c9, c10, i11, i12, i13, i14, i15, i16, i17, i18, i19, i20, i21, i22, i23, i24, i25, i26, i27, i28, i29, i30, i31, i32, i33, i34, i35, i36, i37, i38, i39, i40, i41, i42, i43, i44, i45, 0], [true, x0, x1, x2, x3, x4, x5, x6, x7, x8, b9, b10, b11, b12, b13, b14, b15, b16, b17, b18, b19, b20, b21, b22, b23, b24, b25, b26, b27, b28, b29, b30, b31, b32, b33, b34, b35]) → F4 [i0, i1, i2, i3, i4, i5, i6, i7, i8, i9, i10, i11, i12, i13, i14, i15, i16, i17, i18, i19, i20, i21, i22, i23, i24, i25, i26, i27, i28, i29, i30, i31, i32, i33, i34, i35, i36, i37, i38, i39, i40, i41, i42, i43, i44, i45, reg, v] [b0, b1, b2, b3, b4, b5, b6, b7, b8, b9, b10, b11, b12, b13, b14, b15, b16, b17, b18, b19, b20, b21, b22, b23, b24, b25, b26, b27, b28, b29, b30, b31, b32, b33, b34, b35] = ([], [true, true])) ∧
  (∀ (c11 c12 c13 c14 c15 c16 c17 c18 c19 c20 c21 : Int) (x9 x10 x11 x12 x13 x14 x15 x16 x17 : Bool), F11 [i0, i1, i2, i3, i4, i5, i6, i7, i8, i9, i10, i11, i12, i13, i14, i15, i16, i17, i18, i19, i20, i21, i22, i23, i24, i25, i26, i27, i28, i29, i30, i31, i32, i33, i34, i35, i36, i37, i38, i39, i40, i41, i42, i43, i44, i45] [b0, b1, b2, b3, b4, b5, b6, b7, b8, b9, b10, b11, b12, b13, b14, b15, b16, b17, b18, b19, b20, b21, b22, b23, b24, b25, b26, b27, b28, b29, b30, b31, b32, b33, b34, b35] = ([0], []) → 4 ≤ r ∧ r ≤ 7 → F8 [i0, i1, i2, i3, i4, i5, i6, i7, i8, i9, i10, i11, i12, i13, i14, i15, i16, i17, i18, i19, i20, i21, i22, i23, i24, i25, i26, i27, i28, i29, i30, i31, i32, i33, i34, i35, i36, i37, i38, i39, i40, i41, i42, i43, i44, i45, r, v] [b0, b1, b2, b3, b4, b5, b6, b7, b8, b9, b10, b11, b12, b13, b14, b15, b16, b17, b18, b19, b20, b21, b22, b23, b24, b25, b26, b27, b28, b29, b30, b31, b32, b33, b34, b35] = ([i0, i1, i2, i3, i4, i5, i6, i7, i8, i9, i10, c11, c12, c13, c14, c15, c16, c17, c18, c19, c20, c21, i22, i23, i24, i25, i26, i27, i28, i29, i30, i31, i32, i33, i34, i35, i36, i37, i38, i39, i40, i41, i42, i43, i44, i45, 0], [true, b0, b1, b2, b3, b4, b5, b6, b7, b8, x9, x10, x11, x12, x13, x14, x15, x16, x17, b18, b19, b20, b21, b22, b23, b24, b25, b26, b27, b28, b29, b30, b31, b32, b33, b34, b35]) → F4 [i0, i1, i2, i3, i4, i5, i6, i7, i8, i9, i10, i11, i12, i13, i14, i15, i16, i17, i18, i19, i20, i21, i22, i23, i24, i25, i26, i27, i28, i29, i30, i31, i32, i33, i34, i35, i36, i37, i38, i39, i40, i41, i42, i43, i44, i45, reg, v] [b0, b1, b2, b3, b4, b5, b6, b7, b8, b9, b10, b11, b12, b13, b14, b15, b16, b17, b18, b19, b20, b21, b22, b23, b24, b25, b26, b27, b28, b29, b30, b31, b32, b33, b34, b35] = ([], [true, true])) ∧
  (∀ (c22 c23 c24 c25 c26 c27 : Int) (x18 x19 x20 : Bool), F11 [i0, i1, i2, i3, i4, i5, i6, i7, i8, i9, i10, i11, i12, i13, i14, i15, i16, i17, i18, i19, i20, i21, i22, i23, i24, i25, i26, i27, i28, i29, i30, i31, i32, i33, i34, i35, i36, i37, i38, i39, i40, i41, i42, i43, i44, i45] [b0, b1, b2, b3, b4, b5, b6, b7, b8, b9, b10, b11, b12, b13, b14, b15, b16, b17, b18, b19, b20, b21, b22, b23, b24, b25, b26, b27, b28, b29, b30, b31, b32, b33, b34, b35] = ([0], []) → 8 ≤ r ∧ r ≤ 11 → F8 [i0, i1, i2, i3, i4, i5, i6, i7, i8, i9, i10, i11, i12, i13, i14, i15, i16, i17, i18, i19, i20, i21, i22, i23, i24, i25, i26, i27, i28, i29, i30, i31, i32, i33, i34, i35, i36, i37, i38, i39, i40, i41, i42, i43, i44, i45, r, v] [b0, b1, b2, b3, b4, b5, b6, b7, b8, b9, b10, b11, b12, b13, b14, b15, b16, b17, b18, b19, b20, b21, b22, b23, b24, b25, b26, b27, b28, b29, b30, b31, b32, b33, b34, b35] = ([i0, i1, i2, i3, i4, i5, i6, i7, i8, i9, i10, i11, i12, i13, i14, i15, i16, i17, i18, i19, i20, i21, c22, c23, c24, c25, c26, c27, i28, i29, i30, i31, i32, i33, i34, i35, i36, i37, i38, i39, i40, i41, i42, i43, i44, i45, 0], [true, b0, b1, b2, b3, b4, b5, b6, b7, b8, b9, b10, b11, b12, b13, b14, b15, b16, b17, x18, x19, x20, b21, b22, b23, b24, b25, b26, b27, b28, b29, b30, b31, b32, b33, b34, b35]) → F4 [i0, i1, i2, i3, i4, i5, i6, i7, i8, i9, i10, i11, i12, i13, i14, i15, i16, i17, i18, i19, i20, i21, i22, i23, i24, i25, i26, i27, i28, i29, i30, i31, i32, i33, i34, i35, i36, i37, i38, i39, i40, i41, i42, i43, i44, i45, reg, v] [b0, b1, b2, b3, b4, b5, b6, b7, b8, b9, b10, b11, b12, b13, b14, b15, b16, b17, b18, b19, b20, b21, b22, b23, b24, b25, b26, b27, b28, b29, b30, b31, b32, b33, b34, b35] = ([], [true, true])) ∧
  (∀ (c28 c29 c30 c31 c32 c33 c34 : Int) (x21 x22 x23 x24 x25 x26 : Bool), F11 [i0, i1, i2, i3, i4, i5, i6, i7, i8, i9, i10, i11, i12, i13, i14, i15, i16, i17, i18, i19, i20, i21, i22, i23, i24, i25, i26, i27, i28, i29, i30, i31, i32, i33, i34, i35, i36, i37, i38, i39, i40, i41, i42, i43, i44, i45] [b0, b1, b2, b3, b4, b5, b6, b7, b8, b9, b10, b11, b12, b13, b14, b15, b16, b17, b18, b19, b20, b21, b22, b23, b24, b25, b26, b27, b28, b29, b30, b31, b32, b33, b34, b35] = ([0], []) → 12 ≤ r ∧ r ≤ 15 → F8 [i0, i1, i2, i3, i4, i5, i6, i7, i8, i9, i10, i11, i12, i13, i14, i15, i16, i17, i18, i19, i20, i21, i22, i23, i24, i25, i26, i27, i28, i29, i30, i31, i32, i33, i34, i35, i36, i37, i38, i39, i40, i41, i42, i43, i44, i45, r, v] [b0, b1, b2, b3, b4, b5, b6, b7, b8, b9, b10, b11, b12, b13, b14, b15, b16, b17, b18, b19, b20, b21, b22, b23, b24, b25, b26, b27, b28, b29, b30, b31, b32, b33, b34, b35] = ([i0, i1, i2, i3, i4, i5, i6, i7, i8, i9, i10, i11, i12, i13, i14, i15, i16, i17, i18, i19, i20, i21, i22, i23, i24, i25, i26, i27, c28, c29, c30, c31, c32, c33, c34, i35, i36, i37, i38, i39, i40, i41, i42, i43, i44, i45, 0], [true, b0, b1, b2, b3, b4, b5, b6, b7, b8, b9, b10, b11, b12, b13, b14, b15, b16, b17, b18, b19, b20, x21, x22, x23, x24, x25, x26, b27, b28, b29, b30, b31, b32, b33, b34, b35]) → F4 [i0, i1, i2, i3, i4, i5, i6, i7, i8, i9, i10, i11, i12, i13, i14, i15, i16, i17, i18, i19, i20, i21, i22, i23, i24, i25, i26, i27, i28, i29, i30, i31, i32, i33, i34, i35, i36, i37, i38, i39, i40, i41, i42, i43, i44, i45, reg, v] [b0, b1, b2, b3, b4, b5, b6, b7, b8, b9, b10, b11, b12, b13, b14, b15, b16, b17, b18, b19, b20, b21, b22, b23, b24, b25, b26, b27, b28, b29, b30, b31, b32, b33, b34, b35] = ([], [true, true])) ∧
  (∀ (c35 c36 c37 c38 c39 c40 c41 c42 c43 c44 : Int) (x27 x28 x29 x30 x31 : Bool), F11 [i0, i1, i2, i3, i4, i5, i6, i7, i8, i9, i10, i11, i12, i13, i14, i15, i16, i17, i18, i19, i20, i21, i22, i23, i24, i25, i26, i27, i28, i29, i30, i31, i32, i33, i34, i35, i36, i37, i38, i39, i40, i41, i42, i43, i44, i45] [b0, b1, b2, b3, b4, b5, b6, b7, b8, b9, b10, b11, b12, b13, b14, b15, b16, b17, b18, b19, b20, b21, b22, b23, b24, b25, b26, b27, b28, b29, b30, b31, b32, b33, b34, b35] = ([0], []) → 16 ≤ r ∧ r ≤ 19 → F8 [i0, i1, i2, i3, i4, i5, i6, i7, i8, i9, i10, i11, i12, i13, i14, i15, i16, i17, i18, i19, i20, i21, i22, i23, i24, i25, i26, i27, i28, i29, i30, i31, i32, i33, i34, i35, i36, i37, i38, i39, i40, i41, i42, i43, i44, i45, r, v] [b0, b1, b2, b3, b4, b5, b6, b7, b8, b9, b10, b11, b12, b13, b14, b15, b16, b17, b18, b19, b20, b21, b22, b23, b24, b25, b26, b27, b28, b29, b30, b31, b32, b33, b34, b35] = ([i0, i1, i2, i3, i4, i5, i6, i7, i8, i9, i10, i11, i12, i13, i14, i15, i16, i17, i18, i19, i20, i21, i22, i23, i24, i25, i26, i27, i28, i29, i30, i31, i32, i33, i34, c35, c36, c37, c38, c39, c40, c41, c42, c43, c44, i45, 0], [true, b0, b1, b2, b3, b4, b5, b6, b7, b8, b9, b10, b11, b12, b13, b14, b15, b16, b17, b18, b19, b20, b21, b22, b23, b24, b25, b26, x27, x28, x29, x30, x31, b32, b33, b34, b35]) → F4 [i0, i1, i2, i3, i4, i5, i6, i7, i8, i9, i10, i11, i12, i13, i14, i15, i16, i17, i18, i19, i20, i21, i22, i23, i24, i25, i26, i27, i28, i29, i30, i31, i32, i33, i34, i35, i36, i37, i38, i39, i40, i41, i42, i43, i44, i45, reg, v] [b0, b1, b2, b3, b4, b5, b6, b7, b8, b9, b10, b11, b12, b13, b14, b15, b16, b17, b18, b19, b20, b21, b22, b23, b24, b25, b26, b27, b28, b29, b30, b31, b32, b33, b34, b35] = ([], [true, true])) ∧
  (F11 [i0, i1, i2, i3, i4, i5, i6, i7, i8, i9, i10, i11, i12, i13, i14, i15, i16, i17, i18, i19, i20, i21, i22, i23, i24, i25, i26, i27, i28, i29, i30, i31, i32, i33, i34, i35, i36, i37, i38, i39, i40, i41, i42, i43, i44, i45] [b0, b1, b2, b3, b4, b5, b6, b7, b8, b9, b10, b11, b12, b13, b14, b15, b16, b17, b18, b19, b20, b21, b22, b23, b24, b25, b26, b27, b28, b29, b30, b31, b32, b33, b34, b35] = ([0], []) → r = 20 → F8 [i0, i1, i2, i3, i4, i5, i6, i7, i8, i9, i10, i11, i12, i13, i14, i15, i16, i17, i18, i19, i20, i21, i22, i23, i24, i25, i26, i27, i28, i29, i30, i31, i32, i33, i34, i35, i36, i37, i38, i39, i40, i41, i42, i43, i44, i45, r, v] [b0, b1, b2, b3, b4, b5, b6, b7, b8, b9, b10, b11, b12, b13, b14, b15, b16, b17, b18, b19, b20, b21, b22, b23, b24, b25, b26, b27, b28, b29, b30, b31, b32, b33, b34, b35] = ([i0, i1, i2, i3, i4, i5, i6, i7, i8, i9, i10, i11, i12, i13, i14, i15, i16, i17, i18, i19, i20, i21, i22, i23, i24, i25, i26, i27, i28, i29, i30, i31, i32, i33, i34, i35, i36, i37, i38, i39, i40, i41, i42, i43, i44, i45, 0], [true, b0, b1, b2, b3, b4, b5, b6, b7, b8, b9, b10, b11, b12, b13, b14, b15, b16, b17, b18, b19, b20, b21, b22, b23, b24, b25, b26, b27, b28, b29, b30, b31, b32, b33, b34, b35]) → F4 [i0, i1, i2, i3, i4, i5, i6, i7, i8, i9, i10, i11, i12, i13, i14, i15, i16, i17, i18, i19, i20, i21, i22, i23, i24, i25, i26, i27, i28, i29, i30, i31, i32, i33, i34, i35, i36, i37, i38, i39, i40, i41, i42, i43, i44, i45, reg, v] [b0, b1, b2, b3, b4, b5, b6, b7, b8, b9, b10, b11, b12, b13, b14, b15, b16, b17, b18, b19, b20, b21, b22, b23, b24, b25, b26, b27, b28, b29, b30, b31, b32, b33, b34, b35] = ([], [true, true])) ∧
  (∀ (c0 c1 c2 c3 c4 c5 c6 c7 c8 c9 c10 c11 c12 c13 c14 c15 c16 c17 c18 c19 c20 c21 c22 c23 c24 c25 c26 c27 c28 c29 c30 c31 c32 c33 c34 c35 c36 c37 c38 c39 c40 c41 c42 c43 c44 c45 : Int) (x0 x1 x2 x3 x4 x5 x6 x7 x8 x9 x10 x11 x12 x13 x14 x15 x16 x17 x18 x19 x20 x21 x22 x23 x24 x25 x26 x27 x28 x29 x30 x31 x32 x33 x34 x35 : Bool), F11 [i0, i1, i2, i3, i4, i5, i6, i7, i8, i9, i10, i11, i12, i13, i14, i15, i16, i17, i18, i19, i20, i21, i22, i23, i24, i25, i26, i27, i28, i29, i30, i31, i32, i33, i34, i35, i36, i37, i38, i39, i40, i41, i42, i43, i44, i45] [b0, b1, b2, b3, b4, b5, b6, b7, b8, b9, b10, b11, b12, b13, b14, b15, b16, b17, b18, b19, b20, b21, b22, b23, b24, b25, b26, b27, b28, b29, b30, b31, b32, b33, b34, b35] = ([0], []) → r = 21 → F8 [i0, i1, i2, i3, i4, i5, i6, i7, i8, i9, i10, i11, i12, i13, i14, i15, i16, i17, i18, i19, i20, i21, i22, i23, i24, i25, i26, i27, i28, i29, i30, i31, i32, i33, i34, i35, i36, i37, i38, i39, i40, i41, i42, i43, i44, i45, r, v] [b0, b1, b2, b3, b4, b5, b6, b7, b8, b9, b10, b11, b12, b13, b14, b15, b16, b17, b18, b19, b20, b21, b22, b23, b24, b25, b26, b27, b28, b29, b30, b31, b32, b33, b34, b35] = ([c0, c1, c2, c3, c4, c5, c6, c7, c8, c9, c10, c11, c12, c13, c14, c15, c16, c17, c18, c19, c20, c21, c22, c23, c24, c25, c26, c27, c28, c29, c30, c31, c32, c33, c34, c35, c36, c37, c38, c39, c40, c41, c42, c43, c44, c45, 0], [true, x0, x1, x2, x3, x4, x5, x6, x7, x8, x9, x10, x11, x12, x13, x14, x15, x16, x17, x18, x19, x20, x21, x22, x23, x24, x25, x26, x27, x28, x29, x30, x31, x32, x33, x34, x35]) → F4 [i0, i1, i2, i3, i4, i5, i6, i7, i8, i9, i10, i11, i12, i13, i14, i15, i16, i17, i18, i19, i20, i21, i22, i23, i24, i25, i26, i27, i28, i29, i30, i31, i32, i33, i34, i35, i36, i37, i38, i39, i40, i41, i42, i43, i44, i45, reg, v] [b0, b1, b2, b3, b4, b5, b6, b7, b8, b9, b10, b11, b12, b13, b14, b15, b16, b17, b18, b19, b20, b21, b22, b23, b24, b25, b26, b27, b28, b29, b30, b31, b32, b33, b34, b35] = ([], [true, true])) ∧
  (F11 [i0, i1, i2, i3, i4, i5, i6, i7, i8, i9, i10, i11, i12, i13, i14, i15, i16, i17, i18, i19, i20, i21, i22, i23, i24, i25, i26, i27, i28, i29, i30, i31, i32, i33, i34, i35, i36, i37, i38, i39, i40, i41, i42, i43, i44, i45] [b0, b1, b2, b3, b4, b5, b6, b7, b8, b9, b10, b11, b12, b13, b14, b15, b16, b17, b18, b19, b20, b21, b22, b23, b24, b25, b26, b27, b28, b29, b30, b31, b32, b33, b34, b35] = ([0], []) → r = 22 → F8 [i0, i1, i2, i3, i4, i5, i6, i7, i8, i9, i10, i11, i12, i13, i14, i15, i16, i17, i18, i19, i20, i21, i22, i23, i24, i25, i26, i27, i28, i29, i30, i31, i32, i33, i34, i35, i36, i37, i38, i39, i40, i41, i42, i43, i44, i45, r, v] [b0, b1, b2, b3, b4, b5, b6, b7, b8, b9, b10, b11, b12, b13, b14, b15, b16, b17, b18, b19, b20, b21, b22, b23, b24, b25, b26, b27, b28, b29, b30, b31, b32, b33, b34, b35] = ([i0, i1, i2, i3, i4, i5, i6, i7, i8, i9, i10, i11, i12, i13, i14, i15, i16, i17, i18, i19, i20, i21, i22, i23, i24, i25, i26, i27, i28, i29, i30, i31, i32, i33, i34, i35, i36, i37, i38, i39, i40, i41, i42, i43, i44, i45, 0], [true, b0, b1, b2, b3, b4, b5, b6, b7, b8, b9, b10, b11, b12, b13, b14, b15, b16, b17, b18, b19, b20, b21, b22, b23, b24, b25, b26, b27, b28, b29, b30, b31, b32, b33, b34, b35]) → F4 [i0, i1, i2, i3, i4, i5, i6, i7, i8, i9, i10, i11, i12, i13, i14, i15, i16, i17, i18, i19, i20, i21, i22, i23, i24, i25, i26, i27, i28, i29, i30, i31, i32, i33, i34, i35, i36, i37, i38, i39, i40, i41, i42, i43, i44, i45, reg, v] [b0, b1, b2, b3, b4, b5, b6, b7, b8, b9, b10, b11, b12, b13, b14, b15, b16, b17, b18, b19, b20, b21, b22, b23, b24, b25, b26, b27, b28, b29, b30, b31, b32, b33, b34, b35] = ([], [true, true])) ∧
  (∀ (c0 c1 c2 c3 c4 c5 c6 c7 c8 c9 c10 c11 c12 c13 c14 c15 c16 c17 c18 c19 c20 c21 c22 c23 c24 c25 c26 c27 c28 c29 c30 c31 c32 c33 c34 c35 c36 c37 c38 c39 c40 c41 c42 c43 c44 c45 : Int) (x0 x1 x2 x3 x4 x5 x6 x7 x8 x9 x10 x11 x12 x13 x14 x15 x16 x17 x18 x19 x20 x21 x22 x23 x24 x25 x26 x27 x28 x29 x30 x31 x32 x33 x34 x35 : Bool), F11 [i0, i1, i2, i3, i4, i5, i6, i7, i8, i9, i10, i11, i12, i13, i14, i15, i16, i17, i18, i19, i20, i21, i22, i23, i24, i25, i26, i27, i28, i29, i30, i31, i32, i33, i34, i35, i36, i37, i38, i39, i40, i41, i42, i43, i44, i45] [b0, b1, b2, b3, b4, b5, b6, b7, b8, b9, b10, b11, b12, b13, b14, b15, b16, b17, b18, b19, b20, b21, b22, b23, b24, b25, b26, b27, b28, b29, b30, b31, b32, b33, b34, b35] = ([0], []) → r = 23 → F8 [i0, i1, i2, i3, i4, i5, i6, i7, i8, i9, i10, i11, i12, i13, i14, i15, i16, i17, i18, i19, i20, i21, i22, i23, i24, i25, i26, i27, i28, i29, i30, i31, i32, i33, i34, i35, i36, i37, i38, i39, i40, i41, i42, i43, i44, i45, r, v] [b0, b1, b2, b3, b4, b5, b6, b7, b8, b9, b10, b11, b12, b13, b14, b15, b16, b17, b18, b19, b20, b21, b22, b23, b24, b25, b26, b27, b28, b29, b30, b31, b32, b33, b34, b35] = ([c0, c1, c2, c3, c4, c5, c6, c7, c8, c9, c10, c11, c12, c13, c14, c15, c16, c17, c18, c19, c20, c21, c22, c23, c24, c25, c26, c27, c28, c29, c30, c31, c32, c33, c34, c35, c36, c37, c38, c39, c40, c41, c42, c43, c44, c45, 0], [true, x0, x1, x2, x3, x4, x5, x6, x7, x8, x9, x10, x11, x12, x13, x14, x15, x16, x17, x18, x19, x20, x21, x22, x23, x24, x25, x26, x27, x28, x29, x30, x31, x32, x33, x34, x35]) → F4 [i0, i1, i2, i3, i4, i5, i6, i7, i8, i9, i10, i11, i12, i13, i14, i15, i16, i17, i18, i19, i20, i21, i22, i23, i24, i25, i26, i27, i28, i29, i30, i31, i32, i33, i34, i35, i36, i37, i38, i39, i40, i41, i42, i43, i44, i45, reg, v] [b0, b1, b2, b3, b4, b5, b6, b7, b8, b9, b10, b11, b12, b13, b14, b15, b16, b17, b18, b19, b20, b21, b22, b23, b24, b25, b26, b27, b28, b29, b30, b31, b32, b33, b34, b35] = ([], [true, true])) ∧
  (F11 [i0, i1, i2, i3, i4, i5, i6, i7, i8, i9, i10, i11, i12, i13, i14, i15, i16, i17, i18, i19, i20, i21, i22, i23, i24, i25, i26, i27, i28, i29, i30, i31, i32, i33, i34, i35, i36, i37, i38, i39, i40, i41, i42, i43, i44, i45] [b0, b1, b2, b3, b4, b5, b6, b7, b8, b9, b10, b11, b12, b13, b14, b15, b16, b17, b18, b19, b20, b21, b22, b23, b24, b25, b26, b27, b28, b29, b30, b31, b32, b33, b34, b35] = ([0], []) → 24 ≤ r → F8 [i0, i1, i2, i3, i4, i5, i6, i7, i8, i9, i10, i11, i12, i13, i14, i15, i16, i17, i18, i19, i20, i21, i22, i23, i24, i25, i26, i27, i28, i29, i30, i31, i32, i33, i34, i35, i36, i37, i38, i39, i40, i41, i42, i43, i44, i45, r, v] [b0, b1, b2, b3, b4, b5, b6, b7, b8, b9, b10, b11, b12, b13, b14, b15, b16, b17, b18, b19, b20, b21, b22, b23, b24, b25, b26, b27, b28, b29, b30, b31, b32, b33, b34, b35] = ([i0, i1, i2, i3, i4, i5, i6, i7, i8, i9, i10, i11, i12, i13, i14, i15, i16, i17, i18, i19, i20, i21, i22, i23, i24, i25, i26, i27, i28, i29, i30, i31, i32, i33, i34, i35, i36, i37, i38, i39, i40, i41, i42, i43, i44, i45, 0], [true, b0, b1, b2, b3, b4, b5, b6, b7, b8, b9, b10, b11, b12, b13, b14, b15, b16, b17, b18, b19, b20, b21, b22, b23, b24, b25, b26, b27, b28, b29, b30, b31, b32, b33, b34, b35]) → F4 [i0, i1, i2, i3, i4, i5, i6, i7, i8, i9, i10, i11, i12, i13, i14, i15, i16, i17, i18, i19, i20, i21, i22, i23, i24, i25, i26, i27, i28, i29, i30, i31, i32, i33, i34, i35, i36, i37, i38, i39, i40, i41, i42, i43, i44, i45, reg, v] [b0, b1, b2, b3, b4, b5, b6, b7, b8, b9, b10, b11, b12, b13, b14, b15, b16, b17, b18, b19, b20, b21, b22, b23, b24, b25, b26, b27, b28, b29, b30, b31, b32, b33, b34, b35] = ([], [true, true])) := by
  unfold F4
  obtain ⟨ρ, e1, e2, e3, e4⟩ := Smry.run_specT (Φ := tabF T47) (S := S4) (is := [i0, i1, i2, i3, i4, i5, i6, i7, i8, i9, i10, i11, i12, i13, i14, i15, i16, i17, i18, i19, i20, i21, i22, i23, i24, i25, i26, i27, i28, i29, i30, i31, i32, i33, i34, i35, i36, i37, i38, i39, i40, i41, i42, i43, i44, i45, reg, v]) (bs := [b0, b1, b2, b3, b4, b5, b6, b7, b8, b9, b10, b11, b12, b13, b14, b15, b16, b17, b18, b19, b20, b21, b22, b23, b24, b25, b26, b27, b28, b29, b30, b31, b32, b33, b34, b35]) rfl
  rw [e1, obAll_eq]
  clear e1
  simp only [S4, obs, Gd.d_cons, Gd.d_nil, eqns, Em.eqn, headsI, headsB, RI.d, RB.d, A.d, B.d, cm_eql, cm_neq, cm_lss, cm_leq, cm_gtr, cm_geq, List.map_cons, List.map_nil, and_true, Nat.zero_add, Nat.reduceAdd, ltn, upto, true_and, Nat.add_zero, List.getD_cons_zero, List.getD_cons_succ, add8, sub8, add16, sub16, mul16, wrap_u8, wrap_u16, and8_1, and8_7, and8_8, and8_15, and8_16, and8_31, and8_32, and8_64, and8_127, and8_128, and16_1, and16_255, and16_1792, shr8_1, shr8_3, shr8_4, shr8_6, shr16_1, shr16_6, shr16_8, shl16_8, shl16_14, add64] at e2 e3 e4 ⊢
  simp only [e2, e3] at e4 ⊢
  clear e2 e3
  have hi48 := e4.1
  have r0 := e4.2
  clear e4
  have hb36 := r0.1
  have r1 := r0.2
  clear r0
  have hb37 := r1.1.1
  have hb38 := r1.1.2
  have r2 := r1.2
  clear r1
  have hi49 := r2.1
  have r3 := r2.2
  clear r2
  have hi50 := r3.1
  have r4 := r3.2
  clear r3
  have hi51 := r4.1
  have r5 := r4.2
  clear r4
  have hi52 := r5.1.1.1
  have hi53 := r5.1.1.2.1
  have hi54 := r5.1.1.2.2.1
  have hi55 := r5.1.1.2.2.2.1
  have hi56 := r5.1.1.2.2.2.2.1
  have hi57 := r5.1.1.2.2.2.2.2.1
  have hi58 := r5.1.1.2.2.2.2.2.2.1
  have hi59 := r5.1.1.2.2.2.2.2.2.2.1
  have hi60 := r5.1.1.2.2.2.2.2.2.2.2.1
  have hi61 := r5.1.1.2.2.2.2.2.2.2.2.2.1
  have hi62 := r5.1.1.2.2.2.2.2.2.2.2.2.2.1
  have hi63 := r5.1.1.2.2.2.2.2.2.2.2.2.2.2.1
  have hi64 := r5.1.1.2.2.2.2.2.2.2.2.2.2.2.2.1
  have hi65 := r5.1.1.2.2.2.2.2.2.2.2.2.2.2.2.2.1
  have hi66 := r5.1.1.2.2.2.2.2.2.2.2.2.2.2.2.2.2.1
  have hi67 := r5.1.1.2.2.2.2.2.2.2.2.2.2.2.2.2.2.2.1
  have hi68 := r5.1.1.2.2.2.2.2.2.2.2.2.2.2.2.2.2.2.2.1
  have hi69 := r5.1.1.2.2.2.2.2.2.2.2.2.2.2.2.2.2.2.2.2.1
  have hi70 := r5.1.1.2.2.2.2.2.2.2.2.2.2.2.2.2.2.2.2.2.2.1
  have hi71 := r5.1.1.2.2.2.2.2.2.2.2.2.2.2.2.2.2.2.2.2.2.2.1
  have hi72 := r5.1.1.2.2.2.2.2.2.2.2.2.2.2.2.2.2.2.2.2.2.2.2.1
  have hi73 := r5.1.1.2.2.2.2.2.2.2.2.2.2.2.2.2.2.2.2.2.2.2.2.2.1
  have hi74 := r5.1.1.2.2.2.2.2.2.2.2.2.2.2.2.2.2.2.2.2.2.2.2.2.2.1
  have hi75 := r5.1.1.2.2.2.2.2.2.2.2.2.2.2.2.2.2.2.2.2.2.2.2.2.2.2.1
  have hi76 := r5.1.1.2.2.2.2.2.2.2.2.2.2.2.2.2.2.2.2.2.2.2.2.2.2.2.2.1
  have hi77 := r5.1.1.2.2.2.2.2.2.2.2.2.2.2.2.2.2.2.2.2.2.2.2.2.2.2.2.2.1
  have hi78 := r5.1.1.2.2.2.2.2.2.2.2.2.2.2.2.2.2.2.2.2.2.2.2.2.2.2.2.2.2.1
  have hi79 := r5.1.1.2.2.2.2.2.2.2.2.2.2.2.2.2.2.2.2.2.2.2.2.2.2.2.2.2.2.2.1
  have hi80 := r5.1.1.2.2.2.2.2.2.2.2.2.2.2.2.2.2.2.2.2.2.2.2.2.2.2.2.2.2.2.2.1
  have hi81 := r5.1.1.2.2.2.2.2.2.2.2.2.2.2.2.2.2.2.2.2.2.2.2.2.2.2.2.2.2.2.2.2.1
  have hi82 := r5.1.1.2.2.2.2.2.2.2.2.2.2.2.2.2.2.2.2.2.2.2.2.2.2.2.2.2.2.2.2.2.2.1
  have hi83 := r5.1.1.2.2.2.2.2.2.2.2.2.2.2.2.2.2.2.2.2.2.2.2.2.2.2.2.2.2.2.2.2.2.2.1
  have hi84 := r5.1.1.2.2.2.2.2.2.2.2.2.2.2.2.2.2.2.2.2.2.2.2.2.2.2.2.2.2.2.2.2.2.2.2.1
  have hi85 := r5.1.1.2.2.2.2.2.2.2.2.2.2.2.2.2.2.2.2.2.2.2.2.2.2.2.2.2.2.2.2.2.2.2.2.2.1
  have hi86 := r5.1.1.2.2.2.2.2.2.2.2.2.2.2.2.2.2.2.2.2.2.2.2.2.2.2.2.2.2.2.2.2.2.2.2.2.2.1
  have hi87 := r5.1.1.2.2.2.2.2.2.2.2.2.2.2.2.2.2.2.2.2.2.2.2.2.2.2.2.2.2.2.2.2.2.2.2.2.2.2.1
  have hi88 := r5.1.1.2.2.2.2.2.2.2.2.2.2.2.2.2.2.2.2.2.2.2.2.2.2.2.2.2.2.2.2.2.2.2.2.2.2.2.2.1
  have hi89 := r5.1.1.2.2.2.2.2.2.2.2.2.2.2.2.2.2.2.2.2.2.2.2.2.2.2.2.2.2.2.2.2.2.2.2.2.2.2.2.2.1
  have hi90 := r5.1.1.2.2.2.2.2.2.2.2.2.2.2.2.2.2.2.2.2.2.2.2.2.2.2.2.2.2.2.2.2.2.2.2.2.2.2.2.2.2.1
  have hi91 := r5.1.1.2.2.2.2.2.2.2.2.2.2.2.2.2.2.2.2.2.2.2.2.2.2.2.2.2.2.2.2.2.2.2.2.2.2.2.2.2.2.2.1
  have hi92 := r5.1.1.2.2.2.2.2.2.2.2.2.2.2.2.2.2.2.2.2.2.2.2.2.2.2.2.2.2.2.2.2.2.2.2.2.2.2.2.2.2.2.2.1
  have hi93 := r5.1.1.2.2.2.2.2.2.2.2.2.2.2.2.2.2.2.2.2.2.2.2.2.2.2.2.2.2.2.2.2.2.2.2.2.2.2.2.2.2.2.2.2.1
  have hi94 := r5.1.1.2.2.2.2.2.2.2.2.2.2.2.2.2.2.2.2.2.2.2.2.2.2.2.2.2.2.2.2.2.2.2.2.2.2.2.2.2.2.2.2.2.2.1
  have hi95 := r5.1.1.2.2.2.2.2.2.2.2.2.2.2.2.2.2.2.2.2.2.2.2.2.2.2.2.2.2.2.2.2.2.2.2.2.2.2.2.2.2.2.2.2.2.2.1
  have hi96 := r5.1.1.2.2.2.2.2.2.2.2.2.2.2.2.2.2.2.2.2.2.2.2.2.2.2.2.2.2.2.2.2.2.2.2.2.2.2.2.2.2.2.2.2.2.2.2.1
  have hi97 := r5.1.1.2.2.2.2.2.2.2.2.2.2.2.2.2.2.2.2.2.2.2.2.2.2.2.2.2.2.2.2.2.2.2.2.2.2.2.2.2.2.2.2.2.2.2.2.2.1
  have hi98 := r5.1.1.2.2.2.2.2.2.2.2.2.2.2.2.2.2.2.2.2.2.2.2.2.2.2.2.2.2.2.2.2.2.2.2.2.2.2.2.2.2.2.2.2.2.2.2.2.2
  have hb39 := r5.1.2.1
  have hb40 := r5.1.2.2.1
  have hb41 := r5.1.2.2.2.1
  have hb42 := r5.1.2.2.2.2.1
  have hb43 := r5.1.2.2.2.2.2.1
  have hb44 := r5.1.2.2.2.2.2.2.1
  have hb45 := r5.1.2.2.2.2.2.2.2.1
  have hb46 := r5.1.2.2.2.2.2.2.2.2.1
  have hb47 := r5.1.2.2.2.2.2.2.2.2.2.1
  have hb48 := r5.1.2.2.2.2.2.2.2.2.2.2.1
  have hb49 := r5.1.2.2.2.2.2.2.2.2.2.2.2.1
  have hb50 := r5.1.2.2.2.2.2.2.2.2.2.2.2.2.1
  have hb51 := r5.1.2.2.2.2.2.2.2.2.2.2.2.2.2.1
  have hb52 := r5.1.2.2.2.2.2.2.2.2.2.2.2.2.2.2.1
  have hb53 := r5.1.2.2.2.2.2.2.2.2.2.2.2.2.2.2.2.1
  have hb54 := r5.1.2.2.2.2.2.2.2.2.2.2.2.2.2.2.2.2.1
  have hb55 := r5.1.2.2.2.2.2.2.2.2.2.2.2.2.2.2.2.2.2.1
  have hb56 := r5.1.2.2.2.2.2.2.2.2.2.2.2.2.2.2.2.2.2.2.1
  have hb57 := r5.1.2.2.2.2.2.2.2.2.2.2.2.2.2.2.2.2.2.2.2.1
  have hb58 := r5.1.2.2.2.2.2.2.2.2.2.2.2.2.2.2.2.2.2.2.2.2.1
  have hb59 := r5.1.2.2.2.2.2.2.2.2.2.2.2.2.2.2.2.2.2.2.2.2.2.1
  have hb60 := r5.1.2.2.2.2.2.2.2.2.2.2.2.2.2.2.2.2.2.2.2.2.2.2.1
  have hb61 := r5.1.2.2.2.2.2.2.2.2.2.2.2.2.2.2.2.2.2.2.2.2.2.2.2.1
  have hb62 := r5.1.2.2.2.2.2.2.2.2.2.2.2.2.2.2.2.2.2.2.2.2.2.2.2.2.1
  have hb63 := r5.1.2.2.2.2.2.2.2.2.2.2.2.2.2.2.2.2.2.2.2.2.2.2.2.2.2.1
  have hb64 := r5.1.2.2.2.2.2.2.2.2.2.2.2.2.2.2.2.2.2.2.2.2.2.2.2.2.2.2.1
  have hb65 := r5.1.2.2.2.2.2.2.2.2.2.2.2.2.2.2.2.2.2.2.2.2.2.2.2.2.2.2.2.1
  have hb66 := r5.1.2.2.2.2.2.2.2.2.2.2.2.2.2.2.2.2.2.2.2.2.2.2.2.2.2.2.2.2.1
  have hb67 := r5.1.2.2.2.2.2.2.2.2.2.2.2.2.2.2.2.2.2.2.2.2.2.2.2.2.2.2.2.2.2.1
  have hb68 := r5.1.2.2.2.2.2.2.2.2.2.2.2.2.2.2.2.2.2.2.2.2.2.2.2.2.2.2.2.2.2.2.1
  have hb69 := r5.1.2.2.2.2.2.2.2.2.2.2.2.2.2.2.2.2.2.2.2.2.2.2.2.2.2.2.2.2.2.2.2.1
  have hb70 := r5.1.2.2.2.2.2.2.2.2.2.2.2.2.2.2.2.2.2.2.2.2.2.2.2.2.2.2.2.2.2.2.2.2.1
  have hb71 := r5.1.2.2.2.2.2.2.2.2.2.2.2.2.2.2.2.2.2.2.2.2.2.2.2.2.2.2.2.2.2.2.2.2.2.1
  have hb72 := r5.1.2.2.2.2.2.2.2.2.2.2.2.2.2.2.2.2.2.2.2.2.2.2.2.2.2.2.2.2.2.2.2.2.2.2.1
  have hb73 := r5.1.2.2.2.2.2.2.2.2.2.2.2.2.2.2.2.2.2.2.2.2.2.2.2.2.2.2.2.2.2.2.2.2.2.2.2.1
  have hb74 := r5.1.2.2.2.2.2.2.2.2.2.2.2.2.2.2.2.2.2.2.2.2.2.2.2.2.2.2.2.2.2.2.2.2.2.2.2.2.1
  have hb75 := r5.1.2.2.2.2.2.2.2.2.2.2.2.2.2.2.2.2.2.2.2.2.2.2.2.2.2.2.2.2.2.2.2.2.2.2.2.2.2
  have r6 := r5.2
  clear r5
  have hb76 := r6.1
  have r7 := r6.2
  clear r6
  have hi99 := r7.1.1.1
  have hi100 := r7.1.1.2.1
  have hi101 := r7.1.1.2.2.1
  have hi102 := r7.1.1.2.2.2.1
  have hi103 := r7.1.1.2.2.2.2.1
  have hi104 := r7.1.1.2.2.2.2.2.1
  have hi105 := r7.1.1.2.2.2.2.2.2.1
  have hi106 := r7.1.1.2.2.2.2.2.2.2.1
  have hi107 := r7.1.1.2.2.2.2.2.2.2.2.1
  have hi108 := r7.1.1.2.2.2.2.2.2.2.2.2.1
  have hi109 := r7.1.1.2.2.2.2.2.2.2.2.2.2.1
  have hi110 := r7.1.1.2.2.2.2.2.2.2.2.2.2.2.1
  have hi111 := r7.1.1.2.2.2.2.2.2.2.2.2.2.2.2.1
  have hi112 := r7.1.1.2.2.2.2.2.2.2.2.2.2.2.2.2.1
  have hi113 := r7.1.1.2.2.2.2.2.2.2.2.2.2.2.2.2.2.1
  have hi114 := r7.1.1.2.2.2.2.2.2.2.2.2.2.2.2.2.2.2.1
  have hi115 := r7.1.1.2.2.2.2.2.2.2.2.2.2.2.2.2.2.2.2.1
  have hi116 := r7.1.1.2.2.2.2.2.2.2.2.2.2.2.2.2.2.2.2.2.1
  have hi117 := r7.1.1.2.2.2.2.2.2.2.2.2.2.2.2.2.2.2.2.2.2.1
  have hi118 := r7.1.1.2.2.2.2.2.2.2.2.2.2.2.2.2.2.2.2.2.2.2.1
  have hi119 := r7.1.1.2.2.2.2.2.2.2.2.2.2.2.2.2.2.2.2.2.2.2.2.1
  have hi120 := r7.1.1.2.2.2.2.2.2.2.2.2.2.2.2.2.2.2.2.2.2.2.2.2.1
  have hi121 := r7.1.1.2.2.2.2.2.2.2.2.2.2.2.2.2.2.2.2.2.2.2.2.2.2.1
  have hi122 := r7.1.1.2.2.2.2.2.2.2.2.2.2.2.2.2.2.2.2.2.2.2.2.2.2.2.1
  have hi123 := r7.1.1.2.2.2.2.2.2.2.2.2.2.2.2.2.2.2.2.2.2.2.2.2.2.2.2.1
  have hi124 := r7.1.1.2.2.2.2.2.2.2.2.2.2.2.2.2.2.2.2.2.2.2.2.2.2.2.2.2.1
  have hi125 := r7.1.1.2.2.2.2.2.2.2.2.2.2.2.2.2.2.2.2.2.2.2.2.2.2.2.2.2.2.1
  have hi126 := r7.1.1.2.2.2.2.2.2.2.2.2.2.2.2.2.2.2.2.2.2.2.2.2.2.2.2.2.2.2.1
  have hi127 := r7.1.1.2.2.2.2.2.2.2.2.2.2.2.2.2.2.2.2.2.2.2.2.2.2.2.2.2.2.2.2.1
  have hi128 := r7.1.1.2.2.2.2.2.2.2.2.2.2.2.2.2.2.2.2.2.2.2.2.2.2.2.2.2.2.2.2.2.1
  have hi129 := r7.1.1.2.2.2.2.2.2.2.2.2.2.2.2.2.2.2.2.2.2.2.2.2.2.2.2.2.2.2.2.2.2.1
  have hi130 := r7.1.1.2.2.2.2.2.2.2.2.2.2.2.2.2.2.2.2.2.2.2.2.2.2.2.2.2.2.2.2.2.2.2.1
  have hi131 := r7.1.1.2.2.2.2.2.2.2.2.2.2.2.2.2.2.2.2.2.2.2.2.2.2.2.2.2.2.2.2.2.2.2.2.1
  have hi132 := r7.1.1.2.2.2.2.2.2.2.2.2.2.2.2.2.2.2.2.2.2.2.2.2.2.2.2.2.2.2.2.2.2.2.2.2.1
  have hi133 := r7.1.1.2.2.2.2.2.2.2.2.2.2.2.2.2.2.2.2.2.2.2.2.2.2.2.2.2.2.2.2.2.2.2.2.2.2.1
  have hi134 := r7.1.1.2.2.2.2.2.2.2.2.2.2.2.2.2.2.2.2.2.2.2.2.2.2.2.2.2.2.2.2.2.2.2.2.2.2.2.1
  have hi135 := r7.1.1.2.2.2.2.2.2.2.2.2.2.2.2.2.2.2.2.2.2.2.2.2.2.2.2.2.2.2.2.2.2.2.2.2.2.2.2.1
  have hi136 := r7.1.1.2.2.2.2.2.2.2.2.2.2.2.2.2.2.2.2.2.2.2.2.2.2.2.2.2.2.2.2.2.2.2.2.2.2.2.2.2.1
  have hi137 := r7.1.1.2.2.2.2.2.2.2.2.2.2.2.2.2.2.2.2.2.2.2.2.2.2.2.2.2.2.2.2.2.2.2.2.2.2.2.2.2.2.1
  have hi138 := r7.1.1.2.2.2.2.2.2.2.2.2.2.2.2.2.2.2.2.2.2.2.2.2.2.2.2.2.2.2.2.2.2.2.2.2.2.2.2.2.2.2.1
  have hi139 := r7.1.1.2.2.2.2.2.2.2.2.2.2.2.2.2.2.2.2.2.2.2.2.2.2.2.2.2.2.2.2.2.2.2.2.2.2.2.2.2.2.2.2.1
  have hi140 := r7.1.1.2.2.2.2.2.2.2.2.2.2.2.2.2.2.2.2.2.2.2.2.2.2.2.2.2.2.2.2.2.2.2.2.2.2.2.2.2.2.2.2.2.1
  have hi141 := r7.1.1.2.2.2.2.2.2.2.2.2.2.2.2.2.2.2.2.2.2.2.2.2.2.2.2.2.2.2.2.2.2.2.2.2.2.2.2.2.2.2.2.2.2.1
  have hi142 := r7.1.1.2.2.2.2.2.2.2.2.2.2.2.2.2.2.2.2.2.2.2.2.2.2.2.2.2.2.2.2.2.2.2.2.2.2.2.2.2.2.2.2.2.2.2.1
  have hi143 := r7.1.1.2.2.2.2.2.2.2.2.2.2.2.2.2.2.2.2.2.2.2.2.2.2.2.2.2.2.2.2.2.2.2.2.2.2.2.2.2.2.2.2.2.2.2.2.1
  have hi144 := r7.1.1.2.2.2.2.2.2.2.2.2.2.2.2.2.2.2.2.2.2.2.2.2.2.2.2.2.2.2.2.2.2.2.2.2.2.2.2.2.2.2.2.2.2.2.2.2.1
  have hi145 := r7.1.1.2.2.2.2.2.2.2.2.2.2.2.2.2.2.2.2.2.2.2.2.2.2.2.2.2.2.2.2.2.2.2.2.2.2.2.2.2.2.2.2.2.2.2.2.2.2
  have hb77 := r7.1.2.1
  have hb78 := r7.1.2.2.1
  have hb79 := r7.1.2.2.2.1
  have hb80 := r7.1.2.2.2.2.1
  have hb81 := r7.1.2.2.2.2.2.1
  have hb82 := r7.1.2.2.2.2.2.2.1
  have hb83 := r7.1.2.2.2.2.2.2.2.1
  have hb84 := r7.1.2.2.2.2.2.2.2.2.1
  have hb85 := r7.1.2.2.2.2.2.2.2.2.2.1
  have hb86 := r7.1.2.2.2.2.2.2.2.2.2.2.1
  have hb87 := r7.1.2.2.2.2.2.2.2.2.2.2.2.1
  have hb88 := r7.1.2.2.2.2.2.2.2.2.2.2.2.2.1
  have hb89 := r7.1.2.2.2.2.2.2.2.2.2.2.2.2.2.1
  have hb90 := r7.1.2.2.2.2.2.2.2.2.2.2.2.2.2.2.1
  have hb91 := r7.1.2.2.2.2.2.2.2.2.2.2.2.2.2.2.2.1
  have hb92 := r7.1.2.2.2.2.2.2.2.2.2.2.2.2.2.2.2.2.1
  have hb93 := r7.1.2.2.2.2.2.2.2.2.2.2.2.2.2.2.2.2.2.1
  have hb94 := r7.1.2.2.2.2.2.2.2.2.2.2.2.2.2.2.2.2.2.2.1
  have hb95 := r7.1.2.2.2.2.2.2.2.2.2.2.2.2.2.2.2.2.2.2.2.1
  have hb96 := r7.1.2.2.2.2.2.2.2.2.2.2.2.2.2.2.2.2.2.2.2.2.1
  have hb97 := r7.1.2.2.2.2.2.2.2.2.2.2.2.2.2.2.2.2.2.2.2.2.2.1
  have hb98 := r7.1.2.2.2.2.2.2.2.2.2.2.2.2.2.2.2.2.2.2.2.2.2.2.1
  have hb99 := r7.1.2.2.2.2.2.2.2.2.2.2.2.2.2.2.2.2.2.2.2.2.2.2.2.1
  have hb100 := r7.1.2.2.2.2.2.2.2.2.2.2.2.2.2.2.2.2.2.2.2.2.2.2.2.2.1
  have hb101 := r7.1.2.2.2.2.2.2.2.2.2.2.2.2.2.2.2.2.2.2.2.2.2.2.2.2.2.1
  have hb102 := r7.1.2.2.2.2.2.2.2.2.2.2.2.2.2.2.2.2.2.2.2.2.2.2.2.2.2.2.1
  have hb103 := r7.1.2.2.2.2.2.2.2.2.2.2.2.2.2.2.2.2.2.2.2.2.2.2.2.2.2.2.2.1
  have hb104 := r7.1.2.2.2.2.2.2.2.2.2.2.2.2.2.2.2.2.2.2.2.2.2.2.2.2.2.2.2.2.1
  have hb105 := r7.1.2.2.2.2.2.2.2.2.2.2.2.2.2.2.2.2.2.2.2.2.2.2.2.2.2.2.2.2.2.1
  have hb106 := r7.1.2.2.2.2.2.2.2.2.2.2.2.2.2.2.2.2.2.2.2.2.2.2.2.2.2.2.2.2.2.2.1
  have hb107 := r7.1.2.2.2.2.2.2.2.2.2.2.2.2.2.2.2.2.2.2.2.2.2.2.2.2.2.2.2.2.2.2.2.1
  have hb108 := r7.1.2.2.2.2.2.2.2.2.2.2.2.2.2.2.2.2.2.2.2.2.2.2.2.2.2.2.2.2.2.2.2.2.1
  have hb109 := r7.1.2.2.2.2.2.2.2.2.2.2.2.2.2.2.2.2.2.2.2.2.2.2.2.2.2.2.2.2.2.2.2.2.2.1
  have hb110 := r7.1.2.2.2.2.2.2.2.2.2.2.2.2.2.2.2.2.2.2.2.2.2.2.2.2.2.2.2.2.2.2.2.2.2.2.1
  have hb111 := r7.1.2.2.2.2.2.2.2.2.2.2.2.2.2.2.2.2.2.2.2.2.2.2.2.2.2.2.2.2.2.2.2.2.2.2.2.1
  have hb112 := r7.1.2.2.2.2.2.2.2.2.2.2.2.2.2.2.2.2.2.2.2.2.2.2.2.2.2.2.2.2.2.2.2.2.2.2.2.2.1
  have hb113 := r7.1.2.2.2.2.2.2.2.2.2.2.2.2.2.2.2.2.2.2.2.2.2.2.2.2.2.2.2.2.2.2.2.2.2.2.2.2.2
  have r8 := r7.2
  clear r7
  have hi146 := r8.1.1.1
  have hi147 := r8.1.1.2.1
  have hi148 := r8.1.1.2.2.1
  have hi149 := r8.1.1.2.2.2.1
  have hi150 := r8.1.1.2.2.2.2.1
  have hi151 := r8.1.1.2.2.2.2.2.1
  have hi152 := r8.1.1.2.2.2.2.2.2.1
  have hi153 := r8.1.1.2.2.2.2.2.2.2.1
  have hi154 := r8.1.1.2.2.2.2.2.2.2.2.1
  have hi155 := r8.1.1.2.2.2.2.2.2.2.2.2.1
  have hi156 := r8.1.1.2.2.2.2.2.2.2.2.2.2.1
  have hi157 := r8.1.1.2.2.2.2.2.2.2.2.2.2.2.1
  have hi158 := r8.1.1.2.2.2.2.2.2.2.2.2.2.2.2.1
  have hi159 := r8.1.1.2.2.2.2.2.2.2.2.2.2.2.2.2.1
  have hi160 := r8.1.1.2.2.2.2.2.2.2.2.2.2.2.2.2.2.1
  have hi161 := r8.1.1.2.2.2.2.2.2.2.2.2.2.2.2.2.2.2.1
  have hi162 := r8.1.1.2.2.2.2.2.2.2.2.2.2.2.2.2.2.2.2.1
  have hi163 := r8.1.1.2.2.2.2.2.2.2.2.2.2.2.2.2.2.2.2.2.1
  have hi164 := r8.1.1.2.2.2.2.2.2.2.2.2.2.2.2.2.2.2.2.2.2.1
  have hi165 := r8.1.1.2.2.2.2.2.2.2.2.2.2.2.2.2.2.2.2.2.2.2.1
  have hi166 := r8.1.1.2.2.2.2.2.2.2.2.2.2.2.2.2.2.2.2.2.2.2.2.1
  have hi167 := r8.1.1.2.2.2.2.2.2.2.2.2.2.2.2.2.2.2.2.2.2.2.2.2.1
  have hi168 := r8.1.1.2.2.2.2.2.2.2.2.2.2.2.2.2.2.2.2.2.2.2.2.2.2.1
  have hi169 := r8.1.1.2.2.2.2.2.2.2.2.2.2.2.2.2.2.2.2.2.2.2.2.2.2.2.1
  have hi170 := r8.1.1.2.2.2.2.2.2.2.2.2.2.2.2.2.2.2.2.2.2.2.2.2.2.2.2.1
  have hi171 := r8.1.1.2.2.2.2.2.2.2.2.2.2.2.2.2.2.2.2.2.2.2.2.2.2.2.2.2.1
  have hi172 := r8.1.1.2.2.2.2.2.2.2.2.2.2.2.2.2.2.2.2.2.2.2.2.2.2.2.2.2.2.1
  have hi173 := r8.1.1.2.2.2.2.2.2.2.2.2.2.2.2.2.2.2.2.2.2.2.2.2.2.2.2.2.2.2.1
  have hi174 := r8.1.1.2.2.2.2.2.2.2.2.2.2.2.2.2.2.2.2.2.2.2.2.2.2.2.2.2.2.2.2.1
  have hi175 := r8.1.1.2.2.2.2.2.2.2.2.2.2.2.2.2.2.2.2.2.2.2.2.2.2.2.2.2.2.2.2.2.1
  have hi176 := r8.1.1.2.2.2.2.2.2.2.2.2.2.2.2.2.2.2.2.2.2.2.2.2.2.2.2.2.2.2.2.2.2.1
  have hi177 := r8.1.1.2.2.2.2.2.2.2.2.2.2.2.2.2.2.2.2.2.2.2.2.2.2.2.2.2.2.2.2.2.2.2.1
  have hi178 := r8.1.1.2.2.2.2.2.2.2.2.2.2.2.2.2.2.2.2.2.2.2.2.2.2.2.2.2.2.2.2.2.2.2.2.1
  have hi179 := r8.1.1.2.2.2.2.2.2.2.2.2.2.2.2.2.2.2.2.2.2.2.2.2.2.2.2.2.2.2.2.2.2.2.2.2.1
  have hi180 := r8.1.1.2.2.2.2.2.2.2.2.2.2.2.2.2.2.2.2.2.2.2.2.2.2.2.2.2.2.2.2.2.2.2.2.2.2.1
  have hi181 := r8.1.1.2.2.2.2.2.2.2.2.2.2.2.2.2.2.2.2.2.2.2.2.2.2.2.2.2.2.2.2.2.2.2.2.2.2.2.1
  have hi182 := r8.1.1.2.2.2.2.2.2.2.2.2.2.2.2.2.2.2.2.2.2.2.2.2.2.2.2.2.2.2.2.2.2.2.2.2.2.2.2.1
  have hi183 := r8.1.1.2.2.2.2.2.2.2.2.2.2.2.2.2.2.2.2.2.2.2.2.2.2.2.2.2.2.2.2.2.2.2.2.2.2.2.2.2.1
  have hi184 := r8.1.1.2.2.2.2.2.2.2.2.2.2.2.2.2.2.2.2.2.2.2.2.2.2.2.2.2.2.2.2.2.2.2.2.2.2.2.2.2.2.1
  have hi185 := r8.1.1.2.2.2.2.2.2.2.2.2.2.2.2.2.2.2.2.2.2.2.2.2.2.2.2.2.2.2.2.2.2.2.2.2.2.2.2.2.2.2.1
  have hi186 := r8.1.1.2.2.2.2.2.2.2.2.2.2.2.2.2.2.2.2.2.2.2.2.2.2.2.2.2.2.2.2.2.2.2.2.2.2.2.2.2.2.2.2.1
  have hi187 := r8.1.1.2.2.2.2.2.2.2.2.2.2.2.2.2.2.2.2.2.2.2.2.2.2.2.2.2.2.2.2.2.2.2.2.2.2.2.2.2.2.2.2.2.1
  have hi188 := r8.1.1.2.2.2.2.2.2.2.2.2.2.2.2.2.2.2.2.2.2.2.2.2.2.2.2.2.2.2.2.2.2.2.2.2.2.2.2.2.2.2.2.2.2.1
  have hi189 := r8.1.1.2.2.2.2.2.2.2.2.2.2.2.2.2.2.2.2.2.2.2.2.2.2.2.2.2.2.2.2.2.2.2.2.2.2.2.2.2.2.2.2.2.2.2.1
  have hi190 := r8.1.1.2.2.2.2.2.2.2.2.2.2.2.2.2.2.2.2.2.2.2.2.2.2.2.2.2.2.2.2.2.2.2.2.2.2.2.2.2.2.2.2.2.2.2.2.1
  have hi191 := r8.1.1.2.2.2.2.2.2.2.2.2.2.2.2.2.2.2.2.2.2.2.2.2.2.2.2.2.2.2.2.2.2.2.2.2.2.2.2.2.2.2.2.2.2.2.2.2.1
  have hi192 := r8.1.1.2.2.2.2.2.2.2.2.2.2.2.2.2.2.2.2.2.2.2.2.2.2.2.2.2.2.2.2.2.2.2.2.2.2.2.2.2.2.2.2.2.2.2.2.2.2.1
  have hi193 := r8.1.1.2.2.2.2.2.2.2.2.2.2.2.2.2.2.2.2.2.2.2.2.2.2.2.2.2.2.2.2.2.2.2.2.2.2.2.2.2.2.2.2.2.2.2.2.2.2.2
  have hb114 := r8.1.2.1
  have hb115 := r8.1.2.2.1
  have hb116 := r8.1.2.2.2.1
  have hb117 := r8.1.2.2.2.2.1
  have hb118 := r8.1.2.2.2.2.2.1
  have hb119 := r8.1.2.2.2.2.2.2.1
  have hb120 := r8.1.2.2.2.2.2.2.2.1
  have hb121 := r8.1.2.2.2.2.2.2.2.2.1
  have hb122 := r8.1.2.2.2.2.2.2.2.2.2.1
  have hb123 := r8.1.2.2.2.2.2.2.2.2.2.2.1
  have hb124 := r8.1.2.2.2.2.2.2.2.2.2.2.2.1
  have hb125 := r8.1.2.2.2.2.2.2.2.2.2.2.2.2.1
  have hb126 := r8.1.2.2.2.2.2.2.2.2.2.2.2.2.2.1
  have hb127 := r8.1.2.2.2.2.2.2.2.2.2.2.2.2.2.2.1
  have hb128 := r8.1.2.2.2.2.2.2.2.2.2.2.2.2.2.2.2.1
  have hb129 := r8.1.2.2.2.2.2.2.2.2.2.2.2.2.2.2.2.2.1
  have hb130 := r8.1.2.2.2.2.2.2.2.2.2.2.2.2.2.2.2.2.2.1
  have hb131 := r8.1.2.2.2.2.2.2.2.2.2.2.2.2.2.2.2.2.2.2.1
  have hb132 := r8.1.2.2.2.2.2.2.2.2.2.2.2.2.2.2.2.2.2.2.2.1
  have hb133 := r8.1.2.2.2.2.2.2.2.2.2.2.2.2.2.2.2.2.2.2.2.2.1
  have hb134 := r8.1.2.2.2.2.2.2.2.2.2.2.2.2.2.2.2.2.2.2.2.2.2.1
  have hb135 := r8.1.2.2.2.2.2.2.2.2.2.2.2.2.2.2.2.2.2.2.2.2.2.2.1
  have hb136 := r8.1.2.2.2.2.2.2.2.2.2.2.2.2.2.2.2.2.2.2.2.2.2.2.2.1
  have hb137 := r8.1.2.2.2.2.2.2.2.2.2.2.2.2.2.2.2.2.2.2.2.2.2.2.2.2.1
  have hb138 := r8.1.2.2.2.2.2.2.2.2.2.2.2.2.2.2.2.2.2.2.2.2.2.2.2.2.2.1
  have hb139 := r8.1.2.2.2.2.2.2.2.2.2.2.2.2.2.2.2.2.2.2.2.2.2.2.2.2.2.2.1
  have hb140 := r8.1.2.2.2.2.2.2.2.2.2.2.2.2.2.2.2.2.2.2.2.2.2.2.2.2.2.2.2.1
  have hb141 := r8.1.2.2.2.2.2.2.2.2.2.2.2.2.2.2.2.2.2.2.2.2.2.2.2.2.2.2.2.2.1
  have hb142 := r8.1.2.2.2.2.2.2.2.2.2.2.2.2.2.2.2.2.2.2.2.2.2.2.2.2.2.2.2.2.2.1
  have hb143 := r8.1.2.2.2.2.2.2.2.2.2.2.2.2.2.2.2.2.2.2.2.2.2.2.2.2.2.2.2.2.2.2.1
  have hb144 := r8.1.2.2.2.2.2.2.2.2.2.2.2.2.2.2.2.2.2.2.2.2.2.2.2.2.2.2.2.2.2.2.2.1
  have hb145 := r8.1.2.2.2.2.2.2.2.2.2.2.2.2.2.2.2.2.2.2.2.2.2.2.2.2.2.2.2.2.2.2.2.2.1
  have hb146 := r8.1.2.2.2.2.2.2.2.2.2.2.2.2.2.2.2.2.2.2.2.2.2.2.2.2.2.2.2.2.2.2.2.2.2.1
  have hb147 := r8.1.2.2.2.2.2.2.2.2.2.2.2.2.2.2.2.2.2.2.2.2.2.2.2.2.2.2.2.2.2.2.2.2.2.2.1
  have hb148 := r8.1.2.2.2.2.2.2.2.2.2.2.2.2.2.2.2.2.2.2.2.2.2.2.2.2.2.2.2.2.2.2.2.2.2.2.2.1
  have hb149 := r8.1.2.2.2.2.2.2.2.2.2.2.2.2.2.2.2.2.2.2.2.2.2.2.2.2.2.2.2.2.2.2.2.2.2.2.2.2
  have r9 := r8.2
  clear r8
  have hb150 := r9.1
  have r10 := r9.2
  clear r9
  have hb151 := r10.1
  have r11 := r10.2
  clear r10
  have hb152 := r11.1
  have r12 := r11.2
  clear r11
  have hi194 := r12.1
  have r13 := r12.2
  clear r12
  have hi195 := r13.1
  have r14 := r13.2
  clear r13
  have hb153 := r14.1
  have r15 := r14.2
  clear r14
  have hb154 := r15.1
  have r16 := r15.2
  clear r15
  have hb155 := r16.1
  have r17 := r16.2
  clear r16
  have hb156 := r17.1
  have r18 := r17.2
  clear r17
  have hb157 := r18.1
  have r19 := r18.2
  clear r18
  have hb158 := r19.1
  have r20 := r19.2
  clear r19
  have hb159 := r20.1
  have r21 := r20.2
  clear r20
  have hb160 := r21.1
  have r22 := r21.2
  clear r21
  have hb161 := r22.1
  have r23 := r22.2
  clear r22
  have hb162 := r23.1
  have r24 := r23.2
  clear r23
  have hb163 := r24.1
  have r25 := r24.2
  clear r24
  have hb164 := r25.1
  have r26 := r25.2
  clear r25
  have hb165 := r26.1
  have r27 := r26.2
  clear r26
  have hb166 := r27.1
  have r28 := r27.2
  clear r27
  have hb167 := r28.1
  have r29 := r28.2
  clear r28
  have hb168 := r29.1
  have r30 := r29.2
  clear r29
  have hb169 := r30.1
  have r31 := r30.2
  clear r30
  have hb170 := r31.1
  have r32 := r31.2
  clear r31
  have hb171 := r32.1
  have r33 := r32.2
  clear r32
  have hb172 := r33.1
  have r34 := r33.2
  clear r33
  have hb173 := r34.1
  have r35 := r34.2
  clear r34
  have hb174 := r35.1
  have r36 := r35.2
  clear r35
  have hb175 := r36.1
  have r37 := r36.2
  clear r36
  have hb176 := r37.1
  have r38 := r37.2
  clear r37
  have hb177 := r38.1
  have r39 := r38.2
  clear r38
  have hb178 := r39.1
  have r40 := r39.2
  clear r39
  have hb179 := r40.1
  have r41 := r40.2
  clear r40
  have hb180 := r41.1
  have r42 := r41.2
  clear r41
  have hb181 := r42.1
  have r43 := r42.2
  clear r42
  have hb182 := r43.1
  have r44 := r43.2
  clear r43
  have hb183 := r44.1
  have r45 := r44.2
  clear r44
  have hb184 := r45.1
  have r46 := r45.2
  clear r45
  have hb185 := r46.1
  have r47 := r46.2
  clear r46
  have hb186 := r47.1
  have r48 := r47.2
  clear r47
  have hb187 := r48.1
  have r49 := r48.2
  clear r48
  have hb188 := r49.1
  have r50 := r49.2
  clear r49
  have hb189 := r50.1
  have r51 := r50.2
  clear r50
  have hb190 := r51.1
  have r52 := r51.2
  clear r51
  have hb191 := r52.1
  have r53 := r52.2
  clear r52
  have hb192 := r53.1
  have r54 := r53.2
  clear r53
  have hb193 := r54.1
  have r55 := r54.2
  clear r54
  have hb194 := r55.1
  have r56 := r55.2
  clear r55
  have hb195 := r56.1
  have r57 := r56.2
  clear r56
  have hb196 := r57.1
  have r58 := r57.2
  clear r57
  have hb197 := r58.1
  have r59 := r58.2
  clear r58
  have hb198 := r59.1
  have r60 := r59.2
  clear r59
  have hb199 := r60.1
  have r61 := r60.2
  clear r60
  have hb200 := r61.1
  have r62 := r61.2
  clear r61
  have hb201 := r62.1
  have r63 := r62.2
  clear r62
  have hb202 := r63.1
  have r64 := r63.2
  clear r63
  have hb203 := r64.1
  have r65 := r64.2
  clear r64
  have hb204 := r65.1
  have r66 := r65.2
  clear r65
  have hb205 := r66.1
  have r67 := r66.2
  clear r66
  have hb206 := r67.1
  have r68 := r67.2
  clear r67
  have hb207 := r68.1
  have r69 := r68.2
  clear r68
  have hb208 := r69.1
  have r70 := r69.2
  clear r69
  have hb209 := r70.1
  have r71 := r70.2
  clear r70
  have hb210 := r71.1
  have r72 := r71.2
  clear r71
  have hb211 := r72.1
  have r73 := r72.2
  clear r72
  have hb212 := r73.1
  have r74 := r73.2
  clear r73
  have hb213 := r74.1
  have r75 := r74.2
  clear r74
  have hb214 := r75.1
  have r76 := r75.2
  clear r75
  have hb215 := r76.1
  have r77 := r76.2
  clear r76
  have hb216 := r77.1
  have r78 := r77.2
  clear r77
  have hb217 := r78.1
  have r79 := r78.2
  clear r78
  have hb218 := r79.1
  have r80 := r79.2
  clear r79
  have hb219 := r80.1
  have r81 := r80.2
  clear r80
  have hb220 := r81.1
  have r82 := r81.2
  clear r81
  have hb221 := r82.1
  have r83 := r82.2
  clear r82
  have hb222 := r83.1
  have r84 := r83.2
  clear r83
  have hb223 := r84.1
  have r85 := r84.2
  clear r84
  have hb224 := r85.1
  have r86 := r85.2
  clear r85
  have hb225 := r86.1
  have r87 := r86.2
  clear r86
  have hb226 := r87.1
  have r88 := r87.2
  clear r87
  have hb227 := r88.1
  have r89 := r88.2
  clear r88
  have hb228 := r89.1
  have r90 := r89.2
  clear r89
  have hb229 := r90.1
  have r91 := r90.2
  clear r90
  have hb230 := r91.1
  have r92 := r91.2
  clear r91
  have hb231 := r92.1
  have r93 := r92.2
  clear r92
  have hb232 := r93.1
  have r94 := r93.2
  clear r93
  have hb233 := r94.1
  have r95 := r94.2
  clear r94
  have hb234 := r95.1
  have r96 := r95.2
  clear r95
  have hb235 := r96.1
  have r97 := r96.2
  clear r96
  have hb236 := r97.1
  have r98 := r97.2
  clear r97
  have hb237 := r98.1
  have r99 := r98.2
  clear r98
  have hb238 := r99.1
  have r100 := r99.2
  clear r99
  have hb239 := r100.1
  have r101 := r100.2
  clear r100
  have hb240 := r101.1
  have r102 := r101.2
  clear r101
  have hb241 := r102.1
  have r103 := r102.2
  clear r102
  have hb242 := r103.1
  have r104 := r103.2
  clear r103
  have hb243 := r104.1
  have r105 := r104.2
  clear r104
  have hb244 := r105.1
  have r106 := r105.2
  clear r105
  have hb245 := r106.1
  have r107 := r106.2
  clear r106
  have hb246 := r107.1
  have r108 := r107.2
  clear r107
  have hb247 := r108.1
  have r109 := r108.2
  clear r108
  have hb248 := r109.1
  have r110 := r109.2
  clear r109
  have hb249 := r110.1
  have r111 := r110.2
  clear r110
  have hb250 := r111.1
  have r112 := r111.2
  clear r111
  have hb251 := r112.1
  have r113 := r112.2
  clear r112
  have hb252 := r113.1
  have r114 := r113.2
  clear r113
  have hb253 := r114.1
  have r115 := r114.2
  clear r114
  have hb254 := r115.1
  have r116 := r115.2
  clear r115
  have hb255 := r116.1
  have r117 := r116.2
  clear r116
  have hb256 := r117.1
  have r118 := r117.2
  clear r117
  have hb257 := r118.1
  have r119 := r118.2
  clear r118
  have hb258 := r119.1
  have r120 := r119.2
  clear r119
  have hb259 := r120.1
  have r121 := r120.2
  clear r120
  have hb260 := r121.1
  have r122 := r121.2
  clear r121
  have hb261 := r122.1
  have r123 := r122.2
  clear r122
  have hb262 := r123.1
  have r124 := r123.2
  clear r123
  have hb263 := r124.1
  have r125 := r124.2
  clear r124
  have hb264 := r125.1
  have r126 := r125.2
  clear r125
  have hb265 := r126.1
  have r127 := r126.2
  clear r126
  have hb266 := r127.1
  have r128 := r127.2
  clear r127
  have hb267 := r128.1
  have r129 := r128.2
  clear r128
  have hb268 := r129.1
  have r130 := r129.2
  clear r129
  have hb269 := r130.1
  have r131 := r130.2
  clear r130
  have hb270 := r131.1
  have r132 := r131.2
  clear r131
  have hb271 := r132.1
  have r133 := r132.2
  clear r132
  have hb272 := r133.1
  have r134 := r133.2
  clear r133
  have hb273 := r134.1
  have r135 := r134.2
  clear r134
  have hb274 := r135.1
  have r136 := r135.2
  clear r135
  have hb275 := r136.1
  have r137 := r136.2
  clear r136
  have hb276 := r137.1
  have r138 := r137.2
  clear r137
  have hb277 := r138.1
  have r139 := r138.2
  clear r138
  have hb278 := r139.1
  have r140 := r139.2
  clear r139
  have hb279 := r140.1
  have r141 := r140.2
  clear r140
  have hb280 := r141.1
  have r142 := r141.2
  clear r141
  have hb281 := r142.1
  have r143 := r142.2
  clear r142
  have hb282 := r143.1
  have r144 := r143.2
  clear r143
  have hb283 := r144.1
  have r145 := r144.2
  clear r144
  have hb284 := r145.1
  have r146 := r145.2
  clear r145
  have hb285 := r146.1
  have r147 := r146.2
  clear r146
  have hb286 := r147.1
  have r148 := r147.2
  clear r147
  have hb287 := r148.1
  have r149 := r148.2
  clear r148
  have hb288 := r149.1
  have r150 := r149.2
  clear r149
  have hb289 := r150.1
  have r151 := r150.2
  clear r150
  have hb290 := r151.1
  have r152 := r151.2
  clear r151
  have hb291 := r152.1
  have r153 := r152.2
  clear r152
  have hb292 := r153.1
  have r154 := r153.2
  clear r153
  have hb293 := r154.1
  have r155 := r154.2
  clear r154
  have hb294 := r155.1
  have r156 := r155.2
  clear r155
  have hb295 := r156.1
  have r157 := r156.2
  clear r156
  have hb296 := r157.1
  have r158 := r157.2
  clear r157
  have hb297 := r158.1
  have r159 := r158.2
  clear r158
  have hb298 := r159.1
  have r160 := r159.2
  clear r159
  have hb299 := r160.1
  have r161 := r160.2
  clear r160
  have hb300 := r161.1
  have r162 := r161.2
  clear r161
  have hb301 := r162.1
  have r163 := r162.2
  clear r162
  have hb302 := r163.1
  have r164 := r163.2
  clear r163
  have hb303 := r164.1
  have r165 := r164.2
  clear r164
  have hb304 := r165.1
  have r166 := r165.2
  clear r165
  have hb305 := r166.1
  have r167 := r166.2
  clear r166
  have hb306 := r167.1
  have r168 := r167.2
  clear r167
  have hb307 := r168.1
  have r169 := r168.2
  clear r168
  have hb308 := r169.1
  have r170 := r169.2
  clear r169
  have hb309 := r170.1
  have r171 := r170.2
  clear r170
  have hb310 := r171.1
  have r172 := r171.2
  clear r171
  have hb311 := r172.1
  have r173 := r172.2
  clear r172
  have hb312 := r173.1
  have r174 := r173.2
  clear r173
  have hb313 := r174.1
  have r175 := r174.2
  clear r174
  have hb314 := r175.1
  have r176 := r175.2
  clear r175
  have hb315 := r176.1
  have r177 := r176.2
  clear r176
  have hb316 := r177.1
  have r178 := r177.2
  clear r177
  have hb317 := r178.1
  have r179 := r178.2
  clear r178
  have hb318 := r179.1
  have r180 := r179.2
  clear r179
  have hb319 := r180.1
  have r181 := r180.2
  clear r180
  have hb320 := r181.1
  have r182 := r181.2
  clear r181
  have hb321 := r182.1
  have r183 := r182.2
  clear r182
  have hb322 := r183.1
  have r184 := r183.2
  clear r183
  have hb323 := r184.1
  have r185 := r184.2
  clear r184
  have hb324 := r185.1.1
  have hb325 := r185.1.2
  have r186 := r185.2
  clear r185
  have hb326 := r186.1
  have r187 := r186.2
  clear r186
  have hi196 := r187.1
  have r188 := r187.2
  clear r187
  have hb327 := r188.1
  have r189 := r188.2
  clear r188
  have hb328 := r189.1
  have r190 := r189.2
  clear r189
  have hb329 := r190.1
  have r191 := r190.2
  clear r190
  have hb330 := r191.1
  have r192 := r191.2
  clear r191
  have hb331 := r192.1
  have r193 := r192.2
  clear r192
  have hb332 := r193.1
  have r194 := r193.2
  clear r193
  have hb333 := r194.1
  have r195 := r194.2
  clear r194
  have hb334 := r195.1
  have r196 := r195.2
  clear r195
  have hi197 := r196.1
  have r197 := r196.2
  clear r196
  have hi198 := r197.1
  have r198 := r197.2
  clear r197
  have hi199 := r198.1
  have r199 := r198.2
  clear r198
  have hi200 := r199.1
  have r200 := r199.2
  clear r199
  have hi201 := r200.1
  have r201 := r200.2
  clear r200
  have hi202 := r201.1
  have r202 := r201.2
  clear r201
  have hi203 := r202.1
  have r203 := r202.2
  clear r202
  have hb335 := r203.1
  have r204 := r203.2
  clear r203
  have hi204 := r204.1
  have r205 := r204.2
  clear r204
  have hi205 := r205.1
  have r206 := r205.2
  clear r205
  have hb336 := r206.1
  have r207 := r206.2
  clear r206
  have hi206 := r207.1
  have r208 := r207.2
  clear r207
  have hb337 := r208.1
  have r209 := r208.2
  clear r208
  have hb338 := r209.1
  have r210 := r209.2
  clear r209
  have hb339 := r210.1
  have r211 := r210.2
  clear r210
  have hi207 := r211.1
  have r212 := r211.2
  clear r211
  have hi208 := r212.1
  have r213 := r212.2
  clear r212
  have hi209 := r213.1
  have r214 := r213.2
  clear r213
  have hb340 := r214.1
  have r215 := r214.2
  clear r214
  have hb341 := r215.1
  have r216 := r215.2
  clear r215
  have hi210 := r216.1
  have r217 := r216.2
  clear r216
  have hb342 := r217.1
  have r218 := r217.2
  clear r217
  have hi211 := r218.1
  have r219 := r218.2
  clear r218
  have hi212 := r219.1
  have r220 := r219.2
  clear r219
  have hi213 := r220.1
  have r221 := r220.2
  clear r220
  have hb343 := r221.1
  have r222 := r221.2
  clear r221
  have hb344 := r222.1
  have r223 := r222.2
  clear r222
  have hb345 := r223.1
  have r224 := r223.2
  clear r223
  have hi214 := r224.1
  have r225 := r224.2
  clear r224
  have hi215 := r225.1
  have r226 := r225.2
  clear r225
  have hi216 := r226.1
  have r227 := r226.2
  clear r226
  have hi217 := r227.1
  have r228 := r227.2
  clear r227
  have hi218 := r228.1
  have r229 := r228.2
  clear r228
  have hi219 := r229.1
  have r230 := r229.2
  clear r229
  have hi220 := r230.1
  have r231 := r230.2
  clear r230
  have hb346 := r231.1
  have r232 := r231.2
  clear r231
  have hi221 := r232.1
  have r233 := r232.2
  clear r232
  have hi222 := r233.1
  have r234 := r233.2
  clear r233
  have hb347 := r234.1
  have r235 := r234.2
  clear r234
  have hi223 := r235.1
  have r236 := r235.2
  clear r235
  have hb348 := r236.1
  have r237 := r236.2
  clear r236
  have hb349 := r237.1
  have r238 := r237.2
  clear r237
  have hi224 := r238.1
  have r239 := r238.2
  clear r238
  have hi225 := r239.1
  have r240 := r239.2
  clear r239
  have hi226 := r240.1
  have r241 := r240.2
  clear r240
  have hb350 := r241.1
  have r242 := r241.2
  clear r241
  have hi227 := r242.1
  have r243 := r242.2
  clear r242
  have hi228 := r243.1
  have r244 := r243.2
  clear r243
  have hi229 := r244.1
  have r245 := r244.2
  clear r244
  have hb351 := r245.1
  have r246 := r245.2
  clear r245
  have hb352 := r246.1
  have r247 := r246.2
  clear r246
  have hb353 := r247.1
  have r248 := r247.2
  clear r247
  have hi230 := r248.1
  have r249 := r248.2
  clear r248
  have hi231 := r249.1
  have r250 := r249.2
  clear r249
  have hi232 := r250.1
  have r251 := r250.2
  clear r250
  have hb354 := r251.1
  have r252 := r251.2
  clear r251
  have hb355 := r252.1
  have r253 := r252.2
  clear r252
  have hi233 := r253.1
  have r254 := r253.2
  clear r253
  have hb356 := r254.1
  have r255 := r254.2
  clear r254
  have hi234 := r255.1
  have r256 := r255.2
  clear r255
  have hi235 := r256.1
  have r257 := r256.2
  clear r256
  have hi236 := r257.1
  have r258 := r257.2
  clear r257
  have hb357 := r258.1
  have r259 := r258.2
  clear r258
  have hb358 := r259.1
  have r260 := r259.2
  clear r259
  have hb359 := r260.1
  have r261 := r260.2
  clear r260
  have hi237 := r261.1
  have r262 := r261.2
  clear r261
  have hi238 := r262.1
  have r263 := r262.2
  clear r262
  have hi239 := r263.1
  have r264 := r263.2
  clear r263
  have hi240 := r264.1
  have r265 := r264.2
  clear r264
  have hi241 := r265.1
  have r266 := r265.2
  clear r265
  have hi242 := r266.1
  have r267 := r266.2
  clear r266
  have hi243 := r267.1
  have r268 := r267.2
  clear r267
  have hb360 := r268.1
  have r269 := r268.2
  clear r268
  have hi244 := r269.1
  have r270 := r269.2
  clear r269
  have hi245 := r270.1
  have r271 := r270.2
  clear r270
  have hb361 := r271.1
  have r272 := r271.2
  clear r271
  have hi246 := r272.1
  have r273 := r272.2
  clear r272
  have hb362 := r273.1
  have r274 := r273.2
  clear r273
  have hb363 := r274.1
  have r275 := r274.2
  clear r274
  have hb364 := r275.1
  have r276 := r275.2
  clear r275
  have hb365 := r276.1
  have r277 := r276.2
  clear r276
  have hi247 := r277.1
  have r278 := r277.2
  clear r277
  have hi248 := r278.1
  have r279 := r278.2
  clear r278
  have hi249 := r279.1
  have r280 := r279.2
  clear r279
  have hb366 := r280.1
  have r281 := r280.2
  clear r280
  have hb367 := r281.1
  have r282 := r281.2
  clear r281
  have hi250 := r282.1
  have r283 := r282.2
  clear r282
  have hi251 := r283.1
  have r284 := r283.2
  clear r283
  have hi252 := r284.1
  have r285 := r284.2
  clear r284
  have hi253 := r285.1
  have r286 := r285.2
  clear r285
  have hi254 := r286.1
  have r287 := r286.2
  clear r286
  have hb368 := r287.1
  have r288 := r287.2
  clear r287
  have hb369 := r288.1
  have r289 := r288.2
  clear r288
  have hb370 := r289.1
  have r290 := r289.2
  clear r289
  have hi255 := r290.1
  have r291 := r290.2
  clear r290
  have hi256 := r291.1
  have r292 := r291.2
  clear r291
  have hi257 := r292.1
  have r293 := r292.2
  clear r292
  have hb371 := r293.1
  have r294 := r293.2
  clear r293
  have hb372 := r294.1
  have r295 := r294.2
  clear r294
  have hi258 := r295.1
  have r296 := r295.2
  clear r295
  have hi259 := r296.1
  have r297 := r296.2
  clear r296
  have hi260 := r297.1
  have r298 := r297.2
  clear r297
  have hb373 := r298.1
  have r299 := r298.2
  clear r298
  have hi261 := r299.1
  have r300 := r299.2
  clear r299
  have hi262 := r300.1
  have r301 := r300.2
  clear r300
  have hi263 := r301.1
  have r302 := r301.2
  clear r301
  have hb374 := r302.1
  have r303 := r302.2
  clear r302
  have hb375 := r303.1
  have r304 := r303.2
  clear r303
  have hb376 := r304.1
  have r305 := r304.2
  clear r304
  have hi264 := r305.1
  have r306 := r305.2
  clear r305
  have hi265 := r306.1
  have r307 := r306.2
  clear r306
  have hi266 := r307.1
  have r308 := r307.2
  clear r307
  have hb377 := r308.1
  have r309 := r308.2
  clear r308
  have hb378 := r309.1
  have r310 := r309.2
  clear r309
  have hi267 := r310.1
  have r311 := r310.2
  clear r310
  have hb379 := r311.1
  have r312 := r311.2
  clear r311
  have hi268 := r312.1
  have r313 := r312.2
  clear r312
  have hi269 := r313.1
  have r314 := r313.2
  clear r313
  have hi270 := r314.1
  have r315 := r314.2
  clear r314
  have hb380 := r315.1
  have r316 := r315.2
  clear r315
  have hb381 := r316.1
  have r317 := r316.2
  clear r316
  have hb382 := r317.1
  have r318 := r317.2
  clear r317
  have hi271 := r318.1
  have r319 := r318.2
  clear r318
  have hi272 := r319.1
  have r320 := r319.2
  clear r319
  have hi273 := r320.1
  have r321 := r320.2
  clear r320
  have hi274 := r321.1
  have r322 := r321.2
  clear r321
  have hi275 := r322.1
  have r323 := r322.2
  clear r322
  have hi276 := r323.1
  have r324 := r323.2
  clear r323
  have hi277 := r324.1
  have r325 := r324.2
  clear r324
  have hb383 := r325.1
  have r326 := r325.2
  clear r325
  have hi278 := r326.1
  have r327 := r326.2
  clear r326
  have hi279 := r327.1
  have r328 := r327.2
  clear r327
  have hb384 := r328.1
  have r329 := r328.2
  clear r328
  have hi280 := r329.1
  have r330 := r329.2
  clear r329
  have hb385 := r330.1
  have r331 := r330.2
  clear r330
  have hb386 := r331.1
  have r332 := r331.2
  clear r331
  have hb387 := r332.1
  have r333 := r332.2
  clear r332
  have hb388 := r333.1
  have r334 := r333.2
  clear r333
  have hi281 := r334.1
  have r335 := r334.2
  clear r334
  have hi282 := r335.1
  have r336 := r335.2
  clear r335
  have hi283 := r336.1
  have r337 := r336.2
  clear r336
  have hb389 := r337.1
  have r338 := r337.2
  clear r337
  have hb390 := r338.1
  have r339 := r338.2
  clear r338
  have hi284 := r339.1
  have r340 := r339.2
  clear r339
  have hi285 := r340.1
  have r341 := r340.2
  clear r340
  have hi286 := r341.1
  have r342 := r341.2
  clear r341
  have hi287 := r342.1
  have r343 := r342.2
  clear r342
  have hi288 := r343.1
  have r344 := r343.2
  clear r343
  have hb391 := r344.1
  have r345 := r344.2
  clear r344
  have hb392 := r345.1
  have r346 := r345.2
  clear r345
  have hb393 := r346.1
  have r347 := r346.2
  clear r346
  have hi289 := r347.1
  have r348 := r347.2
  clear r347
  have hi290 := r348.1
  have r349 := r348.2
  clear r348
  have hi291 := r349.1
  have r350 := r349.2
  clear r349
  have hb394 := r350.1
  have r351 := r350.2
  clear r350
  have hb395 := r351.1
  have r352 := r351.2
  clear r351
  have hb396 := r352.1
  have r353 := r352.2
  clear r352
  have hb397 := r353.1
  have r354 := r353.2
  clear r353
  have hi292 := r354.1
  have r355 := r354.2
  clear r354
  have hi293 := r355.1
  have r356 := r355.2
  clear r355
  have hi294 := r356.1
  have r357 := r356.2
  clear r356
  have hb398 := r357.1
  have r358 := r357.2
  clear r357
  have hb399 := r358.1
  have r359 := r358.2
  clear r358
  have hi295 := r359.1
  have r360 := r359.2
  clear r359
  have hi296 := r360.1
  have r361 := r360.2
  clear r360
  have hi297 := r361.1
  have r362 := r361.2
  clear r361
  have hi298 := r362.1
  have r363 := r362.2
  clear r362
  have hi299 := r363.1
  have r364 := r363.2
  clear r363
  have hb400 := r364.1
  have r365 := r364.2
  clear r364
  have hb401 := r365.1
  have r366 := r365.2
  clear r365
  have hb402 := r366.1
  have r367 := r366.2
  clear r366
  have hi300 := r367.1
  have r368 := r367.2
  clear r367
  have hi301 := r368.1
  have r369 := r368.2
  clear r368
  have hi302 := r369.1
  have r370 := r369.2
  clear r369
  have hb403 := r370.1
  have r371 := r370.2
  clear r370
  have hb404 := r371.1
  have r372 := r371.2
  clear r371
  have hi303 := r372.1
  have r373 := r372.2
  clear r372
  have hi304 := r373.1
  have r374 := r373.2
  clear r373
  have hi305 := r374.1
  have r375 := r374.2
  clear r374
  have hb405 := r375.1
  have r376 := r375.2
  clear r375
  have hi306 := r376.1
  have r377 := r376.2
  clear r376
  have hi307 := r377.1
  have r378 := r377.2
  clear r377
  have hi308 := r378.1
  have r379 := r378.2
  clear r378
  have hb406 := r379.1
  have r380 := r379.2
  clear r379
  have hb407 := r380.1
  have r381 := r380.2
  clear r380
  have hb408 := r381.1
  have r382 := r381.2
  clear r381
  have hi309 := r382.1
  have r383 := r382.2
  clear r382
  have hi310 := r383.1
  have r384 := r383.2
  clear r383
  have hi311 := r384.1
  have r385 := r384.2
  clear r384
  have hb409 := r385.1
  have r386 := r385.2
  clear r385
  have hb410 := r386.1
  have r387 := r386.2
  clear r386
  have hi312 := r387.1
  have r388 := r387.2
  clear r387
  have hb411 := r388.1
  have r389 := r388.2
  clear r388
  have hi313 := r389.1
  have r390 := r389.2
  clear r389
  have hi314 := r390.1
  have r391 := r390.2
  clear r390
  have hi315 := r391.1
  have r392 := r391.2
  clear r391
  have hb412 := r392.1
  have r393 := r392.2
  clear r392
  have hb413 := r393.1
  have r394 := r393.2
  clear r393
  have hb414 := r394.1
  have r395 := r394.2
  clear r394
  have hi316 := r395.1
  have r396 := r395.2
  clear r395
  have hi317 := r396.1
  have r397 := r396.2
  clear r396
  have hi318 := r397.1
  have r398 := r397.2
  clear r397
  have hi319 := r398.1
  have r399 := r398.2
  clear r398
  have hi320 := r399.1
  have r400 := r399.2
  clear r399
  have hi321 := r400.1
  have r401 := r400.2
  clear r400
  have hi322 := r401.1
  have r402 := r401.2
  clear r401
  have hb415 := r402.1
  have r403 := r402.2
  clear r402
  have hi323 := r403.1
  have r404 := r403.2
  clear r403
  have hi324 := r404.1
  have r405 := r404.2
  clear r404
  have hb416 := r405.1
  have r406 := r405.2
  clear r405
  have hi325 := r406.1
  have r407 := r406.2
  clear r406
  have hb417 := r407.1
  have r408 := r407.2
  clear r407
  have hb418 := r408.1
  have r409 := r408.2
  clear r408
  have hb419 := r409.1
  have r410 := r409.2
  clear r409
  have hb420 := r410.1
  have r411 := r410.2
  clear r410
  have hb421 := r411.1
  have r412 := r411.2
  clear r411
  have hb422 := r412.1
  have r413 := r412.2
  clear r412
  have hb423 := r413.1
  have r414 := r413.2
  clear r413
  have hb424 := r414.1
  have r415 := r414.2
  clear r414
  have hb425 := r415.1
  have r416 := r415.2
  clear r415
  have hb426 := r416.1
  have r417 := r416.2
  clear r416
  have hb427 := r417.1
  have r418 := r417.2
  clear r417
  have hb428 := r418.1
  have r419 := r418.2
  clear r418
  have hb429 := r419.1
  have r420 := r419.2
  clear r419
  have hb430 := r420.1
  have r421 := r420.2
  clear r420
  have hb431 := r421.1
  have r422 := r421.2
  clear r421
  have hb432 := r422.1
  have r423 := r422.2
  clear r422
  have hb433 := r423.1
  have r424 := r423.2
  clear r423
  have hb434 := r424.1
  have r425 := r424.2
  clear r424
  have hb435 := r425.1
  have r426 := r425.2
  clear r425
  have hb436 := r426.1
  have r427 := r426.2
  clear r426
  have hb437 := r427.1
  have r428 := r427.2
  clear r427
  have hb438 := r428.1
  have r429 := r428.2
  clear r428
  have hb439 := r429.1
  have r430 := r429.2
  clear r429
  have hb440 := r430.1
  have r431 := r430.2
  clear r430
  have hb441 := r431.1
  have r432 := r431.2
  clear r431
  have hb442 := r432.1
  have r433 := r432.2
  clear r432
  have hb443 := r433.1
  have r434 := r433.2
  clear r433
  have hb444 := r434.1
  have r435 := r434.2
  clear r434
  have hb445 := r435.1
  have r436 := r435.2
  clear r435
  have hb446 := r436.1
  have r437 := r436.2
  clear r436
  have hb447 := r437.1
  have r438 := r437.2
  clear r437
  have hb448 := r438.1
  have r439 := r438.2
  clear r438
  have hb449 := r439.1
  have r440 := r439.2
  clear r439
  have hb450 := r440.1
  have r441 := r440.2
  clear r440
  have hb451 := r441.1
  have r442 := r441.2
  clear r441
  have hb452 := r442.1
  have r443 := r442.2
  clear r442
  have hb453 := r443.1
  have r444 := r443.2
  clear r443
  have hb454 := r444.1
  have r445 := r444.2
  clear r444
  have hb455 := r445.1
  have r446 := r445.2
  clear r445
  have hb456 := r446.1
  have r447 := r446.2
  clear r446
  have hb457 := r447.1
  have r448 := r447.2
  clear r447
  have hb458 := r448.1
  have r449 := r448.2
  clear r448
  have hb459 := r449.1
  have r450 := r449.2
  clear r449
  have hb460 := r450.1
  have r451 := r450.2
  clear r450
  have hb461 := r451.1
  have r452 := r451.2
  clear r451
  have hb462 := r452.1
  have r453 := r452.2
  clear r452
  have hb463 := r453.1
  have r454 := r453.2
  clear r453
  have hb464 := r454.1
  have r455 := r454.2
  clear r454
  have hb465 := r455.1
  have r456 := r455.2
  clear r455
  have hb466 := r456.1
  have r457 := r456.2
  clear r456
  have hb467 := r457.1
  have r458 := r457.2
  clear r457
  have hb468 := r458.1
  have r459 := r458.2
  clear r458
  have hb469 := r459.1
  have r460 := r459.2
  clear r459
  have hb470 := r460.1
  have r461 := r460.2
  clear r460
  have hb471 := r461.1
  have r462 := r461.2
  clear r461
  have hb472 := r462.1
  have r463 := r462.2
  clear r462
  have hb473 := r463.1
  have r464 := r463.2
  clear r463
  have hb474 := r464.1
  have r465 := r464.2
  clear r464
  have hb475 := r465.1
  have r466 := r465.2
  clear r465
  have hb476 := r466.1
  have r467 := r466.2
  clear r466
  have hb477 := r467.1
  have r468 := r467.2
  clear r467
  have hb478 := r468.1
  have r469 := r468.2
  clear r468
  have hb479 := r469.1
  have r470 := r469.2
  clear r469
  have hb480 := r470.1
  have r471 := r470.2
  clear r470
  have hb481 := r471.1
  have r472 := r471.2
  clear r471
  have hb482 := r472.1
  have r473 := r472.2
  clear r472
  have hb483 := r473.1
  have r474 := r473.2
  clear r473
  have hb484 := r474.1
  have r475 := r474.2
  clear r474
  have hb485 := r475.1
  have r476 := r475.2
  clear r475
  have hb486 := r476.1
  have r477 := r476.2
  clear r476
  have hb487 := r477.1
  have r478 := r477.2
  clear r477
  have hb488 := r478.1
  have r479 := r478.2
  clear r478
  have hb489 := r479.1
  have r480 := r479.2
  clear r479
  have hb490 := r480.1
  have r481 := r480.2
  clear r480
  have hb491 := r481.1
  have r482 := r481.2
  clear r481
  have hb492 := r482.1
  have r483 := r482.2
  clear r482
  have hb493 := r483.1
  have r484 := r483.2
  clear r483
  have hb494 := r484.1
  have r485 := r484.2
  clear r484
  have hb495 := r485.1
  have r486 := r485.2
  clear r485
  have hb496 := r486.1
  have r487 := r486.2
  clear r486
  have hb497 := r487.1
  have r488 := r487.2
  clear r487
  have hb498 := r488.1
  have r489 := r488.2
  clear r488
  have hb499 := r489.1
  have r490 := r489.2
  clear r489
  have hb500 := r490.1
  have r491 := r490.2
  clear r490
  have hb501 := r491.1
  have r492 := r491.2
  clear r491
  have hb502 := r492.1
  have r493 := r492.2
  clear r492
  have hb503 := r493.1
  have r494 := r493.2
  clear r493
  have hb504 := r494.1
  have r495 := r494.2
  clear r494
  have hb505 := r495.1
  have r496 := r495.2
  clear r495
  have hb506 := r496.1
  have r497 := r496.2
  clear r496
  have hb507 := r497.1
  have r498 := r497.2
  clear r497
  have hb508 := r498.1
  have r499 := r498.2
  clear r498
  have hb509 := r499.1
  have r500 := r499.2
  clear r499
  have hb510 := r500.1
  have r501 := r500.2
  clear r500
  have hb511 := r501.1
  have r502 := r501.2
  clear r501
  have hb512 := r502.1
  have r503 := r502.2
  clear r502
  have hb513 := r503.1
  have r504 := r503.2
  clear r503
  have hb514 := r504.1
  have r505 := r504.2
  clear r504
  have hb515 := r505.1
  have r506 := r505.2
  clear r505
  have hb516 := r506.1
  have r507 := r506.2
  clear r506
  have hb517 := r507.1
  have r508 := r507.2
  clear r507
  have hb518 := r508.1
  have r509 := r508.2
  clear r508
  have hb519 := r509.1
  have r510 := r509.2
  clear r509
  have hb520 := r510.1
  have r511 := r510.2
  clear r510
  have hb521 := r511.1
  have r512 := r511.2
  clear r511
  have hb522 := r512.1
  have r513 := r512.2
  clear r512
  have hb523 := r513.1
  have r514 := r513.2
  clear r513
  have hb524 := r514.1
  have r515 := r514.2
  clear r514
  have hb525 := r515.1
  have r516 := r515.2
  clear r515
  have hb526 := r516.1
  have r517 := r516.2
  clear r516
  have hb527 := r517.1
  have r518 := r517.2
  clear r517
  have hb528 := r518.1
  have r519 := r518.2
  clear r518
  have hb529 := r519.1
  have r520 := r519.2
  clear r519
  have hb530 := r520.1
  have r521 := r520.2
  clear r520
  have hb531 := r521.1
  have r522 := r521.2
  clear r521
  have hb532 := r522.1
  have r523 := r522.2
  clear r522
  have hb533 := r523.1
  have r524 := r523.2
  clear r523
  have hb534 := r524.1
  have r525 := r524.2
  clear r524
  have hb535 := r525.1
  have r526 := r525.2
  clear r525
  have hb536 := r526.1
  have r527 := r526.2
  clear r526
  have hb537 := r527.1
  have r528 := r527.2
  clear r527
  have hb538 := r528.1
  have r529 := r528.2
  clear r528
  have hb539 := r529.1
  have r530 := r529.2
  clear r529
  have hb540 := r530.1
  have r531 := r530.2
  clear r530
  have hb541 := r531.1
  have r532 := r531.2
  clear r531
  have hb542 := r532.1
  have r533 := r532.2
  clear r532
  have hb543 := r533.1
  have r534 := r533.2
  clear r533
  have hb544 := r534.1
  have r535 := r534.2
  clear r534
  have hb545 := r535.1
  have r536 := r535.2
  clear r535
  have hb546 := r536.1
  have r537 := r536.2
  clear r536
  have hb547 := r537.1
  have r538 := r537.2
  clear r537
  have hb548 := r538.1
  have r539 := r538.2
  clear r538
  have hb549 := r539.1
  have r540 := r539.2
  clear r539
  have hb550 := r540.1
  have r541 := r540.2
  clear r540
  have hb551 := r541.1
  have r542 := r541.2
  clear r541
  have hb552 := r542.1
  have r543 := r542.2
  clear r542
  have hb553 := r543.1
  have r544 := r543.2
  clear r543
  have hb554 := r544.1
  have r545 := r544.2
  clear r544
  have hb555 := r545.1
  have r546 := r545.2
  clear r545
  have hb556 := r546.1
  have r547 := r546.2
  clear r546
  have hb557 := r547.1
  have r548 := r547.2
  clear r547
  have hb558 := r548.1
  have r549 := r548.2
  clear r548
  have hb559 := r549.1
  have r550 := r549.2
  clear r549
  have hb560 := r550.1
  have r551 := r550.2
  clear r550
  have hb561 := r551.1
  have r552 := r551.2
  clear r551
  have hb562 := r552.1
  have r553 := r552.2
  clear r552
  have hb563 := r553.1
  have r554 := r553.2
  clear r553
  have hb564 := r554.1
  have r555 := r554.2
  clear r554
  have hb565 := r555.1
  have r556 := r555.2
  clear r555
  have hb566 := r556.1
  have r557 := r556.2
  clear r556
  have hb567 := r557.1
  have r558 := r557.2
  clear r557
  have hb568 := r558.1
  have r559 := r558.2
  clear r558
  have hb569 := r559.1
  have r560 := r559.2
  clear r559
  have hb570 := r560.1
  have r561 := r560.2
  clear r560
  have hb571 := r561.1
  have r562 := r561.2
  clear r561
  have hb572 := r562.1
  have r563 := r562.2
  clear r562
  have hb573 := r563.1
  have r564 := r563.2
  clear r563
  have hb574 := r564.1
  have r565 := r564.2
  clear r564
  have hb575 := r565.1
  have r566 := r565.2
  clear r565
  have hb576 := r566.1
  have r567 := r566.2
  clear r566
  have hb577 := r567.1
  have r568 := r567.2
  clear r567
  have hb578 := r568.1
  have r569 := r568.2
  clear r568
  have hb579 := r569.1
  have r570 := r569.2
  clear r569
  have hb580 := r570.1.1
  have hb581 := r570.1.2
  have r571 := r570.2
  clear r570
  have hb582 := r571.1
  have r572 := r571.2
  clear r571
  have hb583 := r572.1
  have r573 := r572.2
  clear r572
  have hb584 := r573.1
  have r574 := r573.2
  clear r573
  have hb585 := r574.1
  have r575 := r574.2
  clear r574
  have hb586 := r575.1
  have r576 := r575.2
  clear r575
  have hb587 := r576.1
  have r577 := r576.2
  clear r576
  have hb588 := r577.1
  have r578 := r577.2
  clear r577
  have hb589 := r578.1
  have r579 := r578.2
  clear r578
  have hb590 := r579
  have qa1 : tabF T47 10 [] [] = ([], [true, true]) := awake10
  have t38 : ρ.b 38 = true := gb hb38 qa1
  have t37 : ρ.b 37 = true := gb hb37 qa1
  have r51 : ρ.i 51 = r := by rw [hi51, hi50, hi49]; exact hrr
  refine ⟨?_, ?_⟩
  · intro h11
    have t48 : ρ.i 48 = 1 := gi hi48 h11
    have t36 : ρ.b 36 = true := by rw [hb36, t48]; rfl
    have t589 : ρ.b 589 = false := by rw [hb589, t36]; rfl
    have t590 : ρ.b 590 = true := (fh hb590 t589).trans t38
    exact fin4 t590 (by (simp only [t36, t37, Bool.not_true, Bool.not_false, Bool.and_true, Bool.and_false, Bool.true_and, Bool.false_and, Bool.or_true, Bool.true_or, Bool.or_false, Bool.false_or]) <;> rfl)
  intro d0 d1 d2 d3 d4 d5 d6 d7 d8 d9 d10 d11 d12 d13 d14 d15 d16 d17 d18 d19 d20 d21 d22 d23 d24 d25 d26 d27 d28 d29 d30 d31 d32 d33 d34 d35 d36 d37 d38 d39 d40 d41 d42 d43 d44 d45 y0 y1 y2 y3 y4 y5 y6 y7 y8 y9 y10 y11 y12 y13 y14 y15 y16 y17 y18 y19 y20 y21 y22 y23 y24 y25 y26 y27 y28 y30 y31 y32 y33 y34 y35 hOff hSt hAn
  refine ⟨?_, ?_, ?_, ?_, ?_, ?_, ?_, ?_, ?_, ?_⟩
  · intro c0 c1 c2 c3 c4 c5 c6 c7 c8 c9 c10 x0 x1 x2 x3 x4 x5 x6 x7 x8 h11 hr hW
    have t48 : ρ.i 48 = 0 := gi hi48 h11
    have t36 : ρ.b 36 = false := by rw [hb36, t48]; rfl
    have r196 : ρ.i 196 = 0 := by rw [hi196, r51, quo64 _ (reg_sm hr)]; exact (rg_one hr).2.2.2
    have q8_99_77 : tabF T47 8 [i0, i1, i2, i3, i4, i5, i6, i7, i8, i9, i10, i11, i12, i13, i14, i15, i16, i17, i18, i19, i20, i21, i22, i23, i24, i25, i26, i27, i28, i29, i30, i31, i32, i33, i34, i35, i36, i37, i38, i39, i40, i41, i42, i43, i44, i45, 21, v] [b0, b1, b2, b3, b4, b5, b6, b7, b8, b9, b10, b11, b12, b13, b14, b15, b16, b17, b18, b19, b20, b21, b22, b23, b24, b25, b26, b27, b28, b29, b30, b31, b32, b33, b34, b35] = ([d0, d1, d2, d3, d4, d5, d6, d7, d8, d9, d10, d11, d12, d13, d14, d15, d16, d17, d18, d19, d20, d21, d22, d23, d24, d25, d26, d27, d28, d29, d30, d31, d32, d33, d34, d35, d36, d37, d38, d39, d40, d41, d42, d43, d44, d45, 0], [true, y0, y1, y2, y3, y4, y5, y6, y7, y8, y9, y10, y11, y12, y13, y14, y15, y16, y17, y18, y19, y20, y21, y22, y23, y24, y25, y26, y27, y28, false, y30, y31, y32, y33, y34, y35]) := hOff
    have q12_146_114 : tabF T47 12 [ρ.i 99, ρ.i 100, ρ.i 101, ρ.i 102, ρ.i 103, ρ.i 104, ρ.i 105, ρ.i 106, ρ.i 107, ρ.i 108, ρ.i 109, ρ.i 110, ρ.i 111, ρ.i 112, ρ.i 113, ρ.i 114, ρ.i 115, ρ.i 116, ρ.i 117, ρ.i 118, ρ.i 119, ρ.i 120, ρ.i 121, ρ.i 122, ρ.i 123, ρ.i 124, ρ.i 125, ρ.i 126, ρ.i 127, ρ.i 128, ρ.i 129, ρ.i 130, ρ.i 131, ρ.i 132, ρ.i 133, ρ.i 134, ρ.i 135, ρ.i 136, ρ.i 137, ρ.i 138, ρ.i 139, ρ.i 140, ρ.i 141, ρ.i 142, ρ.i 143, ρ.i 144] [ρ.b 78, ρ.b 79, ρ.b 80, ρ.b 81, ρ.b 82, ρ.b 83, ρ.b 84, ρ.b 85, ρ.b 86, ρ.b 87, ρ.b 88, ρ.b 89, ρ.b 90, ρ.b 91, ρ.b 92, ρ.b 93, ρ.b 94, ρ.b 95, ρ.b 96, ρ.b 97, ρ.b 98, ρ.b 99, ρ.b 100, ρ.b 101, ρ.b 102, ρ.b 103, ρ.b 104, ρ.b 105, ρ.b 106, ρ.b 107, ρ.b 108, ρ.b 109, ρ.b 110, ρ.b 111, ρ.b 112, ρ.b 113] = ([d0, d1, d2, d3, d4, d5, d6, d7, d8, d9, d10, d11, d12, d13, d14, d15, d16, d17, d18, d19, d20, d21, d22, d23, d24, d25, d26, d27, d28, d29, d30, d31, d32, d33, d34, d35, d36, d37, d38, d39, d40, d41, d42, d43, d44, d45, ((if 0 < d3 then 1 else 0) + (if 0 < d14 then 2 else 0) + (if 0 < d22 then 4 else 0) + (if 0 < d31 then 8 else 0) + (if 0 < d40 then 16 else 0) + (if y34 then 64 else 0) + (if false then 128 else 0)), 0], [y0, y1, y2, y3, y4, y5, y6, y7, y8, y9, y10, y11, y12, y13, y14, y15, y16, y17, y18, y19, y20, y21, y22, y23, y24, y25, y26, y27, y28, false, y30, y31, y32, y33, false, y35]) := by rw [(gi hi99 q8_99_77), (gi hi100 q8_99_77), (gi hi101 q8_99_77), (gi hi102 q8_99_77), (gi hi103 q8_99_77), (gi hi104 q8_99_77), (gi hi105 q8_99_77), (gi hi106 q8_99_77), (gi hi107 q8_99_77), (gi hi108 q8_99_77), (gi hi109 q8_99_77), (gi hi110 q8_99_77), (gi hi111 q8_99_77), (gi hi112 q8_99_77), (gi hi113 q8_99_77), (gi hi114 q8_99_77), (gi hi115 q8_99_77), (gi hi116 q8_99_77), (gi hi117 q8_99_77), (gi hi118 q8_99_77), (gi hi119 q8_99_77), (gi hi120 q8_99_77), (gi hi121 q8_99_77), (gi hi122 q8_99_77), (gi hi123 q8_99_77), (gi hi124 q8_99_77), (gi hi125 q8_99_77), (gi hi126 q8_99_77), (gi hi127 q8_99_77), (gi hi128 q8_99_77), (gi hi129 q8_99_77), (gi hi130 q8_99_77), (gi hi131 q8_99_77), (gi hi132 q8_99_77), (gi hi133 q8_99_77), (gi hi134 q8_99_77), (gi hi135 q8_99_77), (gi hi136 q8_99_77), (gi hi137 q8_99_77), (gi hi138 q8_99_77), (gi hi139 q8_99_77), (gi hi140 q8_99_77), (gi hi141 q8_99_77), (gi hi142 q8_99_77), (gi hi143 q8_99_77), (gi hi144 q8_99_77), (gb hb78 q8_99_77), (gb hb79 q8_99_77), (gb hb80 q8_99_77), (gb hb81 q8_99_77), (gb hb82 q8_99_77), (gb hb83 q8_99_77), (gb hb84 q8_99_77), (gb hb85 q8_99_77), (gb hb86 q8_99_77), (gb hb87 q8_99_77), (gb hb88 q8_99_77), (gb hb89 q8_99_77), (gb hb90 q8_99_77), (gb hb91 q8_99_77), (gb hb92 q8_99_77), (gb hb93 q8_99_77), (gb hb94 q8_99_77), (gb hb95 q8_99_77), (gb hb96 q8_99_77), (gb hb97 q8_99_77), (gb hb98 q8_99_77), (gb hb99 q8_99_77), (gb hb100 q8_99_77), (gb hb101 q8_99_77), (gb hb102 q8_99_77), (gb hb103 q8_99_77), (gb hb104 q8_99_77), (gb hb105 q8_99_77), (gb hb106 q8_99_77), (gb hb107 q8_99_77), (gb hb108 q8_99_77), (gb hb109 q8_99_77), (gb hb110 q8_99_77), (gb hb111 q8_99_77), (gb hb112 q8_99_77), (gb hb113 q8_99_77)]; exact hSt
    have s192 : ρ.i 192 = (if 0 < d3 then 1 else 0) + (if 0 < d14 then 2 else 0) + (if 0 < d22 then 4 else 0) + (if 0 < d31 then 8 else 0) + (if 0 < d40 then 16 else 0) + (if y34 then 64 else 0) + (if false then 128 else 0) := (gi hi192 q12_146_114)
    have oi51 : ρ.i 51 = r := r51
    have q8_52_39 : tabF T47 8 [i0, i1, i2, i3, i4, i5, i6, i7, i8, i9, i10, i11, i12, i13, i14, i15, i16, i17, i18, i19, i20, i21, i22, i23, i24, i25, i26, i27, i28, i29, i30, i31, i32, i33, i34, i35, i36, i37, i38, i39, i40, i41, i42, i43, i44, i45, ρ.i 51, v] [b0, b1, b2, b3, b4, b5, b6, b7, b8, b9, b10, b11, b12, b13, b14, b15, b16, b17, b18, b19, b20, b21, b22, b23, b24, b25, b26, b27, b28, b29, b30, b31, b32, b33, b34, b35] = ([c0, c1, c2, c3, c4, c5, c6, c7, c8, c9, c10, i11, i12, i13, i14, i15, i16, i17, i18, i19, i20, i21, i22, i23, i24, i25, i26, i27, i28, i29, i30, i31, i32, i33, i34, i35, i36, i37, i38, i39, i40, i41, i42, i43, i44, i45, 0], [true, x0, x1, x2, x3, x4, x5, x6, x7, x8, b9, b10, b11, b12, b13, b14, b15, b16, b17, b18, b19, b20, b21, b22, b23, b24, b25, b26, b27, b28, b29, b30, b31, b32, b33, b34, b35]) := by rw [oi51]; exact hW
    have ob36 : ρ.b 36 = false := t36
    have ob589 : ρ.b 589 = true := by rw [hb589, ob36]; rfl
    have ob76 : ρ.b 76 = false := (nez hb76 (gi hi98 q8_52_39))
    have ob587 : ρ.b 587 = true := by rw [hb587, ob76]; rfl
    have ob150 : ρ.b 150 = false := (nez hb150 (gi hi145 q8_99_77))
    have ob151 : ρ.b 151 = false := (nez hb151 (gi hi193 q12_146_114))
    have ob152 : ρ.b 152 = false := by rw [hb152, ob150, ob151]; rfl
    have ob153 : ρ.b 153 = false := (by rw [hb153, hi195, hi194, s192]; exact decide_eq_false (by rw [hAn]; decide))
    have ob154 : ρ.b 154 = false := by rw [hb154, ob152, ob153]; rfl
    have ob155 : ρ.b 155 = false := by rw [hb155, ob154, (gb hb107 q8_99_77)]; rfl
    have ob585 : ρ.b 585 = true := by rw [hb585, ob155]; rfl
    have ob156 : ρ.b 156 = false := (hb156.trans (r51.symm ▸ decide_eq_false (rg_one hr).1))
    have ob583 : ρ.b 583 = true := by rw [hb583, ob156]; rfl
    have ob327 : ρ.b 327 = true := (by rw [hb327, r196]; rfl)
    have ob579 : ρ.b 579 = true := (an hb579 (an hb455 (eqs hb417 (th hb385 ob327) rfl) (an hb454 (an hb428 (eqs hb418 (th hb386 ob327) rfl) (an hb427 (eqs hb419 (th hb387 ob327) rfl) (an hb426 (eqs hb420 (th hb388 ob327) rfl) (an hb425 (eqs hb421 (th hi281 ob327) rfl) (an hb424 (eqs hb422 (th hi282 ob327) rfl) (eqs hb423 (th hi283 ob327) rfl)))))) (an hb453 (an hb433 (eqs hb429 (th hb389 ob327) rfl) (an hb432 (eqs hb430 (th hb390 ob327) rfl) (eqs hb431 (th hi284 ob327) rfl))) (an hb452 (eqs hb434 (th hi285 ob327) rfl) (an hb451 (eqs hb435 (th hi286 ob327) rfl) (an hb450 (eqs hb436 (th hi287 ob327) rfl) (an hb449 (eqs hb437 (th hi288 ob327) rfl) (an hb448 (eqs hb438 (th hb391 ob327) rfl) (an hb447 (eqs hb439 (th hb392 ob327) rfl) (an hb446 (eqs hb440 (th hb393 ob327) rfl) (an hb445 (eqs hb441 (th hi289 ob327) rfl) (an hb444 (eqs hb442 (th hi290 ob327) rfl) (eqs hb443 (th hi291 ob327) rfl))))))))))))) (an hb578 (an hb494 (eqs hb456 (tt hb394 ob327 (gb hb49 q8_52_39)) rfl) (an hb493 (an hb467 (eqs hb457 (tt hb395 ob327 (gb hb50 q8_52_39)) rfl) (an hb466 (eqs hb458 (tt hb396 ob327 (gb hb51 q8_52_39)) rfl) (an hb465 (eqs hb459 (tt hb397 ob327 (gb hb52 q8_52_39)) rfl) (an hb464 (eqs hb460 (tt hi292 ob327 (gi hi63 q8_52_39)) rfl) (an hb463 (eqs hb461 (tt hi293 ob327 (gi hi64 q8_52_39)) rfl) (eqs hb462 (tt hi294 ob327 (gi hi65 q8_52_39)) rfl)))))) (an hb492 (an hb472 (eqs hb468 (tt hb398 ob327 (gb hb53 q8_52_39)) rfl) (an hb471 (eqs hb469 (tt hb399 ob327 (gb hb54 q8_52_39)) rfl) (eqs hb470 (tt hi295 ob327 (gi hi66 q8_52_39)) rfl))) (an hb491 (eqs hb473 (tt hi296 ob327 (gi hi67 q8_52_39)) rfl) (an hb490 (eqs hb474 (tt hi297 ob327 (gi hi68 q8_52_39)) rfl) (an hb489 (eqs hb475 (tt hi298 ob327 (gi hi69 q8_52_39)) rfl) (an hb488 (eqs hb476 (tt hi299 ob327 (gi hi70 q8_52_39)) rfl) (an hb487 (eqs hb477 (tt hb400 ob327 (gb hb55 q8_52_39)) rfl) (an hb486 (eqs hb478 (tt hb401 ob327 (gb hb56 q8_52_39)) rfl) (an hb485 (eqs hb479 (tt hb402 ob327 (gb hb57 q8_52_39)) rfl) (an hb484 (eqs hb480 (tt hi300 ob327 (gi hi71 q8_52_39)) rfl) (an hb483 (eqs hb481 (tt hi301 ob327 (gi hi72 q8_52_39)) rfl) (eqs hb482 (tt hi302 ob327 (gi hi73 q8_52_39)) rfl))))))))))))) (an hb577 (an hb511 (an hb499 (eqs hb495 (tt hb403 ob327 (gb hb58 q8_52_39)) rfl) (an hb498 (eqs hb496 (tt hb404 ob327 (gb hb59 q8_52_39)) rfl) (eqs hb497 (tt hi303 ob327 (gi hi74 q8_52_39)) rfl))) (an hb510 (eqs hb500 (tt hi304 ob327 (gi hi75 q8_52_39)) rfl) (an hb509 (eqs hb501 (tt hi305 ob327 (gi hi76 q8_52_39)) rfl) (an hb508 (eqs hb502 (tt hb405 ob327 (gb hb60 q8_52_39)) rfl) (an hb507 (eqs hb503 (tt hi306 ob327 (gi hi77 q8_52_39)) rfl) (an hb506 (eqs hb504 (tt hi307 ob327 (gi hi78 q8_52_39)) rfl) (eqs hb505 (tt hi308 ob327 (gi hi79 q8_52_39)) rfl))))))) (an hb576 (an hb536 (an hb522 (eqs hb512 (tt hb406 ob327 (gb hb61 q8_52_39)) rfl) (an hb521 (eqs hb513 (tt hb407 ob327 (gb hb62 q8_52_39)) rfl) (an hb520 (eqs hb514 (tt hb408 ob327 (gb hb63 q8_52_39)) rfl) (an hb519 (eqs hb515 (tt hi309 ob327 (gi hi80 q8_52_39)) rfl) (an hb518 (eqs hb516 (tt hi310 ob327 (gi hi81 q8_52_39)) rfl) (eqs hb517 (tt hi311 ob327 (gi hi82 q8_52_39)) rfl)))))) (an hb535 (an hb527 (eqs hb523 (tt hb409 ob327 (gb hb64 q8_52_39)) rfl) (an hb526 (eqs hb524 (tt hb410 ob327 (gb hb65 q8_52_39)) rfl) (eqs hb525 (tt hi312 ob327 (gi hi83 q8_52_39)) rfl))) (an hb534 (eqs hb528 (tt hb411 ob327 (gb hb66 q8_52_39)) rfl) (an hb533 (eqs hb529 (tt hi313 ob327 (gi hi84 q8_52_39)) rfl) (an hb532 (eqs hb530 (tt hi314 ob327 (gi hi85 q8_52_39)) rfl) (eqs hb531 (tt hi315 ob327 (gi hi86 q8_52_39)) rfl)))))) (an hb575 (an hb565 (eqs hb537 (tt hb412 ob327 (gb hb67 q8_52_39)) rfl) (an hb564 (eqs hb538 (tt hb413 ob327 (gb hb68 q8_52_39)) rfl) (an hb563 (eqs hb539 (tt hb414 ob327 (gb hb69 q8_52_39)) rfl) (an hb562 (eqs hb540 (tt hi316 ob327 (gi hi87 q8_52_39)) rfl) (an hb561 (eqs hb541 (tt hi317 ob327 (gi hi88 q8_52_39)) rfl) (an hb560 (eqs hb542 (tt hi318 ob327 (gi hi89 q8_52_39)) rfl) (an hb559 (eqs hb543 (tt hi319 ob327 (gi hi90 q8_52_39)) rfl) (an hb558 (eqs hb544 (tt hi320 ob327 (gi hi91 q8_52_39)) rfl) (an hb557 (eqs hb545 (tt hi321 ob327 (gi hi92 q8_52_39)) rfl) (an hb556 (eqs hb546 (tt hi322 ob327 (gi hi93 q8_52_39)) rfl) (an hb555 (eqs hb547 (tt hb415 ob327 (gb hb70 q8_52_39)) rfl) (an hb554 (eqs hb548 (tt hi323 ob327 (gi hi94 q8_52_39)) rfl) (an hb553 (eqs hb549 (tt hi324 ob327 (gi hi95 q8_52_39)) rfl) (an hb552 (eqs hb550 (tt hb416 ob327 (gb hb71 q8_52_39)) rfl) (eqs hb551 (tt hi325 ob327 (gi hi96 q8_52_39)) rfl))))))))))))))) (an hb574 (eqs hb566 (gb hb72 q8_52_39) rfl) (an hb573 (eqs hb567 (gb hb73 q8_52_39) rfl) (an hb572 (eqs hb568 (gb hb74 q8_52_39) rfl) (an hb571 (eqs hb569 (gi hi97 q8_52_39) rfl) (eqs hb570 (gb hb75 q8_52_39) rfl))))))))))
    have q10_326_580 : tabF T47 10 [] [] = ([], [true, true]) := awake10
    have q10_49_37 : tabF T47 10 [] [] = ([], [true, true]) := awake10
    have ob157 : ρ.b 157 = false := (hb157.trans (r51.symm ▸ (rg_one hr).2.1))
    have ob158 : ρ.b 158 = false := (hb158.trans (r51.symm ▸ (rg_one hr).2.2.1))
    have ob159 : ρ.b 159 = false := by rw [hb159, ob157, ob158]; rfl
    have ob322 : ρ.b 322 = (ρ.b 198) := by rw [hb322, (an hb321 (an hb237 (eqs hb199 (gb hb49 q8_52_39) rfl) (an hb236 (an hb210 (eqs hb200 (gb hb50 q8_52_39) rfl) (an hb209 (eqs hb201 (gb hb51 q8_52_39) rfl) (an hb208 (eqs hb202 (gb hb52 q8_52_39) rfl) (an hb207 (eqs hb203 (gi hi63 q8_52_39) rfl) (an hb206 (eqs hb204 (gi hi64 q8_52_39) rfl) (eqs hb205 (gi hi65 q8_52_39) rfl)))))) (an hb235 (an hb215 (eqs hb211 (gb hb53 q8_52_39) rfl) (an hb214 (eqs hb212 (gb hb54 q8_52_39) rfl) (eqs hb213 (gi hi66 q8_52_39) rfl))) (an hb234 (eqs hb216 (gi hi67 q8_52_39) rfl) (an hb233 (eqs hb217 (gi hi68 q8_52_39) rfl) (an hb232 (eqs hb218 (gi hi69 q8_52_39) rfl) (an hb231 (eqs hb219 (gi hi70 q8_52_39) rfl) (an hb230 (eqs hb220 (gb hb55 q8_52_39) rfl) (an hb229 (eqs hb221 (gb hb56 q8_52_39) rfl) (an hb228 (eqs hb222 (gb hb57 q8_52_39) rfl) (an hb227 (eqs hb223 (gi hi71 q8_52_39) rfl) (an hb226 (eqs hb224 (gi hi72 q8_52_39) rfl) (eqs hb225 (gi hi73 q8_52_39) rfl))))))))))))) (an hb320 (an hb254 (an hb242 (eqs hb238 (gb hb58 q8_52_39) rfl) (an hb241 (eqs hb239 (gb hb59 q8_52_39) rfl) (eqs hb240 (gi hi74 q8_52_39) rfl))) (an hb253 (eqs hb243 (gi hi75 q8_52_39) rfl) (an hb252 (eqs hb244 (gi hi76 q8_52_39) rfl) (an hb251 (eqs hb245 (gb hb60 q8_52_39) rfl) (an hb250 (eqs hb246 (gi hi77 q8_52_39) rfl) (an hb249 (eqs hb247 (gi hi78 q8_52_39) rfl) (eqs hb248 (gi hi79 q8_52_39) rfl))))))) (an hb319 (an hb279 (an hb265 (eqs hb255 (gb hb61 q8_52_39) rfl) (an hb264 (eqs hb256 (gb hb62 q8_52_39) rfl) (an hb263 (eqs hb257 (gb hb63 q8_52_39) rfl) (an hb262 (eqs hb258 (gi hi80 q8_52_39) rfl) (an hb261 (eqs hb259 (gi hi81 q8_52_39) rfl) (eqs hb260 (gi hi82 q8_52_39) rfl)))))) (an hb278 (an hb270 (eqs hb266 (gb hb64 q8_52_39) rfl) (an hb269 (eqs hb267 (gb hb65 q8_52_39) rfl) (eqs hb268 (gi hi83 q8_52_39) rfl))) (an hb277 (eqs hb271 (gb hb66 q8_52_39) rfl) (an hb276 (eqs hb272 (gi hi84 q8_52_39) rfl) (an hb275 (eqs hb273 (gi hi85 q8_52_39) rfl) (eqs hb274 (gi hi86 q8_52_39) rfl)))))) (an hb318 (an hb308 (eqs hb280 (gb hb67 q8_52_39) rfl) (an hb307 (eqs hb281 (gb hb68 q8_52_39) rfl) (an hb306 (eqs hb282 (gb hb69 q8_52_39) rfl) (an hb305 (eqs hb283 (gi hi87 q8_52_39) rfl) (an hb304 (eqs hb284 (gi hi88 q8_52_39) rfl) (an hb303 (eqs hb285 (gi hi89 q8_52_39) rfl) (an hb302 (eqs hb286 (gi hi90 q8_52_39) rfl) (an hb301 (eqs hb287 (gi hi91 q8_52_39) rfl) (an hb300 (eqs hb288 (gi hi92 q8_52_39) rfl) (an hb299 (eqs hb289 (gi hi93 q8_52_39) rfl) (an hb298 (eqs hb290 (gb hb70 q8_52_39) rfl) (an hb297 (eqs hb291 (gi hi94 q8_52_39) rfl) (an hb296 (eqs hb292 (gi hi95 q8_52_39) rfl) (an hb295 (eqs hb293 (gb hb71 q8_52_39) rfl) (eqs hb294 (gi hi96 q8_52_39) rfl))))))))))))))) (an hb317 (eqs hb309 (gb hb72 q8_52_39) rfl) (an hb316 (eqs hb310 (gb hb73 q8_52_39) rfl) (an hb315 (eqs hb311 (gb hb74 q8_52_39) rfl) (an hb314 (eqs hb312 (gi hi97 q8_52_39) rfl) (eqs hb313 (gb hb75 q8_52_39) rfl)))))))))]; exact Bool.and_true _
    have ob323 : ρ.b 323 = (ρ.b 198) := by rw [hb323, ob159, ob322]; rfl
    have q10_196_324 : tabF T47 10 [] [] = ([], [true, true]) := awake10
    exact fin4 (tt hb590 ob589 (an hb588 ob587 (an hb586 ob585 (tt hb584 ob583 (an hb582 ob579 (gb hb581 q10_326_580)))))) (by (simp only [ob36, (gb hb37 q10_49_37), (gb hb39 q8_52_39), ob76, (gb hb77 q8_99_77), ob155, ob156, ob323, (gb hb324 q10_196_324), ob579, (gb hb580 q10_326_580), t37, Bool.not_true, Bool.not_false, Bool.and_true, Bool.and_false, Bool.true_and, Bool.false_and, Bool.or_true, Bool.true_or, Bool.or_false, Bool.false_or]) <;> rfl)
  · intro c11 c12 c13 c14 c15 c16 c17 c18 c19 c20 c21 x9 x10 x11 x12 x13 x14 x15 x16 x17 h11 hr hW
    have t48 : ρ.i 48 = 0 := gi hi48 h11
    have t36 : ρ.b 36 = false := by rw [hb36, t48]; rfl
    have r196 : ρ.i 196 = 1 := by rw [hi196, r51, quo64 _ (reg_sm hr)]; exact (rg_two hr).2.2.2
    have q8_99_77 : tabF T47 8 [i0, i1, i2, i3, i4, i5, i6, i7, i8, i9, i10, i11, i12, i13, i14, i15, i16, i17, i18, i19, i20, i21, i22, i23, i24, i25, i26, i27, i28, i29, i30, i31, i32, i33, i34, i35, i36, i37, i38, i39, i40, i41, i42, i43, i44, i45, 21, v] [b0, b1, b2, b3, b4, b5, b6, b7, b8, b9, b10, b11, b12, b13, b14, b15, b16, b17, b18, b19, b20, b21, b22, b23, b24, b25, b26, b27, b28, b29, b30, b31, b32, b33, b34, b35] = ([d0, d1, d2, d3, d4, d5, d6, d7, d8, d9, d10, d11, d12, d13, d14, d15, d16, d17, d18, d19, d20, d21, d22, d23, d24, d25, d26, d27, d28, d29, d30, d31, d32, d33, d34, d35, d36, d37, d38, d39, d40, d41, d42, d43, d44, d45, 0], [true, y0, y1, y2, y3, y4, y5, y6, y7, y8, y9, y10, y11, y12, y13, y14, y15, y16, y17, y18, y19, y20, y21, y22, y23, y24, y25, y26, y27, y28, false, y30, y31, y32, y33, y34, y35]) := hOff
    have q12_146_114 : tabF T47 12 [ρ.i 99, ρ.i 100, ρ.i 101, ρ.i 102, ρ.i 103, ρ.i 104, ρ.i 105, ρ.i 106, ρ.i 107, ρ.i 108, ρ.i 109, ρ.i 110, ρ.i 111, ρ.i 112, ρ.i 113, ρ.i 114, ρ.i 115, ρ.i 116, ρ.i 117, ρ.i 118, ρ.i 119, ρ.i 120, ρ.i 121, ρ.i 122, ρ.i 123, ρ.i 124, ρ.i 125, ρ.i 126, ρ.i 127, ρ.i 128, ρ.i 129, ρ.i 130, ρ.i 131, ρ.i 132, ρ.i 133, ρ.i 134, ρ.i 135, ρ.i 136, ρ.i 137, ρ.i 138, ρ.i 139, ρ.i 140, ρ.i 141, ρ.i 142, ρ.i 143, ρ.i 144] [ρ.b 78, ρ.b 79, ρ.b 80, ρ.b 81, ρ.b 82, ρ.b 83, ρ.b 84, ρ.b 85, ρ.b 86, ρ.b 87, ρ.b 88, ρ.b 89, ρ.b 90, ρ.b 91, ρ.b 92, ρ.b 93, ρ.b 94, ρ.b 95, ρ.b 96, ρ.b 97, ρ.b 98, ρ.b 99, ρ.b 100, ρ.b 101, ρ.b 102, ρ.b 103, ρ.b 104, ρ.b 105, ρ.b 106, ρ.b 107, ρ.b 108, ρ.b 109, ρ.b 110, ρ.b 111, ρ.b 112, ρ.b 113] = ([d0, d1, d2, d3, d4, d5, d6, d7, d8, d9, d10, d11, d12, d13, d14, d15, d16, d17, d18, d19, d20, d21, d22, d23, d24, d25, d26, d27, d28, d29, d30, d31, d32, d33, d34, d35, d36, d37, d38, d39, d40, d41, d42, d43, d44, d45, ((if 0 < d3 then 1 else 0) + (if 0 < d14 then 2 else 0) + (if 0 < d22 then 4 else 0) + (if 0 < d31 then 8 else 0) + (if 0 < d40 then 16 else 0) + (if y34 then 64 else 0) + (if false then 128 else 0)), 0], [y0, y1, y2, y3, y4, y5, y6, y7, y8, y9, y10, y11, y12, y13, y14, y15, y16, y17, y18, y19, y20, y21, y22, y23, y24, y25, y26, y27, y28, false, y30, y31, y32, y33, false, y35]) := by rw [(gi hi99 q8_99_77), (gi hi100 q8_99_77), (gi hi101 q8_99_77), (gi hi102 q8_99_77), (gi hi103 q8_99_77), (gi hi104 q8_99_77), (gi hi105 q8_99_77), (gi hi106 q8_99_77), (gi hi107 q8_99_77), (gi hi108 q8_99_77), (gi hi109 q8_99_77), (gi hi110 q8_99_77), (gi hi111 q8_99_77), (gi hi112 q8_99_77), (gi hi113 q8_99_77), (gi hi114 q8_99_77), (gi hi115 q8_99_77), (gi hi116 q8_99_77), (gi hi117 q8_99_77), (gi hi118 q8_99_77), (gi hi119 q8_99_77), (gi hi120 q8_99_77), (gi hi121 q8_99_77), (gi hi122 q8_99_77), (gi hi123 q8_99_77), (gi hi124 q8_99_77), (gi hi125 q8_99_77), (gi hi126 q8_99_77), (gi hi127 q8_99_77), (gi hi128 q8_99_77), (gi hi129 q8_99_77), (gi hi130 q8_99_77), (gi hi131 q8_99_77), (gi hi132 q8_99_77), (gi hi133 q8_99_77), (gi hi134 q8_99_77), (gi hi135 q8_99_77), (gi hi136 q8_99_77), (gi hi137 q8_99_77), (gi hi138 q8_99_77), (gi hi139 q8_99_77), (gi hi140 q8_99_77), (gi hi141 q8_99_77), (gi hi142 q8_99_77), (gi hi143 q8_99_77), (gi hi144 q8_99_77), (gb hb78 q8_99_77), (gb hb79 q8_99_77), (gb hb80 q8_99_77), (gb hb81 q8_99_77), (gb hb82 q8_99_77), (gb hb83 q8_99_77), (gb hb84 q8_99_77), (gb hb85 q8_99_77), (gb hb86 q8_99_77), (gb hb87 q8_99_77), (gb hb88 q8_99_77), (gb hb89 q8_99_77), (gb hb90 q8_99_77), (gb hb91 q8_99_77), (gb hb92 q8_99_77), (gb hb93 q8_99_77), (gb hb94 q8_99_77), (gb hb95 q8_99_77), (gb hb96 q8_99_77), (gb hb97 q8_99_77), (gb hb98 q8_99_77), (gb hb99 q8_99_77), (gb hb100 q8_99_77), (gb hb101 q8_99_77), (gb hb102 q8_99_77), (gb hb103 q8_99_77), (gb hb104 q8_99_77), (gb hb105 q8_99_77), (gb hb106 q8_99_77), (gb hb107 q8_99_77), (gb hb108 q8_99_77), (gb hb109 q8_99_77), (gb hb110 q8_99_77), (gb hb111 q8_99_77), (gb hb112 q8_99_77), (gb hb113 q8_99_77)]; exact hSt
    have s192 : ρ.i 192 = (if 0 < d3 then 1 else 0) + (if 0 < d14 then 2 else 0) + (if 0 < d22 then 4 else 0) + (if 0 < d31 then 8 else 0) + (if 0 < d40 then 16 else 0) + (if y34 then 64 else 0) + (if false then 128 else 0) := (gi hi192 q12_146_114)
    have oi51 : ρ.i 51 = r := r51
    have q8_52_39 : tabF T47 8 [i0, i1, i2, i3, i4, i5, i6, i7, i8, i9, i10, i11, i12, i13, i14, i15, i16, i17, i18, i19, i20, i21, i22, i23, i24, i25, i26, i27, i28, i29, i30, i31, i32, i33, i34, i35, i36, i37, i38, i39, i40, i41, i42, i43, i44, i45, ρ.i 51, v] [b0, b1, b2, b3, b4, b5, b6, b7, b8, b9, b10, b11, b12, b13, b14, b15, b16, b17, b18, b19, b20, b21, b22, b23, b24, b25, b26, b27, b28, b29, b30, b31, b32, b33, b34, b35] = ([i0, i1, i2, i3, i4, i5, i6, i7, i8, i9, i10, c11, c12, c13, c14, c15, c16, c17, c18, c19, c20, c21, i22, i23, i24, i25, i26, i27, i28, i29, i30, i31, i32, i33, i34, i35, i36, i37, i38, i39, i40, i41, i42, i43, i44, i45, 0], [true, b0, b1, b2, b3, b4, b5, b6, b7, b8, x9, x10, x11, x12, x13, x14, x15, x16, x17, b18, b19, b20, b21, b22, b23, b24, b25, b26, b27, b28, b29, b30, b31, b32, b33, b34, b35]) := by rw [oi51]; exact hW
    have ob36 : ρ.b 36 = false := t36
    have ob589 : ρ.b 589 = true := by rw [hb589, ob36]; rfl
    have ob76 : ρ.b 76 = false := (nez hb76 (gi hi98 q8_52_39))
    have ob587 : ρ.b 587 = true := by rw [hb587, ob76]; rfl
    have ob150 : ρ.b 150 = false := (nez hb150 (gi hi145 q8_99_77))
    have ob151 : ρ.b 151 = false := (nez hb151 (gi hi193 q12_146_114))
    have ob152 : ρ.b 152 = false := by rw [hb152, ob150, ob151]; rfl
    have ob153 : ρ.b 153 = false := (by rw [hb153, hi195, hi194, s192]; exact decide_eq_false (by rw [hAn]; decide))
    have ob154 : ρ.b 154 = false := by rw [hb154, ob152, ob153]; rfl
    have ob155 : ρ.b 155 = false := by rw [hb155, ob154, (gb hb107 q8_99_77)]; rfl
    have ob585 : ρ.b 585 = true := by rw [hb585, ob155]; rfl
    have ob156 : ρ.b 156 = false := (hb156.trans (r51.symm ▸ decide_eq_false (rg_two hr).1))
    have ob583 : ρ.b 583 = true := by rw [hb583, ob156]; rfl
    have ob327 : ρ.b 327 = false := (by rw [hb327, r196]; rfl)
    have ob328 : ρ.b 328 = true := (by rw [hb328, r196]; rfl)
    have ob579 : ρ.b 579 = true := (an hb579 (an hb455 (eqs hb417 (ft hb385 ob327 (gb hb40 q8_52_39)) rfl) (an hb454 (an hb428 (eqs hb418 (ft hb386 ob327 (gb hb41 q8_52_39)) rfl) (an hb427 (eqs hb419 (ft hb387 ob327 (gb hb42 q8_52_39)) rfl) (an hb426 (eqs hb420 (ft hb388 ob327 (gb hb43 q8_52_39)) rfl) (an hb425 (eqs hb421 (ft hi281 ob327 (gi hi52 q8_52_39)) rfl) (an hb424 (eqs hb422 (ft hi282 ob327 (gi hi53 q8_52_39)) rfl) (eqs hb423 (ft hi283 ob327 (gi hi54 q8_52_39)) rfl)))))) (an hb453 (an hb433 (eqs hb429 (ft hb389 ob327 (gb hb44 q8_52_39)) rfl) (an hb432 (eqs hb430 (ft hb390 ob327 (gb hb45 q8_52_39)) rfl) (eqs hb431 (ft hi284 ob327 (gi hi55 q8_52_39)) rfl))) (an hb452 (eqs hb434 (ft hi285 ob327 (gi hi56 q8_52_39)) rfl) (an hb451 (eqs hb435 (ft hi286 ob327 (gi hi57 q8_52_39)) rfl) (an hb450 (eqs hb436 (ft hi287 ob327 (gi hi58 q8_52_39)) rfl) (an hb449 (eqs hb437 (ft hi288 ob327 (gi hi59 q8_52_39)) rfl) (an hb448 (eqs hb438 (ft hb391 ob327 (gb hb46 q8_52_39)) rfl) (an hb447 (eqs hb439 (ft hb392 ob327 (gb hb47 q8_52_39)) rfl) (an hb446 (eqs hb440 (ft hb393 ob327 (gb hb48 q8_52_39)) rfl) (an hb445 (eqs hb441 (ft hi289 ob327 (gi hi60 q8_52_39)) rfl) (an hb444 (eqs hb442 (ft hi290 ob327 (gi hi61 q8_52_39)) rfl) (eqs hb443 (ft hi291 ob327 (gi hi62 q8_52_39)) rfl))))))))))))) (an hb578 (an hb494 (eqs hb456 (ft hb394 ob327 (th hb362 ob328)) rfl) (an hb493 (an hb467 (eqs hb457 (ft hb395 ob327 (th hb363 ob328)) rfl) (an hb466 (eqs hb458 (ft hb396 ob327 (th hb364 ob328)) rfl) (an hb465 (eqs hb459 (ft hb397 ob327 (th hb365 ob328)) rfl) (an hb464 (eqs hb460 (ft hi292 ob327 (th hi247 ob328)) rfl) (an hb463 (eqs hb461 (ft hi293 ob327 (th hi248 ob328)) rfl) (eqs hb462 (ft hi294 ob327 (th hi249 ob328)) rfl)))))) (an hb492 (an hb472 (eqs hb468 (ft hb398 ob327 (th hb366 ob328)) rfl) (an hb471 (eqs hb469 (ft hb399 ob327 (th hb367 ob328)) rfl) (eqs hb470 (ft hi295 ob327 (th hi250 ob328)) rfl))) (an hb491 (eqs hb473 (ft hi296 ob327 (th hi251 ob328)) rfl) (an hb490 (eqs hb474 (ft hi297 ob327 (th hi252 ob328)) rfl) (an hb489 (eqs hb475 (ft hi298 ob327 (th hi253 ob328)) rfl) (an hb488 (eqs hb476 (ft hi299 ob327 (th hi254 ob328)) rfl) (an hb487 (eqs hb477 (ft hb400 ob327 (th hb368 ob328)) rfl) (an hb486 (eqs hb478 (ft hb401 ob327 (th hb369 ob328)) rfl) (an hb485 (eqs hb479 (ft hb402 ob327 (th hb370 ob328)) rfl) (an hb484 (eqs hb480 (ft hi300 ob327 (th hi255 ob328)) rfl) (an hb483 (eqs hb481 (ft hi301 ob327 (th hi256 ob328)) rfl) (eqs hb482 (ft hi302 ob327 (th hi257 ob328)) rfl))))))))))))) (an hb577 (an hb511 (an hb499 (eqs hb495 (ft hb403 ob327 (tt hb371 ob328 (gb hb58 q8_52_39))) rfl) (an hb498 (eqs hb496 (ft hb404 ob327 (tt hb372 ob328 (gb hb59 q8_52_39))) rfl) (eqs hb497 (ft hi303 ob327 (tt hi258 ob328 (gi hi74 q8_52_39))) rfl))) (an hb510 (eqs hb500 (ft hi304 ob327 (tt hi259 ob328 (gi hi75 q8_52_39))) rfl) (an hb509 (eqs hb501 (ft hi305 ob327 (tt hi260 ob328 (gi hi76 q8_52_39))) rfl) (an hb508 (eqs hb502 (ft hb405 ob327 (tt hb373 ob328 (gb hb60 q8_52_39))) rfl) (an hb507 (eqs hb503 (ft hi306 ob327 (tt hi261 ob328 (gi hi77 q8_52_39))) rfl) (an hb506 (eqs hb504 (ft hi307 ob327 (tt hi262 ob328 (gi hi78 q8_52_39))) rfl) (eqs hb505 (ft hi308 ob327 (tt hi263 ob328 (gi hi79 q8_52_39))) rfl))))))) (an hb576 (an hb536 (an hb522 (eqs hb512 (ft hb406 ob327 (tt hb374 ob328 (gb hb61 q8_52_39))) rfl) (an hb521 (eqs hb513 (ft hb407 ob327 (tt hb375 ob328 (gb hb62 q8_52_39))) rfl) (an hb520 (eqs hb514 (ft hb408 ob327 (tt hb376 ob328 (gb hb63 q8_52_39))) rfl) (an hb519 (eqs hb515 (ft hi309 ob327 (tt hi264 ob328 (gi hi80 q8_52_39))) rfl) (an hb518 (eqs hb516 (ft hi310 ob327 (tt hi265 ob328 (gi hi81 q8_52_39))) rfl) (eqs hb517 (ft hi311 ob327 (tt hi266 ob328 (gi hi82 q8_52_39))) rfl)))))) (an hb535 (an hb527 (eqs hb523 (ft hb409 ob327 (tt hb377 ob328 (gb hb64 q8_52_39))) rfl) (an hb526 (eqs hb524 (ft hb410 ob327 (tt hb378 ob328 (gb hb65 q8_52_39))) rfl) (eqs hb525 (ft hi312 ob327 (tt hi267 ob328 (gi hi83 q8_52_39))) rfl))) (an hb534 (eqs hb528 (ft hb411 ob327 (tt hb379 ob328 (gb hb66 q8_52_39))) rfl) (an hb533 (eqs hb529 (ft hi313 ob327 (tt hi268 ob328 (gi hi84 q8_52_39))) rfl) (an hb532 (eqs hb530 (ft hi314 ob327 (tt hi269 ob328 (gi hi85 q8_52_39))) rfl) (eqs hb531 (ft hi315 ob327 (tt hi270 ob328 (gi hi86 q8_52_39))) rfl)))))) (an hb575 (an hb565 (eqs hb537 (ft hb412 ob327 (tt hb380 ob328 (gb hb67 q8_52_39))) rfl) (an hb564 (eqs hb538 (ft hb413 ob327 (tt hb381 ob328 (gb hb68 q8_52_39))) rfl) (an hb563 (eqs hb539 (ft hb414 ob327 (tt hb382 ob328 (gb hb69 q8_52_39))) rfl) (an hb562 (eqs hb540 (ft hi316 ob327 (tt hi271 ob328 (gi hi87 q8_52_39))) rfl) (an hb561 (eqs hb541 (ft hi317 ob327 (tt hi272 ob328 (gi hi88 q8_52_39))) rfl) (an hb560 (eqs hb542 (ft hi318 ob327 (tt hi273 ob328 (gi hi89 q8_52_39))) rfl) (an hb559 (eqs hb543 (ft hi319 ob327 (tt hi274 ob328 (gi hi90 q8_52_39))) rfl) (an hb558 (eqs hb544 (ft hi320 ob327 (tt hi275 ob328 (gi hi91 q8_52_39))) rfl) (an hb557 (eqs hb545 (ft hi321 ob327 (tt hi276 ob328 (gi hi92 q8_52_39))) rfl) (an hb556 (eqs hb546 (ft hi322 ob327 (tt hi277 ob328 (gi hi93 q8_52_39))) rfl) (an hb555 (eqs hb547 (ft hb415 ob327 (tt hb383 ob328 (gb hb70 q8_52_39))) rfl) (an hb554 (eqs hb548 (ft hi323 ob327 (tt hi278 ob328 (gi hi94 q8_52_39))) rfl) (an hb553 (eqs hb549 (ft hi324 ob327 (tt hi279 ob328 (gi hi95 q8_52_39))) rfl) (an hb552 (eqs hb550 (ft hb416 ob327 (tt hb384 ob328 (gb hb71 q8_52_39))) rfl) (eqs hb551 (ft hi325 ob327 (tt hi280 ob328 (gi hi96 q8_52_39))) rfl))))))))))))))) (an hb574 (eqs hb566 (gb hb72 q8_52_39) rfl) (an hb573 (eqs hb567 (gb hb73 q8_52_39) rfl) (an hb572 (eqs hb568 (gb hb74 q8_52_39) rfl) (an hb571 (eqs hb569 (gi hi97 q8_52_39) rfl) (eqs hb570 (gb hb75 q8_52_39) rfl))))))))))
    have q10_326_580 : tabF T47 10 [] [] = ([], [true, true]) := awake10
    have q10_49_37 : tabF T47 10 [] [] = ([], [true, true]) := awake10
    have ob157 : ρ.b 157 = false := (hb157.trans (r51.symm ▸ (rg_two hr).2.1))
    have ob158 : ρ.b 158 = false := (hb158.trans (r51.symm ▸ (rg_two hr).2.2.1))
    have ob159 : ρ.b 159 = false := by rw [hb159, ob157, ob158]; rfl
    have ob321 : ρ.b 321 = (ρ.b 237) := by rw [hb321, (an hb320 (an hb254 (an hb242 (eqs hb238 (gb hb58 q8_52_39) rfl) (an hb241 (eqs hb239 (gb hb59 q8_52_39) rfl) (eqs hb240 (gi hi74 q8_52_39) rfl))) (an hb253 (eqs hb243 (gi hi75 q8_52_39) rfl) (an hb252 (eqs hb244 (gi hi76 q8_52_39) rfl) (an hb251 (eqs hb245 (gb hb60 q8_52_39) rfl) (an hb250 (eqs hb246 (gi hi77 q8_52_39) rfl) (an hb249 (eqs hb247 (gi hi78 q8_52_39) rfl) (eqs hb248 (gi hi79 q8_52_39) rfl))))))) (an hb319 (an hb279 (an hb265 (eqs hb255 (gb hb61 q8_52_39) rfl) (an hb264 (eqs hb256 (gb hb62 q8_52_39) rfl) (an hb263 (eqs hb257 (gb hb63 q8_52_39) rfl) (an hb262 (eqs hb258 (gi hi80 q8_52_39) rfl) (an hb261 (eqs hb259 (gi hi81 q8_52_39) rfl) (eqs hb260 (gi hi82 q8_52_39) rfl)))))) (an hb278 (an hb270 (eqs hb266 (gb hb64 q8_52_39) rfl) (an hb269 (eqs hb267 (gb hb65 q8_52_39) rfl) (eqs hb268 (gi hi83 q8_52_39) rfl))) (an hb277 (eqs hb271 (gb hb66 q8_52_39) rfl) (an hb276 (eqs hb272 (gi hi84 q8_52_39) rfl) (an hb275 (eqs hb273 (gi hi85 q8_52_39) rfl) (eqs hb274 (gi hi86 q8_52_39) rfl)))))) (an hb318 (an hb308 (eqs hb280 (gb hb67 q8_52_39) rfl) (an hb307 (eqs hb281 (gb hb68 q8_52_39) rfl) (an hb306 (eqs hb282 (gb hb69 q8_52_39) rfl) (an hb305 (eqs hb283 (gi hi87 q8_52_39) rfl) (an hb304 (eqs hb284 (gi hi88 q8_52_39) rfl) (an hb303 (eqs hb285 (gi hi89 q8_52_39) rfl) (an hb302 (eqs hb286 (gi hi90 q8_52_39) rfl) (an hb301 (eqs hb287 (gi hi91 q8_52_39) rfl) (an hb300 (eqs hb288 (gi hi92 q8_52_39) rfl) (an hb299 (eqs hb289 (gi hi93 q8_52_39) rfl) (an hb298 (eqs hb290 (gb hb70 q8_52_39) rfl) (an hb297 (eqs hb291 (gi hi94 q8_52_39) rfl) (an hb296 (eqs hb292 (gi hi95 q8_52_39) rfl) (an hb295 (eqs hb293 (gb hb71 q8_52_39) rfl) (eqs hb294 (gi hi96 q8_52_39) rfl))))))))))))))) (an hb317 (eqs hb309 (gb hb72 q8_52_39) rfl) (an hb316 (eqs hb310 (gb hb73 q8_52_39) rfl) (an hb315 (eqs hb311 (gb hb74 q8_52_39) rfl) (an hb314 (eqs hb312 (gi hi97 q8_52_39) rfl) (eqs hb313 (gb hb75 q8_52_39) rfl))))))))]; exact Bool.and_true _
    have ob322 : ρ.b 322 = (ρ.b 237) := by rw [hb322, (an hb198 (eqs hb160 (gb hb40 q8_52_39) rfl) (an hb197 (an hb171 (eqs hb161 (gb hb41 q8_52_39) rfl) (an hb170 (eqs hb162 (gb hb42 q8_52_39) rfl) (an hb169 (eqs hb163 (gb hb43 q8_52_39) rfl) (an hb168 (eqs hb164 (gi hi52 q8_52_39) rfl) (an hb167 (eqs hb165 (gi hi53 q8_52_39) rfl) (eqs hb166 (gi hi54 q8_52_39) rfl)))))) (an hb196 (an hb176 (eqs hb172 (gb hb44 q8_52_39) rfl) (an hb175 (eqs hb173 (gb hb45 q8_52_39) rfl) (eqs hb174 (gi hi55 q8_52_39) rfl))) (an hb195 (eqs hb177 (gi hi56 q8_52_39) rfl) (an hb194 (eqs hb178 (gi hi57 q8_52_39) rfl) (an hb193 (eqs hb179 (gi hi58 q8_52_39) rfl) (an hb192 (eqs hb180 (gi hi59 q8_52_39) rfl) (an hb191 (eqs hb181 (gb hb46 q8_52_39) rfl) (an hb190 (eqs hb182 (gb hb47 q8_52_39) rfl) (an hb189 (eqs hb183 (gb hb48 q8_52_39) rfl) (an hb188 (eqs hb184 (gi hi60 q8_52_39) rfl) (an hb187 (eqs hb185 (gi hi61 q8_52_39) rfl) (eqs hb186 (gi hi62 q8_52_39) rfl))))))))))))), ob321]; rfl
    have ob323 : ρ.b 323 = (ρ.b 237) := by rw [hb323, ob159, ob322]; rfl
    have q10_196_324 : tabF T47 10 [] [] = ([], [true, true]) := awake10
    exact fin4 (tt hb590 ob589 (an hb588 ob587 (an hb586 ob585 (tt hb584 ob583 (an hb582 ob579 (gb hb581 q10_326_580)))))) (by (simp only [ob36, (gb hb37 q10_49_37), (gb hb39 q8_52_39), ob76, (gb hb77 q8_99_77), ob155, ob156, ob323, (gb hb324 q10_196_324), ob579, (gb hb580 q10_326_580), t37, Bool.not_true, Bool.not_false, Bool.and_true, Bool.and_false, Bool.true_and, Bool.false_and, Bool.or_true, Bool.true_or, Bool.or_false, Bool.false_or]) <;> rfl)
  · intro c22 c23 c24 c25 c26 c27 x18 x19 x20 h11 hr hW
    have t48 : ρ.i 48 = 0 := gi hi48 h11
    have t36 : ρ.b 36 = false := by rw [hb36, t48]; rfl
    have r196 : ρ.i 196 = 2 := by rw [hi196, r51, quo64 _ (reg_sm hr)]; exact (rg_tri hr).2.2.2
    have q8_99_77 : tabF T47 8 [i0, i1, i2, i3, i4, i5, i6, i7, i8, i9, i10, i11, i12, i13, i14, i15, i16, i17, i18, i19, i20, i21, i22, i23, i24, i25, i26, i27, i28, i29, i30, i31, i32, i33, i34, i35, i36, i37, i38, i39, i40, i41, i42, i43, i44, i45, 21, v] [b0, b1, b2, b3, b4, b5, b6, b7, b8, b9, b10, b11, b12, b13, b14, b15, b16, b17, b18, b19, b20, b21, b22, b23, b24, b25, b26, b27, b28, b29, b30, b31, b32, b33, b34, b35] = ([d0, d1, d2, d3, d4, d5, d6, d7, d8, d9, d10, d11, d12, d13, d14, d15, d16, d17, d18, d19, d20, d21, d22, d23, d24, d25, d26, d27, d28, d29, d30, d31, d32, d33, d34, d35, d36, d37, d38, d39, d40, d41, d42, d43, d44, d45, 0], [true, y0, y1, y2, y3, y4, y5, y6, y7, y8, y9, y10, y11, y12, y13, y14, y15, y16, y17, y18, y19, y20, y21, y22, y23, y24, y25, y26, y27, y28, false, y30, y31, y32, y33, y34, y35]) := hOff
    have q12_146_114 : tabF T47 12 [ρ.i 99, ρ.i 100, ρ.i 101, ρ.i 102, ρ.i 103, ρ.i 104, ρ.i 105, ρ.i 106, ρ.i 107, ρ.i 108, ρ.i 109, ρ.i 110, ρ.i 111, ρ.i 112, ρ.i 113, ρ.i 114, ρ.i 115, ρ.i 116, ρ.i 117, ρ.i 118, ρ.i 119, ρ.i 120, ρ.i 121, ρ.i 122, ρ.i 123, ρ.i 124, ρ.i 125, ρ.i 126, ρ.i 127, ρ.i 128, ρ.i 129, ρ.i 130, ρ.i 131, ρ.i 132, ρ.i 133, ρ.i 134, ρ.i 135, ρ.i 136, ρ.i 137, ρ.i 138, ρ.i 139, ρ.i 140, ρ.i 141, ρ.i 142, ρ.i 143, ρ.i 144] [ρ.b 78, ρ.b 79, ρ.b 80, ρ.b 81, ρ.b 82, ρ.b 83, ρ.b 84, ρ.b 85, ρ.b 86, ρ.b 87, ρ.b 88, ρ.b 89, ρ.b 90, ρ.b 91, ρ.b 92, ρ.b 93, ρ.b 94, ρ.b 95, ρ.b 96, ρ.b 97, ρ.b 98, ρ.b 99, ρ.b 100, ρ.b 101, ρ.b 102, ρ.b 103, ρ.b 104, ρ.b 105, ρ.b 106, ρ.b 107, ρ.b 108, ρ.b 109, ρ.b 110, ρ.b 111, ρ.b 112, ρ.b 113] = ([d0, d1, d2, d3, d4, d5, d6, d7, d8, d9, d10, d11, d12, d13, d14, d15, d16, d17, d18, d19, d20, d21, d22, d23, d24, d25, d26, d27, d28, d29, d30, d31, d32, d33, d34, d35, d36, d37, d38, d39, d40, d41, d42, d43, d44, d45, ((if 0 < d3 then 1 else 0) + (if 0 < d14 then 2 else 0) + (if 0 < d22 then 4 else 0) + (if 0 < d31 then 8 else 0) + (if 0 < d40 then 16 else 0) + (if y34 then 64 else 0) + (if false then 128 else 0)), 0], [y0, y1, y2, y3, y4, y5, y6, y7, y8, y9, y10, y11, y12, y13, y14, y15, y16, y17, y18, y19, y20, y21, y22, y23, y24, y25, y26, y27, y28, false, y30, y31, y32, y33, false, y35]) := by rw [(gi hi99 q8_99_77), (gi hi100 q8_99_77), (gi hi101 q8_99_77), (gi hi102 q8_99_77), (gi hi103 q8_99_77), (gi hi104 q8_99_77), (gi hi105 q8_99_77), (gi hi106 q8_99_77), (gi hi107 q8_99_77), (gi hi108 q8_99_77), (gi hi109 q8_99_77), (gi hi110 q8_99_77), (gi hi111 q8_99_77), (gi hi112 q8_99_77), (gi hi113 q8_99_77), (gi hi114 q8_99_77), (gi hi115 q8_99_77), (gi hi116 q8_99_77), (gi hi117 q8_99_77), (gi hi118 q8_99_77), (gi hi119 q8_99_77), (gi hi120 q8_99_77), (gi hi121 q8_99_77), (gi hi122 q8_99_77), (gi hi123 q8_99_77), (gi hi124 q8_99_77), (gi hi125 q8_99_77), (gi hi126 q8_99_77), (gi hi127 q8_99_77), (gi hi128 q8_99_77), (gi hi129 q8_99_77), (gi hi130 q8_99_77), (gi hi131 q8_99_77), (gi hi132 q8_99_77), (gi hi133 q8_99_77), (gi hi134 q8_99_77), (gi hi135 q8_99_77), (gi hi136 q8_99_77), (gi hi137 q8_99_77), (gi hi138 q8_99_77), (gi hi139 q8_99_77), (gi hi140 q8_99_77), (gi hi141 q8_99_77), (gi hi142 q8_99_77), (gi hi143 q8_99_77), (gi hi144 q8_99_77), (gb hb78 q8_99_77), (gb hb79 q8_99_77), (gb hb80 q8_99_77), (gb hb81 q8_99_77), (gb hb82 q8_99_77), (gb hb83 q8_99_77), (gb hb84 q8_99_77), (gb hb85 q8_99_77), (gb hb86 q8_99_77), (gb hb87 q8_99_77), (gb hb88 q8_99_77), (gb hb89 q8_99_77), (gb hb90 q8_99_77), (gb hb91 q8_99_77), (gb hb92 q8_99_77), (gb hb93 q8_99_77), (gb hb94 q8_99_77), (gb hb95 q8_99_77), (gb hb96 q8_99_77), (gb hb97 q8_99_77), (gb hb98 q8_99_77), (gb hb99 q8_99_77), (gb hb100 q8_99_77), (gb hb101 q8_99_77), (gb hb102 q8_99_77), (gb hb103 q8_99_77), (gb hb104 q8_99_77), (gb hb105 q8_99_77), (gb hb106 q8_99_77), (gb hb107 q8_99_77), (gb hb108 q8_99_77), (gb hb109 q8_99_77), (gb hb110 q8_99_77), (gb hb111 q8_99_77), (gb hb112 q8_99_77), (gb hb113 q8_99_77)]; exact hSt
    have s192 : ρ.i 192 = (if 0 < d3 then 1 else 0) + (if 0 < d14 then 2 else 0) + (if 0 < d22 then 4 else 0) + (if 0 < d31 then 8 else 0) + (if 0 < d40 then 16 else 0) + (if y34 then 64 else 0) + (if false then 128 else 0) := (gi hi192 q12_146_114)
    have oi51 : ρ.i 51 = r := r51
    have q8_52_39 : tabF T47 8 [i0, i1, i2, i3, i4, i5, i6, i7, i8, i9, i10, i11, i12, i13, i14, i15, i16, i17, i18, i19, i20, i21, i22, i23, i24, i25, i26, i27, i28, i29, i30, i31, i32, i33, i34, i35, i36, i37, i38, i39, i40, i41, i42, i43, i44, i45, ρ.i 51, v] [b0, b1, b2, b3, b4, b5, b6, b7, b8, b9, b10, b11, b12, b13, b14, b15, b16, b17, b18, b19, b20, b21, b22, b23, b24, b25, b26, b27, b28, b29, b30, b31, b32, b33, b34, b35] = ([i0, i1, i2, i3, i4, i5, i6, i7, i8, i9, i10, i11, i12, i13, i14, i15, i16, i17, i18, i19, i20, i21, c22, c23, c24, c25, c26, c27, i28, i29, i30, i31, i32, i33, i34, i35, i36, i37, i38, i39, i40, i41, i42, i43, i44, i45, 0], [true, b0, b1, b2, b3, b4, b5, b6, b7, b8, b9, b10, b11, b12, b13, b14, b15, b16, b17, x18, x19, x20, b21, b22, b23, b24, b25, b26, b27, b28, b29, b30, b31, b32, b33, b34, b35]) := by rw [oi51]; exact hW
    have ob36 : ρ.b 36 = false := t36
    have ob589 : ρ.b 589 = true := by rw [hb589, ob36]; rfl
    have ob76 : ρ.b 76 = false := (nez hb76 (gi hi98 q8_52_39))
    have ob587 : ρ.b 587 = true := by rw [hb587, ob76]; rfl
    have ob150 : ρ.b 150 = false := (nez hb150 (gi hi145 q8_99_77))
    have ob151 : ρ.b 151 = false := (nez hb151 (gi hi193 q12_146_114))
    have ob152 : ρ.b 152 = false := by rw [hb152, ob150, ob151]; rfl
    have ob153 : ρ.b 153 = false := (by rw [hb153, hi195, hi194, s192]; exact decide_eq_false (by rw [hAn]; decide))
    have ob154 : ρ.b 154 = false := by rw [hb154, ob152, ob153]; rfl
    have ob155 : ρ.b 155 = false := by rw [hb155, ob154, (gb hb107 q8_99_77)]; rfl
    have ob585 : ρ.b 585 = true := by rw [hb585, ob155]; rfl
    have ob156 : ρ.b 156 = false := (hb156.trans (r51.symm ▸ decide_eq_false (rg_tri hr).1))
    have ob583 : ρ.b 583 = true := by rw [hb583, ob156]; rfl
    have ob327 : ρ.b 327 = false := (by rw [hb327, r196]; rfl)
    have ob328 : ρ.b 328 = false := (by rw [hb328, r196]; rfl)
    have ob329 : ρ.b 329 = true := (by rw [hb329, r196]; rfl)
    have ob579 : ρ.b 579 = true := (an hb579 (an hb455 (eqs hb417 (ft hb385 ob327 (gb hb40 q8_52_39)) rfl) (an hb454 (an hb428 (eqs hb418 (ft hb386 ob327 (gb hb41 q8_52_39)) rfl) (an hb427 (eqs hb419 (ft hb387 ob327 (gb hb42 q8_52_39)) rfl) (an hb426 (eqs hb420 (ft hb388 ob327 (gb hb43 q8_52_39)) rfl) (an hb425 (eqs hb421 (ft hi281 ob327 (gi hi52 q8_52_39)) rfl) (an hb424 (eqs hb422 (ft hi282 ob327 (gi hi53 q8_52_39)) rfl) (eqs hb423 (ft hi283 ob327 (gi hi54 q8_52_39)) rfl)))))) (an hb453 (an hb433 (eqs hb429 (ft hb389 ob327 (gb hb44 q8_52_39)) rfl) (an hb432 (eqs hb430 (ft hb390 ob327 (gb hb45 q8_52_39)) rfl) (eqs hb431 (ft hi284 ob327 (gi hi55 q8_52_39)) rfl))) (an hb452 (eqs hb434 (ft hi285 ob327 (gi hi56 q8_52_39)) rfl) (an hb451 (eqs hb435 (ft hi286 ob327 (gi hi57 q8_52_39)) rfl) (an hb450 (eqs hb436 (ft hi287 ob327 (gi hi58 q8_52_39)) rfl) (an hb449 (eqs hb437 (ft hi288 ob327 (gi hi59 q8_52_39)) rfl) (an hb448 (eqs hb438 (ft hb391 ob327 (gb hb46 q8_52_39)) rfl) (an hb447 (eqs hb439 (ft hb392 ob327 (gb hb47 q8_52_39)) rfl) (an hb446 (eqs hb440 (ft hb393 ob327 (gb hb48 q8_52_39)) rfl) (an hb445 (eqs hb441 (ft hi289 ob327 (gi hi60 q8_52_39)) rfl) (an hb444 (eqs hb442 (ft hi290 ob327 (gi hi61 q8_52_39)) rfl) (eqs hb443 (ft hi291 ob327 (gi hi62 q8_52_39)) rfl))))))))))))) (an hb578 (an hb494 (eqs hb456 (ft hb394 ob327 (ft hb362 ob328 (gb hb49 q8_52_39))) rfl) (an hb493 (an hb467 (eqs hb457 (ft hb395 ob327 (ft hb363 ob328 (gb hb50 q8_52_39))) rfl) (an hb466 (eqs hb458 (ft hb396 ob327 (ft hb364 ob328 (gb hb51 q8_52_39))) rfl) (an hb465 (eqs hb459 (ft hb397 ob327 (ft hb365 ob328 (gb hb52 q8_52_39))) rfl) (an hb464 (eqs hb460 (ft hi292 ob327 (ft hi247 ob328 (gi hi63 q8_52_39))) rfl) (an hb463 (eqs hb461 (ft hi293 ob327 (ft hi248 ob328 (gi hi64 q8_52_39))) rfl) (eqs hb462 (ft hi294 ob327 (ft hi249 ob328 (gi hi65 q8_52_39))) rfl)))))) (an hb492 (an hb472 (eqs hb468 (ft hb398 ob327 (ft hb366 ob328 (gb hb53 q8_52_39))) rfl) (an hb471 (eqs hb469 (ft hb399 ob327 (ft hb367 ob328 (gb hb54 q8_52_39))) rfl) (eqs hb470 (ft hi295 ob327 (ft hi250 ob328 (gi hi66 q8_52_39))) rfl))) (an hb491 (eqs hb473 (ft hi296 ob327 (ft hi251 ob328 (gi hi67 q8_52_39))) rfl) (an hb490 (eqs hb474 (ft hi297 ob327 (ft hi252 ob328 (gi hi68 q8_52_39))) rfl) (an hb489 (eqs hb475 (ft hi298 ob327 (ft hi253 ob328 (gi hi69 q8_52_39))) rfl) (an hb488 (eqs hb476 (ft hi299 ob327 (ft hi254 ob328 (gi hi70 q8_52_39))) rfl) (an hb487 (eqs hb477 (ft hb400 ob327 (ft hb368 ob328 (gb hb55 q8_52_39))) rfl) (an hb486 (eqs hb478 (ft hb401 ob327 (ft hb369 ob328 (gb hb56 q8_52_39))) rfl) (an hb485 (eqs hb479 (ft hb402 ob327 (ft hb370 ob328 (gb hb57 q8_52_39))) rfl) (an hb484 (eqs hb480 (ft hi300 ob327 (ft hi255 ob328 (gi hi71 q8_52_39))) rfl) (an hb483 (eqs hb481 (ft hi301 ob327 (ft hi256 ob328 (gi hi72 q8_52_39))) rfl) (eqs hb482 (ft hi302 ob327 (ft hi257 ob328 (gi hi73 q8_52_39))) rfl))))))))))))) (an hb577 (an hb511 (an hb499 (eqs hb495 (ft hb403 ob327 (ft hb371 ob328 (th hb348 ob329))) rfl) (an hb498 (eqs hb496 (ft hb404 ob327 (ft hb372 ob328 (th hb349 ob329))) rfl) (eqs hb497 (ft hi303 ob327 (ft hi258 ob328 (th hi224 ob329))) rfl))) (an hb510 (eqs hb500 (ft hi304 ob327 (ft hi259 ob328 (th hi225 ob329))) rfl) (an hb509 (eqs hb501 (ft hi305 ob327 (ft hi260 ob328 (th hi226 ob329))) rfl) (an hb508 (eqs hb502 (ft hb405 ob327 (ft hb373 ob328 (th hb350 ob329))) rfl) (an hb507 (eqs hb503 (ft hi306 ob327 (ft hi261 ob328 (th hi227 ob329))) rfl) (an hb506 (eqs hb504 (ft hi307 ob327 (ft hi262 ob328 (th hi228 ob329))) rfl) (eqs hb505 (ft hi308 ob327 (ft hi263 ob328 (th hi229 ob329))) rfl))))))) (an hb576 (an hb536 (an hb522 (eqs hb512 (ft hb406 ob327 (ft hb374 ob328 (tt hb351 ob329 (gb hb61 q8_52_39)))) rfl) (an hb521 (eqs hb513 (ft hb407 ob327 (ft hb375 ob328 (tt hb352 ob329 (gb hb62 q8_52_39)))) rfl) (an hb520 (eqs hb514 (ft hb408 ob327 (ft hb376 ob328 (tt hb353 ob329 (gb hb63 q8_52_39)))) rfl) (an hb519 (eqs hb515 (ft hi309 ob327 (ft hi264 ob328 (tt hi230 ob329 (gi hi80 q8_52_39)))) rfl) (an hb518 (eqs hb516 (ft hi310 ob327 (ft hi265 ob328 (tt hi231 ob329 (gi hi81 q8_52_39)))) rfl) (eqs hb517 (ft hi311 ob327 (ft hi266 ob328 (tt hi232 ob329 (gi hi82 q8_52_39)))) rfl)))))) (an hb535 (an hb527 (eqs hb523 (ft hb409 ob327 (ft hb377 ob328 (tt hb354 ob329 (gb hb64 q8_52_39)))) rfl) (an hb526 (eqs hb524 (ft hb410 ob327 (ft hb378 ob328 (tt hb355 ob329 (gb hb65 q8_52_39)))) rfl) (eqs hb525 (ft hi312 ob327 (ft hi267 ob328 (tt hi233 ob329 (gi hi83 q8_52_39)))) rfl))) (an hb534 (eqs hb528 (ft hb411 ob327 (ft hb379 ob328 (tt hb356 ob329 (gb hb66 q8_52_39)))) rfl) (an hb533 (eqs hb529 (ft hi313 ob327 (ft hi268 ob328 (tt hi234 ob329 (gi hi84 q8_52_39)))) rfl) (an hb532 (eqs hb530 (ft hi314 ob327 (ft hi269 ob328 (tt hi235 ob329 (gi hi85 q8_52_39)))) rfl) (eqs hb531 (ft hi315 ob327 (ft hi270 ob328 (tt hi236 ob329 (gi hi86 q8_52_39)))) rfl)))))) (an hb575 (an hb565 (eqs hb537 (ft hb412 ob327 (ft hb380 ob328 (tt hb357 ob329 (gb hb67 q8_52_39)))) rfl) (an hb564 (eqs hb538 (ft hb413 ob327 (ft hb381 ob328 (tt hb358 ob329 (gb hb68 q8_52_39)))) rfl) (an hb563 (eqs hb539 (ft hb414 ob327 (ft hb382 ob328 (tt hb359 ob329 (gb hb69 q8_52_39)))) rfl) (an hb562 (eqs hb540 (ft hi316 ob327 (ft hi271 ob328 (tt hi237 ob329 (gi hi87 q8_52_39)))) rfl) (an hb561 (eqs hb541 (ft hi317 ob327 (ft hi272 ob328 (tt hi238 ob329 (gi hi88 q8_52_39)))) rfl) (an hb560 (eqs hb542 (ft hi318 ob327 (ft hi273 ob328 (tt hi239 ob329 (gi hi89 q8_52_39)))) rfl) (an hb559 (eqs hb543 (ft hi319 ob327 (ft hi274 ob328 (tt hi240 ob329 (gi hi90 q8_52_39)))) rfl) (an hb558 (eqs hb544 (ft hi320 ob327 (ft hi275 ob328 (tt hi241 ob329 (gi hi91 q8_52_39)))) rfl) (an hb557 (eqs hb545 (ft hi321 ob327 (ft hi276 ob328 (tt hi242 ob329 (gi hi92 q8_52_39)))) rfl) (an hb556 (eqs hb546 (ft hi322 ob327 (ft hi277 ob328 (tt hi243 ob329 (gi hi93 q8_52_39)))) rfl) (an hb555 (eqs hb547 (ft hb415 ob327 (ft hb383 ob328 (tt hb360 ob329 (gb hb70 q8_52_39)))) rfl) (an hb554 (eqs hb548 (ft hi323 ob327 (ft hi278 ob328 (tt hi244 ob329 (gi hi94 q8_52_39)))) rfl) (an hb553 (eqs hb549 (ft hi324 ob327 (ft hi279 ob328 (tt hi245 ob329 (gi hi95 q8_52_39)))) rfl) (an hb552 (eqs hb550 (ft hb416 ob327 (ft hb384 ob328 (tt hb361 ob329 (gb hb71 q8_52_39)))) rfl) (eqs hb551 (ft hi325 ob327 (ft hi280 ob328 (tt hi246 ob329 (gi hi96 q8_52_39)))) rfl))))))))))))))) (an hb574 (eqs hb566 (gb hb72 q8_52_39) rfl) (an hb573 (eqs hb567 (gb hb73 q8_52_39) rfl) (an hb572 (eqs hb568 (gb hb74 q8_52_39) rfl) (an hb571 (eqs hb569 (gi hi97 q8_52_39) rfl) (eqs hb570 (gb hb75 q8_52_39) rfl))))))))))
    have q10_326_580 : tabF T47 10 [] [] = ([], [true, true]) := awake10
    have q10_49_37 : tabF T47 10 [] [] = ([], [true, true]) := awake10
    have ob157 : ρ.b 157 = false := (hb157.trans (r51.symm ▸ (rg_tri hr).2.1))
    have ob158 : ρ.b 158 = false := (hb158.trans (r51.symm ▸ (rg_tri hr).2.2.1))
    have ob159 : ρ.b 159 = false := by rw [hb159, ob157, ob158]; rfl
    have ob320 : ρ.b 320 = (ρ.b 254) := by rw [hb320, (an hb319 (an hb279 (an hb265 (eqs hb255 (gb hb61 q8_52_39) rfl) (an hb264 (eqs hb256 (gb hb62 q8_52_39) rfl) (an hb263 (eqs hb257 (gb hb63 q8_52_39) rfl) (an hb262 (eqs hb258 (gi hi80 q8_52_39) rfl) (an hb261 (eqs hb259 (gi hi81 q8_52_39) rfl) (eqs hb260 (gi hi82 q8_52_39) rfl)))))) (an hb278 (an hb270 (eqs hb266 (gb hb64 q8_52_39) rfl) (an hb269 (eqs hb267 (gb hb65 q8_52_39) rfl) (eqs hb268 (gi hi83 q8_52_39) rfl))) (an hb277 (eqs hb271 (gb hb66 q8_52_39) rfl) (an hb276 (eqs hb272 (gi hi84 q8_52_39) rfl) (an hb275 (eqs hb273 (gi hi85 q8_52_39) rfl) (eqs hb274 (gi hi86 q8_52_39) rfl)))))) (an hb318 (an hb308 (eqs hb280 (gb hb67 q8_52_39) rfl) (an hb307 (eqs hb281 (gb hb68 q8_52_39) rfl) (an hb306 (eqs hb282 (gb hb69 q8_52_39) rfl) (an hb305 (eqs hb283 (gi hi87 q8_52_39) rfl) (an hb304 (eqs hb284 (gi hi88 q8_52_39) rfl) (an hb303 (eqs hb285 (gi hi89 q8_52_39) rfl) (an hb302 (eqs hb286 (gi hi90 q8_52_39) rfl) (an hb301 (eqs hb287 (gi hi91 q8_52_39) rfl) (an hb300 (eqs hb288 (gi hi92 q8_52_39) rfl) (an hb299 (eqs hb289 (gi hi93 q8_52_39) rfl) (an hb298 (eqs hb290 (gb hb70 q8_52_39) rfl) (an hb297 (eqs hb291 (gi hi94 q8_52_39) rfl) (an hb296 (eqs hb292 (gi hi95 q8_52_39) rfl) (an hb295 (eqs hb293 (gb hb71 q8_52_39) rfl) (eqs hb294 (gi hi96 q8_52_39) rfl))))))))))))))) (an hb317 (eqs hb309 (gb hb72 q8_52_39) rfl) (an hb316 (eqs hb310 (gb hb73 q8_52_39) rfl) (an hb315 (eqs hb311 (gb hb74 q8_52_39) rfl) (an hb314 (eqs hb312 (gi hi97 q8_52_39) rfl) (eqs hb313 (gb hb75 q8_52_39) rfl)))))))]; exact Bool.and_true _
    have ob321 : ρ.b 321 = (ρ.b 254) := by rw [hb321, (an hb237 (eqs hb199 (gb hb49 q8_52_39) rfl) (an hb236 (an hb210 (eqs hb200 (gb hb50 q8_52_39) rfl) (an hb209 (eqs hb201 (gb hb51 q8_52_39) rfl) (an hb208 (eqs hb202 (gb hb52 q8_52_39) rfl) (an hb207 (eqs hb203 (gi hi63 q8_52_39) rfl) (an hb206 (eqs hb204 (gi hi64 q8_52_39) rfl) (eqs hb205 (gi hi65 q8_52_39) rfl)))))) (an hb235 (an hb215 (eqs hb211 (gb hb53 q8_52_39) rfl) (an hb214 (eqs hb212 (gb hb54 q8_52_39) rfl) (eqs hb213 (gi hi66 q8_52_39) rfl))) (an hb234 (eqs hb216 (gi hi67 q8_52_39) rfl) (an hb233 (eqs hb217 (gi hi68 q8_52_39) rfl) (an hb232 (eqs hb218 (gi hi69 q8_52_39) rfl) (an hb231 (eqs hb219 (gi hi70 q8_52_39) rfl) (an hb230 (eqs hb220 (gb hb55 q8_52_39) rfl) (an hb229 (eqs hb221 (gb hb56 q8_52_39) rfl) (an hb228 (eqs hb222 (gb hb57 q8_52_39) rfl) (an hb227 (eqs hb223 (gi hi71 q8_52_39) rfl) (an hb226 (eqs hb224 (gi hi72 q8_52_39) rfl) (eqs hb225 (gi hi73 q8_52_39) rfl))))))))))))), ob320]; rfl
    have ob322 : ρ.b 322 = (ρ.b 254) := by rw [hb322, (an hb198 (eqs hb160 (gb hb40 q8_52_39) rfl) (an hb197 (an hb171 (eqs hb161 (gb hb41 q8_52_39) rfl) (an hb170 (eqs hb162 (gb hb42 q8_52_39) rfl) (an hb169 (eqs hb163 (gb hb43 q8_52_39) rfl) (an hb168 (eqs hb164 (gi hi52 q8_52_39) rfl) (an hb167 (eqs hb165 (gi hi53 q8_52_39) rfl) (eqs hb166 (gi hi54 q8_52_39) rfl)))))) (an hb196 (an hb176 (eqs hb172 (gb hb44 q8_52_39) rfl) (an hb175 (eqs hb173 (gb hb45 q8_52_39) rfl) (eqs hb174 (gi hi55 q8_52_39) rfl))) (an hb195 (eqs hb177 (gi hi56 q8_52_39) rfl) (an hb194 (eqs hb178 (gi hi57 q8_52_39) rfl) (an hb193 (eqs hb179 (gi hi58 q8_52_39) rfl) (an hb192 (eqs hb180 (gi hi59 q8_52_39) rfl) (an hb191 (eqs hb181 (gb hb46 q8_52_39) rfl) (an hb190 (eqs hb182 (gb hb47 q8_52_39) rfl) (an hb189 (eqs hb183 (gb hb48 q8_52_39) rfl) (an hb188 (eqs hb184 (gi hi60 q8_52_39) rfl) (an hb187 (eqs hb185 (gi hi61 q8_52_39) rfl) (eqs hb186 (gi hi62 q8_52_39) rfl))))))))))))), ob321]; rfl
    have ob323 : ρ.b 323 = (ρ.b 254) := by rw [hb323, ob159, ob322]; rfl
    have q10_196_324 : tabF T47 10 [] [] = ([], [true, true]) := awake10
    exact fin4 (tt hb590 ob589 (an hb588 ob587 (an hb586 ob585 (tt hb584 ob583 (an hb582 ob579 (gb hb581 q10_326_580)))))) (by (simp only [ob36, (gb hb37 q10_49_37), (gb hb39 q8_52_39), ob76, (gb hb77 q8_99_77), ob155, ob156, ob323, (gb hb324 q10_196_324), ob579, (gb hb580 q10_326_580), t37, Bool.not_true, Bool.not_false, Bool.and_true, Bool.and_false, Bool.true_and, Bool.false_and, Bool.or_true, Bool.true_or, Bool.or_false, Bool.false_or]) <;> rfl)
  · intro c28 c29 c30 c31 c32 c33 c34 x21 x22 x23 x24 x25 x26 h11 hr hW
    have t48 : ρ.i 48 = 0 := gi hi48 h11
    have t36 : ρ.b 36 = false := by rw [hb36, t48]; rfl
    have r196 : ρ.i 196 = 3 := by rw [hi196, r51, quo64 _ (reg_sm hr)]; exact (rg_noi hr).2.2.2
    have q8_99_77 : tabF T47 8 [i0, i1, i2, i3, i4, i5, i6, i7, i8, i9, i10, i11, i12, i13, i14, i15, i16, i17, i18, i19, i20, i21, i22, i23, i24, i25, i26, i27, i28, i29, i30, i31, i32, i33, i34, i35, i36, i37, i38, i39, i40, i41, i42, i43, i44, i45, 21, v] [b0, b1, b2, b3, b4, b5, b6, b7, b8, b9, b10, b11, b12, b13, b14, b15, b16, b17, b18, b19, b20, b21, b22, b23, b24, b25, b26, b27, b28, b29, b30, b31, b32, b33, b34, b35] = ([d0, d1, d2, d3, d4, d5, d6, d7, d8, d9, d10, d11, d12, d13, d14, d15, d16, d17, d18, d19, d20, d21, d22, d23, d24, d25, d26, d27, d28, d29, d30, d31, d32, d33, d34, d35, d36, d37, d38, d39, d40, d41, d42, d43, d44, d45, 0], [true, y0, y1, y2, y3, y4, y5, y6, y7, y8, y9, y10, y11, y12, y13, y14, y15, y16, y17, y18, y19, y20, y21, y22, y23, y24, y25, y26, y27, y28, false, y30, y31, y32, y33, y34, y35]) := hOff
    have q12_146_114 : tabF T47 12 [ρ.i 99, ρ.i 100, ρ.i 101, ρ.i 102, ρ.i 103, ρ.i 104, ρ.i 105, ρ.i 106, ρ.i 107, ρ.i 108, ρ.i 109, ρ.i 110, ρ.i 111, ρ.i 112, ρ.i 113, ρ.i 114, ρ.i 115, ρ.i 116, ρ.i 117, ρ.i 118, ρ.i 119, ρ.i 120, ρ.i 121, ρ.i 122, ρ.i 123, ρ.i 124, ρ.i 125, ρ.i 126, ρ.i 127, ρ.i 128, ρ.i 129, ρ.i 130, ρ.i 131, ρ.i 132, ρ.i 133, ρ.i 134, ρ.i 135, ρ.i 136, ρ.i 137, ρ.i 138, ρ.i 139, ρ.i 140, ρ.i 141, ρ.i 142, ρ.i 143, ρ.i 144] [ρ.b 78, ρ.b 79, ρ.b 80, ρ.b 81, ρ.b 82, ρ.b 83, ρ.b 84, ρ.b 85, ρ.b 86, ρ.b 87, ρ.b 88, ρ.b 89, ρ.b 90, ρ.b 91, ρ.b 92, ρ.b 93, ρ.b 94, ρ.b 95, ρ.b 96, ρ.b 97, ρ.b 98, ρ.b 99, ρ.b 100, ρ.b 101, ρ.b 102, ρ.b 103, ρ.b 104, ρ.b 105, ρ.b 106, ρ.b 107, ρ.b 108, ρ.b 109, ρ.b 110, ρ.b 111, ρ.b 112, ρ.b 113] = ([d0, d1, d2, d3, d4, d5, d6, d7, d8, d9, d10, d11, d12, d13, d14, d15, d16, d17, d18, d19, d20, d21, d22, d23, d24, d25, d26, d27, d28, d29, d30, d31, d32, d33, d34, d35, d36, d37, d38, d39, d40, d41, d42, d43, d44, d45, ((if 0 < d3 then 1 else 0) + (if 0 < d14 then 2 else 0) + (if 0 < d22 then 4 else 0) + (if 0 < d31 then 8 else 0) + (if 0 < d40 then 16 else 0) + (if y34 then 64 else 0) + (if false then 128 else 0)), 0], [y0, y1, y2, y3, y4, y5, y6, y7, y8, y9, y10, y11, y12, y13, y14, y15, y16, y17, y18, y19, y20, y21, y22, y23, y24, y25, y26, y27, y28, false, y30, y31, y32, y33, false, y35]) := by rw [(gi hi99 q8_99_77), (gi hi100 q8_99_77), (gi hi101 q8_99_77), (gi hi102 q8_99_77), (gi hi103 q8_99_77), (gi hi104 q8_99_77), (gi hi105 q8_99_77), (gi hi106 q8_99_77), (gi hi107 q8_99_77), (gi hi108 q8_99_77), (gi hi109 q8_99_77), (gi hi110 q8_99_77), (gi hi111 q8_99_77), (gi hi112 q8_99_77), (gi hi113 q8_99_77), (gi hi114 q8_99_77), (gi hi115 q8_99_77), (gi hi116 q8_99_77), (gi hi117 q8_99_77), (gi hi118 q8_99_77), (gi hi119 q8_99_77), (gi hi120 q8_99_77), (gi hi121 q8_99_77), (gi hi122 q8_99_77), (gi hi123 q8_99_77), (gi hi124 q8_99_77), (gi hi125 q8_99_77), (gi hi126 q8_99_77), (gi hi127 q8_99_77), (gi hi128 q8_99_77), (gi hi129 q8_99_77), (gi hi130 q8_99_77), (gi hi131 q8_99_77), (gi hi132 q8_99_77), (gi hi133 q8_99_77), (gi hi134 q8_99_77), (gi hi135 q8_99_77), (gi hi136 q8_99_77), (gi hi137 q8_99_77), (gi hi138 q8_99_77), (gi hi139 q8_99_77), (gi hi140 q8_99_77), (gi hi141 q8_99_77), (gi hi142 q8_99_77), (gi hi143 q8_99_77), (gi hi144 q8_99_77), (gb hb78 q8_99_77), (gb hb79 q8_99_77), (gb hb80 q8_99_77), (gb hb81 q8_99_77), (gb hb82 q8_99_77), (gb hb83 q8_99_77), (gb hb84 q8_99_77), (gb hb85 q8_99_77), (gb hb86 q8_99_77), (gb hb87 q8_99_77), (gb hb88 q8_99_77), (gb hb89 q8_99_77), (gb hb90 q8_99_77), (gb hb91 q8_99_77), (gb hb92 q8_99_77), (gb hb93 q8_99_77), (gb hb94 q8_99_77), (gb hb95 q8_99_77), (gb hb96 q8_99_77), (gb hb97 q8_99_77), (gb hb98 q8_99_77), (gb hb99 q8_99_77), (gb hb100 q8_99_77), (gb hb101 q8_99_77), (gb hb102 q8_99_77), (gb hb103 q8_99_77), (gb hb104 q8_99_77), (gb hb105 q8_99_77), (gb hb106 q8_99_77), (gb hb107 q8_99_77), (gb hb108 q8_99_77), (gb hb109 q8_99_77), (gb hb110 q8_99_77), (gb hb111 q8_99_77), (gb hb112 q8_99_77), (gb hb113 q8_99_77)]; exact hSt
    have s192 : ρ.i 192 = (if 0 < d3 then 1 else 0) + (if 0 < d14 then 2 else 0) + (if 0 < d22 then 4 else 0) + (if 0 < d31 then 8 else 0) + (if 0 < d40 then 16 else 0) + (if y34 then 64 else 0) + (if false then 128 else 0) := (gi hi192 q12_146_114)
    have oi51 : ρ.i 51 = r := r51
    have q8_52_39 : tabF T47 8 [i0, i1, i2, i3, i4, i5, i6, i7, i8, i9, i10, i11, i12, i13, i14, i15, i16, i17, i18, i19, i20, i21, i22, i23, i24, i25, i26, i27, i28, i29, i30, i31, i32, i33, i34, i35, i36, i37, i38, i39, i40, i41, i42, i43, i44, i45, ρ.i 51, v] [b0, b1, b2, b3, b4, b5, b6, b7, b8, b9, b10, b11, b12, b13, b14, b15, b16, b17, b18, b19, b20, b21, b22, b23, b24, b25, b26, b27, b28, b29, b30, b31, b32, b33, b34, b35] = ([i0, i1, i2, i3, i4, i5, i6, i7, i8, i9, i10, i11, i12, i13, i14, i15, i16, i17, i18, i19, i20, i21, i22, i23, i24, i25, i26, i27, c28, c29, c30, c31, c32, c33, c34, i35, i36, i37, i38, i39, i40, i41, i42, i43, i44, i45, 0], [true, b0, b1, b2, b3, b4, b5, b6, b7, b8, b9, b10, b11, b12, b13, b14, b15, b16, b17, b18, b19, b20, x21, x22, x23, x24, x25, x26, b27, b28, b29, b30, b31, b32, b33, b34, b35]) := by rw [oi51]; exact hW
    have ob36 : ρ.b 36 = false := t36
    have ob589 : ρ.b 589 = true := by rw [hb589, ob36]; rfl
    have ob76 : ρ.b 76 = false := (nez hb76 (gi hi98 q8_52_39))
    have ob587 : ρ.b 587 = true := by rw [hb587, ob76]; rfl
    have ob150 : ρ.b 150 = false := (nez hb150 (gi hi145 q8_99_77))
    have ob151 : ρ.b 151 = false := (nez hb151 (gi hi193 q12_146_114))
    have ob152 : ρ.b 152 = false := by rw [hb152, ob150, ob151]; rfl
    have ob153 : ρ.b 153 = false := (by rw [hb153, hi195, hi194, s192]; exact decide_eq_false (by rw [hAn]; decide))
    have ob154 : ρ.b 154 = false := by rw [hb154, ob152, ob153]; rfl
    have ob155 : ρ.b 155 = false := by rw [hb155, ob154, (gb hb107 q8_99_77)]; rfl
    have ob585 : ρ.b 585 = true := by rw [hb585, ob155]; rfl
    have ob156 : ρ.b 156 = false := (hb156.trans (r51.symm ▸ decide_eq_false (rg_noi hr).1))
    have ob583 : ρ.b 583 = true := by rw [hb583, ob156]; rfl
    have ob327 : ρ.b 327 = false := (by rw [hb327, r196]; rfl)
    have ob328 : ρ.b 328 = false := (by rw [hb328, r196]; rfl)
    have ob329 : ρ.b 329 = false := (by rw [hb329, r196]; rfl)
    have ob330 : ρ.b 330 = true := (by rw [hb330, r196]; rfl)
    have ob579 : ρ.b 579 = true := (an hb579 (an hb455 (eqs hb417 (ft hb385 ob327 (gb hb40 q8_52_39)) rfl) (an hb454 (an hb428 (eqs hb418 (ft hb386 ob327 (gb hb41 q8_52_39)) rfl) (an hb427 (eqs hb419 (ft hb387 ob327 (gb hb42 q8_52_39)) rfl) (an hb426 (eqs hb420 (ft hb388 ob327 (gb hb43 q8_52_39)) rfl) (an hb425 (eqs hb421 (ft hi281 ob327 (gi hi52 q8_52_39)) rfl) (an hb424 (eqs hb422 (ft hi282 ob327 (gi hi53 q8_52_39)) rfl) (eqs hb423 (ft hi283 ob327 (gi hi54 q8_52_39)) rfl)))))) (an hb453 (an hb433 (eqs hb429 (ft hb389 ob327 (gb hb44 q8_52_39)) rfl) (an hb432 (eqs hb430 (ft hb390 ob327 (gb hb45 q8_52_39)) rfl) (eqs hb431 (ft hi284 ob327 (gi hi55 q8_52_39)) rfl))) (an hb452 (eqs hb434 (ft hi285 ob327 (gi hi56 q8_52_39)) rfl) (an hb451 (eqs hb435 (ft hi286 ob327 (gi hi57 q8_52_39)) rfl) (an hb450 (eqs hb436 (ft hi287 ob327 (gi hi58 q8_52_39)) rfl) (an hb449 (eqs hb437 (ft hi288 ob327 (gi hi59 q8_52_39)) rfl) (an hb448 (eqs hb438 (ft hb391 ob327 (gb hb46 q8_52_39)) rfl) (an hb447 (eqs hb439 (ft hb392 ob327 (gb hb47 q8_52_39)) rfl) (an hb446 (eqs hb440 (ft hb393 ob327 (gb hb48 q8_52_39)) rfl) (an hb445 (eqs hb441 (ft hi289 ob327 (gi hi60 q8_52_39)) rfl) (an hb444 (eqs hb442 (ft hi290 ob327 (gi hi61 q8_52_39)) rfl) (eqs hb443 (ft hi291 ob327 (gi hi62 q8_52_39)) rfl))))))))))))) (an hb578 (an hb494 (eqs hb456 (ft hb394 ob327 (ft hb362 ob328 (gb hb49 q8_52_39))) rfl) (an hb493 (an hb467 (eqs hb457 (ft hb395 ob327 (ft hb363 ob328 (gb hb50 q8_52_39))) rfl) (an hb466 (eqs hb458 (ft hb396 ob327 (ft hb364 ob328 (gb hb51 q8_52_39))) rfl) (an hb465 (eqs hb459 (ft hb397 ob327 (ft hb365 ob328 (gb hb52 q8_52_39))) rfl) (an hb464 (eqs hb460 (ft hi292 ob327 (ft hi247 ob328 (gi hi63 q8_52_39))) rfl) (an hb463 (eqs hb461 (ft hi293 ob327 (ft hi248 ob328 (gi hi64 q8_52_39))) rfl) (eqs hb462 (ft hi294 ob327 (ft hi249 ob328 (gi hi65 q8_52_39))) rfl)))))) (an hb492 (an hb472 (eqs hb468 (ft hb398 ob327 (ft hb366 ob328 (gb hb53 q8_52_39))) rfl) (an hb471 (eqs hb469 (ft hb399 ob327 (ft hb367 ob328 (gb hb54 q8_52_39))) rfl) (eqs hb470 (ft hi295 ob327 (ft hi250 ob328 (gi hi66 q8_52_39))) rfl))) (an hb491 (eqs hb473 (ft hi296 ob327 (ft hi251 ob328 (gi hi67 q8_52_39))) rfl) (an hb490 (eqs hb474 (ft hi297 ob327 (ft hi252 ob328 (gi hi68 q8_52_39))) rfl) (an hb489 (eqs hb475 (ft hi298 ob327 (ft hi253 ob328 (gi hi69 q8_52_39))) rfl) (an hb488 (eqs hb476 (ft hi299 ob327 (ft hi254 ob328 (gi hi70 q8_52_39))) rfl) (an hb487 (eqs hb477 (ft hb400 ob327 (ft hb368 ob328 (gb hb55 q8_52_39))) rfl) (an hb486 (eqs hb478 (ft hb401 ob327 (ft hb369 ob328 (gb hb56 q8_52_39))) rfl) (an hb485 (eqs hb479 (ft hb402 ob327 (ft hb370 ob328 (gb hb57 q8_52_39))) rfl) (an hb484 (eqs hb480 (ft hi300 ob327 (ft hi255 ob328 (gi hi71 q8_52_39))) rfl) (an hb483 (eqs hb481 (ft hi301 ob327 (ft hi256 ob328 (gi hi72 q8_52_39))) rfl) (eqs hb482 (ft hi302 ob327 (ft hi257 ob328 (gi hi73 q8_52_39))) rfl))))))))))))) (an hb577 (an hb511 (an hb499 (eqs hb495 (ft hb403 ob327 (ft hb371 ob328 (ft hb348 ob329 (gb hb58 q8_52_39)))) rfl) (an hb498 (eqs hb496 (ft hb404 ob327 (ft hb372 ob328 (ft hb349 ob329 (gb hb59 q8_52_39)))) rfl) (eqs hb497 (ft hi303 ob327 (ft hi258 ob328 (ft hi224 ob329 (gi hi74 q8_52_39)))) rfl))) (an hb510 (eqs hb500 (ft hi304 ob327 (ft hi259 ob328 (ft hi225 ob329 (gi hi75 q8_52_39)))) rfl) (an hb509 (eqs hb501 (ft hi305 ob327 (ft hi260 ob328 (ft hi226 ob329 (gi hi76 q8_52_39)))) rfl) (an hb508 (eqs hb502 (ft hb405 ob327 (ft hb373 ob328 (ft hb350 ob329 (gb hb60 q8_52_39)))) rfl) (an hb507 (eqs hb503 (ft hi306 ob327 (ft hi261 ob328 (ft hi227 ob329 (gi hi77 q8_52_39)))) rfl) (an hb506 (eqs hb504 (ft hi307 ob327 (ft hi262 ob328 (ft hi228 ob329 (gi hi78 q8_52_39)))) rfl) (eqs hb505 (ft hi308 ob327 (ft hi263 ob328 (ft hi229 ob329 (gi hi79 q8_52_39)))) rfl))))))) (an hb576 (an hb536 (an hb522 (eqs hb512 (ft hb406 ob327 (ft hb374 ob328 (ft hb351 ob329 (th hb337 ob330)))) rfl) (an hb521 (eqs hb513 (ft hb407 ob327 (ft hb375 ob328 (ft hb352 ob329 (th hb338 ob330)))) rfl) (an hb520 (eqs hb514 (ft hb408 ob327 (ft hb376 ob328 (ft hb353 ob329 (th hb339 ob330)))) rfl) (an hb519 (eqs hb515 (ft hi309 ob327 (ft hi264 ob328 (ft hi230 ob329 (th hi207 ob330)))) rfl) (an hb518 (eqs hb516 (ft hi310 ob327 (ft hi265 ob328 (ft hi231 ob329 (th hi208 ob330)))) rfl) (eqs hb517 (ft hi311 ob327 (ft hi266 ob328 (ft hi232 ob329 (th hi209 ob330)))) rfl)))))) (an hb535 (an hb527 (eqs hb523 (ft hb409 ob327 (ft hb377 ob328 (ft hb354 ob329 (th hb340 ob330)))) rfl) (an hb526 (eqs hb524 (ft hb410 ob327 (ft hb378 ob328 (ft hb355 ob329 (th hb341 ob330)))) rfl) (eqs hb525 (ft hi312 ob327 (ft hi267 ob328 (ft hi233 ob329 (th hi210 ob330)))) rfl))) (an hb534 (eqs hb528 (ft hb411 ob327 (ft hb379 ob328 (ft hb356 ob329 (th hb342 ob330)))) rfl) (an hb533 (eqs hb529 (ft hi313 ob327 (ft hi268 ob328 (ft hi234 ob329 (th hi211 ob330)))) rfl) (an hb532 (eqs hb530 (ft hi314 ob327 (ft hi269 ob328 (ft hi235 ob329 (th hi212 ob330)))) rfl) (eqs hb531 (ft hi315 ob327 (ft hi270 ob328 (ft hi236 ob329 (th hi213 ob330)))) rfl)))))) (an hb575 (an hb565 (eqs hb537 (ft hb412 ob327 (ft hb380 ob328 (ft hb357 ob329 (tt hb343 ob330 (gb hb67 q8_52_39))))) rfl) (an hb564 (eqs hb538 (ft hb413 ob327 (ft hb381 ob328 (ft hb358 ob329 (tt hb344 ob330 (gb hb68 q8_52_39))))) rfl) (an hb563 (eqs hb539 (ft hb414 ob327 (ft hb382 ob328 (ft hb359 ob329 (tt hb345 ob330 (gb hb69 q8_52_39))))) rfl) (an hb562 (eqs hb540 (ft hi316 ob327 (ft hi271 ob328 (ft hi237 ob329 (tt hi214 ob330 (gi hi87 q8_52_39))))) rfl) (an hb561 (eqs hb541 (ft hi317 ob327 (ft hi272 ob328 (ft hi238 ob329 (tt hi215 ob330 (gi hi88 q8_52_39))))) rfl) (an hb560 (eqs hb542 (ft hi318 ob327 (ft hi273 ob328 (ft hi239 ob329 (tt hi216 ob330 (gi hi89 q8_52_39))))) rfl) (an hb559 (eqs hb543 (ft hi319 ob327 (ft hi274 ob328 (ft hi240 ob329 (tt hi217 ob330 (gi hi90 q8_52_39))))) rfl) (an hb558 (eqs hb544 (ft hi320 ob327 (ft hi275 ob328 (ft hi241 ob329 (tt hi218 ob330 (gi hi91 q8_52_39))))) rfl) (an hb557 (eqs hb545 (ft hi321 ob327 (ft hi276 ob328 (ft hi242 ob329 (tt hi219 ob330 (gi hi92 q8_52_39))))) rfl) (an hb556 (eqs hb546 (ft hi322 ob327 (ft hi277 ob328 (ft hi243 ob329 (tt hi220 ob330 (gi hi93 q8_52_39))))) rfl) (an hb555 (eqs hb547 (ft hb415 ob327 (ft hb383 ob328 (ft hb360 ob329 (tt hb346 ob330 (gb hb70 q8_52_39))))) rfl) (an hb554 (eqs hb548 (ft hi323 ob327 (ft hi278 ob328 (ft hi244 ob329 (tt hi221 ob330 (gi hi94 q8_52_39))))) rfl) (an hb553 (eqs hb549 (ft hi324 ob327 (ft hi279 ob328 (ft hi245 ob329 (tt hi222 ob330 (gi hi95 q8_52_39))))) rfl) (an hb552 (eqs hb550 (ft hb416 ob327 (ft hb384 ob328 (ft hb361 ob329 (tt hb347 ob330 (gb hb71 q8_52_39))))) rfl) (eqs hb551 (ft hi325 ob327 (ft hi280 ob328 (ft hi246 ob329 (tt hi223 ob330 (gi hi96 q8_52_39))))) rfl))))))))))))))) (an hb574 (eqs hb566 (gb hb72 q8_52_39) rfl) (an hb573 (eqs hb567 (gb hb73 q8_52_39) rfl) (an hb572 (eqs hb568 (gb hb74 q8_52_39) rfl) (an hb571 (eqs hb569 (gi hi97 q8_52_39) rfl) (eqs hb570 (gb hb75 q8_52_39) rfl))))))))))
    have q10_326_580 : tabF T47 10 [] [] = ([], [true, true]) := awake10
    have q10_49_37 : tabF T47 10 [] [] = ([], [true, true]) := awake10
    have ob157 : ρ.b 157 = false := (hb157.trans (r51.symm ▸ (rg_noi hr).2.1))
    have ob158 : ρ.b 158 = false := (hb158.trans (r51.symm ▸ (rg_noi hr).2.2.1))
    have ob159 : ρ.b 159 = false := by rw [hb159, ob157, ob158]; rfl
    have ob319 : ρ.b 319 = (ρ.b 279) := by rw [hb319, (an hb318 (an hb308 (eqs hb280 (gb hb67 q8_52_39) rfl) (an hb307 (eqs hb281 (gb hb68 q8_52_39) rfl) (an hb306 (eqs hb282 (gb hb69 q8_52_39) rfl) (an hb305 (eqs hb283 (gi hi87 q8_52_39) rfl) (an hb304 (eqs hb284 (gi hi88 q8_52_39) rfl) (an hb303 (eqs hb285 (gi hi89 q8_52_39) rfl) (an hb302 (eqs hb286 (gi hi90 q8_52_39) rfl) (an hb301 (eqs hb287 (gi hi91 q8_52_39) rfl) (an hb300 (eqs hb288 (gi hi92 q8_52_39) rfl) (an hb299 (eqs hb289 (gi hi93 q8_52_39) rfl) (an hb298 (eqs hb290 (gb hb70 q8_52_39) rfl) (an hb297 (eqs hb291 (gi hi94 q8_52_39) rfl) (an hb296 (eqs hb292 (gi hi95 q8_52_39) rfl) (an hb295 (eqs hb293 (gb hb71 q8_52_39) rfl) (eqs hb294 (gi hi96 q8_52_39) rfl))))))))))))))) (an hb317 (eqs hb309 (gb hb72 q8_52_39) rfl) (an hb316 (eqs hb310 (gb hb73 q8_52_39) rfl) (an hb315 (eqs hb311 (gb hb74 q8_52_39) rfl) (an hb314 (eqs hb312 (gi hi97 q8_52_39) rfl) (eqs hb313 (gb hb75 q8_52_39) rfl))))))]; exact Bool.and_true _
    have ob320 : ρ.b 320 = (ρ.b 279) := by rw [hb320, (an hb254 (an hb242 (eqs hb238 (gb hb58 q8_52_39) rfl) (an hb241 (eqs hb239 (gb hb59 q8_52_39) rfl) (eqs hb240 (gi hi74 q8_52_39) rfl))) (an hb253 (eqs hb243 (gi hi75 q8_52_39) rfl) (an hb252 (eqs hb244 (gi hi76 q8_52_39) rfl) (an hb251 (eqs hb245 (gb hb60 q8_52_39) rfl) (an hb250 (eqs hb246 (gi hi77 q8_52_39) rfl) (an hb249 (eqs hb247 (gi hi78 q8_52_39) rfl) (eqs hb248 (gi hi79 q8_52_39) rfl))))))), ob319]; rfl
    have ob321 : ρ.b 321 = (ρ.b 279) := by rw [hb321, (an hb237 (eqs hb199 (gb hb49 q8_52_39) rfl) (an hb236 (an hb210 (eqs hb200 (gb hb50 q8_52_39) rfl) (an hb209 (eqs hb201 (gb hb51 q8_52_39) rfl) (an hb208 (eqs hb202 (gb hb52 q8_52_39) rfl) (an hb207 (eqs hb203 (gi hi63 q8_52_39) rfl) (an hb206 (eqs hb204 (gi hi64 q8_52_39) rfl) (eqs hb205 (gi hi65 q8_52_39) rfl)))))) (an hb235 (an hb215 (eqs hb211 (gb hb53 q8_52_39) rfl) (an hb214 (eqs hb212 (gb hb54 q8_52_39) rfl) (eqs hb213 (gi hi66 q8_52_39) rfl))) (an hb234 (eqs hb216 (gi hi67 q8_52_39) rfl) (an hb233 (eqs hb217 (gi hi68 q8_52_39) rfl) (an hb232 (eqs hb218 (gi hi69 q8_52_39) rfl) (an hb231 (eqs hb219 (gi hi70 q8_52_39) rfl) (an hb230 (eqs hb220 (gb hb55 q8_52_39) rfl) (an hb229 (eqs hb221 (gb hb56 q8_52_39) rfl) (an hb228 (eqs hb222 (gb hb57 q8_52_39) rfl) (an hb227 (eqs hb223 (gi hi71 q8_52_39) rfl) (an hb226 (eqs hb224 (gi hi72 q8_52_39) rfl) (eqs hb225 (gi hi73 q8_52_39) rfl))))))))))))), ob320]; rfl
    have ob322 : ρ.b 322 = (ρ.b 279) := by rw [hb322, (an hb198 (eqs hb160 (gb hb40 q8_52_39) rfl) (an hb197 (an hb171 (eqs hb161 (gb hb41 q8_52_39) rfl) (an hb170 (eqs hb162 (gb hb42 q8_52_39) rfl) (an hb169 (eqs hb163 (gb hb43 q8_52_39) rfl) (an hb168 (eqs hb164 (gi hi52 q8_52_39) rfl) (an hb167 (eqs hb165 (gi hi53 q8_52_39) rfl) (eqs hb166 (gi hi54 q8_52_39) rfl)))))) (an hb196 (an hb176 (eqs hb172 (gb hb44 q8_52_39) rfl) (an hb175 (eqs hb173 (gb hb45 q8_52_39) rfl) (eqs hb174 (gi hi55 q8_52_39) rfl))) (an hb195 (eqs hb177 (gi hi56 q8_52_39) rfl) (an hb194 (eqs hb178 (gi hi57 q8_52_39) rfl) (an hb193 (eqs hb179 (gi hi58 q8_52_39) rfl) (an hb192 (eqs hb180 (gi hi59 q8_52_39) rfl) (an hb191 (eqs hb181 (gb hb46 q8_52_39) rfl) (an hb190 (eqs hb182 (gb hb47 q8_52_39) rfl) (an hb189 (eqs hb183 (gb hb48 q8_52_39) rfl) (an hb188 (eqs hb184 (gi hi60 q8_52_39) rfl) (an hb187 (eqs hb185 (gi hi61 q8_52_39) rfl) (eqs hb186 (gi hi62 q8_52_39) rfl))))))))))))), ob321]; rfl
    have ob323 : ρ.b 323 = (ρ.b 279) := by rw [hb323, ob159, ob322]; rfl
    have q10_196_324 : tabF T47 10 [] [] = ([], [true, true]) := awake10
    exact fin4 (tt hb590 ob589 (an hb588 ob587 (an hb586 ob585 (tt hb584 ob583 (an hb582 ob579 (gb hb581 q10_326_580)))))) (by (simp only [ob36, (gb hb37 q10_49_37), (gb hb39 q8_52_39), ob76, (gb hb77 q8_99_77), ob155, ob156, ob323, (gb hb324 q10_196_324), ob579, (gb hb580 q10_326_580), t37, Bool.not_true, Bool.not_false, Bool.and_true, Bool.and_false, Bool.true_and, Bool.false_and, Bool.or_true, Bool.true_or, Bool.or_false, Bool.false_or]) <;> rfl)
  · intro c35 c36 c37 c38 c39 c40 c41 c42 c43 c44 x27 x28 x29 x30 x31 h11 hr hW
    have t48 : ρ.i 48 = 0 := gi hi48 h11
    have t36 : ρ.b 36 = false := by rw [hb36, t48]; rfl
    have r196 : ρ.i 196 = 4 := by rw [hi196, r51, quo64 _ (reg_sm hr)]; exact (rg_dmc hr).2.2.2
    have q8_99_77 : tabF T47 8 [i0, i1, i2, i3, i4, i5, i6, i7, i8, i9, i10, i11, i12, i13, i14, i15, i16, i17, i18, i19, i20, i21, i22, i23, i24, i25, i26, i27, i28, i29, i30, i31, i32, i33, i34, i35, i36, i37, i38, i39, i40, i41, i42, i43, i44, i45, 21, v] [b0, b1, b2, b3, b4, b5, b6, b7, b8, b9, b10, b11, b12, b13, b14, b15, b16, b17, b18, b19, b20, b21, b22, b23, b24, b25, b26, b27, b28, b29, b30, b31, b32, b33, b34, b35] = ([d0, d1, d2, d3, d4, d5, d6, d7, d8, d9, d10, d11, d12, d13, d14, d15, d16, d17, d18, d19, d20, d21, d22, d23, d24, d25, d26, d27, d28, d29, d30, d31, d32, d33, d34, d35, d36, d37, d38, d39, d40, d41, d42, d43, d44, d45, 0], [true, y0, y1, y2, y3, y4, y5, y6, y7, y8, y9, y10, y11, y12, y13, y14, y15, y16, y17, y18, y19, y20, y21, y22, y23, y24, y25, y26, y27, y28, false, y30, y31, y32, y33, y34, y35]) := hOff
    have q12_146_114 : tabF T47 12 [ρ.i 99, ρ.i 100, ρ.i 101, ρ.i 102, ρ.i 103, ρ.i 104, ρ.i 105, ρ.i 106, ρ.i 107, ρ.i 108, ρ.i 109, ρ.i 110, ρ.i 111, ρ.i 112, ρ.i 113, ρ.i 114, ρ.i 115, ρ.i 116, ρ.i 117, ρ.i 118, ρ.i 119, ρ.i 120, ρ.i 121, ρ.i 122, ρ.i 123, ρ.i 124, ρ.i 125, ρ.i 126, ρ.i 127, ρ.i 128, ρ.i 129, ρ.i 130, ρ.i 131, ρ.i 132, ρ.i 133, ρ.i 134, ρ.i 135, ρ.i 136, ρ.i 137, ρ.i 138, ρ.i 139, ρ.i 140, ρ.i 141, ρ.i 142, ρ.i 143, ρ.i 144] [ρ.b 78, ρ.b 79, ρ.b 80, ρ.b 81, ρ.b 82, ρ.b 83, ρ.b 84, ρ.b 85, ρ.b 86, ρ.b 87, ρ.b 88, ρ.b 89, ρ.b 90, ρ.b 91, ρ.b 92, ρ.b 93, ρ.b 94, ρ.b 95, ρ.b 96, ρ.b 97, ρ.b 98, ρ.b 99, ρ.b 100, ρ.b 101, ρ.b 102, ρ.b 103, ρ.b 104, ρ.b 105, ρ.b 106, ρ.b 107, ρ.b 108, ρ.b 109, ρ.b 110, ρ.b 111, ρ.b 112, ρ.b 113] = ([d0, d1, d2, d3, d4, d5, d6, d7, d8, d9, d10, d11, d12, d13, d14, d15, d16, d17, d18, d19, d20, d21, d22, d23, d24, d25, d26, d27, d28, d29, d30, d31, d32, d33, d34, d35, d36, d37, d38, d39, d40, d41, d42, d43, d44, d45, ((if 0 < d3 then 1 else 0) + (if 0 < d14 then 2 else 0) + (if 0 < d22 then 4 else 0) + (if 0 < d31 then 8 else 0) + (if 0 < d40 then 16 else 0) + (if y34 then 64 else 0) + (if false then 128 else 0)), 0], [y0, y1, y2, y3, y4, y5, y6, y7, y8, y9, y10, y11, y12, y13, y14, y15, y16, y17, y18, y19, y20, y21, y22, y23, y24, y25, y26, y27, y28, false, y30, y31, y32, y33, false, y35]) := by rw [(gi hi99 q8_99_77), (gi hi100 q8_99_77), (gi hi101 q8_99_77), (gi hi102 q8_99_77), (gi hi103 q8_99_77), (gi hi104 q8_99_77), (gi hi105 q8_99_77), (gi hi106 q8_99_77), (gi hi107 q8_99_77), (gi hi108 q8_99_77), (gi hi109 q8_99_77), (gi hi110 q8_99_77), (gi hi111 q8_99_77), (gi hi112 q8_99_77), (gi hi113 q8_99_77), (gi hi114 q8_99_77), (gi hi115 q8_99_77), (gi hi116 q8_99_77), (gi hi117 q8_99_77), (gi hi118 q8_99_77), (gi hi119 q8_99_77), (gi hi120 q8_99_77), (gi hi121 q8_99_77), (gi hi122 q8_99_77), (gi hi123 q8_99_77), (gi hi124 q8_99_77), (gi hi125 q8_99_77), (gi hi126 q8_99_77), (gi hi127 q8_99_77), (gi hi128 q8_99_77), (gi hi129 q8_99_77), (gi hi130 q8_99_77), (gi hi131 q8_99_77), (gi hi132 q8_99_77), (gi hi133 q8_99_77), (gi hi134 q8_99_77), (gi hi135 q8_99_77), (gi hi136 q8_99_77), (gi hi137 q8_99_77), (gi hi138 q8_99_77), (gi hi139 q8_99_77), (gi hi140 q8_99_77), (gi hi141 q8_99_77), (gi hi142 q8_99_77), (gi hi143 q8_99_77), (gi hi144 q8_99_77), (gb hb78 q8_99_77), (gb hb79 q8_99_77), (gb hb80 q8_99_77), (gb hb81 q8_99_77), (gb hb82 q8_99_77), (gb hb83 q8_99_77), (gb hb84 q8_99_77), (gb hb85 q8_99_77), (gb hb86 q8_99_77), (gb hb87 q8_99_77), (gb hb88 q8_99_77), (gb hb89 q8_99_77), (gb hb90 q8_99_77), (gb hb91 q8_99_77), (gb hb92 q8_99_77), (gb hb93 q8_99_77), (gb hb94 q8_99_77), (gb hb95 q8_99_77), (gb hb96 q8_99_77), (gb hb97 q8_99_77), (gb hb98 q8_99_77), (gb hb99 q8_99_77), (gb hb100 q8_99_77), (gb hb101 q8_99_77), (gb hb102 q8_99_77), (gb hb103 q8_99_77), (gb hb104 q8_99_77), (gb hb105 q8_99_77), (gb hb106 q8_99_77), (gb hb107 q8_99_77), (gb hb108 q8_99_77), (gb hb109 q8_99_77), (gb hb110 q8_99_77), (gb hb111 q8_99_77), (gb hb112 q8_99_77), (gb hb113 q8_99_77)]; exact hSt
    have s192 : ρ.i 192 = (if 0 < d3 then 1 else 0) + (if 0 < d14 then 2 else 0) + (if 0 < d22 then 4 else 0) + (if 0 < d31 then 8 else 0) + (if 0 < d40 then 16 else 0) + (if y34 then 64 else 0) + (if false then 128 else 0) := (gi hi192 q12_146_114)
    have oi51 : ρ.i 51 = r := r51
    have q8_52_39 : tabF T47 8 [i0, i1, i2, i3, i4, i5, i6, i7, i8, i9, i10, i11, i12, i13, i14, i15, i16, i17, i18, i19, i20, i21, i22, i23, i24, i25, i26, i27, i28, i29, i30, i31, i32, i33, i34, i35, i36, i37, i38, i39, i40, i41, i42, i43, i44, i45, ρ.i 51, v] [b0, b1, b2, b3, b4, b5, b6, b7, b8, b9, b10, b11, b12, b13, b14, b15, b16, b17, b18, b19, b20, b21, b22, b23, b24, b25, b26, b27, b28, b29, b30, b31, b32, b33, b34, b35] = ([i0, i1, i2, i3, i4, i5, i6, i7, i8, i9, i10, i11, i12, i13, i14, i15, i16, i17, i18, i19, i20, i21, i22, i23, i24, i25, i26, i27, i28, i29, i30, i31, i32, i33, i34, c35, c36, c37, c38, c39, c40, c41, c42, c43, c44, i45, 0], [true, b0, b1, b2, b3, b4, b5, b6, b7, b8, b9, b10, b11, b12, b13, b14, b15, b16, b17, b18, b19, b20, b21, b22, b23, b24, b25, b26, x27, x28, x29, x30, x31, b32, b33, b34, b35]) := by rw [oi51]; exact hW
    have ob36 : ρ.b 36 = false := t36
    have ob589 : ρ.b 589 = true := by rw [hb589, ob36]; rfl
    have ob76 : ρ.b 76 = false := (nez hb76 (gi hi98 q8_52_39))
    have ob587 : ρ.b 587 = true := by rw [hb587, ob76]; rfl
    have ob150 : ρ.b 150 = false := (nez hb150 (gi hi145 q8_99_77))
    have ob151 : ρ.b 151 = false := (nez hb151 (gi hi193 q12_146_114))
    have ob152 : ρ.b 152 = false := by rw [hb152, ob150, ob151]; rfl
    have ob153 : ρ.b 153 = false := (by rw [hb153, hi195, hi194, s192]; exact decide_eq_false (by rw [hAn]; decide))
    have ob154 : ρ.b 154 = false := by rw [hb154, ob152, ob153]; rfl
    have ob155 : ρ.b 155 = false := by rw [hb155, ob154, (gb hb107 q8_99_77)]; rfl
    have ob585 : ρ.b 585 = true := by rw [hb585, ob155]; rfl
    have ob156 : ρ.b 156 = false := (hb156.trans (r51.symm ▸ decide_eq_false (rg_dmc hr).1))
    have ob583 : ρ.b 583 = true := by rw [hb583, ob156]; rfl
    have ob327 : ρ.b 327 = false := (by rw [hb327, r196]; rfl)
    have ob328 : ρ.b 328 = false := (by rw [hb328, r196]; rfl)
    have ob329 : ρ.b 329 = false := (by rw [hb329, r196]; rfl)
    have ob330 : ρ.b 330 = false := (by rw [hb330, r196]; rfl)
    have ob331 : ρ.b 331 = true := (by rw [hb331, r196]; rfl)
    have ob579 : ρ.b 579 = true := (an hb579 (an hb455 (eqs hb417 (ft hb385 ob327 (gb hb40 q8_52_39)) rfl) (an hb454 (an hb428 (eqs hb418 (ft hb386 ob327 (gb hb41 q8_52_39)) rfl) (an hb427 (eqs hb419 (ft hb387 ob327 (gb hb42 q8_52_39)) rfl) (an hb426 (eqs hb420 (ft hb388 ob327 (gb hb43 q8_52_39)) rfl) (an hb425 (eqs hb421 (ft hi281 ob327 (gi hi52 q8_52_39)) rfl) (an hb424 (eqs hb422 (ft hi282 ob327 (gi hi53 q8_52_39)) rfl) (eqs hb423 (ft hi283 ob327 (gi hi54 q8_52_39)) rfl)))))) (an hb453 (an hb433 (eqs hb429 (ft hb389 ob327 (gb hb44 q8_52_39)) rfl) (an hb432 (eqs hb430 (ft hb390 ob327 (gb hb45 q8_52_39)) rfl) (eqs hb431 (ft hi284 ob327 (gi hi55 q8_52_39)) rfl))) (an hb452 (eqs hb434 (ft hi285 ob327 (gi hi56 q8_52_39)) rfl) (an hb451 (eqs hb435 (ft hi286 ob327 (gi hi57 q8_52_39)) rfl) (an hb450 (eqs hb436 (ft hi287 ob327 (gi hi58 q8_52_39)) rfl) (an hb449 (eqs hb437 (ft hi288 ob327 (gi hi59 q8_52_39)) rfl) (an hb448 (eqs hb438 (ft hb391 ob327 (gb hb46 q8_52_39)) rfl) (an hb447 (eqs hb439 (ft hb392 ob327 (gb hb47 q8_52_39)) rfl) (an hb446 (eqs hb440 (ft hb393 ob327 (gb hb48 q8_52_39)) rfl) (an hb445 (eqs hb441 (ft hi289 ob327 (gi hi60 q8_52_39)) rfl) (an hb444 (eqs hb442 (ft hi290 ob327 (gi hi61 q8_52_39)) rfl) (eqs hb443 (ft hi291 ob327 (gi hi62 q8_52_39)) rfl))))))))))))) (an hb578 (an hb494 (eqs hb456 (ft hb394 ob327 (ft hb362 ob328 (gb hb49 q8_52_39))) rfl) (an hb493 (an hb467 (eqs hb457 (ft hb395 ob327 (ft hb363 ob328 (gb hb50 q8_52_39))) rfl) (an hb466 (eqs hb458 (ft hb396 ob327 (ft hb364 ob328 (gb hb51 q8_52_39))) rfl) (an hb465 (eqs hb459 (ft hb397 ob327 (ft hb365 ob328 (gb hb52 q8_52_39))) rfl) (an hb464 (eqs hb460 (ft hi292 ob327 (ft hi247 ob328 (gi hi63 q8_52_39))) rfl) (an hb463 (eqs hb461 (ft hi293 ob327 (ft hi248 ob328 (gi hi64 q8_52_39))) rfl) (eqs hb462 (ft hi294 ob327 (ft hi249 ob328 (gi hi65 q8_52_39))) rfl)))))) (an hb492 (an hb472 (eqs hb468 (ft hb398 ob327 (ft hb366 ob328 (gb hb53 q8_52_39))) rfl) (an hb471 (eqs hb469 (ft hb399 ob327 (ft hb367 ob328 (gb hb54 q8_52_39))) rfl) (eqs hb470 (ft hi295 ob327 (ft hi250 ob328 (gi hi66 q8_52_39))) rfl))) (an hb491 (eqs hb473 (ft hi296 ob327 (ft hi251 ob328 (gi hi67 q8_52_39))) rfl) (an hb490 (eqs hb474 (ft hi297 ob327 (ft hi252 ob328 (gi hi68 q8_52_39))) rfl) (an hb489 (eqs hb475 (ft hi298 ob327 (ft hi253 ob328 (gi hi69 q8_52_39))) rfl) (an hb488 (eqs hb476 (ft hi299 ob327 (ft hi254 ob328 (gi hi70 q8_52_39))) rfl) (an hb487 (eqs hb477 (ft hb400 ob327 (ft hb368 ob328 (gb hb55 q8_52_39))) rfl) (an hb486 (eqs hb478 (ft hb401 ob327 (ft hb369 ob328 (gb hb56 q8_52_39))) rfl) (an hb485 (eqs hb479 (ft hb402 ob327 (ft hb370 ob328 (gb hb57 q8_52_39))) rfl) (an hb484 (eqs hb480 (ft hi300 ob327 (ft hi255 ob328 (gi hi71 q8_52_39))) rfl) (an hb483 (eqs hb481 (ft hi301 ob327 (ft hi256 ob328 (gi hi72 q8_52_39))) rfl) (eqs hb482 (ft hi302 ob327 (ft hi257 ob328 (gi hi73 q8_52_39))) rfl))))))))))))) (an hb577 (an hb511 (an hb499 (eqs hb495 (ft hb403 ob327 (ft hb371 ob328 (ft hb348 ob329 (gb hb58 q8_52_39)))) rfl) (an hb498 (eqs hb496 (ft hb404 ob327 (ft hb372 ob328 (ft hb349 ob329 (gb hb59 q8_52_39)))) rfl) (eqs hb497 (ft hi303 ob327 (ft hi258 ob328 (ft hi224 ob329 (gi hi74 q8_52_39)))) rfl))) (an hb510 (eqs hb500 (ft hi304 ob327 (ft hi259 ob328 (ft hi225 ob329 (gi hi75 q8_52_39)))) rfl) (an hb509 (eqs hb501 (ft hi305 ob327 (ft hi260 ob328 (ft hi226 ob329 (gi hi76 q8_52_39)))) rfl) (an hb508 (eqs hb502 (ft hb405 ob327 (ft hb373 ob328 (ft hb350 ob329 (gb hb60 q8_52_39)))) rfl) (an hb507 (eqs hb503 (ft hi306 ob327 (ft hi261 ob328 (ft hi227 ob329 (gi hi77 q8_52_39)))) rfl) (an hb506 (eqs hb504 (ft hi307 ob327 (ft hi262 ob328 (ft hi228 ob329 (gi hi78 q8_52_39)))) rfl) (eqs hb505 (ft hi308 ob327 (ft hi263 ob328 (ft hi229 ob329 (gi hi79 q8_52_39)))) rfl))))))) (an hb576 (an hb536 (an hb522 (eqs hb512 (ft hb406 ob327 (ft hb374 ob328 (ft hb351 ob329 (ft hb337 ob330 (gb hb61 q8_52_39))))) rfl) (an hb521 (eqs hb513 (ft hb407 ob327 (ft hb375 ob328 (ft hb352 ob329 (ft hb338 ob330 (gb hb62 q8_52_39))))) rfl) (an hb520 (eqs hb514 (ft hb408 ob327 (ft hb376 ob328 (ft hb353 ob329 (ft hb339 ob330 (gb hb63 q8_52_39))))) rfl) (an hb519 (eqs hb515 (ft hi309 ob327 (ft hi264 ob328 (ft hi230 ob329 (ft hi207 ob330 (gi hi80 q8_52_39))))) rfl) (an hb518 (eqs hb516 (ft hi310 ob327 (ft hi265 ob328 (ft hi231 ob329 (ft hi208 ob330 (gi hi81 q8_52_39))))) rfl) (eqs hb517 (ft hi311 ob327 (ft hi266 ob328 (ft hi232 ob329 (ft hi209 ob330 (gi hi82 q8_52_39))))) rfl)))))) (an hb535 (an hb527 (eqs hb523 (ft hb409 ob327 (ft hb377 ob328 (ft hb354 ob329 (ft hb340 ob330 (gb hb64 q8_52_39))))) rfl) (an hb526 (eqs hb524 (ft hb410 ob327 (ft hb378 ob328 (ft hb355 ob329 (ft hb341 ob330 (gb hb65 q8_52_39))))) rfl) (eqs hb525 (ft hi312 ob327 (ft hi267 ob328 (ft hi233 ob329 (ft hi210 ob330 (gi hi83 q8_52_39))))) rfl))) (an hb534 (eqs hb528 (ft hb411 ob327 (ft hb379 ob328 (ft hb356 ob329 (ft hb342 ob330 (gb hb66 q8_52_39))))) rfl) (an hb533 (eqs hb529 (ft hi313 ob327 (ft hi268 ob328 (ft hi234 ob329 (ft hi211 ob330 (gi hi84 q8_52_39))))) rfl) (an hb532 (eqs hb530 (ft hi314 ob327 (ft hi269 ob328 (ft hi235 ob329 (ft hi212 ob330 (gi hi85 q8_52_39))))) rfl) (eqs hb531 (ft hi315 ob327 (ft hi270 ob328 (ft hi236 ob329 (ft hi213 ob330 (gi hi86 q8_52_39))))) rfl)))))) (an hb575 (an hb565 (eqs hb537 (ft hb412 ob327 (ft hb380 ob328 (ft hb357 ob329 (ft hb343 ob330 (th hb332 ob331))))) rfl) (an hb564 (eqs hb538 (ft hb413 ob327 (ft hb381 ob328 (ft hb358 ob329 (ft hb344 ob330 (th hb333 ob331))))) rfl) (an hb563 (eqs hb539 (ft hb414 ob327 (ft hb382 ob328 (ft hb359 ob329 (ft hb345 ob330 (th hb334 ob331))))) rfl) (an hb562 (eqs hb540 (ft hi316 ob327 (ft hi271 ob328 (ft hi237 ob329 (ft hi214 ob330 (th hi197 ob331))))) rfl) (an hb561 (eqs hb541 (ft hi317 ob327 (ft hi272 ob328 (ft hi238 ob329 (ft hi215 ob330 (th hi198 ob331))))) rfl) (an hb560 (eqs hb542 (ft hi318 ob327 (ft hi273 ob328 (ft hi239 ob329 (ft hi216 ob330 (th hi199 ob331))))) rfl) (an hb559 (eqs hb543 (ft hi319 ob327 (ft hi274 ob328 (ft hi240 ob329 (ft hi217 ob330 (th hi200 ob331))))) rfl) (an hb558 (eqs hb544 (ft hi320 ob327 (ft hi275 ob328 (ft hi241 ob329 (ft hi218 ob330 (th hi201 ob331))))) rfl) (an hb557 (eqs hb545 (ft hi321 ob327 (ft hi276 ob328 (ft hi242 ob329 (ft hi219 ob330 (th hi202 ob331))))) rfl) (an hb556 (eqs hb546 (ft hi322 ob327 (ft hi277 ob328 (ft hi243 ob329 (ft hi220 ob330 (th hi203 ob331))))) rfl) (an hb555 (eqs hb547 (ft hb415 ob327 (ft hb383 ob328 (ft hb360 ob329 (ft hb346 ob330 (th hb335 ob331))))) rfl) (an hb554 (eqs hb548 (ft hi323 ob327 (ft hi278 ob328 (ft hi244 ob329 (ft hi221 ob330 (th hi204 ob331))))) rfl) (an hb553 (eqs hb549 (ft hi324 ob327 (ft hi279 ob328 (ft hi245 ob329 (ft hi222 ob330 (th hi205 ob331))))) rfl) (an hb552 (eqs hb550 (ft hb416 ob327 (ft hb384 ob328 (ft hb361 ob329 (ft hb347 ob330 (th hb336 ob331))))) rfl) (eqs hb551 (ft hi325 ob327 (ft hi280 ob328 (ft hi246 ob329 (ft hi223 ob330 (th hi206 ob331))))) rfl))))))))))))))) (an hb574 (eqs hb566 (gb hb72 q8_52_39) rfl) (an hb573 (eqs hb567 (gb hb73 q8_52_39) rfl) (an hb572 (eqs hb568 (gb hb74 q8_52_39) rfl) (an hb571 (eqs hb569 (gi hi97 q8_52_39) rfl) (eqs hb570 (gb hb75 q8_52_39) rfl))))))))))
    have q10_326_580 : tabF T47 10 [] [] = ([], [true, true]) := awake10
    have q10_49_37 : tabF T47 10 [] [] = ([], [true, true]) := awake10
    have ob157 : ρ.b 157 = false := (hb157.trans (r51.symm ▸ (rg_dmc hr).2.1))
    have ob158 : ρ.b 158 = false := (hb158.trans (r51.symm ▸ (rg_dmc hr).2.2.1))
    have ob159 : ρ.b 159 = false := by rw [hb159, ob157, ob158]; rfl
    have ob318 : ρ.b 318 = (ρ.b 308) := by rw [hb318, (an hb317 (eqs hb309 (gb hb72 q8_52_39) rfl) (an hb316 (eqs hb310 (gb hb73 q8_52_39) rfl) (an hb315 (eqs hb311 (gb hb74 q8_52_39) rfl) (an hb314 (eqs hb312 (gi hi97 q8_52_39) rfl) (eqs hb313 (gb hb75 q8_52_39) rfl)))))]; exact Bool.and_true _
    have ob319 : ρ.b 319 = (ρ.b 308) := by rw [hb319, (an hb279 (an hb265 (eqs hb255 (gb hb61 q8_52_39) rfl) (an hb264 (eqs hb256 (gb hb62 q8_52_39) rfl) (an hb263 (eqs hb257 (gb hb63 q8_52_39) rfl) (an hb262 (eqs hb258 (gi hi80 q8_52_39) rfl) (an hb261 (eqs hb259 (gi hi81 q8_52_39) rfl) (eqs hb260 (gi hi82 q8_52_39) rfl)))))) (an hb278 (an hb270 (eqs hb266 (gb hb64 q8_52_39) rfl) (an hb269 (eqs hb267 (gb hb65 q8_52_39) rfl) (eqs hb268 (gi hi83 q8_52_39) rfl))) (an hb277 (eqs hb271 (gb hb66 q8_52_39) rfl) (an hb276 (eqs hb272 (gi hi84 q8_52_39) rfl) (an hb275 (eqs hb273 (gi hi85 q8_52_39) rfl) (eqs hb274 (gi hi86 q8_52_39) rfl)))))), ob318]; rfl
    have ob320 : ρ.b 320 = (ρ.b 308) := by rw [hb320, (an hb254 (an hb242 (eqs hb238 (gb hb58 q8_52_39) rfl) (an hb241 (eqs hb239 (gb hb59 q8_52_39) rfl) (eqs hb240 (gi hi74 q8_52_39) rfl))) (an hb253 (eqs hb243 (gi hi75 q8_52_39) rfl) (an hb252 (eqs hb244 (gi hi76 q8_52_39) rfl) (an hb251 (eqs hb245 (gb hb60 q8_52_39) rfl) (an hb250 (eqs hb246 (gi hi77 q8_52_39) rfl) (an hb249 (eqs hb247 (gi hi78 q8_52_39) rfl) (eqs hb248 (gi hi79 q8_52_39) rfl))))))), ob319]; rfl
    have ob321 : ρ.b 321 = (ρ.b 308) := by rw [hb321, (an hb237 (eqs hb199 (gb hb49 q8_52_39) rfl) (an hb236 (an hb210 (eqs hb200 (gb hb50 q8_52_39) rfl) (an hb209 (eqs hb201 (gb hb51 q8_52_39) rfl) (an hb208 (eqs hb202 (gb hb52 q8_52_39) rfl) (an hb207 (eqs hb203 (gi hi63 q8_52_39) rfl) (an hb206 (eqs hb204 (gi hi64 q8_52_39) rfl) (eqs hb205 (gi hi65 q8_52_39) rfl)))))) (an hb235 (an hb215 (eqs hb211 (gb hb53 q8_52_39) rfl) (an hb214 (eqs hb212 (gb hb54 q8_52_39) rfl) (eqs hb213 (gi hi66 q8_52_39) rfl))) (an hb234 (eqs hb216 (gi hi67 q8_52_39) rfl) (an hb233 (eqs hb217 (gi hi68 q8_52_39) rfl) (an hb232 (eqs hb218 (gi hi69 q8_52_39) rfl) (an hb231 (eqs hb219 (gi hi70 q8_52_39) rfl) (an hb230 (eqs hb220 (gb hb55 q8_52_39) rfl) (an hb229 (eqs hb221 (gb hb56 q8_52_39) rfl) (an hb228 (eqs hb222 (gb hb57 q8_52_39) rfl) (an hb227 (eqs hb223 (gi hi71 q8_52_39) rfl) (an hb226 (eqs hb224 (gi hi72 q8_52_39) rfl) (eqs hb225 (gi hi73 q8_52_39) rfl))))))))))))), ob320]; rfl
    have ob322 : ρ.b 322 = (ρ.b 308) := by rw [hb322, (an hb198 (eqs hb160 (gb hb40 q8_52_39) rfl) (an hb197 (an hb171 (eqs hb161 (gb hb41 q8_52_39) rfl) (an hb170 (eqs hb162 (gb hb42 q8_52_39) rfl) (an hb169 (eqs hb163 (gb hb43 q8_52_39) rfl) (an hb168 (eqs hb164 (gi hi52 q8_52_39) rfl) (an hb167 (eqs hb165 (gi hi53 q8_52_39) rfl) (eqs hb166 (gi hi54 q8_52_39) rfl)))))) (an hb196 (an hb176 (eqs hb172 (gb hb44 q8_52_39) rfl) (an hb175 (eqs hb173 (gb hb45 q8_52_39) rfl) (eqs hb174 (gi hi55 q8_52_39) rfl))) (an hb195 (eqs hb177 (gi hi56 q8_52_39) rfl) (an hb194 (eqs hb178 (gi hi57 q8_52_39) rfl) (an hb193 (eqs hb179 (gi hi58 q8_52_39) rfl) (an hb192 (eqs hb180 (gi hi59 q8_52_39) rfl) (an hb191 (eqs hb181 (gb hb46 q8_52_39) rfl) (an hb190 (eqs hb182 (gb hb47 q8_52_39) rfl) (an hb189 (eqs hb183 (gb hb48 q8_52_39) rfl) (an hb188 (eqs hb184 (gi hi60 q8_52_39) rfl) (an hb187 (eqs hb185 (gi hi61 q8_52_39) rfl) (eqs hb186 (gi hi62 q8_52_39) rfl))))))))))))), ob321]; rfl
    have ob323 : ρ.b 323 = (ρ.b 308) := by rw [hb323, ob159, ob322]; rfl
    have q10_196_324 : tabF T47 10 [] [] = ([], [true, true]) := awake10
    exact fin4 (tt hb590 ob589 (an hb588 ob587 (an hb586 ob585 (tt hb584 ob583 (an hb582 ob579 (gb hb581 q10_326_580)))))) (by (simp only [ob36, (gb hb37 q10_49_37), (gb hb39 q8_52_39), ob76, (gb hb77 q8_99_77), ob155, ob156, ob323, (gb hb324 q10_196_324), ob579, (gb hb580 q10_326_580), t37, Bool.not_true, Bool.not_false, Bool.and_true, Bool.and_false, Bool.true_and, Bool.false_and, Bool.or_true, Bool.true_or, Bool.or_false, Bool.false_or]) <;> rfl)
  · intro h11 hr hW
    have t48 : ρ.i 48 = 0 := gi hi48 h11
    have t36 : ρ.b 36 = false := by rw [hb36, t48]; rfl
    have q8_99_77 : tabF T47 8 [i0, i1, i2, i3, i4, i5, i6, i7, i8, i9, i10, i11, i12, i13, i14, i15, i16, i17, i18, i19, i20, i21, i22, i23, i24, i25, i26, i27, i28, i29, i30, i31, i32, i33, i34, i35, i36, i37, i38, i39, i40, i41, i42, i43, i44, i45, 21, v] [b0, b1, b2, b3, b4, b5, b6, b7, b8, b9, b10, b11, b12, b13, b14, b15, b16, b17, b18, b19, b20, b21, b22, b23, b24, b25, b26, b27, b28, b29, b30, b31, b32, b33, b34, b35] = ([d0, d1, d2, d3, d4, d5, d6, d7, d8, d9, d10, d11, d12, d13, d14, d15, d16, d17, d18, d19, d20, d21, d22, d23, d24, d25, d26, d27, d28, d29, d30, d31, d32, d33, d34, d35, d36, d37, d38, d39, d40, d41, d42, d43, d44, d45, 0], [true, y0, y1, y2, y3, y4, y5, y6, y7, y8, y9, y10, y11, y12, y13, y14, y15, y16, y17, y18, y19, y20, y21, y22, y23, y24, y25, y26, y27, y28, false, y30, y31, y32, y33, y34, y35]) := hOff
    have q12_146_114 : tabF T47 12 [ρ.i 99, ρ.i 100, ρ.i 101, ρ.i 102, ρ.i 103, ρ.i 104, ρ.i 105, ρ.i 106, ρ.i 107, ρ.i 108, ρ.i 109, ρ.i 110, ρ.i 111, ρ.i 112, ρ.i 113, ρ.i 114, ρ.i 115, ρ.i 116, ρ.i 117, ρ.i 118, ρ.i 119, ρ.i 120, ρ.i 121, ρ.i 122, ρ.i 123, ρ.i 124, ρ.i 125, ρ.i 126, ρ.i 127, ρ.i 128, ρ.i 129, ρ.i 130, ρ.i 131, ρ.i 132, ρ.i 133, ρ.i 134, ρ.i 135, ρ.i 136, ρ.i 137, ρ.i 138, ρ.i 139, ρ.i 140, ρ.i 141, ρ.i 142, ρ.i 143, ρ.i 144] [ρ.b 78, ρ.b 79, ρ.b 80, ρ.b 81, ρ.b 82, ρ.b 83, ρ.b 84, ρ.b 85, ρ.b 86, ρ.b 87, ρ.b 88, ρ.b 89, ρ.b 90, ρ.b 91, ρ.b 92, ρ.b 93, ρ.b 94, ρ.b 95, ρ.b 96, ρ.b 97, ρ.b 98, ρ.b 99, ρ.b 100, ρ.b 101, ρ.b 102, ρ.b 103, ρ.b 104, ρ.b 105, ρ.b 106, ρ.b 107, ρ.b 108, ρ.b 109, ρ.b 110, ρ.b 111, ρ.b 112, ρ.b 113] = ([d0, d1, d2, d3, d4, d5, d6, d7, d8, d9, d10, d11, d12, d13, d14, d15, d16, d17, d18, d19, d20, d21, d22, d23, d24, d25, d26, d27, d28, d29, d30, d31, d32, d33, d34, d35, d36, d37, d38, d39, d40, d41, d42, d43, d44, d45, ((if 0 < d3 then 1 else 0) + (if 0 < d14 then 2 else 0) + (if 0 < d22 then 4 else 0) + (if 0 < d31 then 8 else 0) + (if 0 < d40 then 16 else 0) + (if y34 then 64 else 0) + (if false then 128 else 0)), 0], [y0, y1, y2, y3, y4, y5, y6, y7, y8, y9, y10, y11, y12, y13, y14, y15, y16, y17, y18, y19, y20, y21, y22, y23, y24, y25, y26, y27, y28, false, y30, y31, y32, y33, false, y35]) := by rw [(gi hi99 q8_99_77), (gi hi100 q8_99_77), (gi hi101 q8_99_77), (gi hi102 q8_99_77), (gi hi103 q8_99_77), (gi hi104 q8_99_77), (gi hi105 q8_99_77), (gi hi106 q8_99_77), (gi hi107 q8_99_77), (gi hi108 q8_99_77), (gi hi109 q8_99_77), (gi hi110 q8_99_77), (gi hi111 q8_99_77), (gi hi112 q8_99_77), (gi hi113 q8_99_77), (gi hi114 q8_99_77), (gi hi115 q8_99_77), (gi hi116 q8_99_77), (gi hi117 q8_99_77), (gi hi118 q8_99_77), (gi hi119 q8_99_77), (gi hi120 q8_99_77), (gi hi121 q8_99_77), (gi hi122 q8_99_77), (gi hi123 q8_99_77), (gi hi124 q8_99_77), (gi hi125 q8_99_77), (gi hi126 q8_99_77), (gi hi127 q8_99_77), (gi hi128 q8_99_77), (gi hi129 q8_99_77), (gi hi130 q8_99_77), (gi hi131 q8_99_77), (gi hi132 q8_99_77), (gi hi133 q8_99_77), (gi hi134 q8_99_77), (gi hi135 q8_99_77), (gi hi136 q8_99_77), (gi hi137 q8_99_77), (gi hi138 q8_99_77), (gi hi139 q8_99_77), (gi hi140 q8_99_77), (gi hi141 q8_99_77), (gi hi142 q8_99_77), (gi hi143 q8_99_77), (gi hi144 q8_99_77), (gb hb78 q8_99_77), (gb hb79 q8_99_77), (gb hb80 q8_99_77), (gb hb81 q8_99_77), (gb hb82 q8_99_77), (gb hb83 q8_99_77), (gb hb84 q8_99_77), (gb hb85 q8_99_77), (gb hb86 q8_99_77), (gb hb87 q8_99_77), (gb hb88 q8_99_77), (gb hb89 q8_99_77), (gb hb90 q8_99_77), (gb hb91 q8_99_77), (gb hb92 q8_99_77), (gb hb93 q8_99_77), (gb hb94 q8_99_77), (gb hb95 q8_99_77), (gb hb96 q8_99_77), (gb hb97 q8_99_77), (gb hb98 q8_99_77), (gb hb99 q8_99_77), (gb hb100 q8_99_77), (gb hb101 q8_99_77), (gb hb102 q8_99_77), (gb hb103 q8_99_77), (gb hb104 q8_99_77), (gb hb105 q8_99_77), (gb hb106 q8_99_77), (gb hb107 q8_99_77), (gb hb108 q8_99_77), (gb hb109 q8_99_77), (gb hb110 q8_99_77), (gb hb111 q8_99_77), (gb hb112 q8_99_77), (gb hb113 q8_99_77)]; exact hSt
    have s192 : ρ.i 192 = (if 0 < d3 then 1 else 0) + (if 0 < d14 then 2 else 0) + (if 0 < d22 then 4 else 0) + (if 0 < d31 then 8 else 0) + (if 0 < d40 then 16 else 0) + (if y34 then 64 else 0) + (if false then 128 else 0) := (gi hi192 q12_146_114)
    have oi51 : ρ.i 51 = r := r51
    have q8_52_39 : tabF T47 8 [i0, i1, i2, i3, i4, i5, i6, i7, i8, i9, i10, i11, i12, i13, i14, i15, i16, i17, i18, i19, i20, i21, i22, i23, i24, i25, i26, i27, i28, i29, i30, i31, i32, i33, i34, i35, i36, i37, i38, i39, i40, i41, i42, i43, i44, i45, ρ.i 51, v] [b0, b1, b2, b3, b4, b5, b6, b7, b8, b9, b10, b11, b12, b13, b14, b15, b16, b17, b18, b19, b20, b21, b22, b23, b24, b25, b26, b27, b28, b29, b30, b31, b32, b33, b34, b35] = ([i0, i1, i2, i3, i4, i5, i6, i7, i8, i9, i10, i11, i12, i13, i14, i15, i16, i17, i18, i19, i20, i21, i22, i23, i24, i25, i26, i27, i28, i29, i30, i31, i32, i33, i34, i35, i36, i37, i38, i39, i40, i41, i42, i43, i44, i45, 0], [true, b0, b1, b2, b3, b4, b5, b6, b7, b8, b9, b10, b11, b12, b13, b14, b15, b16, b17, b18, b19, b20, b21, b22, b23, b24, b25, b26, b27, b28, b29, b30, b31, b32, b33, b34, b35]) := by rw [oi51]; exact hW
    have ob36 : ρ.b 36 = false := t36
    have ob589 : ρ.b 589 = true := by rw [hb589, ob36]; rfl
    have ob76 : ρ.b 76 = false := (nez hb76 (gi hi98 q8_52_39))
    have ob587 : ρ.b 587 = true := by rw [hb587, ob76]; rfl
    have ob150 : ρ.b 150 = false := (nez hb150 (gi hi145 q8_99_77))
    have ob151 : ρ.b 151 = false := (nez hb151 (gi hi193 q12_146_114))
    have ob152 : ρ.b 152 = false := by rw [hb152, ob150, ob151]; rfl
    have ob153 : ρ.b 153 = false := (by rw [hb153, hi195, hi194, s192]; exact decide_eq_false (by rw [hAn]; decide))
    have ob154 : ρ.b 154 = false := by rw [hb154, ob152, ob153]; rfl
    have ob155 : ρ.b 155 = false := by rw [hb155, ob154, (gb hb107 q8_99_77)]; rfl
    have ob585 : ρ.b 585 = true := by rw [hb585, ob155]; rfl
    have ob156 : ρ.b 156 = true := (hb156.trans (r51.symm ▸ decide_eq_true (rg_n20 hr).1))
    have ob583 : ρ.b 583 = false := by rw [hb583, ob156]; rfl
    have ob157 : ρ.b 157 = false := (hb157.trans (r51.symm ▸ (rg_n20 hr).2.1))
    have ob158 : ρ.b 158 = false := (hb158.trans (r51.symm ▸ (rg_n20 hr).2.2.1))
    have ob159 : ρ.b 159 = false := by rw [hb159, ob157, ob158]; rfl
    have ob323 : ρ.b 323 = true := by rw [hb323, (an hb322 (an hb198 (eqs hb160 (gb hb40 q8_52_39) rfl) (an hb197 (an hb171 (eqs hb161 (gb hb41 q8_52_39) rfl) (an hb170 (eqs hb162 (gb hb42 q8_52_39) rfl) (an hb169 (eqs hb163 (gb hb43 q8_52_39) rfl) (an hb168 (eqs hb164 (gi hi52 q8_52_39) rfl) (an hb167 (eqs hb165 (gi hi53 q8_52_39) rfl) (eqs hb166 (gi hi54 q8_52_39) rfl)))))) (an hb196 (an hb176 (eqs hb172 (gb hb44 q8_52_39) rfl) (an hb175 (eqs hb173 (gb hb45 q8_52_39) rfl) (eqs hb174 (gi hi55 q8_52_39) rfl))) (an hb195 (eqs hb177 (gi hi56 q8_52_39) rfl) (an hb194 (eqs hb178 (gi hi57 q8_52_39) rfl) (an hb193 (eqs hb179 (gi hi58 q8_52_39) rfl) (an hb192 (eqs hb180 (gi hi59 q8_52_39) rfl) (an hb191 (eqs hb181 (gb hb46 q8_52_39) rfl) (an hb190 (eqs hb182 (gb hb47 q8_52_39) rfl) (an hb189 (eqs hb183 (gb hb48 q8_52_39) rfl) (an hb188 (eqs hb184 (gi hi60 q8_52_39) rfl) (an hb187 (eqs hb185 (gi hi61 q8_52_39) rfl) (eqs hb186 (gi hi62 q8_52_39) rfl))))))))))))) (an hb321 (an hb237 (eqs hb199 (gb hb49 q8_52_39) rfl) (an hb236 (an hb210 (eqs hb200 (gb hb50 q8_52_39) rfl) (an hb209 (eqs hb201 (gb hb51 q8_52_39) rfl) (an hb208 (eqs hb202 (gb hb52 q8_52_39) rfl) (an hb207 (eqs hb203 (gi hi63 q8_52_39) rfl) (an hb206 (eqs hb204 (gi hi64 q8_52_39) rfl) (eqs hb205 (gi hi65 q8_52_39) rfl)))))) (an hb235 (an hb215 (eqs hb211 (gb hb53 q8_52_39) rfl) (an hb214 (eqs hb212 (gb hb54 q8_52_39) rfl) (eqs hb213 (gi hi66 q8_52_39) rfl))) (an hb234 (eqs hb216 (gi hi67 q8_52_39) rfl) (an hb233 (eqs hb217 (gi hi68 q8_52_39) rfl) (an hb232 (eqs hb218 (gi hi69 q8_52_39) rfl) (an hb231 (eqs hb219 (gi hi70 q8_52_39) rfl) (an hb230 (eqs hb220 (gb hb55 q8_52_39) rfl) (an hb229 (eqs hb221 (gb hb56 q8_52_39) rfl) (an hb228 (eqs hb222 (gb hb57 q8_52_39) rfl) (an hb227 (eqs hb223 (gi hi71 q8_52_39) rfl) (an hb226 (eqs hb224 (gi hi72 q8_52_39) rfl) (eqs hb225 (gi hi73 q8_52_39) rfl))))))))))))) (an hb320 (an hb254 (an hb242 (eqs hb238 (gb hb58 q8_52_39) rfl) (an hb241 (eqs hb239 (gb hb59 q8_52_39) rfl) (eqs hb240 (gi hi74 q8_52_39) rfl))) (an hb253 (eqs hb243 (gi hi75 q8_52_39) rfl) (an hb252 (eqs hb244 (gi hi76 q8_52_39) rfl) (an hb251 (eqs hb245 (gb hb60 q8_52_39) rfl) (an hb250 (eqs hb246 (gi hi77 q8_52_39) rfl) (an hb249 (eqs hb247 (gi hi78 q8_52_39) rfl) (eqs hb248 (gi hi79 q8_52_39) rfl))))))) (an hb319 (an hb279 (an hb265 (eqs hb255 (gb hb61 q8_52_39) rfl) (an hb264 (eqs hb256 (gb hb62 q8_52_39) rfl) (an hb263 (eqs hb257 (gb hb63 q8_52_39) rfl) (an hb262 (eqs hb258 (gi hi80 q8_52_39) rfl) (an hb261 (eqs hb259 (gi hi81 q8_52_39) rfl) (eqs hb260 (gi hi82 q8_52_39) rfl)))))) (an hb278 (an hb270 (eqs hb266 (gb hb64 q8_52_39) rfl) (an hb269 (eqs hb267 (gb hb65 q8_52_39) rfl) (eqs hb268 (gi hi83 q8_52_39) rfl))) (an hb277 (eqs hb271 (gb hb66 q8_52_39) rfl) (an hb276 (eqs hb272 (gi hi84 q8_52_39) rfl) (an hb275 (eqs hb273 (gi hi85 q8_52_39) rfl) (eqs hb274 (gi hi86 q8_52_39) rfl)))))) (an hb318 (an hb308 (eqs hb280 (gb hb67 q8_52_39) rfl) (an hb307 (eqs hb281 (gb hb68 q8_52_39) rfl) (an hb306 (eqs hb282 (gb hb69 q8_52_39) rfl) (an hb305 (eqs hb283 (gi hi87 q8_52_39) rfl) (an hb304 (eqs hb284 (gi hi88 q8_52_39) rfl) (an hb303 (eqs hb285 (gi hi89 q8_52_39) rfl) (an hb302 (eqs hb286 (gi hi90 q8_52_39) rfl) (an hb301 (eqs hb287 (gi hi91 q8_52_39) rfl) (an hb300 (eqs hb288 (gi hi92 q8_52_39) rfl) (an hb299 (eqs hb289 (gi hi93 q8_52_39) rfl) (an hb298 (eqs hb290 (gb hb70 q8_52_39) rfl) (an hb297 (eqs hb291 (gi hi94 q8_52_39) rfl) (an hb296 (eqs hb292 (gi hi95 q8_52_39) rfl) (an hb295 (eqs hb293 (gb hb71 q8_52_39) rfl) (eqs hb294 (gi hi96 q8_52_39) rfl))))))))))))))) (an hb317 (eqs hb309 (gb hb72 q8_52_39) rfl) (an hb316 (eqs hb310 (gb hb73 q8_52_39) rfl) (an hb315 (eqs hb311 (gb hb74 q8_52_39) rfl) (an hb314 (eqs hb312 (gi hi97 q8_52_39) rfl) (eqs hb313 (gb hb75 q8_52_39) rfl))))))))))]; exact Bool.or_true _
    have q10_196_324 : tabF T47 10 [] [] = ([], [true, true]) := awake10
    have q10_49_37 : tabF T47 10 [] [] = ([], [true, true]) := awake10
    have ob575 : ρ.b 575 = (ρ.b 565) := by rw [hb575, (an hb574 (eqs hb566 (gb hb72 q8_52_39) rfl) (an hb573 (eqs hb567 (gb hb73 q8_52_39) rfl) (an hb572 (eqs hb568 (gb hb74 q8_52_39) rfl) (an hb571 (eqs hb569 (gi hi97 q8_52_39) rfl) (eqs hb570 (gb hb75 q8_52_39) rfl)))))]; exact Bool.and_true _
    have q10_326_580 : tabF T47 10 [] [] = ([], [true, true]) := awake10
    exact fin4 (tt hb590 ob589 (an hb588 ob587 (an hb586 ob585 (ft hb584 ob583 (an hb326 ob323 (gb hb325 q10_196_324)))))) (by (simp only [ob36, (gb hb37 q10_49_37), (gb hb39 q8_52_39), ob76, (gb hb77 q8_99_77), ob155, ob156, ob323, (gb hb324 q10_196_324), (gb hb580 q10_326_580), t37, Bool.not_true, Bool.not_false, Bool.and_true, Bool.and_false, Bool.true_and, Bool.false_and, Bool.or_true, Bool.true_or, Bool.or_false, Bool.false_or]) <;> rfl)
  · intro c0 c1 c2 c3 c4 c5 c6 c7 c8 c9 c10 c11 c12 c13 c14 c15 c16 c17 c18 c19 c20 c21 c22 c23 c24 c25 c26 c27 c28 c29 c30 c31 c32 c33 c34 c35 c36 c37 c38 c39 c40 c41 c42 c43 c44 c45 x0 x1 x2 x3 x4 x5 x6 x7 x8 x9 x10 x11 x12 x13 x14 x15 x16 x17 x18 x19 x20 x21 x22 x23 x24 x25 x26 x27 x28 x29 x30 x31 x32 x33 x34 x35 h11 hr hW
    have t48 : ρ.i 48 = 0 := gi hi48 h11
    have t36 : ρ.b 36 = false := by rw [hb36, t48]; rfl
    have q8_99_77 : tabF T47 8 [i0, i1, i2, i3, i4, i5, i6, i7, i8, i9, i10, i11, i12, i13, i14, i15, i16, i17, i18, i19, i20, i21, i22, i23, i24, i25, i26, i27, i28, i29, i30, i31, i32, i33, i34, i35, i36, i37, i38, i39, i40, i41, i42, i43, i44, i45, 21, v] [b0, b1, b2, b3, b4, b5, b6, b7, b8, b9, b10, b11, b12, b13, b14, b15, b16, b17, b18, b19, b20, b21, b22, b23, b24, b25, b26, b27, b28, b29, b30, b31, b32, b33, b34, b35] = ([d0, d1, d2, d3, d4, d5, d6, d7, d8, d9, d10, d11, d12, d13, d14, d15, d16, d17, d18, d19, d20, d21, d22, d23, d24, d25, d26, d27, d28, d29, d30, d31, d32, d33, d34, d35, d36, d37, d38, d39, d40, d41, d42, d43, d44, d45, 0], [true, y0, y1, y2, y3, y4, y5, y6, y7, y8, y9, y10, y11, y12, y13, y14, y15, y16, y17, y18, y19, y20, y21, y22, y23, y24, y25, y26, y27, y28, false, y30, y31, y32, y33, y34, y35]) := hOff
    have q12_146_114 : tabF T47 12 [ρ.i 99, ρ.i 100, ρ.i 101, ρ.i 102, ρ.i 103, ρ.i 104, ρ.i 105, ρ.i 106, ρ.i 107, ρ.i 108, ρ.i 109, ρ.i 110, ρ.i 111, ρ.i 112, ρ.i 113, ρ.i 114, ρ.i 115, ρ.i 116, ρ.i 117, ρ.i 118, ρ.i 119, ρ.i 120, ρ.i 121, ρ.i 122, ρ.i 123, ρ.i 124, ρ.i 125, ρ.i 126, ρ.i 127, ρ.i 128, ρ.i 129, ρ.i 130, ρ.i 131, ρ.i 132, ρ.i 133, ρ.i 134, ρ.i 135, ρ.i 136, ρ.i 137, ρ.i 138, ρ.i 139, ρ.i 140, ρ.i 141, ρ.i 142, ρ.i 143, ρ.i 144] [ρ.b 78, ρ.b 79, ρ.b 80, ρ.b 81, ρ.b 82, ρ.b 83, ρ.b 84, ρ.b 85, ρ.b 86, ρ.b 87, ρ.b 88, ρ.b 89, ρ.b 90, ρ.b 91, ρ.b 92, ρ.b 93, ρ.b 94, ρ.b 95, ρ.b 96, ρ.b 97, ρ.b 98, ρ.b 99, ρ.b 100, ρ.b 101, ρ.b 102, ρ.b 103, ρ.b 104, ρ.b 105, ρ.b 106, ρ.b 107, ρ.b 108, ρ.b 109, ρ.b 110, ρ.b 111, ρ.b 112, ρ.b 113] = ([d0, d1, d2, d3, d4, d5, d6, d7, d8, d9, d10, d11, d12, d13, d14, d15, d16, d17, d18, d19, d20, d21, d22, d23, d24, d25, d26, d27, d28, d29, d30, d31, d32, d33, d34, d35, d36, d37, d38, d39, d40, d41, d42, d43, d44, d45, ((if 0 < d3 then 1 else 0) + (if 0 < d14 then 2 else 0) + (if 0 < d22 then 4 else 0) + (if 0 < d31 then 8 else 0) + (if 0 < d40 then 16 else 0) + (if y34 then 64 else 0) + (if false then 128 else 0)), 0], [y0, y1, y2, y3, y4, y5, y6, y7, y8, y9, y10, y11, y12, y13, y14, y15, y16, y17, y18, y19, y20, y21, y22, y23, y24, y25, y26, y27, y28, false, y30, y31, y32, y33, false, y35]) := by rw [(gi hi99 q8_99_77), (gi hi100 q8_99_77), (gi hi101 q8_99_77), (gi hi102 q8_99_77), (gi hi103 q8_99_77), (gi hi104 q8_99_77), (gi hi105 q8_99_77), (gi hi106 q8_99_77), (gi hi107 q8_99_77), (gi hi108 q8_99_77), (gi hi109 q8_99_77), (gi hi110 q8_99_77), (gi hi111 q8_99_77), (gi hi112 q8_99_77), (gi hi113 q8_99_77), (gi hi114 q8_99_77), (gi hi115 q8_99_77), (gi hi116 q8_99_77), (gi hi117 q8_99_77), (gi hi118 q8_99_77), (gi hi119 q8_99_77), (gi hi120 q8_99_77), (gi hi121 q8_99_77), (gi hi122 q8_99_77), (gi hi123 q8_99_77), (gi hi124 q8_99_77), (gi hi125 q8_99_77), (gi hi126 q8_99_77), (gi hi127 q8_99_77), (gi hi128 q8_99_77), (gi hi129 q8_99_77), (gi hi130 q8_99_77), (gi hi131 q8_99_77), (gi hi132 q8_99_77), (gi hi133 q8_99_77), (gi hi134 q8_99_77), (gi hi135 q8_99_77), (gi hi136 q8_99_77), (gi hi137 q8_99_77), (gi hi138 q8_99_77), (gi hi139 q8_99_77), (gi hi140 q8_99_77), (gi hi141 q8_99_77), (gi hi142 q8_99_77), (gi hi143 q8_99_77), (gi hi144 q8_99_77), (gb hb78 q8_99_77), (gb hb79 q8_99_77), (gb hb80 q8_99_77), (gb hb81 q8_99_77), (gb hb82 q8_99_77), (gb hb83 q8_99_77), (gb hb84 q8_99_77), (gb hb85 q8_99_77), (gb hb86 q8_99_77), (gb hb87 q8_99_77), (gb hb88 q8_99_77), (gb hb89 q8_99_77), (gb hb90 q8_99_77), (gb hb91 q8_99_77), (gb hb92 q8_99_77), (gb hb93 q8_99_77), (gb hb94 q8_99_77), (gb hb95 q8_99_77), (gb hb96 q8_99_77), (gb hb97 q8_99_77), (gb hb98 q8_99_77), (gb hb99 q8_99_77), (gb hb100 q8_99_77), (gb hb101 q8_99_77), (gb hb102 q8_99_77), (gb hb103 q8_99_77), (gb hb104 q8_99_77), (gb hb105 q8_99_77), (gb hb106 q8_99_77), (gb hb107 q8_99_77), (gb hb108 q8_99_77), (gb hb109 q8_99_77), (gb hb110 q8_99_77), (gb hb111 q8_99_77), (gb hb112 q8_99_77), (gb hb113 q8_99_77)]; exact hSt
    have s192 : ρ.i 192 = (if 0 < d3 then 1 else 0) + (if 0 < d14 then 2 else 0) + (if 0 < d22 then 4 else 0) + (if 0 < d31 then 8 else 0) + (if 0 < d40 then 16 else 0) + (if y34 then 64 else 0) + (if false then 128 else 0) := (gi hi192 q12_146_114)
    have oi51 : ρ.i 51 = r := r51
    have q8_52_39 : tabF T47 8 [i0, i1, i2, i3, i4, i5, i6, i7, i8, i9, i10, i11, i12, i13, i14, i15, i16, i17, i18, i19, i20, i21, i22, i23, i24, i25, i26, i27, i28, i29, i30, i31, i32, i33, i34, i35, i36, i37, i38, i39, i40, i41, i42, i43, i44, i45, ρ.i 51, v] [b0, b1, b2, b3, b4, b5, b6, b7, b8, b9, b10, b11, b12, b13, b14, b15, b16, b17, b18, b19, b20, b21, b22, b23, b24, b25, b26, b27, b28, b29, b30, b31, b32, b33, b34, b35] = ([c0, c1, c2, c3, c4, c5, c6, c7, c8, c9, c10, c11, c12, c13, c14, c15, c16, c17, c18, c19, c20, c21, c22, c23, c24, c25, c26, c27, c28, c29, c30, c31, c32, c33, c34, c35, c36, c37, c38, c39, c40, c41, c42, c43, c44, c45, 0], [true, x0, x1, x2, x3, x4, x5, x6, x7, x8, x9, x10, x11, x12, x13, x14, x15, x16, x17, x18, x19, x20, x21, x22, x23, x24, x25, x26, x27, x28, x29, x30, x31, x32, x33, x34, x35]) := by rw [oi51]; exact hW
    have ob36 : ρ.b 36 = false := t36
    have ob589 : ρ.b 589 = true := by rw [hb589, ob36]; rfl
    have ob76 : ρ.b 76 = false := (nez hb76 (gi hi98 q8_52_39))
    have ob587 : ρ.b 587 = true := by rw [hb587, ob76]; rfl
    have ob150 : ρ.b 150 = false := (nez hb150 (gi hi145 q8_99_77))
    have ob151 : ρ.b 151 = false := (nez hb151 (gi hi193 q12_146_114))
    have ob152 : ρ.b 152 = false := by rw [hb152, ob150, ob151]; rfl
    have ob153 : ρ.b 153 = false := (by rw [hb153, hi195, hi194, s192]; exact decide_eq_false (by rw [hAn]; decide))
    have ob154 : ρ.b 154 = false := by rw [hb154, ob152, ob153]; rfl
    have ob155 : ρ.b 155 = false := by rw [hb155, ob154, (gb hb107 q8_99_77)]; rfl
    have ob585 : ρ.b 585 = true := by rw [hb585, ob155]; rfl
    have ob156 : ρ.b 156 = true := (hb156.trans (r51.symm ▸ decide_eq_true (rg_on hr).1))
    have ob583 : ρ.b 583 = false := by rw [hb583, ob156]; rfl
    have ob157 : ρ.b 157 = true := (hb157.trans (r51.symm ▸ (rg_on hr).2.1))
    have ob158 : ρ.b 158 = false := (hb158.trans (r51.symm ▸ (rg_on hr).2.2.1))
    have ob159 : ρ.b 159 = true := by rw [hb159, ob157]; rfl
    have ob323 : ρ.b 323 = true := by rw [hb323, ob159]; rfl
    have q10_196_324 : tabF T47 10 [] [] = ([], [true, true]) := awake10
    have q10_49_37 : tabF T47 10 [] [] = ([], [true, true]) := awake10
    have q10_326_580 : tabF T47 10 [] [] = ([], [true, true]) := awake10
    exact fin4 (tt hb590 ob589 (an hb588 ob587 (an hb586 ob585 (ft hb584 ob583 (an hb326 ob323 (gb hb325 q10_196_324)))))) (by (simp only [ob36, (gb hb37 q10_49_37), (gb hb39 q8_52_39), ob76, (gb hb77 q8_99_77), ob155, ob156, ob323, (gb hb324 q10_196_324), (gb hb580 q10_326_580), t37, Bool.not_true, Bool.not_false, Bool.and_true, Bool.and_false, Bool.true_and, Bool.false_and, Bool.or_true, Bool.true_or, Bool.or_false, Bool.false_or]) <;> rfl)
  · intro h11 hr hW
    have t48 : ρ.i 48 = 0 := gi hi48 h11
    have t36 : ρ.b 36 = false := by rw [hb36, t48]; rfl
    have q8_99_77 : tabF T47 8 [i0, i1, i2, i3, i4, i5, i6, i7, i8, i9, i10, i11, i12, i13, i14, i15, i16, i17, i18, i19, i20, i21, i22, i23, i24, i25, i26, i27, i28, i29, i30, i31, i32, i33, i34, i35, i36, i37, i38, i39, i40, i41, i42, i43, i44, i45, 21, v] [b0, b1, b2, b3, b4, b5, b6, b7, b8, b9, b10, b11, b12, b13, b14, b15, b16, b17, b18, b19, b20, b21, b22, b23, b24, b25, b26, b27, b28, b29, b30, b31, b32, b33, b34, b35] = ([d0, d1, d2, d3, d4, d5, d6, d7, d8, d9, d10, d11, d12, d13, d14, d15, d16, d17, d18, d19, d20, d21, d22, d23, d24, d25, d26, d27, d28, d29, d30, d31, d32, d33, d34, d35, d36, d37, d38, d39, d40, d41, d42, d43, d44, d45, 0], [true, y0, y1, y2, y3, y4, y5, y6, y7, y8, y9, y10, y11, y12, y13, y14, y15, y16, y17, y18, y19, y20, y21, y22, y23, y24, y25, y26, y27, y28, false, y30, y31, y32, y33, y34, y35]) := hOff
    have q12_146_114 : tabF T47 12 [ρ.i 99, ρ.i 100, ρ.i 101, ρ.i 102, ρ.i 103, ρ.i 104, ρ.i 105, ρ.i 106, ρ.i 107, ρ.i 108, ρ.i 109, ρ.i 110, ρ.i 111, ρ.i 112, ρ.i 113, ρ.i 114, ρ.i 115, ρ.i 116, ρ.i 117, ρ.i 118, ρ.i 119, ρ.i 120, ρ.i 121, ρ.i 122, ρ.i 123, ρ.i 124, ρ.i 125, ρ.i 126, ρ.i 127, ρ.i 128, ρ.i 129, ρ.i 130, ρ.i 131, ρ.i 132, ρ.i 133, ρ.i 134, ρ.i 135, ρ.i 136, ρ.i 137, ρ.i 138, ρ.i 139, ρ.i 140, ρ.i 141, ρ.i 142, ρ.i 143, ρ.i 144] [ρ.b 78, ρ.b 79, ρ.b 80, ρ.b 81, ρ.b 82, ρ.b 83, ρ.b 84, ρ.b 85, ρ.b 86, ρ.b 87, ρ.b 88, ρ.b 89, ρ.b 90, ρ.b 91, ρ.b 92, ρ.b 93, ρ.b 94, ρ.b 95, ρ.b 96, ρ.b 97, ρ.b 98, ρ.b 99, ρ.b 100, ρ.b 101, ρ.b 102, ρ.b 103, ρ.b 104, ρ.b 105, ρ.b 106, ρ.b 107, ρ.b 108, ρ.b 109, ρ.b 110, ρ.b 111, ρ.b 112, ρ.b 113] = ([d0, d1, d2, d3, d4, d5, d6, d7, d8, d9, d10, d11, d12, d13, d14, d15, d16, d17, d18, d19, d20, d21, d22, d23, d24, d25, d26, d27, d28, d29, d30, d31, d32, d33, d34, d35, d36, d37, d38, d39, d40, d41, d42, d43, d44, d45, ((if 0 < d3 then 1 else 0) + (if 0 < d14 then 2 else 0) + (if 0 < d22 then 4 else 0) + (if 0 < d31 then 8 else 0) + (if 0 < d40 then 16 else 0) + (if y34 then 64 else 0) + (if false then 128 else 0)), 0], [y0, y1, y2, y3, y4, y5, y6, y7, y8, y9, y10, y11, y12, y13, y14, y15, y16, y17, y18, y19, y20, y21, y22, y23, y24, y25, y26, y27, y28, false, y30, y31, y32, y33, false, y35]) := by rw [(gi hi99 q8_99_77), (gi hi100 q8_99_77), (gi hi101 q8_99_77), (gi hi102 q8_99_77), (gi hi103 q8_99_77), (gi hi104 q8_99_77), (gi hi105 q8_99_77), (gi hi106 q8_99_77), (gi hi107 q8_99_77), (gi hi108 q8_99_77), (gi hi109 q8_99_77), (gi hi110 q8_99_77), (gi hi111 q8_99_77), (gi hi112 q8_99_77), (gi hi113 q8_99_77), (gi hi114 q8_99_77), (gi hi115 q8_99_77), (gi hi116 q8_99_77), (gi hi117 q8_99_77), (gi hi118 q8_99_77), (gi hi119 q8_99_77), (gi hi120 q8_99_77), (gi hi121 q8_99_77), (gi hi122 q8_99_77), (gi hi123 q8_99_77), (gi hi124 q8_99_77), (gi hi125 q8_99_77), (gi hi126 q8_99_77), (gi hi127 q8_99_77), (gi hi128 q8_99_77), (gi hi129 q8_99_77), (gi hi130 q8_99_77), (gi hi131 q8_99_77), (gi hi132 q8_99_77), (gi hi133 q8_99_77), (gi hi134 q8_99_77), (gi hi135 q8_99_77), (gi hi136 q8_99_77), (gi hi137 q8_99_77), (gi hi138 q8_99_77), (gi hi139 q8_99_77), (gi hi140 q8_99_77), (gi hi141 q8_99_77), (gi hi142 q8_99_77), (gi hi143 q8_99_77), (gi hi144 q8_99_77), (gb hb78 q8_99_77), (gb hb79 q8_99_77), (gb hb80 q8_99_77), (gb hb81 q8_99_77), (gb hb82 q8_99_77), (gb hb83 q8_99_77), (gb hb84 q8_99_77), (gb hb85 q8_99_77), (gb hb86 q8_99_77), (gb hb87 q8_99_77), (gb hb88 q8_99_77), (gb hb89 q8_99_77), (gb hb90 q8_99_77), (gb hb91 q8_99_77), (gb hb92 q8_99_77), (gb hb93 q8_99_77), (gb hb94 q8_99_77), (gb hb95 q8_99_77), (gb hb96 q8_99_77), (gb hb97 q8_99_77), (gb hb98 q8_99_77), (gb hb99 q8_99_77), (gb hb100 q8_99_77), (gb hb101 q8_99_77), (gb hb102 q8_99_77), (gb hb103 q8_99_77), (gb hb104 q8_99_77), (gb hb105 q8_99_77), (gb hb106 q8_99_77), (gb hb107 q8_99_77), (gb hb108 q8_99_77), (gb hb109 q8_99_77), (gb hb110 q8_99_77), (gb hb111 q8_99_77), (gb hb112 q8_99_77), (gb hb113 q8_99_77)]; exact hSt
    have s192 : ρ.i 192 = (if 0 < d3 then 1 else 0) + (if 0 < d14 then 2 else 0) + (if 0 < d22 then 4 else 0) + (if 0 < d31 then 8 else 0) + (if 0 < d40 then 16 else 0) + (if y34 then 64 else 0) + (if false then 128 else 0) := (gi hi192 q12_146_114)
    have oi51 : ρ.i 51 = r := r51
    have q8_52_39 : tabF T47 8 [i0, i1, i2, i3, i4, i5, i6, i7, i8, i9, i10, i11, i12, i13, i14, i15, i16, i17, i18, i19, i20, i21, i22, i23, i24, i25, i26, i27, i28, i29, i30, i31, i32, i33, i34, i35, i36, i37, i38, i39, i40, i41, i42, i43, i44, i45, ρ.i 51, v] [b0, b1, b2, b3, b4, b5, b6, b7, b8, b9, b10, b11, b12, b13, b14, b15, b16, b17, b18, b19, b20, b21, b22, b23, b24, b25, b26, b27, b28, b29, b30, b31, b32, b33, b34, b35] = ([i0, i1, i2, i3, i4, i5, i6, i7, i8, i9, i10, i11, i12, i13, i14, i15, i16, i17, i18, i19, i20, i21, i22, i23, i24, i25, i26, i27, i28, i29, i30, i31, i32, i33, i34, i35, i36, i37, i38, i39, i40, i41, i42, i43, i44, i45, 0], [true, b0, b1, b2, b3, b4, b5, b6, b7, b8, b9, b10, b11, b12, b13, b14, b15, b16, b17, b18, b19, b20, b21, b22, b23, b24, b25, b26, b27, b28, b29, b30, b31, b32, b33, b34, b35]) := by rw [oi51]; exact hW
    have ob36 : ρ.b 36 = false := t36
    have ob589 : ρ.b 589 = true := by rw [hb589, ob36]; rfl
    have ob76 : ρ.b 76 = false := (nez hb76 (gi hi98 q8_52_39))
    have ob587 : ρ.b 587 = true := by rw [hb587, ob76]; rfl
    have ob150 : ρ.b 150 = false := (nez hb150 (gi hi145 q8_99_77))
    have ob151 : ρ.b 151 = false := (nez hb151 (gi hi193 q12_146_114))
    have ob152 : ρ.b 152 = false := by rw [hb152, ob150, ob151]; rfl
    have ob153 : ρ.b 153 = false := (by rw [hb153, hi195, hi194, s192]; exact decide_eq_false (by rw [hAn]; decide))
    have ob154 : ρ.b 154 = false := by rw [hb154, ob152, ob153]; rfl
    have ob155 : ρ.b 155 = false := by rw [hb155, ob154, (gb hb107 q8_99_77)]; rfl
    have ob585 : ρ.b 585 = true := by rw [hb585, ob155]; rfl
    have ob156 : ρ.b 156 = true := (hb156.trans (r51.symm ▸ decide_eq_true (rg_n22 hr).1))
    have ob583 : ρ.b 583 = false := by rw [hb583, ob156]; rfl
    have ob157 : ρ.b 157 = false := (hb157.trans (r51.symm ▸ (rg_n22 hr).2.1))
    have ob158 : ρ.b 158 = false := (hb158.trans (r51.symm ▸ (rg_n22 hr).2.2.1))
    have ob159 : ρ.b 159 = false := by rw [hb159, ob157, ob158]; rfl
    have ob323 : ρ.b 323 = true := by rw [hb323, (an hb322 (an hb198 (eqs hb160 (gb hb40 q8_52_39) rfl) (an hb197 (an hb171 (eqs hb161 (gb hb41 q8_52_39) rfl) (an hb170 (eqs hb162 (gb hb42 q8_52_39) rfl) (an hb169 (eqs hb163 (gb hb43 q8_52_39) rfl) (an hb168 (eqs hb164 (gi hi52 q8_52_39) rfl) (an hb167 (eqs hb165 (gi hi53 q8_52_39) rfl) (eqs hb166 (gi hi54 q8_52_39) rfl)))))) (an hb196 (an hb176 (eqs hb172 (gb hb44 q8_52_39) rfl) (an hb175 (eqs hb173 (gb hb45 q8_52_39) rfl) (eqs hb174 (gi hi55 q8_52_39) rfl))) (an hb195 (eqs hb177 (gi hi56 q8_52_39) rfl) (an hb194 (eqs hb178 (gi hi57 q8_52_39) rfl) (an hb193 (eqs hb179 (gi hi58 q8_52_39) rfl) (an hb192 (eqs hb180 (gi hi59 q8_52_39) rfl) (an hb191 (eqs hb181 (gb hb46 q8_52_39) rfl) (an hb190 (eqs hb182 (gb hb47 q8_52_39) rfl) (an hb189 (eqs hb183 (gb hb48 q8_52_39) rfl) (an hb188 (eqs hb184 (gi hi60 q8_52_39) rfl) (an hb187 (eqs hb185 (gi hi61 q8_52_39) rfl) (eqs hb186 (gi hi62 q8_52_39) rfl))))))))))))) (an hb321 (an hb237 (eqs hb199 (gb hb49 q8_52_39) rfl) (an hb236 (an hb210 (eqs hb200 (gb hb50 q8_52_39) rfl) (an hb209 (eqs hb201 (gb hb51 q8_52_39) rfl) (an hb208 (eqs hb202 (gb hb52 q8_52_39) rfl) (an hb207 (eqs hb203 (gi hi63 q8_52_39) rfl) (an hb206 (eqs hb204 (gi hi64 q8_52_39) rfl) (eqs hb205 (gi hi65 q8_52_39) rfl)))))) (an hb235 (an hb215 (eqs hb211 (gb hb53 q8_52_39) rfl) (an hb214 (eqs hb212 (gb hb54 q8_52_39) rfl) (eqs hb213 (gi hi66 q8_52_39) rfl))) (an hb234 (eqs hb216 (gi hi67 q8_52_39) rfl) (an hb233 (eqs hb217 (gi hi68 q8_52_39) rfl) (an hb232 (eqs hb218 (gi hi69 q8_52_39) rfl) (an hb231 (eqs hb219 (gi hi70 q8_52_39) rfl) (an hb230 (eqs hb220 (gb hb55 q8_52_39) rfl) (an hb229 (eqs hb221 (gb hb56 q8_52_39) rfl) (an hb228 (eqs hb222 (gb hb57 q8_52_39) rfl) (an hb227 (eqs hb223 (gi hi71 q8_52_39) rfl) (an hb226 (eqs hb224 (gi hi72 q8_52_39) rfl) (eqs hb225 (gi hi73 q8_52_39) rfl))))))))))))) (an hb320 (an hb254 (an hb242 (eqs hb238 (gb hb58 q8_52_39) rfl) (an hb241 (eqs hb239 (gb hb59 q8_52_39) rfl) (eqs hb240 (gi hi74 q8_52_39) rfl))) (an hb253 (eqs hb243 (gi hi75 q8_52_39) rfl) (an hb252 (eqs hb244 (gi hi76 q8_52_39) rfl) (an hb251 (eqs hb245 (gb hb60 q8_52_39) rfl) (an hb250 (eqs hb246 (gi hi77 q8_52_39) rfl) (an hb249 (eqs hb247 (gi hi78 q8_52_39) rfl) (eqs hb248 (gi hi79 q8_52_39) rfl))))))) (an hb319 (an hb279 (an hb265 (eqs hb255 (gb hb61 q8_52_39) rfl) (an hb264 (eqs hb256 (gb hb62 q8_52_39) rfl) (an hb263 (eqs hb257 (gb hb63 q8_52_39) rfl) (an hb262 (eqs hb258 (gi hi80 q8_52_39) rfl) (an hb261 (eqs hb259 (gi hi81 q8_52_39) rfl) (eqs hb260 (gi hi82 q8_52_39) rfl)))))) (an hb278 (an hb270 (eqs hb266 (gb hb64 q8_52_39) rfl) (an hb269 (eqs hb267 (gb hb65 q8_52_39) rfl) (eqs hb268 (gi hi83 q8_52_39) rfl))) (an hb277 (eqs hb271 (gb hb66 q8_52_39) rfl) (an hb276 (eqs hb272 (gi hi84 q8_52_39) rfl) (an hb275 (eqs hb273 (gi hi85 q8_52_39) rfl) (eqs hb274 (gi hi86 q8_52_39) rfl)))))) (an hb318 (an hb308 (eqs hb280 (gb hb67 q8_52_39) rfl) (an hb307 (eqs hb281 (gb hb68 q8_52_39) rfl) (an hb306 (eqs hb282 (gb hb69 q8_52_39) rfl) (an hb305 (eqs hb283 (gi hi87 q8_52_39) rfl) (an hb304 (eqs hb284 (gi hi88 q8_52_39) rfl) (an hb303 (eqs hb285 (gi hi89 q8_52_39) rfl) (an hb302 (eqs hb286 (gi hi90 q8_52_39) rfl) (an hb301 (eqs hb287 (gi hi91 q8_52_39) rfl) (an hb300 (eqs hb288 (gi hi92 q8_52_39) rfl) (an hb299 (eqs hb289 (gi hi93 q8_52_39) rfl) (an hb298 (eqs hb290 (gb hb70 q8_52_39) rfl) (an hb297 (eqs hb291 (gi hi94 q8_52_39) rfl) (an hb296 (eqs hb292 (gi hi95 q8_52_39) rfl) (an hb295 (eqs hb293 (gb hb71 q8_52_39) rfl) (eqs hb294 (gi hi96 q8_52_39) rfl))))))))))))))) (an hb317 (eqs hb309 (gb hb72 q8_52_39) rfl) (an hb316 (eqs hb310 (gb hb73 q8_52_39) rfl) (an hb315 (eqs hb311 (gb hb74 q8_52_39) rfl) (an hb314 (eqs hb312 (gi hi97 q8_52_39) rfl) (eqs hb313 (gb hb75 q8_52_39) rfl))))))))))]; exact Bool.or_true _
    have q10_196_324 : tabF T47 10 [] [] = ([], [true, true]) := awake10
    have q10_49_37 : tabF T47 10 [] [] = ([], [true, true]) := awake10
    have ob575 : ρ.b 575 = (ρ.b 565) := by rw [hb575, (an hb574 (eqs hb566 (gb hb72 q8_52_39) rfl) (an hb573 (eqs hb567 (gb hb73 q8_52_39) rfl) (an hb572 (eqs hb568 (gb hb74 q8_52_39) rfl) (an hb571 (eqs hb569 (gi hi97 q8_52_39) rfl) (eqs hb570 (gb hb75 q8_52_39) rfl)))))]; exact Bool.and_true _
    have q10_326_580 : tabF T47 10 [] [] = ([], [true, true]) := awake10
    exact fin4 (tt hb590 ob589 (an hb588 ob587 (an hb586 ob585 (ft hb584 ob583 (an hb326 ob323 (gb hb325 q10_196_324)))))) (by (simp only [ob36, (gb hb37 q10_49_37), (gb hb39 q8_52_39), ob76, (gb hb77 q8_99_77), ob155, ob156, ob323, (gb hb324 q10_196_324), (gb hb580 q10_326_580), t37, Bool.not_true, Bool.not_false, Bool.and_true, Bool.and_false, Bool.true_and, Bool.false_and, Bool.or_true, Bool.true_or, Bool.or_false, Bool.false_or]) <;> rfl)
  · intro c0 c1 c2 c3 c4 c5 c6 c7 c8 c9 c10 c11 c12 c13 c14 c15 c16 c17 c18 c19 c20 c21 c22 c23 c24 c25 c26 c27 c28 c29 c30 c31 c32 c33 c34 c35 c36 c37 c38 c39 c40 c41 c42 c43 c44 c45 x0 x1 x2 x3 x4 x5 x6 x7 x8 x9 x10 x11 x12 x13 x14 x15 x16 x17 x18 x19 x20 x21 x22 x23 x24 x25 x26 x27 x28 x29 x30 x31 x32 x33 x34 x35 h11 hr hW
    have t48 : ρ.i 48 = 0 := gi hi48 h11
    have t36 : ρ.b 36 = false := by rw [hb36, t48]; rfl
    have q8_99_77 : tabF T47 8 [i0, i1, i2, i3, i4, i5, i6, i7, i8, i9, i10, i11, i12, i13, i14, i15, i16, i17, i18, i19, i20, i21, i22, i23, i24, i25, i26, i27, i28, i29, i30, i31, i32, i33, i34, i35, i36, i37, i38, i39, i40, i41, i42, i43, i44, i45, 21, v] [b0, b1, b2, b3, b4, b5, b6, b7, b8, b9, b10, b11, b12, b13, b14, b15, b16, b17, b18, b19, b20, b21, b22, b23, b24, b25, b26, b27, b28, b29, b30, b31, b32, b33, b34, b35] = ([d0, d1, d2, d3, d4, d5, d6, d7, d8, d9, d10, d11, d12, d13, d14, d15, d16, d17, d18, d19, d20, d21, d22, d23, d24, d25, d26, d27, d28, d29, d30, d31, d32, d33, d34, d35, d36, d37, d38, d39, d40, d41, d42, d43, d44, d45, 0], [true, y0, y1, y2, y3, y4, y5, y6, y7, y8, y9, y10, y11, y12, y13, y14, y15, y16, y17, y18, y19, y20, y21, y22, y23, y24, y25, y26, y27, y28, false, y30, y31, y32, y33, y34, y35]) := hOff
    have q12_146_114 : tabF T47 12 [ρ.i 99, ρ.i 100, ρ.i 101, ρ.i 102, ρ.i 103, ρ.i 104, ρ.i 105, ρ.i 106, ρ.i 107, ρ.i 108, ρ.i 109, ρ.i 110, ρ.i 111, ρ.i 112, ρ.i 113, ρ.i 114, ρ.i 115, ρ.i 116, ρ.i 117, ρ.i 118, ρ.i 119, ρ.i 120, ρ.i 121, ρ.i 122, ρ.i 123, ρ.i 124, ρ.i 125, ρ.i 126, ρ.i 127, ρ.i 128, ρ.i 129, ρ.i 130, ρ.i 131, ρ.i 132, ρ.i 133, ρ.i 134, ρ.i 135, ρ.i 136, ρ.i 137, ρ.i 138, ρ.i 139, ρ.i 140, ρ.i 141, ρ.i 142, ρ.i 143, ρ.i 144] [ρ.b 78, ρ.b 79, ρ.b 80, ρ.b 81, ρ.b 82, ρ.b 83, ρ.b 84, ρ.b 85, ρ.b 86, ρ.b 87, ρ.b 88, ρ.b 89, ρ.b 90, ρ.b 91, ρ.b 92, ρ.b 93, ρ.b 94, ρ.b 95, ρ.b 96, ρ.b 97, ρ.b 98, ρ.b 99, ρ.b 100, ρ.b 101, ρ.b 102, ρ.b 103, ρ.b 104, ρ.b 105, ρ.b 106, ρ.b 107, ρ.b 108, ρ.b 109, ρ.b 110, ρ.b 111, ρ.b 112, ρ.b 113] = ([d0, d1, d2, d3, d4, d5, d6, d7, d8, d9, d10, d11, d12, d13, d14, d15, d16, d17, d18, d19, d20, d21, d22, d23, d24, d25, d26, d27, d28, d29, d30, d31, d32, d33, d34, d35, d36, d37, d38, d39, d40, d41, d42, d43, d44, d45, ((if 0 < d3 then 1 else 0) + (if 0 < d14 then 2 else 0) + (if 0 < d22 then 4 else 0) + (if 0 < d31 then 8 else 0) + (if 0 < d40 then 16 else 0) + (if y34 then 64 else 0) + (if false then 128 else 0)), 0], [y0, y1, y2, y3, y4, y5, y6, y7, y8, y9, y10, y11, y12, y13, y14, y15, y16, y17, y18, y19, y20, y21, y22, y23, y24, y25, y26, y27, y28, false, y30, y31, y32, y33, false, y35]) := by rw [(gi hi99 q8_99_77), (gi hi100 q8_99_77), (gi hi101 q8_99_77), (gi hi102 q8_99_77), (gi hi103 q8_99_77), (gi hi104 q8_99_77), (gi hi105 q8_99_77), (gi hi106 q8_99_77), (gi hi107 q8_99_77), (gi hi108 q8_99_77), (gi hi109 q8_99_77), (gi hi110 q8_99_77), (gi hi111 q8_99_77), (gi hi112 q8_99_77), (gi hi113 q8_99_77), (gi hi114 q8_99_77), (gi hi115 q8_99_77), (gi hi116 q8_99_77), (gi hi117 q8_99_77), (gi hi118 q8_99_77), (gi hi119 q8_99_77), (gi hi120 q8_99_77), (gi hi121 q8_99_77), (gi hi122 q8_99_77), (gi hi123 q8_99_77), (gi hi124 q8_99_77), (gi hi125 q8_99_77), (gi hi126 q8_99_77), (gi hi127 q8_99_77), (gi hi128 q8_99_77), (gi hi129 q8_99_77), (gi hi130 q8_99_77), (gi hi131 q8_99_77), (gi hi132 q8_99_77), (gi hi133 q8_99_77), (gi hi134 q8_99_77), (gi hi135 q8_99_77), (gi hi136 q8_99_77), (gi hi137 q8_99_77), (gi hi138 q8_99_77), (gi hi139 q8_99_77), (gi hi140 q8_99_77), (gi hi141 q8_99_77), (gi hi142 q8_99_77), (gi hi143 q8_99_77), (gi hi144 q8_99_77), (gb hb78 q8_99_77), (gb hb79 q8_99_77), (gb hb80 q8_99_77), (gb hb81 q8_99_77), (gb hb82 q8_99_77), (gb hb83 q8_99_77), (gb hb84 q8_99_77), (gb hb85 q8_99_77), (gb hb86 q8_99_77), (gb hb87 q8_99_77), (gb hb88 q8_99_77), (gb hb89 q8_99_77), (gb hb90 q8_99_77), (gb hb91 q8_99_77), (gb hb92 q8_99_77), (gb hb93 q8_99_77), (gb hb94 q8_99_77), (gb hb95 q8_99_77), (gb hb96 q8_99_77), (gb hb97 q8_99_77), (gb hb98 q8_99_77), (gb hb99 q8_99_77), (gb hb100 q8_99_77), (gb hb101 q8_99_77), (gb hb102 q8_99_77), (gb hb103 q8_99_77), (gb hb104 q8_99_77), (gb hb105 q8_99_77), (gb hb106 q8_99_77), (gb hb107 q8_99_77), (gb hb108 q8_99_77), (gb hb109 q8_99_77), (gb hb110 q8_99_77), (gb hb111 q8_99_77), (gb hb112 q8_99_77), (gb hb113 q8_99_77)]; exact hSt
    have s192 : ρ.i 192 = (if 0 < d3 then 1 else 0) + (if 0 < d14 then 2 else 0) + (if 0 < d22 then 4 else 0) + (if 0 < d31 then 8 else 0) + (if 0 < d40 then 16 else 0) + (if y34 then 64 else 0) + (if false then 128 else 0) := (gi hi192 q12_146_114)
    have oi51 : ρ.i 51 = r := r51
    have q8_52_39 : tabF T47 8 [i0, i1, i2, i3, i4, i5, i6, i7, i8, i9, i10, i11, i12, i13, i14, i15, i16, i17, i18, i19, i20, i21, i22, i23, i24, i25, i26, i27, i28, i29, i30, i31, i32, i33, i34, i35, i36, i37, i38, i39, i40, i41, i42, i43, i44, i45, ρ.i 51, v] [b0, b1, b2, b3, b4, b5, b6, b7, b8, b9, b10, b11, b12, b13, b14, b15, b16, b17, b18, b19, b20, b21, b22, b23, b24, b25, b26, b27, b28, b29, b30, b31, b32, b33, b34, b35] = ([c0, c1, c2, c3, c4, c5, c6, c7, c8, c9, c10, c11, c12, c13, c14, c15, c16, c17, c18, c19, c20, c21, c22, c23, c24, c25, c26, c27, c28, c29, c30, c31, c32, c33, c34, c35, c36, c37, c38, c39, c40, c41, c42, c43, c44, c45, 0], [true, x0, x1, x2, x3, x4, x5, x6, x7, x8, x9, x10, x11, x12, x13, x14, x15, x16, x17, x18, x19, x20, x21, x22, x23, x24, x25, x26, x27, x28, x29, x30, x31, x32, x33, x34, x35]) := by rw [oi51]; exact hW
    have ob36 : ρ.b 36 = false := t36
    have ob589 : ρ.b 589 = true := by rw [hb589, ob36]; rfl
    have ob76 : ρ.b 76 = false := (nez hb76 (gi hi98 q8_52_39))
    have ob587 : ρ.b 587 = true := by rw [hb587, ob76]; rfl
    have ob150 : ρ.b 150 = false := (nez hb150 (gi hi145 q8_99_77))
    have ob151 : ρ.b 151 = false := (nez hb151 (gi hi193 q12_146_114))
    have ob152 : ρ.b 152 = false := by rw [hb152, ob150, ob151]; rfl
    have ob153 : ρ.b 153 = false := (by rw [hb153, hi195, hi194, s192]; exact decide_eq_false (by rw [hAn]; decide))
    have ob154 : ρ.b 154 = false := by rw [hb154, ob152, ob153]; rfl
    have ob155 : ρ.b 155 = false := by rw [hb155, ob154, (gb hb107 q8_99_77)]; rfl
    have ob585 : ρ.b 585 = true := by rw [hb585, ob155]; rfl
    have ob156 : ρ.b 156 = true := (hb156.trans (r51.symm ▸ decide_eq_true (rg_f23 hr).1))
    have ob583 : ρ.b 583 = false := by rw [hb583, ob156]; rfl
    have ob157 : ρ.b 157 = false := (hb157.trans (r51.symm ▸ (rg_f23 hr).2.1))
    have ob158 : ρ.b 158 = true := (hb158.trans (r51.symm ▸ (rg_f23 hr).2.2.1))
    have ob159 : ρ.b 159 = true := by rw [hb159, ob158]; exact Bool.or_true _
    have ob323 : ρ.b 323 = true := by rw [hb323, ob159]; rfl
    have q10_196_324 : tabF T47 10 [] [] = ([], [true, true]) := awake10
    have q10_49_37 : tabF T47 10 [] [] = ([], [true, true]) := awake10
    have q10_326_580 : tabF T47 10 [] [] = ([], [true, true]) := awake10
    exact fin4 (tt hb590 ob589 (an hb588 ob587 (an hb586 ob585 (ft hb584 ob583 (an hb326 ob323 (gb hb325 q10_196_324)))))) (by (simp only [ob36, (gb hb37 q10_49_37), (gb hb39 q8_52_39), ob76, (gb hb77 q8_99_77), ob155, ob156, ob323, (gb hb324 q10_196_324), (gb hb580 q10_326_580), t37, Bool.not_true, Bool.not_false, Bool.and_true, Bool.and_false, Bool.true_and, Bool.false_and, Bool.or_true, Bool.true_or, Bool.or_false, Bool.false_or]) <;> rfl)
  · intro h11 hr hW
    have t48 : ρ.i 48 = 0 := gi hi48 h11
    have t36 : ρ.b 36 = false := by rw [hb36, t48]; rfl
    have q8_99_77 : tabF T47 8 [i0, i1, i2, i3, i4, i5, i6, i7, i8, i9, i10, i11, i12, i13, i14, i15, i16, i17, i18, i19, i20, i21, i22, i23, i24, i25, i26, i27, i28, i29, i30, i31, i32, i33, i34, i35, i36, i37, i38, i39, i40, i41, i42, i43, i44, i45, 21, v] [b0, b1, b2, b3, b4, b5, b6, b7, b8, b9, b10, b11, b12, b13, b14, b15, b16, b17, b18, b19, b20, b21, b22, b23, b24, b25, b26, b27, b28, b29, b30, b31, b32, b33, b34, b35] = ([d0, d1, d2, d3, d4, d5, d6, d7, d8, d9, d10, d11, d12, d13, d14, d15, d16, d17, d18, d19, d20, d21, d22, d23, d24, d25, d26, d27, d28, d29, d30, d31, d32, d33, d34, d35, d36, d37, d38, d39, d40, d41, d42, d43, d44, d45, 0], [true, y0, y1, y2, y3, y4, y5, y6, y7, y8, y9, y10, y11, y12, y13, y14, y15, y16, y17, y18, y19, y20, y21, y22, y23, y24, y25, y26, y27, y28, false, y30, y31, y32, y33, y34, y35]) := hOff
    have q12_146_114 : tabF T47 12 [ρ.i 99, ρ.i 100, ρ.i 101, ρ.i 102, ρ.i 103, ρ.i 104, ρ.i 105, ρ.i 106, ρ.i 107, ρ.i 108, ρ.i 109, ρ.i 110, ρ.i 111, ρ.i 112, ρ.i 113, ρ.i 114, ρ.i 115, ρ.i 116, ρ.i 117, ρ.i 118, ρ.i 119, ρ.i 120, ρ.i 121, ρ.i 122, ρ.i 123, ρ.i 124, ρ.i 125, ρ.i 126, ρ.i 127, ρ.i 128, ρ.i 129, ρ.i 130, ρ.i 131, ρ.i 132, ρ.i 133, ρ.i 134, ρ.i 135, ρ.i 136, ρ.i 137, ρ.i 138, ρ.i 139, ρ.i 140, ρ.i 141, ρ.i 142, ρ.i 143, ρ.i 144] [ρ.b 78, ρ.b 79, ρ.b 80, ρ.b 81, ρ.b 82, ρ.b 83, ρ.b 84, ρ.b 85, ρ.b 86, ρ.b 87, ρ.b 88, ρ.b 89, ρ.b 90, ρ.b 91, ρ.b 92, ρ.b 93, ρ.b 94, ρ.b 95, ρ.b 96, ρ.b 97, ρ.b 98, ρ.b 99, ρ.b 100, ρ.b 101, ρ.b 102, ρ.b 103, ρ.b 104, ρ.b 105, ρ.b 106, ρ.b 107, ρ.b 108, ρ.b 109, ρ.b 110, ρ.b 111, ρ.b 112, ρ.b 113] = ([d0, d1, d2, d3, d4, d5, d6, d7, d8, d9, d10, d11, d12, d13, d14, d15, d16, d17, d18, d19, d20, d21, d22, d23, d24, d25, d26, d27, d28, d29, d30, d31, d32, d33, d34, d35, d36, d37, d38, d39, d40, d41, d42, d43, d44, d45, ((if 0 < d3 then 1 else 0) + (if 0 < d14 then 2 else 0) + (if 0 < d22 then 4 else 0) + (if 0 < d31 then 8 else 0) + (if 0 < d40 then 16 else 0) + (if y34 then 64 else 0) + (if false then 128 else 0)), 0], [y0, y1, y2, y3, y4, y5, y6, y7, y8, y9, y10, y11, y12, y13, y14, y15, y16, y17, y18, y19, y20, y21, y22, y23, y24, y25, y26, y27, y28, false, y30, y31, y32, y33, false, y35]) := by rw [(gi hi99 q8_99_77), (gi hi100 q8_99_77), (gi hi101 q8_99_77), (gi hi102 q8_99_77), (gi hi103 q8_99_77), (gi hi104 q8_99_77), (gi hi105 q8_99_77), (gi hi106 q8_99_77), (gi hi107 q8_99_77), (gi hi108 q8_99_77), (gi hi109 q8_99_77), (gi hi110 q8_99_77), (gi hi111 q8_99_77), (gi hi112 q8_99_77), (gi hi113 q8_99_77), (gi hi114 q8_99_77), (gi hi115 q8_99_77), (gi hi116 q8_99_77), (gi hi117 q8_99_77), (gi hi118 q8_99_77), (gi hi119 q8_99_77), (gi hi120 q8_99_77), (gi hi121 q8_99_77), (gi hi122 q8_99_77), (gi hi123 q8_99_77), (gi hi124 q8_99_77), (gi hi125 q8_99_77), (gi hi126 q8_99_77), (gi hi127 q8_99_77), (gi hi128 q8_99_77), (gi hi129 q8_99_77), (gi hi130 q8_99_77), (gi hi131 q8_99_77), (gi hi132 q8_99_77), (gi hi133 q8_99_77), (gi hi134 q8_99_77), (gi hi135 q8_99_77), (gi hi136 q8_99_77), (gi hi137 q8_99_77), (gi hi138 q8_99_77), (gi hi139 q8_99_77), (gi hi140 q8_99_77), (gi hi141 q8_99_77), (gi hi142 q8_99_77), (gi hi143 q8_99_77), (gi hi144 q8_99_77), (gb hb78 q8_99_77), (gb hb79 q8_99_77), (gb hb80 q8_99_77), (gb hb81 q8_99_77), (gb hb82 q8_99_77), (gb hb83 q8_99_77), (gb hb84 q8_99_77), (gb hb85 q8_99_77), (gb hb86 q8_99_77), (gb hb87 q8_99_77), (gb hb88 q8_99_77), (gb hb89 q8_99_77), (gb hb90 q8_99_77), (gb hb91 q8_99_77), (gb hb92 q8_99_77), (gb hb93 q8_99_77), (gb hb94 q8_99_77), (gb hb95 q8_99_77), (gb hb96 q8_99_77), (gb hb97 q8_99_77), (gb hb98 q8_99_77), (gb hb99 q8_99_77), (gb hb100 q8_99_77), (gb hb101 q8_99_77), (gb hb102 q8_99_77), (gb hb103 q8_99_77), (gb hb104 q8_99_77), (gb hb105 q8_99_77), (gb hb106 q8_99_77), (gb hb107 q8_99_77), (gb hb108 q8_99_77), (gb hb109 q8_99_77), (gb hb110 q8_99_77), (gb hb111 q8_99_77), (gb hb112 q8_99_77), (gb hb113 q8_99_77)]; exact hSt
    have s192 : ρ.i 192 = (if 0 < d3 then 1 else 0) + (if 0 < d14 then 2 else 0) + (if 0 < d22 then 4 else 0) + (if 0 < d31 then 8 else 0) + (if 0 < d40 then 16 else 0) + (if y34 then 64 else 0) + (if false then 128 else 0) := (gi hi192 q12_146_114)
    have oi51 : ρ.i 51 = r := r51
    have q8_52_39 : tabF T47 8 [i0, i1, i2, i3, i4, i5, i6, i7, i8, i9, i10, i11, i12, i13, i14, i15, i16, i17, i18, i19, i20, i21, i22, i23, i24, i25, i26, i27, i28, i29, i30, i31, i32, i33, i34, i35, i36, i37, i38, i39, i40, i41, i42, i43, i44, i45, ρ.i 51, v] [b0, b1, b2, b3, b4, b5, b6, b7, b8, b9, b10, b11, b12, b13, b14, b15, b16, b17, b18, b19, b20, b21, b22, b23, b24, b25, b26, b27, b28, b29, b30, b31, b32, b33, b34, b35] = ([i0, i1, i2, i3, i4, i5, i6, i7, i8, i9, i10, i11, i12, i13, i14, i15, i16, i17, i18, i19, i20, i21, i22, i23, i24, i25, i26, i27, i28, i29, i30, i31, i32, i33, i34, i35, i36, i37, i38, i39, i40, i41, i42, i43, i44, i45, 0], [true, b0, b1, b2, b3, b4, b5, b6, b7, b8, b9, b10, b11, b12, b13, b14, b15, b16, b17, b18, b19, b20, b21, b22, b23, b24, b25, b26, b27, b28, b29, b30, b31, b32, b33, b34, b35]) := by rw [oi51]; exact hW
    have ob36 : ρ.b 36 = false := t36
    have ob589 : ρ.b 589 = true := by rw [hb589, ob36]; rfl
    have ob76 : ρ.b 76 = false := (nez hb76 (gi hi98 q8_52_39))
    have ob587 : ρ.b 587 = true := by rw [hb587, ob76]; rfl
    have ob150 : ρ.b 150 = false := (nez hb150 (gi hi145 q8_99_77))
    have ob151 : ρ.b 151 = false := (nez hb151 (gi hi193 q12_146_114))
    have ob152 : ρ.b 152 = false := by rw [hb152, ob150, ob151]; rfl
    have ob153 : ρ.b 153 = false := (by rw [hb153, hi195, hi194, s192]; exact decide_eq_false (by rw [hAn]; decide))
    have ob154 : ρ.b 154 = false := by rw [hb154, ob152, ob153]; rfl
    have ob155 : ρ.b 155 = false := by rw [hb155, ob154, (gb hb107 q8_99_77)]; rfl
    have ob585 : ρ.b 585 = true := by rw [hb585, ob155]; rfl
    have ob156 : ρ.b 156 = true := (hb156.trans (r51.symm ▸ decide_eq_true (rg_big hr).1))
    have ob583 : ρ.b 583 = false := by rw [hb583, ob156]; rfl
    have ob157 : ρ.b 157 = false := (hb157.trans (r51.symm ▸ (rg_big hr).2.1))
    have ob158 : ρ.b 158 = false := (hb158.trans (r51.symm ▸ (rg_big hr).2.2.1))
    have ob159 : ρ.b 159 = false := by rw [hb159, ob157, ob158]; rfl
    have ob323 : ρ.b 323 = true := by rw [hb323, (an hb322 (an hb198 (eqs hb160 (gb hb40 q8_52_39) rfl) (an hb197 (an hb171 (eqs hb161 (gb hb41 q8_52_39) rfl) (an hb170 (eqs hb162 (gb hb42 q8_52_39) rfl) (an hb169 (eqs hb163 (gb hb43 q8_52_39) rfl) (an hb168 (eqs hb164 (gi hi52 q8_52_39) rfl) (an hb167 (eqs hb165 (gi hi53 q8_52_39) rfl) (eqs hb166 (gi hi54 q8_52_39) rfl)))))) (an hb196 (an hb176 (eqs hb172 (gb hb44 q8_52_39) rfl) (an hb175 (eqs hb173 (gb hb45 q8_52_39) rfl) (eqs hb174 (gi hi55 q8_52_39) rfl))) (an hb195 (eqs hb177 (gi hi56 q8_52_39) rfl) (an hb194 (eqs hb178 (gi hi57 q8_52_39) rfl) (an hb193 (eqs hb179 (gi hi58 q8_52_39) rfl) (an hb192 (eqs hb180 (gi hi59 q8_52_39) rfl) (an hb191 (eqs hb181 (gb hb46 q8_52_39) rfl) (an hb190 (eqs hb182 (gb hb47 q8_52_39) rfl) (an hb189 (eqs hb183 (gb hb48 q8_52_39) rfl) (an hb188 (eqs hb184 (gi hi60 q8_52_39) rfl) (an hb187 (eqs hb185 (gi hi61 q8_52_39) rfl) (eqs hb186 (gi hi62 q8_52_39) rfl))))))))))))) (an hb321 (an hb237 (eqs hb199 (gb hb49 q8_52_39) rfl) (an hb236 (an hb210 (eqs hb200 (gb hb50 q8_52_39) rfl) (an hb209 (eqs hb201 (gb hb51 q8_52_39) rfl) (an hb208 (eqs hb202 (gb hb52 q8_52_39) rfl) (an hb207 (eqs hb203 (gi hi63 q8_52_39) rfl) (an hb206 (eqs hb204 (gi hi64 q8_52_39) rfl) (eqs hb205 (gi hi65 q8_52_39) rfl)))))) (an hb235 (an hb215 (eqs hb211 (gb hb53 q8_52_39) rfl) (an hb214 (eqs hb212 (gb hb54 q8_52_39) rfl) (eqs hb213 (gi hi66 q8_52_39) rfl))) (an hb234 (eqs hb216 (gi hi67 q8_52_39) rfl) (an hb233 (eqs hb217 (gi hi68 q8_52_39) rfl) (an hb232 (eqs hb218 (gi hi69 q8_52_39) rfl) (an hb231 (eqs hb219 (gi hi70 q8_52_39) rfl) (an hb230 (eqs hb220 (gb hb55 q8_52_39) rfl) (an hb229 (eqs hb221 (gb hb56 q8_52_39) rfl) (an hb228 (eqs hb222 (gb hb57 q8_52_39) rfl) (an hb227 (eqs hb223 (gi hi71 q8_52_39) rfl) (an hb226 (eqs hb224 (gi hi72 q8_52_39) rfl) (eqs hb225 (gi hi73 q8_52_39) rfl))))))))))))) (an hb320 (an hb254 (an hb242 (eqs hb238 (gb hb58 q8_52_39) rfl) (an hb241 (eqs hb239 (gb hb59 q8_52_39) rfl) (eqs hb240 (gi hi74 q8_52_39) rfl))) (an hb253 (eqs hb243 (gi hi75 q8_52_39) rfl) (an hb252 (eqs hb244 (gi hi76 q8_52_39) rfl) (an hb251 (eqs hb245 (gb hb60 q8_52_39) rfl) (an hb250 (eqs hb246 (gi hi77 q8_52_39) rfl) (an hb249 (eqs hb247 (gi hi78 q8_52_39) rfl) (eqs hb248 (gi hi79 q8_52_39) rfl))))))) (an hb319 (an hb279 (an hb265 (eqs hb255 (gb hb61 q8_52_39) rfl) (an hb264 (eqs hb256 (gb hb62 q8_52_39) rfl) (an hb263 (eqs hb257 (gb hb63 q8_52_39) rfl) (an hb262 (eqs hb258 (gi hi80 q8_52_39) rfl) (an hb261 (eqs hb259 (gi hi81 q8_52_39) rfl) (eqs hb260 (gi hi82 q8_52_39) rfl)))))) (an hb278 (an hb270 (eqs hb266 (gb hb64 q8_52_39) rfl) (an hb269 (eqs hb267 (gb hb65 q8_52_39) rfl) (eqs hb268 (gi hi83 q8_52_39) rfl))) (an hb277 (eqs hb271 (gb hb66 q8_52_39) rfl) (an hb276 (eqs hb272 (gi hi84 q8_52_39) rfl) (an hb275 (eqs hb273 (gi hi85 q8_52_39) rfl) (eqs hb274 (gi hi86 q8_52_39) rfl)))))) (an hb318 (an hb308 (eqs hb280 (gb hb67 q8_52_39) rfl) (an hb307 (eqs hb281 (gb hb68 q8_52_39) rfl) (an hb306 (eqs hb282 (gb hb69 q8_52_39) rfl) (an hb305 (eqs hb283 (gi hi87 q8_52_39) rfl) (an hb304 (eqs hb284 (gi hi88 q8_52_39) rfl) (an hb303 (eqs hb285 (gi hi89 q8_52_39) rfl) (an hb302 (eqs hb286 (gi hi90 q8_52_39) rfl) (an hb301 (eqs hb287 (gi hi91 q8_52_39) rfl) (an hb300 (eqs hb288 (gi hi92 q8_52_39) rfl) (an hb299 (eqs hb289 (gi hi93 q8_52_39) rfl) (an hb298 (eqs hb290 (gb hb70 q8_52_39) rfl) (an hb297 (eqs hb291 (gi hi94 q8_52_39) rfl) (an hb296 (eqs hb292 (gi hi95 q8_52_39) rfl) (an hb295 (eqs hb293 (gb hb71 q8_52_39) rfl) (eqs hb294 (gi hi96 q8_52_39) rfl))))))))))))))) (an hb317 (eqs hb309 (gb hb72 q8_52_39) rfl) (an hb316 (eqs hb310 (gb hb73 q8_52_39) rfl) (an hb315 (eqs hb311 (gb hb74 q8_52_39) rfl) (an hb314 (eqs hb312 (gi hi97 q8_52_39) rfl) (eqs hb313 (gb hb75 q8_52_39) rfl))))))))))]; exact Bool.or_true _
    have q10_196_324 : tabF T47 10 [] [] = ([], [true, true]) := awake10
    have q10_49_37 : tabF T47 10 [] [] = ([], [true, true]) := awake10
    have ob575 : ρ.b 575 = (ρ.b 565) := by rw [hb575, (an hb574 (eqs hb566 (gb hb72 q8_52_39) rfl) (an hb573 (eqs hb567 (gb hb73 q8_52_39) rfl) (an hb572 (eqs hb568 (gb hb74 q8_52_39) rfl) (an hb571 (eqs hb569 (gi hi97 q8_52_39) rfl) (eqs hb570 (gb hb75 q8_52_39) rfl)))))]; exact Bool.and_true _
    have q10_326_580 : tabF T47 10 [] [] = ([], [true, true]) := awake10
    exact fin4 (tt hb590 ob589 (an hb588 ob587 (an hb586 ob585 (ft hb584 ob583 (an hb326 ob323 (gb hb325 q10_196_324)))))) (by (simp only [ob36, (gb hb37 q10_49_37), (gb hb39 q8_52_39), ob76, (gb hb77 q8_99_77), ob155, ob156, ob323, (gb hb324 q10_196_324), (gb hb580 q10_326_580), t37, Bool.not_true, Bool.not_false, Bool.and_true, Bool.and_false, Bool.true_and, Bool.false_and, Bool.or_true, Bool.true_or, Bool.or_false, Bool.false_or]) <;> rfl)
theorem nez_ (x : Int) : True := trivial
theorem apart (i0 i1 i2 i3 i4 i5 i6 i7 i8 i9 i10 i11 i12 i13 i14 i15 i16 i17 i18 i19 i20 i21 i22 i23 i24 i25 i26 i27 i28 i29 i30 i31 i32 i33 i34 i35 i36 i37 i38 i39 i40 i41 i42 i43 i44 i45 reg v : Int) (b0 b1 b2 b3 b4 b5 b6 b7 b8 b9 b10 b11 b12 b13 b14 b15 b16 b17 b18 b19 b20 b21 b22 b23 b24 b25 b26 b27 b28 b29 b30 b31 b32 b33 b34 b35 : Bool) (n0 : 0 ≤ i0) (n1 : 0 ≤ i1) (n2 : 0 ≤ i2) (n3 : 0 ≤ i3) (n4 : 0 ≤ i4) (n5 : 0 ≤ i5) (n6 : 0 ≤ i6) (n7 : 0 ≤ i7) (n8 : 0 ≤ i8) (n9 : 0 ≤ i9) (n10 : 0 ≤ i10) (n11 : 0 ≤ i11) (n12 : 0 ≤ i12) (n13 : 0 ≤ i13) (n14 : 0 ≤ i14) (n15 : 0 ≤ i15) (n16 : 0 ≤ i16) (n17 : 0 ≤ i17) (n18 : 0 ≤ i18) (n19 : 0 ≤ i19) (n20 : 0 ≤ i20) (n21 : 0 ≤ i21) (n22 : 0 ≤ i22) (n23 : 0 ≤ i23) (n24 : 0 ≤ i24) (n25 : 0 ≤ i25) (n26 : 0 ≤ i26) (n27 : 0 ≤ i27) (n28 : 0 ≤ i28) (n29 : 0 ≤ i29) (n30 : 0 ≤ i30) (n31 : 0 ≤ i31) (n32 : 0 ≤ i32) (n33 : 0 ≤ i33) (n34 : 0 ≤ i34) (m35 : 0 ≤ i35) (m36 : 0 ≤ i36) (m37 : i37 ≤ 65535) (m38 : 0 ≤ i38) (m39 : i39 ≤ 65535) (m40 : 0 ≤ i40) (m41 : 0 ≤ i41 ∧ i41 ≤ 255) (m42 : 0 ≤ i42 ∧ i42 ≤ 255) (m44 : 0 ≤ i44) (hv : 0 ≤ v ∧ v ≤ 255) :
    F4 [i0, i1, i2, i3, i4, i5, i6, i7, i8, i9, i10, i11, i12, i13, i14, i15, i16, i17, i18, i19, i20, i21, i22, i23, i24, i25, i26, i27, i28, i29, i30, i31, i32, i33, i34, i35, i36, i37, i38, i39, i40, i41, i42, i43, i44, i45, reg, v] [b0, b1, b2, b3, b4, b5, b6, b7, b8, b9, b10, b11, b12, b13, b14, b15, b16, b17, b18, b19, b20, b21, b22, b23, b24, b25, b26, b27, b28, b29, b30, b31, b32, b33, b34, b35] = ([], [true, true]) := by
  have v11a := v11 i0 i1 i2 i3 i4 i5 i6 i7 i8 i9 i10 i11 i12 i13 i14 i15 i16 i17 i18 i19 i20 i21 i22 i23 i24 i25 i26 i27 i28 i29 i30 i31 i32 i33 i34 i35 i36 i37 i38 i39 i40 i41 i42 i43 i44 i45 b0 b1 b2 b3 b4 b5 b6 b7 b8 b9 b10 b11 b12 b13 b14 b15 b16 b17 b18 b19 b20 b21 b22 b23 b24 b25 b26 b27 b28 b29 b30 b31 b32 b33 b34 b35 n34
  cases hm : (okP i0 i1 i2 i4 i5 i6 i7 i8 i9 i10 && okT i23 i24 i25 i26 i27 && okN i28 i29 i30 i32 i33 i34 && okP i11 i12 i13 i15 i16 i17 i18 i19 i20 i21 && may i35 i36 i37 i38 i39 i40 i43 i44 && decide (0 ≤ i45) && decide (i45 < (if b32 then 37282 else 29830)))
  · rw [hm] at v11a
    exact (core i0 i1 i2 i3 i4 i5 i6 i7 i8 i9 i10 i11 i12 i13 i14 i15 i16 i17 i18 i19 i20 i21 i22 i23 i24 i25 i26 i27 i28 i29 i30 i31 i32 i33 i34 i35 i36 i37 i38 i39 i40 i41 i42 i43 i44 i45 reg v _ b0 b1 b2 b3 b4 b5 b6 b7 b8 b9 b10 b11 b12 b13 b14 b15 b16 b17 b18 b19 b20 b21 b22 b23 b24 b25 b26 b27 b28 b29 b30 b31 b32 b33 b34 b35 rfl).1 v11a
  · rw [hm] at v11a
    have hA : Ak i0 i1 i2 i3 i4 i5 i6 i7 i8 i9 i10 i11 i12 i13 i14 i15 i16 i17 i18 i19 i20 i21 i22 i23 i24 i25 i26 i27 i28 i29 i30 i31 i32 i33 i34 i35 i36 i37 i38 i39 i40 i41 i42 i43 i44 i45 b32 := Ak.of11 n0 n1 n2 n3 n4 n5 n6 n7 n8 n9 n10 n11 n12 n13 n14 n15 n16 n17 n18 n19 n20 n21 n22 n23 n24 n25 n26 n27 n28 n29 n30 n31 n32 n33 n34 m35 m36 m37 m38 m39 m40 m41 m42 m44 hm
    obtain ⟨d0, d1, d2, d3, d4, d5, d6, d7, d8, d9, d10, d11, d12, d13, d14, d15, d16, d17, d18, d19, d20, d21, d22, d23, d24, d25, d26, d27, d28, d29, d30, d31, d32, d33, d34, d35, d36, d37, d38, d39, d40, d41, d42, d43, d44, d45, y0, y1, y2, y3, y4, y5, y6, y7, y8, y9, y10, y11, y12, y13, y14, y15, y16, y17, y18, y19, y20, y21, y22, y23, y24, y25, y26, y27, y28, y29, y30, y31, y32, y33, y34, y35, hOff, hD, rfl, f0, f1, f2, f3, f4, _⟩ := offs i0 i1 i2 i3 i4 i5 i6 i7 i8 i9 i10 i11 i12 i13 i14 i15 i16 i17 i18 i19 i20 i21 i22 i23 i24 i25 i26 i27 i28 i29 i30 i31 i32 i33 i34 i35 i36 i37 i38 i39 i40 i41 i42 i43 i44 i45 v b0 b1 b2 b3 b4 b5 b6 b7 b8 b9 b10 b11 b12 b13 b14 b15 b16 b17 b18 b19 b20 b21 b22 b23 b24 b25 b26 b27 b28 b29 b30 b31 b32 b33 b34 b35 hA hv
    have hSt := st12 (b0 := y0) (b1 := y1) (b2 := y2) (b3 := y3) (b4 := y4) (b5 := y5) (b6 := y6) (b7 := y7) (b8 := y8) (b9 := y9) (b10 := y10) (b11 := y11) (b12 := y12) (b13 := y13) (b14 := y14) (b15 := y15) (b16 := y16) (b17 := y17) (b18 := y18) (b19 := y19) (b20 := y20) (b21 := y21) (b22 := y22) (b23 := y23) (b24 := y24) (b25 := y25) (b26 := y26) (b27 := y27) (b28 := y28) (b30 := y30) (b31 := y31) (b32 := y32) (b33 := y33) (b34 := y34) (b35 := y35) (b29 := false) hD
    have hAn := andn v hv d3 d14 d22 d31 d40 y34 false f0 f1 f2 f3 f4
    have hr := r51 reg _ _ _ rfl rfl rfl
    have hcl := cl10 hr
    have hc := (core i0 i1 i2 i3 i4 i5 i6 i7 i8 i9 i10 i11 i12 i13 i14 i15 i16 i17 i18 i19 i20 i21 i22 i23 i24 i25 i26 i27 i28 i29 i30 i31 i32 i33 i34 i35 i36 i37 i38 i39 i40 i41 i42 i43 i44 i45 reg v _ b0 b1 b2 b3 b4 b5 b6 b7 b8 b9 b10 b11 b12 b13 b14 b15 b16 b17 b18 b19 b20 b21 b22 b23 b24 b25 b26 b27 b28 b29 b30 b31 b32 b33 b34 b35 rfl).2 _ _ _ _ _ _ _ _ _ _ _ _ _ _ _ _ _ _ _ _ _ _ _ _ _ _ _ _ _ _ _ _ _ _ _ _ _ _ _ _ _ _ _ _ _ _ _ _ _ _ _ _ _ _ _ _ _ _ _ _ _ _ _ _ _ _ _ _ _ _ _ _ _ _ _ _ _ _ _ _ _ hOff hSt hAn
    generalize (arI .rem .i64 (IntKind.wrap .i64 (arI .rem .i64 reg 32 + 32)) 32) = r at *
    obtain ⟨p0, p1, p2, p3, p4, p5, p6, p7, p8, p9⟩ := hc
    obtain ⟨wneg, wone, wtwo, wtri, wnoi, wdmc, w20, won, w22, wf, wh, wbig⟩ := w8 i0 i1 i2 i3 i4 i5 i6 i7 i8 i9 i10 i11 i12 i13 i14 i15 i16 i17 i18 i19 i20 i21 i22 i23 i24 i25 i26 i27 i28 i29 i30 i31 i32 i33 i34 i35 i36 i37 i38 i39 i40 i41 i42 i43 i44 i45 r v b0 b1 b2 b3 b4 b5 b6 b7 b8 b9 b10 b11 b12 b13 b14 b15 b16 b17 b18 b19 b20 b21 b22 b23 b24 b25 b26 b27 b28 b29 b30 b31 b32 b33 b34 b35 hA hv
    have hK := w8K i0 i1 i2 i3 i4 i5 i6 i7 i8 i9 i10 i11 i12 i13 i14 i15 i16 i17 i18 i19 i20 i21 i22 i23 i24 i25 i26 i27 i28 i29 i30 i31 i32 i33 i34 i35 i36 i37 i38 i39 i40 i41 i42 i43 i44 i45 r v b0 b1 b2 b3 b4 b5 b6 b7 b8 b9 b10 b11 b12 b13 b14 b15 b16 b17 b18 b19 b20 b21 b22 b23 b24 b25 b26 b27 b28 b29 b30 b31 b32 b33 b34 b35 hA hv
    have hA' := hA
    obtain ⟨h1, h2, h3, h4, h5, h6, h7⟩ := hA'
    rcases hcl with hr | hr | hr | hr | hr | hr | hr | hr | hr | hr
    · obtain ⟨_, _, hF, kf⟩ := k_18 i0 i1 i2 i3 i4 i5 i6 i7 i8 i9 i10 b0 b1 b2 b3 b4 b5 b6 b7 b8 r v (Pk_nn h1).1 (Pk_nn h1).2.1 (Pk_nn h1).2.2.1 (Pk_nn h1).2.2.2.1 (Pk_nn h1).2.2.2.2.1 (Pk_nn h1).2.2.2.2.2.1 (Pk_nn h1).2.2.2.2.2.2.1 (Pk_nn h1).2.2.2.2.2.2.2.1 (Pk_nn h1).2.2.2.2.2.2.2.2.1 (Pk_nn h1).2.2.2.2.2.2.2.2.2.1 (Pk_nn h1).2.2.2.2.2.2.2.2.2.2 hv (Pk_ok h1)
      obtain ⟨c0, c1, c2, c3, c4, c5, c6, c7, c8, c9, c10, x0, x1, x2, x3, x4, x5, x6, x7, x8, rfl, rfl, -⟩ := Pk_of kf
      exact p0 _ _ _ _ _ _ _ _ _ _ _ _ _ _ _ _ _ _ _ _ v11a hr (wone c0 c1 c2 c3 c4 c5 c6 c7 c8 c9 c10 x0 x1 x2 x3 x4 x5 x6 x7 x8 hr hF)
    · obtain ⟨_, _, hF, kf⟩ := k_18 i11 i12 i13 i14 i15 i16 i17 i18 i19 i20 i21 b9 b10 b11 b12 b13 b14 b15 b16 b17 (r - 4) v (Pk_nn h2).1 (Pk_nn h2).2.1 (Pk_nn h2).2.2.1 (Pk_nn h2).2.2.2.1 (Pk_nn h2).2.2.2.2.1 (Pk_nn h2).2.2.2.2.2.1 (Pk_nn h2).2.2.2.2.2.2.1 (Pk_nn h2).2.2.2.2.2.2.2.1 (Pk_nn h2).2.2.2.2.2.2.2.2.1 (Pk_nn h2).2.2.2.2.2.2.2.2.2.1 (Pk_nn h2).2.2.2.2.2.2.2.2.2.2 hv (Pk_ok h2)
      obtain ⟨c11, c12, c13, c14, c15, c16, c17, c18, c19, c20, c21, x9, x10, x11, x12, x13, x14, x15, x16, x17, rfl, rfl, -⟩ := Pk_of kf
      exact p1 _ _ _ _ _ _ _ _ _ _ _ _ _ _ _ _ _ _ _ _ v11a hr (wtwo c11 c12 c13 c14 c15 c16 c17 c18 c19 c20 c21 x9 x10 x11 x12 x13 x14 x15 x16 x17 hr hF)
    · obtain ⟨_, _, hF, kf⟩ := k_19 i22 i23 i24 i25 i26 i27 b18 b19 b20 (r - 8) v (Tk_nn h3).1 (Tk_nn h3).2.1 (Tk_nn h3).2.2.1 (Tk_nn h3).2.2.2.1 (Tk_nn h3).2.2.2.2.1 (Tk_nn h3).2.2.2.2.2 hv (Tk_ok h3)
      obtain ⟨c22, c23, c24, c25, c26, c27, x18, x19, x20, rfl, rfl, -⟩ := Tk_of kf
      exact p2 _ _ _ _ _ _ _ _ _ v11a hr (wtri c22 c23 c24 c25 c26 c27 x18 x19 x20 hr hF)
    · obtain ⟨_, _, hF, kf⟩ := k_20 i28 i29 i30 i31 i32 i33 i34 b21 b22 b23 b24 b25 b26 (r - 12) v (Nk_nn h4).1 (Nk_nn h4).2.1 (Nk_nn h4).2.2.1 (Nk_nn h4).2.2.2.1 (Nk_nn h4).2.2.2.2.1 (Nk_nn h4).2.2.2.2.2.1 (Nk_nn h4).2.2.2.2.2.2 hv (Nk_ok h4)
      obtain ⟨c28, c29, c30, c31, c32, c33, c34, x21, x22, x23, x24, x25, x26, rfl, rfl, -⟩ := Nk_of kf
      exact p3 _ _ _ _ _ _ _ _ _ _ _ _ _ v11a hr (wnoi c28 c29 c30 c31 c32 c33 c34 x21 x22 x23 x24 x25 x26 hr hF)
    · obtain ⟨c35, c36, c37, c38, c39, c40, c41, c42, c43, c44, x27, x28, x29, x30, x31, hF, -⟩ := write_ok h5 b27 b28 b29 b30 b31 (r - 16) v hv.1 hv.2
      exact p4 _ _ _ _ _ _ _ _ _ _ _ _ _ _ _ v11a hr (wdmc c35 c36 c37 c38 c39 c40 c41 c42 c43 c44 x27 x28 x29 x30 x31 hr hF)
    · exact p5 v11a hr (w20 hr)
    · obtain ⟨c0, c1, c2, c3, c4, c5, c6, c7, c8, c9, c10, c11, c12, c13, c14, c15, c16, c17, c18, c19, c20, c21, c22, c23, c24, c25, c26, c27, c28, c29, c30, c31, c32, c33, c34, c35, c36, c37, c38, c39, c40, c41, c42, c43, c44, c45, x0, x1, x2, x3, x4, x5, x6, x7, x8, x9, x10, x11, x12, x13, x14, x15, x16, x17, x18, x19, x20, x21, x22, x23, x24, x25, x26, x27, x28, x29, x30, x31, x32, x33, x34, x35, hW, -⟩ := hK
      exact p6 _ _ _ _ _ _ _ _ _ _ _ _ _ _ _ _ _ _ _ _ _ _ _ _ _ _ _ _ _ _ _ _ _ _ _ _ _ _ _ _ _ _ _ _ _ _ _ _ _ _ _ _ _ _ _ _ _ _ _ _ _ _ _ _ _ _ _ _ _ _ _ _ _ _ _ _ _ _ _ _ _ _ v11a hr hW
    · exact p7 v11a hr (w22 hr)
    · obtain ⟨c0, c1, c2, c3, c4, c5, c6, c7, c8, c9, c10, c11, c12, c13, c14, c15, c16, c17, c18, c19, c20, c21, c22, c23, c24, c25, c26, c27, c28, c29, c30, c31, c32, c33, c34, c35, c36, c37, c38, c39, c40, c41, c42, c43, c44, c45, x0, x1, x2, x3, x4, x5, x6, x7, x8, x9, x10, x11, x12, x13, x14, x15, x16, x17, x18, x19, x20, x21, x22, x23, x24, x25, x26, x27, x28, x29, x30, x31, x32, x33, x34, x35, hW, -⟩ := hK
      exact p8 _ _ _ _ _ _ _ _ _ _ _ _ _ _ _ _ _ _ _ _ _ _ _ _ _ _ _ _ _ _ _ _ _ _ _ _ _ _ _ _ _ _ _ _ _ _ _ _ _ _ _ _ _ _ _ _ _ _ _ _ _ _ _ _ _ _ _ _ _ _ _ _ _ _ _ _ _ _ _ _ _ _ v11a hr hW
    · exact p9 v11a hr (wbig hr)
end Go.Proofs.YtdpogmikhfgcmaaDoor.Ap
