/-
  tone: which channels may be (ToneStays). WRITTEN BY PROGRAM (wip/gen/tc1.py). No condition.
-/
import Derived.Test.YtoempcgniokpiaaDoorTdS
import Derived.Test.YtoempcgniokpiaaDoorSxAr
set_option linter.unusedVariables false
set_option linter.unusedSimpArgs false
namespace Go.Proofs.YtoempcgniokpiaaDoor.Td
open Go Go.Proofs.YtoempcgniokpiaaDoor.Sx

def okE (a b c : Int) : Bool := decide (a < 16) && decide (b < 16) && decide (c < 16)
def okP (i0 i1 i2 i4 i5 i6 i7 i8 i9 i10 : Int) : Bool := okE i0 i1 i2 && decide (i4 < 4) && decide (i5 < 8) && decide (i8 < 8) && decide (i9 < 8) && decide (i10 < 8) && decide (i6 < 2048) && decide (i7 < 2048)
def okT (i1 i2 i3 i4 i5 : Int) : Bool := decide (i1 < 128) && decide (i2 < 128) && decide (i3 < 32) && decide (i4 < 2048) && decide (i5 < 2048)
def okN (i0 i1 i2 i4 i5 i6 : Int) : Bool := okE i0 i1 i2 && decide (i4 < 16) && decide (i5 < 4096) && decide (1 ≤ i6) && decide (i6 ≤ 32767)
theorem v68 (i0 i1 i2 i3 i4 i5 i6 i7 i8 i9 i10 : Int) (b0 b1 b2 b3 b4 b5 b6 b7 b8 : Bool) : F68 [i0, i1, i2, i3, i4, i5, i6, i7, i8, i9, i10] [b0, b1, b2, b3, b4, b5, b6, b7, b8] = ([], [okP i0 i1 i2 i4 i5 i6 i7 i8 i9 i10]) := by
  unfold F68
  obtain ⟨ρ, e1, e2, e3, e4⟩ := Smry.run_spec (Φ := tabF T1) (S := S68) (is := [i0, i1, i2, i3, i4, i5, i6, i7, i8, i9, i10]) (bs := [b0, b1, b2, b3, b4, b5, b6, b7, b8]) rfl
  rw [e1]
  clear e1
  simp only [S68, eqns, Em.eqn, headsI, headsB, RI.d, RB.d, A.d, B.d, cm_eql, cm_neq, cm_lss, cm_leq, cm_gtr, cm_geq, List.map_cons, List.map_nil, and_true, Nat.zero_add, Nat.reduceAdd, ltn, upto, true_and, Nat.add_zero, List.getD_cons_zero, List.getD_cons_succ, add8, sub8, add16, sub16, mul16, wrap_u8, wrap_u16, and8_1, and8_7, and8_8, and8_15, and8_16, and8_31, and8_32, and8_64, and8_127, and8_128, and16_1, and16_255, and16_1792, shr8_1, shr8_3, shr8_4, shr8_6, shr16_1, shr16_6, shr16_8, shl16_8, shl16_14] at e2 e3 e4 ⊢
  simp only [e2, e3] at e4 ⊢
  unfold okP okE
  grind
theorem v69 (i0 i1 i2 i3 i4 i5 : Int) (b0 b1 b2 : Bool) : F69 [i0, i1, i2, i3, i4, i5] [b0, b1, b2] = ([], [okT i1 i2 i3 i4 i5]) := by
  unfold F69
  obtain ⟨ρ, e1, e2, e3, e4⟩ := Smry.run_spec (Φ := tabF T2) (S := S69) (is := [i0, i1, i2, i3, i4, i5]) (bs := [b0, b1, b2]) rfl
  rw [e1]
  clear e1
  simp only [S69, eqns, Em.eqn, headsI, headsB, RI.d, RB.d, A.d, B.d, cm_eql, cm_neq, cm_lss, cm_leq, cm_gtr, cm_geq, List.map_cons, List.map_nil, and_true, Nat.zero_add, Nat.reduceAdd, ltn, upto, true_and, Nat.add_zero, List.getD_cons_zero, List.getD_cons_succ, add8, sub8, add16, sub16, mul16, wrap_u8, wrap_u16, and8_1, and8_7, and8_8, and8_15, and8_16, and8_31, and8_32, and8_64, and8_127, and8_128, and16_1, and16_255, and16_1792, shr8_1, shr8_3, shr8_4, shr8_6, shr16_1, shr16_6, shr16_8, shl16_8, shl16_14] at e2 e3 e4 ⊢
  simp only [e2, e3] at e4 ⊢
  unfold okT
  grind
theorem v70 (i0 i1 i2 i3 i4 i5 i6 : Int) (b0 b1 b2 b3 b4 b5 : Bool) (h6 : 0 ≤ i6) : F70 [i0, i1, i2, i3, i4, i5, i6] [b0, b1, b2, b3, b4, b5] = ([], [okN i0 i1 i2 i4 i5 i6]) := by
  unfold F70
  obtain ⟨ρ, e1, e2, e3, e4⟩ := Smry.run_spec (Φ := tabF T3) (S := S70) (is := [i0, i1, i2, i3, i4, i5, i6]) (bs := [b0, b1, b2, b3, b4, b5]) rfl
  rw [e1]
  clear e1
  simp only [S70, eqns, Em.eqn, headsI, headsB, RI.d, RB.d, A.d, B.d, cm_eql, cm_neq, cm_lss, cm_leq, cm_gtr, cm_geq, List.map_cons, List.map_nil, and_true, Nat.zero_add, Nat.reduceAdd, ltn, upto, true_and, Nat.add_zero, List.getD_cons_zero, List.getD_cons_succ, add8, sub8, add16, sub16, mul16, wrap_u8, wrap_u16, and8_1, and8_7, and8_8, and8_15, and8_16, and8_31, and8_32, and8_64, and8_127, and8_128, and16_1, and16_255, and16_1792, shr8_1, shr8_3, shr8_4, shr8_6, shr16_1, shr16_6, shr16_8, shl16_8, shl16_14] at e2 e3 e4 ⊢
  simp only [e2, e3] at e4 ⊢
  unfold okN okE
  grind
theorem awake31 : F31 [] [] = ([], [true, true]) := by kernel_rfl
theorem v30 (i0 i1 i2 i3 i4 i5 i6 i7 i8 i9 i10 i11 i12 i13 i14 i15 i16 i17 i18 i19 i20 i21 i22 i23 : Int) (b0 b1 b2 b3 b4 b5 b6 b7 b8 b9 b10 b11 b12 b13 b14 b15 b16 b17 : Bool) (h23 : 0 ≤ i23) : F30 [i0, i1, i2, i3, i4, i5, i6, i7, i8, i9, i10, i11, i12, i13, i14, i15, i16, i17, i18, i19, i20, i21, i22, i23] [b0, b1, b2, b3, b4, b5, b6, b7, b8, b9, b10, b11, b12, b13, b14, b15, b16, b17] = ([if okP i0 i1 i2 i4 i5 i6 i7 i8 i9 i10 && okT i12 i13 i14 i15 i16 && okN i17 i18 i19 i21 i22 i23 then 0 else 1], []) := by
  unfold F30
  obtain ⟨ρ, e1, e2, e3, e4⟩ := Smry.run_spec (Φ := tabF T4) (S := S30) (is := [i0, i1, i2, i3, i4, i5, i6, i7, i8, i9, i10, i11, i12, i13, i14, i15, i16, i17, i18, i19, i20, i21, i22, i23]) (bs := [b0, b1, b2, b3, b4, b5, b6, b7, b8, b9, b10, b11, b12, b13, b14, b15, b16, b17]) rfl
  rw [e1]
  clear e1
  simp only [S30, eqns, Em.eqn, headsI, headsB, RI.d, RB.d, A.d, B.d, cm_eql, cm_neq, cm_lss, cm_leq, cm_gtr, cm_geq, List.map_cons, List.map_nil, and_true, Nat.zero_add, Nat.reduceAdd, ltn, upto, true_and, Nat.add_zero, List.getD_cons_zero, List.getD_cons_succ, add8, sub8, add16, sub16, mul16, wrap_u8, wrap_u16, and8_1, and8_7, and8_8, and8_15, and8_16, and8_31, and8_32, and8_64, and8_127, and8_128, and16_1, and16_255, and16_1792, shr8_1, shr8_3, shr8_4, shr8_6, shr16_1, shr16_6, shr16_8, shl16_8, shl16_14] at e2 e3 e4 ⊢
  simp only [e2, e3] at e4 ⊢
  rw [show tabF T4 68 = F68 by rfl, show tabF T4 69 = F69 by rfl, show tabF T4 70 = F70 by rfl, v68, v69, v70 (h6 := h23)] at e4
  simp only [List.getD_cons_zero] at e4
  generalize okP i0 i1 i2 i4 i5 i6 i7 i8 i9 i10 = x at e4 ⊢
  generalize okT i12 i13 i14 i15 i16 = y at e4 ⊢
  generalize okN i17 i18 i19 i21 i22 i23 = z at e4 ⊢
  cases x <;> cases y <;> cases z <;> simp_all
def longTab : List Int := [10, 254, 20, 2, 40, 4, 80, 6, 160, 8, 60, 10, 14, 12, 26, 14, 12, 16, 24, 18, 48, 20, 96, 22, 192, 24, 72, 26, 16, 28, 32, 30]
theorem longTab_in (n : Nat) : 0 ≤ longTab.getD n 0 ∧ longTab.getD n 0 < 256 := by
  by_cases h : n < 32
  · have : ∀ m, m < 32 → 0 ≤ longTab.getD m 0 ∧ longTab.getD m 0 < 256 := by decide +kernel
    exact this n h
  · have h2 : longTab[n]? = none := List.getElem?_eq_none (by show 32 ≤ n; omega)
    rw [List.getD_eq_getElem?_getD, h2]
    decide
def rateTab : List Int := [4, 8, 16, 32, 64, 96, 128, 160, 202, 254, 380, 508, 762, 1016, 2034, 4068]
theorem rateTab_in (n : Nat) : 0 ≤ rateTab.getD n 0 ∧ rateTab.getD n 0 < 4069 := by
  by_cases h : n < 16
  · have : ∀ m, m < 16 → 0 ≤ rateTab.getD m 0 ∧ rateTab.getD m 0 < 4069 := by decide +kernel
    exact this n h
  · have h2 : rateTab[n]? = none := List.getElem?_eq_none (by show 16 ≤ n; omega)
    rw [List.getD_eq_getElem?_getD, h2]
    decide
theorem l73 (i0 i1 : Int) (b0 b1 : Bool) (h0 : 0 ≤ i0) (h1 : 0 ≤ i1 ∧ i1 ≤ 255) : ∃ c, F73 [i0, i1] [b0, b1] = ([c], [true, b0, b1]) ∧ 0 ≤ c := by
  unfold F73
  obtain ⟨ρ, e1, e2, e3, e4⟩ := Smry.run_specT (Φ := tabF T7) (S := S73) (is := [i0, i1]) (bs := [b0, b1]) rfl
  rw [e1, obAll_eq]
  clear e1
  simp only [S73, obs, Gd.d_cons, Gd.d_nil, eqns, Em.eqn, headsI, headsB, RI.d, RB.d, A.d, B.d, cm_eql, cm_neq, cm_lss, cm_leq, cm_gtr, cm_geq, List.map_cons, List.map_nil, and_true, Nat.zero_add, Nat.reduceAdd, ltn, upto, true_and, Nat.add_zero, List.getD_cons_zero, List.getD_cons_succ, add8, sub8, add16, sub16, mul16, wrap_u8, wrap_u16, and8_1, and8_7, and8_8, and8_15, and8_16, and8_31, and8_32, and8_64, and8_127, and8_128, and16_1, and16_255, and16_1792, shr8_1, shr8_3, shr8_4, shr8_6, shr16_1, shr16_6, shr16_8, shl16_8, shl16_14] at e2 e3 e4 ⊢
  simp only [e2, e3] at e4 ⊢
  rw [show [10, 254, 20, 2, 40, 4, 80, 6, 160, 8, 60, 10, 14, 12, 26, 14, 12, 16, 24, 18, 48, 20, 96, 22, 192, 24, 72, 26, 16, 28, 32, 30] = longTab by rfl] at e4
  have ht := longTab_in (i1 / 8).toNat
  generalize longTab = tb at *
  refine ⟨ρ.i 4, ?_, ?_⟩ <;> grind
end Go.Proofs.YtoempcgniokpiaaDoor.Td
