/-
  tone: the noise: program and document agree. WRITTEN BY PROGRAM (wip/gen/tb1.py). No condition.
-/
import Derived.Test.YtoempcgniokpiaaDoorTbS
import Derived.Test.YtoempcgniokpiaaDoorSxAr
set_option linter.unusedVariables false
set_option linter.unusedSimpArgs false
namespace Go.Proofs.YtoempcgniokpiaaDoor.Tb
open Go Go.Proofs.YtoempcgniokpiaaDoor.Sx

def okE (a b c : Int) : Bool := decide (a < 16) && decide (b < 16) && decide (c < 16)
def okN (i0 i1 i2 i4 i5 i6 : Int) : Bool := okE i0 i1 i2 && decide (i4 < 16) && decide (i5 < 4096) && decide (1 ≤ i6) && decide (i6 ≤ 32767)
theorem v70 (i0 i1 i2 i3 i4 i5 i6 : Int) (b0 b1 b2 b3 b4 b5 : Bool) (h6 : 0 ≤ i6) : F70 [i0, i1, i2, i3, i4, i5, i6] [b0, b1, b2, b3, b4, b5] = ([], [okN i0 i1 i2 i4 i5 i6]) := by
  unfold F70
  obtain ⟨ρ, e1, e2, e3, e4⟩ := Smry.run_spec (Φ := tabF T1) (S := S70) (is := [i0, i1, i2, i3, i4, i5, i6]) (bs := [b0, b1, b2, b3, b4, b5]) rfl
  rw [e1]
  clear e1
  simp only [S70, eqns, Em.eqn, headsI, headsB, RI.d, RB.d, A.d, B.d, cm_eql, cm_neq, cm_lss, cm_leq, cm_gtr, cm_geq, List.map_cons, List.map_nil, and_true, Nat.zero_add, Nat.reduceAdd, ltn, upto, true_and, Nat.add_zero, List.getD_cons_zero, List.getD_cons_succ, add8, sub8, add16, sub16, mul16, wrap_u8, wrap_u16, and8_1, and8_7, and8_8, and8_15, and8_16, and8_31, and8_32, and8_64, and8_127, and8_128, and16_1, and16_255, and16_1792, shr8_1, shr8_3, shr8_4, shr8_6, shr16_1, shr16_6, shr16_8, shl16_8, shl16_14] at e2 e3 e4 ⊢
  simp only [e2, e3] at e4 ⊢
  unfold okN okE
  grind
theorem v39 (i0 i1 i2 i3 i4 i5 i6 : Int) (b0 b1 b2 b3 b4 b5 : Bool) : F39 [i0, i1, i2, i3, i4, i5, i6] [b0, b1, b2, b3, b4, b5] = ([], [okN i0 i1 i2 i4 i5 i6]) := by
  unfold F39
  obtain ⟨ρ, e1, e2, e3, e4⟩ := Smry.run_spec (Φ := tabF T6) (S := S39) (is := [i0, i1, i2, i3, i4, i5, i6]) (bs := [b0, b1, b2, b3, b4, b5]) rfl
  rw [e1]
  clear e1
  simp only [S39, eqns, Em.eqn, headsI, headsB, RI.d, RB.d, A.d, B.d, cm_eql, cm_neq, cm_lss, cm_leq, cm_gtr, cm_geq, List.map_cons, List.map_nil, and_true, Nat.zero_add, Nat.reduceAdd, ltn, upto, true_and, Nat.add_zero, List.getD_cons_zero, List.getD_cons_succ, add8, sub8, add16, sub16, mul16, wrap_u8, wrap_u16, and8_1, and8_7, and8_8, and8_15, and8_16, and8_31, and8_32, and8_64, and8_127, and8_128, and16_1, and16_255, and16_1792, shr8_1, shr8_3, shr8_4, shr8_6, shr16_1, shr16_6, shr16_8, shl16_8, shl16_14] at e2 e3 e4 ⊢
  simp only [e2, e3] at e4 ⊢
  unfold okN okE
  grind
def longTab : List Int := [10, 254, 20, 2, 40, 4, 80, 6, 160, 8, 60, 10, 14, 12, 26, 14, 12, 16, 24, 18, 48, 20, 96, 22, 192, 24, 72, 26, 16, 28, 32, 30]
theorem longTab_in (n : Nat) : 0 ≤ longTab.getD n 0 ∧ longTab.getD n 0 < 256 := by
  by_cases h : n < 32
  · have : ∀ m, m < 32 → 0 ≤ longTab.getD m 0 ∧ longTab.getD m 0 < 256 := by decide +kernel
    exact this n h
  · have h2 : longTab[n]? = none := List.getElem?_eq_none (by show 32 ≤ n; omega)
    rw [List.getD_eq_getElem?_getD, h2]
    decide
def rateTab : List Int := [4, 8, 16, 32, 64, 96, 128, 160, 202, 254, 380, 508, 762, 1016, 2034, 4068]
theorem rateTab_in (n : Nat) : 0 ≤ rateTab.getD n 0 ∧ rateTab.getD n 0 < 5000 := by
  by_cases h : n < 16
  · have : ∀ m, m < 16 → 0 ≤ rateTab.getD m 0 ∧ rateTab.getD m 0 < 5000 := by decide +kernel
    exact this n h
  · have h2 : rateTab[n]? = none := List.getElem?_eq_none (by show 16 ≤ n; omega)
    rw [List.getD_eq_getElem?_getD, h2]
    decide
theorem l73 (i0 i1 : Int) (b0 b1 : Bool) (h1 : 0 ≤ i1 ∧ i1 ≤ 255) : F73 [i0, i1] [b0, b1] = ([if b1 then longTab.getD (i1 / 8).toNat 0 else i0], [true, b0, b1]) := by
  unfold F73
  obtain ⟨ρ, e1, e2, e3, e4⟩ := Smry.run_specT (Φ := tabF T3) (S := S73) (is := [i0, i1]) (bs := [b0, b1]) rfl
  rw [e1, obAll_eq]
  clear e1
  simp only [S73, obs, Gd.d_cons, Gd.d_nil, eqns, Em.eqn, headsI, headsB, RI.d, RB.d, A.d, B.d, cm_eql, cm_neq, cm_lss, cm_leq, cm_gtr, cm_geq, List.map_cons, List.map_nil, and_true, Nat.zero_add, Nat.reduceAdd, ltn, upto, true_and, Nat.add_zero, List.getD_cons_zero, List.getD_cons_succ, add8, sub8, add16, sub16, mul16, wrap_u8, wrap_u16, and8_1, and8_7, and8_8, and8_15, and8_16, and8_31, and8_32, and8_64, and8_127, and8_128, and16_1, and16_255, and16_1792, shr8_1, shr8_3, shr8_4, shr8_6, shr16_1, shr16_6, shr16_8, shl16_8, shl16_14, quo8_eq] at e2 e3 e4 ⊢
  simp only [e2, e3] at e4 ⊢
  rw [show [10, 254, 20, 2, 40, 4, 80, 6, 160, 8, 60, 10, 14, 12, 26, 14, 12, 16, 24, 18, 48, 20, 96, 22, 192, 24, 72, 26, 16, 28, 32, 30] = longTab by rfl] at e4
  have ht := longTab_in (i1 / 8).toNat
  generalize longTab = tb at *
  grind
theorem l80 (i0 i1 : Int) (b0 b1 : Bool) (h1 : 0 ≤ i1 ∧ i1 ≤ 255) : F80 [i0, i1] [b0, b1] = ([if b1 then longTab.getD (i1 / 8).toNat 0 else i0], [true, b0, b1]) := by
  unfold F80
  obtain ⟨ρ, e1, e2, e3, e4⟩ := Smry.run_specT (Φ := tabF T9) (S := S80) (is := [i0, i1]) (bs := [b0, b1]) rfl
  rw [e1, obAll_eq]
  clear e1
  simp only [S80, obs, Gd.d_cons, Gd.d_nil, eqns, Em.eqn, headsI, headsB, RI.d, RB.d, A.d, B.d, cm_eql, cm_neq, cm_lss, cm_leq, cm_gtr, cm_geq, List.map_cons, List.map_nil, and_true, Nat.zero_add, Nat.reduceAdd, ltn, upto, true_and, Nat.add_zero, List.getD_cons_zero, List.getD_cons_succ, add8, sub8, add16, sub16, mul16, wrap_u8, wrap_u16, and8_1, and8_7, and8_8, and8_15, and8_16, and8_31, and8_32, and8_64, and8_127, and8_128, and16_1, and16_255, and16_1792, shr8_1, shr8_3, shr8_4, shr8_6, shr16_1, shr16_6, shr16_8, shl16_8, shl16_14, quo8_eq] at e2 e3 e4 ⊢
  simp only [e2, e3] at e4 ⊢
  rw [show [10, 254, 20, 2, 40, 4, 80, 6, 160, 8, 60, 10, 14, 12, 26, 14, 12, 16, 24, 18, 48, 20, 96, 22, 192, 24, 72, 26, 16, 28, 32, 30] = longTab by rfl] at e4
  have ht := longTab_in (i1 / 8).toNat
  generalize longTab = tb at *
  grind
theorem or14 (x u : Int) (h : (u = 0 ∨ u = 1) ∧ 0 ≤ x ∧ x < 16384) : arI .or .u16 x (16384 * u) = x + 16384 * u := by
  have := or16_add u x 14 (by omega) (by omega) (by omega) (by omega)
  rw [show (2 : Int) ^ 14 * u = 16384 * u by omega] at this
  rw [show arI .or .u16 x (16384 * u) = arI .or .u16 (16384 * u) x by
    show IntKind.wrap .u16 ↑(BitVec.ofInt 16 x ||| BitVec.ofInt 16 (16384 * u)).toNat = IntKind.wrap .u16 ↑(BitVec.ofInt 16 (16384 * u) ||| BitVec.ofInt 16 x).toNat
    rw [BitVec.or_comm], this]
  omega
theorem xor1 (x y : Int) (h : 0 ≤ x ∧ x < 65536 ∧ 0 ≤ y ∧ y < 65536) : arI .xor .u16 x y % 65536 % 2 = (x + y) % 2 := by
  obtain ⟨m, rfl⟩ := Int.eq_ofNat_of_zero_le h.1
  obtain ⟨n, rfl⟩ := Int.eq_ofNat_of_zero_le h.2.2.1
  rw [xor16_nat, show ((m : Int) % 65536).toNat = m by omega, show ((n : Int) % 65536).toNat = n by omega]
  have h : (m ^^^ n) % 2 = 1 ↔ ¬ (m % 2 = 1 ↔ n % 2 = 1) := by simp
  omega
theorem wrap_sm (n : Int) (h : -100000 < n ∧ n < 100000) : IntKind.wrap .i64 n = n := by
  rw [wrap_i64_if, if_pos (by omega)]
theorem q46 (i0 i1 i2 i3 i4 i5 i6 i7 i8 : Int) (b0 b1 b2 b3 b4 b5 : Bool) (h0 : 0 ≤ i0) (h1 : 0 ≤ i1) (h2 : 0 ≤ i2) (h3 : 0 ≤ i3) (h4 : 0 ≤ i4) (h5 : 0 ≤ i5) (h6 : 0 ≤ i6) (h8 : 0 ≤ i8 ∧ i8 ≤ 255) : F46 [i0, i1, i2, i3, i4, i5, i6, i7, i8] [b0, b1, b2, b3, b4, b5] = F47 [i0, i1, i2, i3, i4, i5, i6, i7, i8] [b0, b1, b2, b3, b4, b5] := by
  unfold F46 F47
  obtain ⟨ρ, e1, e2, e3, e4⟩ := Smry.run_specT (Φ := tabF T4) (S := S46) (is := [i0, i1, i2, i3, i4, i5, i6, i7, i8]) (bs := [b0, b1, b2, b3, b4, b5]) rfl
  obtain ⟨σ, f1, f2, f3, f4⟩ := Smry.run_specT (Φ := tabF T10) (S := S47) (is := [i0, i1, i2, i3, i4, i5, i6, i7, i8]) (bs := [b0, b1, b2, b3, b4, b5]) rfl
  rw [e1, f1, obAll_eq, obAll_eq]
  clear e1 f1
  simp only [S46, S47, obs, Gd.d_cons, Gd.d_nil, eqns, Em.eqn, headsI, headsB, RI.d, RB.d, A.d, B.d, cm_eql, cm_neq, cm_lss, cm_leq, cm_gtr, cm_geq, List.map_cons, List.map_nil, and_true, Nat.zero_add, Nat.reduceAdd, ltn, upto, true_and, Nat.add_zero, List.getD_cons_zero, List.getD_cons_succ, add8, sub8, add16, sub16, mul16, wrap_u8, wrap_u16, and8_1, and8_7, and8_8, and8_15, and8_16, and8_31, and8_32, and8_64, and8_127, and8_128, and16_1, and16_255, and16_1792, shr8_1, shr8_3, shr8_4, shr8_6, shr16_1, shr16_6, shr16_8, shl16_8, shl16_14, rem_eq, quo8_eq] at e2 e3 e4 f2 f3 f4 ⊢
  simp only [e2, e3, f2, f3] at e4 f4 ⊢
  rw [show tabF T4 70 = F70 by rfl, v70 (h6 := h6)] at e4
  rw [show tabF T10 39 = F39 by rfl, v39] at f4
  simp only [List.getD_cons_zero] at e4 f4
  rw [show tabF T4 73 = F73 by rfl, l73 (h1 := h8)] at e4
  rw [show tabF T10 80 = F80 by rfl, l80 (h1 := h8)] at f4
  simp only [List.getD_cons_zero, List.getD_cons_succ] at e4 f4
  have ht := longTab_in (i8 / 8).toNat
  generalize longTab.getD (i8 / 8).toNat 0 = tb at *
  cases hm : okN i0 i1 i2 i4 i5 i6
  · rw [hm] at e4 f4
    clear hm
    grind
  · rw [hm] at e4 f4
    simp only [okN, okE, Bool.and_eq_true, decide_eq_true_eq] at hm
    obtain ⟨hb6, hb7, hb8, hi9, hb9, hi10, hb10, hi11, hb11, hi12, hb12, hi13, hb13, ⟨hi14, hb14, hb15, hb16⟩, hb17, hb18, hb19, hi15, hb20, hb21, hb22, hi16, hb23, hi17, hb24, hb25, hb26, hi18, hb27, hb28, hi19, hb29, hi20, hb30, hb31, hb32, hb33, hi21, hb34, hb35, hi22, hb36, hi23⟩ := e4
    obtain ⟨gb6, gb7, gb8, gi9, gi10, gb9, gi11, gi12, gb10, gi13, gi14, gi15, gb11, gb12, gb13, gi16, gb14, ⟨gi17, gb15, gb16, gb17⟩, gb18, gb19, gb20, gi18, gb21, gb22, gb23, gi19, gb24, gi20, gb25, gb26, gb27, gi21, gb28, gb29, gi22, gb30, gi23, gb31, gb32, gb33, gb34, gi24, gb35, gb36, gi25, gb37, gi26⟩ := f4
    have A1 : ρ.b 9 = σ.b 9 := by
      rw [hb9, hi9, gb9, gi10, gi9]
      rw [Bool.eq_iff_iff]
      simp only [decide_eq_true_eq, beq_iff_eq]
      clear e2 e3 f2 f3 hb6 hb7 hb8 hi9 hb9 hi10 hb10 hi11 hb11 hi12 hb12 hi13 hb13 hi14 hb14 hb15 hb16 hb17 hb18 hb19 hi15 hb20 hb21 hb22 hi16 hb23 hi17 hb24 hb25 hb26 hi18 hb27 hb28 hi19 hb29 hi20 hb30 hb31 hb32 hb33 hi21 hb34 hb35 hi22 hb36 hi23 gb6 gb7 gb8 gi9 gi10 gb9 gi11 gi12 gb10 gi13 gi14 gi15 gb11 gb12 gb13 gi16 gb14 gi17 gb15 gb16 gb17 gb18 gb19 gb20 gi18 gb21 gb22 gb23 gi19 gb24 gi20 gb25 gb26 gb27 gi21 gb28 gb29 gi22 gb30 gi23 gb31 gb32 gb33 gb34 gi24 gb35 gb36 gi25 gb37 gi26
      (repeat' split) <;> omega
    have A2 : ρ.b 10 = σ.b 10 := by
      rw [hb10, hi10, gb10, gi12, gi11]
      rw [Bool.eq_iff_iff]
      simp only [decide_eq_true_eq, beq_iff_eq]
      clear e2 e3 f2 f3 hb6 hb7 hb8 hi9 hb9 hi10 hb10 hi11 hb11 hi12 hb12 hi13 hb13 hi14 hb14 hb15 hb16 hb17 hb18 hb19 hi15 hb20 hb21 hb22 hi16 hb23 hi17 hb24 hb25 hb26 hi18 hb27 hb28 hi19 hb29 hi20 hb30 hb31 hb32 hb33 hi21 hb34 hb35 hi22 hb36 hi23 gb6 gb7 gb8 gi9 gi10 gb9 gi11 gi12 gb10 gi13 gi14 gi15 gb11 gb12 gb13 gi16 gb14 gi17 gb15 gb16 gb17 gb18 gb19 gb20 gi18 gb21 gb22 gb23 gi19 gb24 gi20 gb25 gb26 gb27 gi21 gb28 gb29 gi22 gb30 gi23 gb31 gb32 gb33 gb34 gi24 gb35 gb36 gi25 gb37 gi26
      (repeat' split) <;> omega
    have A3 : ρ.i 11 = σ.i 13 := by
      rw [hi11, gi13]
      clear e2 e3 f2 f3 hb6 hb7 hb8 hi9 hb9 hi10 hb10 hi11 hb11 hi12 hb12 hi13 hb13 hi14 hb14 hb15 hb16 hb17 hb18 hb19 hi15 hb20 hb21 hb22 hi16 hb23 hi17 hb24 hb25 hb26 hi18 hb27 hb28 hi19 hb29 hi20 hb30 hb31 hb32 hb33 hi21 hb34 hb35 hi22 hb36 hi23 gb6 gb7 gb8 gi9 gi10 gb9 gi11 gi12 gb10 gi13 gi14 gi15 gb11 gb12 gb13 gi16 gb14 gi17 gb15 gb16 gb17 gb18 gb19 gb20 gi18 gb21 gb22 gb23 gi19 gb24 gi20 gb25 gb26 gb27 gi21 gb28 gb29 gi22 gb30 gi23 gb31 gb32 gb33 gb34 gi24 gb35 gb36 gi25 gb37 gi26
      (repeat' split) <;> omega
    have A4 : σ.b 11 = σ.b 9 := by rw [gb11, gb9, gi15, gi10, gi14, gi9]
    have A5 : ρ.b 12 = σ.b 13 := by
      rw [hb12, hi12, gb13]
      rw [Bool.eq_iff_iff]
      simp only [decide_eq_true_eq, beq_iff_eq]
      clear e2 e3 f2 f3 hb6 hb7 hb8 hi9 hb9 hi10 hb10 hi11 hb11 hi12 hb12 hi13 hb13 hi14 hb14 hb15 hb16 hb17 hb18 hb19 hi15 hb20 hb21 hb22 hi16 hb23 hi17 hb24 hb25 hb26 hi18 hb27 hb28 hi19 hb29 hi20 hb30 hb31 hb32 hb33 hi21 hb34 hb35 hi22 hb36 hi23 gb6 gb7 gb8 gi9 gi10 gb9 gi11 gi12 gb10 gi13 gi14 gi15 gb11 gb12 gb13 gi16 gb14 gi17 gb15 gb16 gb17 gb18 gb19 gb20 gi18 gb21 gb22 gb23 gi19 gb24 gi20 gb25 gb26 gb27 gi21 gb28 gb29 gi22 gb30 gi23 gb31 gb32 gb33 gb34 gi24 gb35 gb36 gi25 gb37 gi26
      (repeat' split) <;> omega
    have A6 : ρ.i 13 = σ.i 16 := by
      rw [hi13, gi16]
      clear e2 e3 f2 f3 hb6 hb7 hb8 hi9 hb9 hi10 hb10 hi11 hb11 hi12 hb12 hi13 hb13 hi14 hb14 hb15 hb16 hb17 hb18 hb19 hi15 hb20 hb21 hb22 hi16 hb23 hi17 hb24 hb25 hb26 hi18 hb27 hb28 hi19 hb29 hi20 hb30 hb31 hb32 hb33 hi21 hb34 hb35 hi22 hb36 hi23 gb6 gb7 gb8 gi9 gi10 gb9 gi11 gi12 gb10 gi13 gi14 gi15 gb11 gb12 gb13 gi16 gb14 gi17 gb15 gb16 gb17 gb18 gb19 gb20 gi18 gb21 gb22 gb23 gi19 gb24 gi20 gb25 gb26 gb27 gi21 gb28 gb29 gi22 gb30 gi23 gb31 gb32 gb33 gb34 gi24 gb35 gb36 gi25 gb37 gi26
      (repeat' split) <;> omega
    clear hb10 hb12 hb9 hi10 hi11 hi12 hi13 hi9 gb10 gb11 gb13 gb9 gi10 gi11 gi12 gi13 gi14 gi15 gi16 gi9
    have hr : i7 = 0 ∨ i7 = 2 ∨ i7 = 3 ∨ ((i7 == 0) = false ∧ (i7 == 2) = false ∧ (i7 == 3) = false) := by
      simp only [beq_eq_false_iff_ne]; omega
    rcases hr with rfl | rfl | rfl | ⟨n0, n2, n3⟩
    iterate 3 simp [hb6, hb7, hb8, hb11, hb13, hi14, hb14, hb15, hb16, hb17, hb18, hb19, hi15, hb20, hb21, hb22, hi16, hb23, hi17, hb24, hb25, hb26, hi18, hb27, hb28, hi19, hb29, hi20, hb30, hb31, hb32, hb33, hi21, hb34, hb35, hi22, hb36, hi23, gb6, gb7, gb8, gb12, gb14, gi17, gb15, gb16, gb17, gb18, gb19, gb20, gi18, gb21, gb22, gb23, gi19, gb24, gi20, gb25, gb26, gb27, gi21, gb28, gb29, gi22, gb30, gi23, gb31, gb32, gb33, gb34, gi24, gb35, gb36, gi25, gb37, gi26, A1, A2, A3, A4, A5, A6]
    simp [hb6, hb7, hb8, hb11, hb13, hi14, hb14, hb15, hb16, hb17, hb18, hb19, hi15, hb20, hb21, hb22, hi16, hb23, hi17, hb24, hb25, hb26, hi18, hb27, hb28, hi19, hb29, hi20, hb30, hb31, hb32, hb33, hi21, hb34, hb35, hi22, hb36, hi23, gb6, gb7, gb8, gb12, gb14, gi17, gb15, gb16, gb17, gb18, gb19, gb20, gi18, gb21, gb22, gb23, gi19, gb24, gi20, gb25, gb26, gb27, gi21, gb28, gb29, gi22, gb30, gi23, gb31, gb32, gb33, gb34, gi24, gb35, gb36, gi25, gb37, gi26, A1, A2, A3, A4, A5, A6, n0, n2, n3]
theorem o47 (i0 i1 i2 i3 i4 i5 i6 i7 i8 : Int) (b0 b1 b2 b3 b4 b5 : Bool) (h8 : 0 ≤ i8 ∧ i8 ≤ 255) : (F47 [i0, i1, i2, i3, i4, i5, i6, i7, i8] [b0, b1, b2, b3, b4, b5]).2.getD 0 false = true := by
  unfold F47
  obtain ⟨ρ, e1, e2, e3, e4⟩ := Smry.run_specT (Φ := tabF T10) (S := S47) (is := [i0, i1, i2, i3, i4, i5, i6, i7, i8]) (bs := [b0, b1, b2, b3, b4, b5]) rfl
  rw [e1, obAll_eq]
  clear e1
  simp only [S47, obs, Gd.d_cons, Gd.d_nil, eqns, Em.eqn, headsI, headsB, RI.d, RB.d, A.d, B.d, cm_eql, cm_neq, cm_lss, cm_leq, cm_gtr, cm_geq, List.map_cons, List.map_nil, and_true, Nat.zero_add, Nat.reduceAdd, ltn, upto, true_and, Nat.add_zero, List.getD_cons_zero, List.getD_cons_succ, add8, sub8, add16, sub16, mul16, wrap_u8, wrap_u16, and8_1, and8_7, and8_8, and8_15, and8_16, and8_31, and8_32, and8_64, and8_127, and8_128, and16_1, and16_255, and16_1792, shr8_1, shr8_3, shr8_4, shr8_6, shr16_1, shr16_6, shr16_8, shl16_8, shl16_14] at e2 e3 e4 ⊢
  simp only [e2, e3] at e4 ⊢
  rw [show tabF T10 80 = F80 by rfl, l80 (h1 := h8)] at e4
  simp only [List.getD_cons_zero, List.getD_cons_succ] at e4
  grind
theorem q50 (i0 i1 i2 i3 i4 i5 i6 : Int) (b0 b1 b2 b3 b4 b5 : Bool) (h0 : 0 ≤ i0) (h1 : 0 ≤ i1) (h2 : 0 ≤ i2) (h3 : 0 ≤ i3) (h4 : 0 ≤ i4) (h5 : 0 ≤ i5) (h6 : 0 ≤ i6) : F50 [i0, i1, i2, i3, i4, i5, i6] [b0, b1, b2, b3, b4, b5] = F51 [i0, i1, i2, i3, i4, i5, i6] [b0, b1, b2, b3, b4, b5] := by
  unfold F50 F51
  obtain ⟨ρ, e1, e2, e3, e4⟩ := Smry.run_spec (Φ := tabF T15) (S := S50) (is := [i0, i1, i2, i3, i4, i5, i6]) (bs := [b0, b1, b2, b3, b4, b5]) rfl
  obtain ⟨σ, f1, f2, f3, f4⟩ := Smry.run_spec (Φ := tabF T17) (S := S51) (is := [i0, i1, i2, i3, i4, i5, i6]) (bs := [b0, b1, b2, b3, b4, b5]) rfl
  rw [e1, f1]
  clear e1 f1
  simp only [S50, S51, obs, Gd.d_cons, Gd.d_nil, eqns, Em.eqn, headsI, headsB, RI.d, RB.d, A.d, B.d, cm_eql, cm_neq, cm_lss, cm_leq, cm_gtr, cm_geq, List.map_cons, List.map_nil, and_true, Nat.zero_add, Nat.reduceAdd, ltn, upto, true_and, Nat.add_zero, List.getD_cons_zero, List.getD_cons_succ, add8, sub8, add16, sub16, mul16, wrap_u8, wrap_u16, and8_1, and8_7, and8_8, and8_15, and8_16, and8_31, and8_32, and8_64, and8_127, and8_128, and16_1, and16_255, and16_1792, shr8_1, shr8_3, shr8_4, shr8_6, shr16_1, shr16_6, shr16_8, shl16_8, shl16_14, rem_eq] at e2 e3 e4 f2 f3 f4 ⊢
  simp only [e2, e3, f2, f3] at e4 f4 ⊢
  rw [show tabF T15 70 = F70 by rfl, v70 (h6 := h6)] at e4
  rw [show tabF T17 39 = F39 by rfl, v39] at f4
  simp only [List.getD_cons_zero] at e4 f4
  cases hm : okN i0 i1 i2 i4 i5 i6
  · rw [hm] at e4 f4
    clear hm
    grind
  · rw [hm] at e4 f4
    simp only [okN, okE, Bool.and_eq_true, decide_eq_true_eq] at hm
    grind
end Go.Proofs.YtoempcgniokpiaaDoor.Tb
