/-
  tone: the length's load, the triangle's writes, and ToneTriangle. WRITTEN BY PROGRAM (wip/gen/ta4.py). No condition.
-/
import Derived.Test.YtoempcgniokpiaaDoorTaA
set_option linter.unusedVariables false
set_option linter.unusedSimpArgs false
namespace Go.Proofs.YtoempcgniokpiaaDoor.Ta
open Go Go.Proofs.YtoempcgniokpiaaDoor.Sx

def longTab : List Int := [10, 254, 20, 2, 40, 4, 80, 6, 160, 8, 60, 10, 14, 12, 26, 14, 12, 16, 24, 18, 48, 20, 96, 22, 192, 24, 72, 26, 16, 28, 32, 30]
theorem longs_byte (n : Nat) : 0 ≤ longTab.getD n 0 ∧ longTab.getD n 0 < 256 := by
  by_cases h : n < 32
  · have : ∀ m, m < 32 → 0 ≤ longTab.getD m 0 ∧ longTab.getD m 0 < 256 := by decide +kernel
    exact this n h
  · have h2 : longTab[n]? = none := List.getElem?_eq_none (by show 32 ≤ n; omega)
    rw [List.getD_eq_getElem?_getD, h2]
    decide
theorem l73 (i0 i1 : Int) (b0 b1 : Bool) (h1 : 0 ≤ i1 ∧ i1 ≤ 255) : F73 [i0, i1] [b0, b1] = ([if b1 then longTab.getD (i1 / 8).toNat 0 else i0], [true, b0, b1]) := by
  unfold F73
  obtain ⟨ρ, e1, e2, e3, e4⟩ := Smry.run_specT (Φ := tabF T18) (S := S73) (is := [i0, i1]) (bs := [b0, b1]) rfl
  rw [e1, obAll_eq]
  clear e1
  simp only [S73, obs, Gd.d_cons, Gd.d_nil, eqns, Em.eqn, headsI, headsB, RI.d, RB.d, A.d, B.d, cm_eql, cm_neq, cm_lss, cm_leq, cm_gtr, cm_geq, List.map_cons, List.map_nil, and_true, Nat.zero_add, Nat.reduceAdd, ltn, upto, true_and, Nat.add_zero, List.getD_cons_zero, List.getD_cons_succ, add8, sub8, add16, sub16, mul16, wrap_u8, wrap_u16, and8_1, and8_7, and8_8, and8_15, and8_16, and8_31, and8_32, and8_64, and8_127, and8_128, and16_1, and16_255, and16_1792, shr8_1, shr8_3, shr8_4, shr8_6, shr16_1, shr16_6, shr16_8, shl16_8, shl16_14, quo8_eq] at e2 e3 e4 ⊢
  simp only [e2, e3] at e4 ⊢
  rw [show [10, 254, 20, 2, 40, 4, 80, 6, 160, 8, 60, 10, 14, 12, 26, 14, 12, 16, 24, 18, 48, 20, 96, 22, 192, 24, 72, 26, 16, 28, 32, 30] = longTab by rfl] at e4
  have ht := longs_byte (i1 / 8).toNat
  generalize longTab = tb at *
  grind
theorem l80 (i0 i1 : Int) (b0 b1 : Bool) (h1 : 0 ≤ i1 ∧ i1 ≤ 255) : F80 [i0, i1] [b0, b1] = ([if b1 then longTab.getD (i1 / 8).toNat 0 else i0], [true, b0, b1]) := by
  unfold F80
  obtain ⟨ρ, e1, e2, e3, e4⟩ := Smry.run_specT (Φ := tabF T29) (S := S80) (is := [i0, i1]) (bs := [b0, b1]) rfl
  rw [e1, obAll_eq]
  clear e1
  simp only [S80, obs, Gd.d_cons, Gd.d_nil, eqns, Em.eqn, headsI, headsB, RI.d, RB.d, A.d, B.d, cm_eql, cm_neq, cm_lss, cm_leq, cm_gtr, cm_geq, List.map_cons, List.map_nil, and_true, Nat.zero_add, Nat.reduceAdd, ltn, upto, true_and, Nat.add_zero, List.getD_cons_zero, List.getD_cons_succ, add8, sub8, add16, sub16, mul16, wrap_u8, wrap_u16, and8_1, and8_7, and8_8, and8_15, and8_16, and8_31, and8_32, and8_64, and8_127, and8_128, and16_1, and16_255, and16_1792, shr8_1, shr8_3, shr8_4, shr8_6, shr16_1, shr16_6, shr16_8, shl16_8, shl16_14, quo8_eq] at e2 e3 e4 ⊢
  simp only [e2, e3] at e4 ⊢
  rw [show [10, 254, 20, 2, 40, 4, 80, 6, 160, 8, 60, 10, 14, 12, 26, 14, 12, 16, 24, 18, 48, 20, 96, 22, 192, 24, 72, 26, 16, 28, 32, 30] = longTab by rfl] at e4
  have ht := longs_byte (i1 / 8).toNat
  generalize longTab = tb at *
  grind
theorem or16_hi (x y : Int) (h : x % 256 = 0 ∧ 0 ≤ x ∧ x < 65536 ∧ 0 ≤ y ∧ y < 256) : arI .or .u16 x y = x + y := by
  have := or16_add (x / 256) y 8 (by omega) (by omega) (by omega) (by omega)
  rw [show (2 : Int) ^ 8 * (x / 256) = x by omega] at this
  exact this
theorem or16_lo (x y : Int) (h : x % 256 = 0 ∧ 0 ≤ x ∧ x < 65536 ∧ 0 ≤ y ∧ y < 256) : arI .or .u16 y x = x + y := by
  rw [← or16_hi x y h]
  show IntKind.wrap .u16 ↑(BitVec.ofInt 16 y ||| BitVec.ofInt 16 x).toNat = IntKind.wrap .u16 ↑(BitVec.ofInt 16 x ||| BitVec.ofInt 16 y).toNat
  rw [BitVec.or_comm]
theorem q52 (i0 i1 i2 i3 i4 i5 i6 i7 : Int) (b0 b1 b2 : Bool) (h0 : 0 ≤ i0) (h1 : 0 ≤ i1) (h2 : 0 ≤ i2) (h3 : 0 ≤ i3) (h4 : 0 ≤ i4) (h5 : 0 ≤ i5) (h7 : 0 ≤ i7 ∧ i7 ≤ 255) : F52 [i0, i1, i2, i3, i4, i5, i6, i7] [b0, b1, b2] = F53 [i0, i1, i2, i3, i4, i5, i6, i7] [b0, b1, b2] := by
  unfold F52 F53
  obtain ⟨ρ, e1, e2, e3, e4⟩ := Smry.run_specT (Φ := tabF T27) (S := S52) (is := [i0, i1, i2, i3, i4, i5, i6, i7]) (bs := [b0, b1, b2]) rfl
  obtain ⟨σ, f1, f2, f3, f4⟩ := Smry.run_specT (Φ := tabF T30) (S := S53) (is := [i0, i1, i2, i3, i4, i5, i6, i7]) (bs := [b0, b1, b2]) rfl
  rw [e1, f1, obAll_eq, obAll_eq]
  clear e1 f1
  simp only [S52, S53, obs, Gd.d_cons, Gd.d_nil, eqns, Em.eqn, headsI, headsB, RI.d, RB.d, A.d, B.d, cm_eql, cm_neq, cm_lss, cm_leq, cm_gtr, cm_geq, List.map_cons, List.map_nil, and_true, Nat.zero_add, Nat.reduceAdd, ltn, upto, true_and, Nat.add_zero, List.getD_cons_zero, List.getD_cons_succ, add8, sub8, add16, sub16, mul16, wrap_u8, wrap_u16, and8_1, and8_7, and8_8, and8_15, and8_16, and8_31, and8_32, and8_64, and8_127, and8_128, and16_1, and16_255, and16_1792, shr8_1, shr8_3, shr8_4, shr8_6, shr16_1, shr16_6, shr16_8, shl16_8, shl16_14, rem_eq, quo8_eq, quo16_eq] at e2 e3 e4 f2 f3 f4 ⊢
  simp only [e2, e3, f2, f3] at e4 f4 ⊢
  rw [show tabF T27 69 = F69 by rfl, v69] at e4
  rw [show tabF T30 38 = F38 by rfl, v38] at f4
  simp only [List.getD_cons_zero] at e4 f4
  rw [show tabF T27 73 = F73 by rfl, l73 (h1 := h7)] at e4
  rw [show tabF T30 80 = F80 by rfl, l80 (h1 := h7)] at f4
  simp only [List.getD_cons_zero, List.getD_cons_succ] at e4 f4
  have ht := longs_byte (i7 / 8).toNat
  generalize longTab.getD (i7 / 8).toNat 0 = tb at *
  cases hm : okT i1 i2 i3 i4 i5
  · rw [hm] at e4 f4
    clear hm
    grind
  · rw [hm] at e4 f4
    simp only [okT, Bool.and_eq_true, decide_eq_true_eq] at hm
    have o1 := or16_hi (ρ.i 10) (ρ.i 11)
    have o2 := or16_lo (ρ.i 16) (ρ.i 13)
    grind
end Go.Proofs.YtoempcgniokpiaaDoor.Ta
