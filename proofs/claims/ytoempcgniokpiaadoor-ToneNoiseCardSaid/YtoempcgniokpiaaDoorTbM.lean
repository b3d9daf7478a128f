/-
  tone: the noise: one step. WRITTEN BY PROGRAM (wip/gen/tb1.py). No condition.
-/
import Derived.Test.YtoempcgniokpiaaDoorTbL
set_option linter.unusedVariables false
set_option linter.unusedSimpArgs false
namespace Go.Proofs.YtoempcgniokpiaaDoor.Tb
open Go Go.Proofs.YtoempcgniokpiaaDoor.Sx

theorem q48 (i0 i1 i2 i3 i4 i5 i6 : Int) (b0 b1 b2 b3 b4 b5 : Bool) (h0 : 0 ≤ i0) (h1 : 0 ≤ i1) (h2 : 0 ≤ i2) (h3 : 0 ≤ i3) (h4 : 0 ≤ i4) (h5 : 0 ≤ i5) (h6 : 0 ≤ i6) : F48 [i0, i1, i2, i3, i4, i5, i6] [b0, b1, b2, b3, b4, b5] = F49 [i0, i1, i2, i3, i4, i5, i6] [b0, b1, b2, b3, b4, b5] := by
  unfold F48 F49
  obtain ⟨ρ, e1, e2, e3, e4⟩ := Smry.run_specT (Φ := tabF T11) (S := S48) (is := [i0, i1, i2, i3, i4, i5, i6]) (bs := [b0, b1, b2, b3, b4, b5]) rfl
  obtain ⟨σ, f1, f2, f3, f4⟩ := Smry.run_specT (Φ := tabF T13) (S := S49) (is := [i0, i1, i2, i3, i4, i5, i6]) (bs := [b0, b1, b2, b3, b4, b5]) rfl
  rw [e1, f1, obAll_eq, obAll_eq]
  clear e1 f1
  simp only [S48, S49, obs, Gd.d_cons, Gd.d_nil, eqns, Em.eqn, headsI, headsB, RI.d, RB.d, A.d, B.d, cm_eql, cm_neq, cm_lss, cm_leq, cm_gtr, cm_geq, List.map_cons, List.map_nil, and_true, Nat.zero_add, Nat.reduceAdd, ltn, upto, true_and, Nat.add_zero, List.getD_cons_zero, List.getD_cons_succ, add8, sub8, add16, sub16, mul16, wrap_u8, wrap_u16, and8_1, and8_7, and8_8, and8_15, and8_16, and8_31, and8_32, and8_64, and8_127, and8_128, and16_1, and16_255, and16_1792, shr8_1, shr8_3, shr8_4, shr8_6, shr16_1, shr16_6, shr16_8, shl16_8, shl16_14, rem_eq, quo16_eq, sub64] at e2 e3 e4 f2 f3 f4 ⊢
  simp only [e2, e3, f2, f3] at e4 f4 ⊢
  rw [show tabF T11 70 = F70 by rfl, v70 (h6 := h6)] at e4
  rw [show tabF T13 39 = F39 by rfl, v39] at f4
  simp only [List.getD_cons_zero] at e4 f4
  rw [show [4, 8, 16, 32, 64, 96, 128, 160, 202, 254, 380, 508, 762, 1016, 2034, 4068] = rateTab by rfl] at e4 f4
  have ht := rateTab_in i4.toNat
  generalize rateTab.getD i4.toNat 0 = tb at *
  have hw := wrap_sm (tb - 1) (by omega)
  cases hm : okN i0 i1 i2 i4 i5 i6
  · rw [hm] at e4 f4
    clear hm
    grind
  · rw [hm] at e4 f4
    simp only [okN, okE, Bool.and_eq_true, decide_eq_true_eq] at hm
    obtain ⟨hb6, hb7, hb8, hi7, hb9, hi8, hb10, hb11, hi9, hi10, hi11, hi12, hb12, hi13, hi14, hi15, hi16, hi17, hb13, hb14, hb15, hi18, hi19⟩ := e4
    obtain ⟨gb6, gb7, gb8, gi7, gb9, gb10, gi8, gi9, gi10, gi11, gi12, gi13, gi14, gi15, gi16, gb11, gi17, gi18, gi19, gb12, gi20, gi21, gb13, gi22, gi23⟩ := f4
    have h13 : ρ.i 13 = if b5 then i6 / 64 else i6 / 2 := by
      rw [hi13, hi11]; cases b5
      · exact shr16_1 i6
      · exact shr16_6 i6
    have h13' : 0 ≤ ρ.i 13 ∧ ρ.i 13 < 65536 := by rw [h13]; clear hi13; split <;> omega
    have h15 : ρ.i 15 = (i6 + ρ.i 13) % 2 := by rw [hi15, hi14]; exact xor1 _ _ (by omega)
    have h16 : ρ.i 16 = 16384 * ρ.i 15 := by rw [hi16]; omega
    have h17 : ρ.i 17 = ρ.i 12 + 16384 * ρ.i 15 := by rw [hi17, h16]; exact or14 _ _ (by rw [hi12]; omega)
    have s12 : σ.i 12 = i6 / 2 % 2 := by rw [gi12, gi11]; (repeat' split) <;> omega
    have s14 : σ.i 14 = i6 / 64 % 2 := by rw [gi14, gi13]; (repeat' split) <;> omega
    have s16 : σ.i 16 = i6 % 2 := by rw [gi16]; (repeat' split) <;> omega
    have s18 : σ.i 18 = i6 / 2 := by rw [gi18]; (repeat' split) <;> omega
    have s17 : σ.i 17 = if σ.i 16 = σ.i 15 then 0 else 16384 := by
      by_cases hx : σ.i 16 = σ.i 15 <;> simp [gi17, gb11, hx]
    have A1 : ρ.i 17 = σ.i 19 := by
      rw [h17, h15, h13, hi12, gi19, s18, s17, s16, gi15]
      cases b5
      · simp only [Bool.false_eq_true, if_false]
        rw [s12]
        clear e2 e3 f2 f3 h13 h13' h15 h16 h17 s12 s14 s16 s17 s18 hb6 hb7 hb8 hi7 hb9 hi8 hb10 hb11 hi9 hi10 hi11 hi12 hb12 hi13 hi14 hi15 hi16 hi17 hb13 hb14 hb15 hi18 hi19 gb6 gb7 gb8 gi7 gb9 gb10 gi8 gi9 gi10 gi11 gi12 gi13 gi14 gi15 gi16 gb11 gi17 gi18 gi19 gb12 gi20 gi21 gb13 gi22 gi23
        split <;> omega
      · simp only [if_true]
        rw [s14]
        clear e2 e3 f2 f3 h13 h13' h15 h16 h17 s12 s14 s16 s17 s18 hb6 hb7 hb8 hi7 hb9 hi8 hb10 hb11 hi9 hi10 hi11 hi12 hb12 hi13 hi14 hi15 hi16 hi17 hb13 hb14 hb15 hi18 hi19 gb6 gb7 gb8 gi7 gb9 gb10 gi8 gi9 gi10 gi11 gi12 gi13 gi14 gi15 gi16 gb11 gi17 gi18 gi19 gb12 gi20 gi21 gb13 gi22 gi23
        split <;> omega
    have A2 : ρ.i 10 = σ.i 10 := by rw [hi10, hi9, gi10, gi9, gi8, hw]
    clear s12 s14 s16 s17 s18 hi13 hi14 hi15 hi16 hi17 h13 h13' h15 h16 h17 gi11 gi12 gi13 gi14 gi15 gi16 gb11 gi17 gi18 gi19 hi9 hi10 gi8 gi9 gi10
    grind
theorem o49 (i0 i1 i2 i3 i4 i5 i6 : Int) (b0 b1 b2 b3 b4 b5 : Bool) (h4 : 0 ≤ i4) : (F49 [i0, i1, i2, i3, i4, i5, i6] [b0, b1, b2, b3, b4, b5]).2.getD 0 false = true := by
  unfold F49
  obtain ⟨ρ, e1, e2, e3, e4⟩ := Smry.run_specT (Φ := tabF T13) (S := S49) (is := [i0, i1, i2, i3, i4, i5, i6]) (bs := [b0, b1, b2, b3, b4, b5]) rfl
  rw [e1, obAll_eq]
  clear e1
  simp only [S49, obs, Gd.d_cons, Gd.d_nil, eqns, Em.eqn, headsI, headsB, RI.d, RB.d, A.d, B.d, cm_eql, cm_neq, cm_lss, cm_leq, cm_gtr, cm_geq, List.map_cons, List.map_nil, and_true, Nat.zero_add, Nat.reduceAdd, ltn, upto, true_and, Nat.add_zero, List.getD_cons_zero, List.getD_cons_succ, add8, sub8, add16, sub16, mul16, wrap_u8, wrap_u16, and8_1, and8_7, and8_8, and8_15, and8_16, and8_31, and8_32, and8_64, and8_127, and8_128, and16_1, and16_255, and16_1792, shr8_1, shr8_3, shr8_4, shr8_6, shr16_1, shr16_6, shr16_8, shl16_8, shl16_14] at e2 e3 e4 ⊢
  simp only [e2, e3] at e4 ⊢
  rw [show tabF T13 39 = F39 by rfl, v39] at e4
  simp only [List.getD_cons_zero] at e4
  unfold okN okE at e4
  grind
end Go.Proofs.YtoempcgniokpiaaDoor.Tb
