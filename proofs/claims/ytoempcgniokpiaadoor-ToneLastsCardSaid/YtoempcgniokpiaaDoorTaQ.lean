/-
  tone: the pulse: sweep and sound. WRITTEN BY PROGRAM (wip/gen/ta7.py). No condition.
-/
import Derived.Test.YtoempcgniokpiaaDoorTaN
set_option linter.unusedVariables false
set_option linter.unusedSimpArgs false
namespace Go.Proofs.YtoempcgniokpiaaDoor.Ta
open Go Go.Proofs.YtoempcgniokpiaaDoor.Sx

theorem q35 (i0 i1 i2 i3 i4 i5 i6 i7 i8 i9 i10 : Int) (b0 b1 b2 b3 b4 b5 b6 b7 b8 : Bool) (h0 : 0 ≤ i0) (h1 : 0 ≤ i1) (h2 : 0 ≤ i2) (h3 : 0 ≤ i3) (h4 : 0 ≤ i4) (h5 : 0 ≤ i5) (h6 : 0 ≤ i6) (h7 : 0 ≤ i7) (h8 : 0 ≤ i8) (h9 : 0 ≤ i9) (h10 : 0 ≤ i10) : F35 [i0, i1, i2, i3, i4, i5, i6, i7, i8, i9, i10] [b0, b1, b2, b3, b4, b5, b6, b7, b8] = F64 [i0, i1, i2, i3, i4, i5, i6, i7, i8, i9, i10] [b0, b1, b2, b3, b4, b5, b6, b7, b8] := by
  unfold F35 F64
  obtain ⟨ρ, e1, e2, e3, e4⟩ := Smry.run_specT (Φ := tabF T42) (S := S35) (is := [i0, i1, i2, i3, i4, i5, i6, i7, i8, i9, i10]) (bs := [b0, b1, b2, b3, b4, b5, b6, b7, b8]) rfl
  obtain ⟨σ, f1, f2, f3, f4⟩ := Smry.run_specT (Φ := tabF T45) (S := S64) (is := [i0, i1, i2, i3, i4, i5, i6, i7, i8, i9, i10]) (bs := [b0, b1, b2, b3, b4, b5, b6, b7, b8]) rfl
  rw [e1, f1, obAll_eq, obAll_eq]
  clear e1 f1
  simp only [S35, S64, obs, Gd.d_cons, Gd.d_nil, eqns, Em.eqn, headsI, headsB, RI.d, RB.d, A.d, B.d, cm_eql, cm_neq, cm_lss, cm_leq, cm_gtr, cm_geq, List.map_cons, List.map_nil, and_true, Nat.zero_add, Nat.reduceAdd, ltn, upto, true_and, Nat.add_zero, List.getD_cons_zero, List.getD_cons_succ, add8, sub8, add16, sub16, mul16, wrap_u8, wrap_u16, and8_1, and8_7, and8_8, and8_15, and8_16, and8_31, and8_32, and8_64, and8_127, and8_128, and16_1, and16_255, and16_1792, shr8_1, shr8_3, shr8_4, shr8_6, shr16_1, shr16_6, shr16_8, shl16_8, shl16_14] at e2 e3 e4 f2 f3 f4 ⊢
  simp only [e2, e3, f2, f3] at e4 f4 ⊢
  rw [show tabF T42 68 = F68 by rfl, v68, show tabF T42 42 = F42 by rfl, q42 (h0 := h3), show tabF T42 74 = F74 by rfl, show tabF T42 75 = F75 by rfl] at e4
  rw [show tabF T45 37 = F37 by rfl, v37, show tabF T45 43 = F43 by rfl, show tabF T45 83 = F83 by rfl, show tabF T45 84 = F84 by rfl] at f4
  simp only [List.getD_cons_zero] at e4 f4
  generalize F43 [i3] [b4, b5] = y at *
  cases hm : okP i0 i1 i2 i4 i5 i6 i7 i8 i9 i10
  · rw [hm] at e4 f4
    clear hm
    grind
  · rw [hm] at e4 f4
    simp only [okP, okE, Bool.and_eq_true, decide_eq_true_eq] at hm
    rw [mu74 (h6 := by omega) (h9 := by omega), tg75 (h6 := by omega) (h9 := by omega)] at e4
    rw [mu83 (h6 := by omega) (h9 := by omega), tg84 (h6 := by omega) (h9 := by omega)] at f4
    simp only [List.getD_cons_zero, List.getD_cons_succ] at e4 f4
    have hc := pow_div i6 i9.toNat h6
    have ht : ∀ c, 0 ≤ c → c ≤ i6 → 0 ≤ tgt i6 c b7 b0 ∧ tgt i6 c b7 b0 < 4096 := fun c _ _ => by unfold tgt; grind
    have ht := ht _ hc.1 hc.2
    generalize tgt i6 (i6 / ((2 ^ i9.toNat : Nat) : Int)) b7 b0 = t at *
    obtain ⟨hb9, hb10, ⟨hi11, hb11, hb12⟩, hb13, hb14, hb15, hb16, ⟨hb17, hb18⟩, hb19, hb20, ⟨hi12, hb21⟩, hi13, hb22, hb23, hi14, hb24, hi15, hb25, hb26, hb27, hi16, hi17, hb28, hi18⟩ := e4
    obtain ⟨gb9, gb10, ⟨gi11, gb11, gb12⟩, gb13, gb14, gb15, gb16, ⟨gb17, gb18⟩, gb19, gb20, ⟨gi12, gb21⟩, gi13, gi14, gb22, gi15, gb23, gi16, gb24, gb25, gb26, gi17, gi18, gb27, gi19⟩ := f4
    have A1 : (i9 != 0) = decide (0 < i9) := by rw [Bool.eq_iff_iff]; simp; omega
    have A2 : t % 65536 = t := by omega
    simp [hb9, hb10, hi11, hb11, hb12, hb13, hb14, hb15, hb16, hb17, hb18, hb19, hb20, hi12, hb21, hi13, hb22, hb23, hi14, hb24, hi15, hb25, hb26, hb27, hi16, hi17, hb28, hi18, gb9, gb10, gi11, gb11, gb12, gb13, gb14, gb15, gb16, gb17, gb18, gb19, gb20, gi12, gb21, gi13, gi14, gb22, gi15, gb23, gi16, gb24, gb25, gb26, gi17, gi18, gb27, gi19, A1, A2]
theorem o64 (i0 i1 i2 i3 i4 i5 i6 i7 i8 i9 i10 : Int) (b0 b1 b2 b3 b4 b5 b6 b7 b8 : Bool) (h6 : 0 ≤ i6) (h9 : 0 ≤ i9) : (F64 [i0, i1, i2, i3, i4, i5, i6, i7, i8, i9, i10] [b0, b1, b2, b3, b4, b5, b6, b7, b8]).2.getD 0 false = true := by
  unfold F64
  obtain ⟨ρ, e1, e2, e3, e4⟩ := Smry.run_specT (Φ := tabF T45) (S := S64) (is := [i0, i1, i2, i3, i4, i5, i6, i7, i8, i9, i10]) (bs := [b0, b1, b2, b3, b4, b5, b6, b7, b8]) rfl
  rw [e1, obAll_eq]
  clear e1
  simp only [S64, obs, Gd.d_cons, Gd.d_nil, eqns, Em.eqn, headsI, headsB, RI.d, RB.d, A.d, B.d, cm_eql, cm_neq, cm_lss, cm_leq, cm_gtr, cm_geq, List.map_cons, List.map_nil, and_true, Nat.zero_add, Nat.reduceAdd, ltn, upto, true_and, Nat.add_zero, List.getD_cons_zero, List.getD_cons_succ, add8, sub8, add16, sub16, mul16, wrap_u8, wrap_u16, and8_1, and8_7, and8_8, and8_15, and8_16, and8_31, and8_32, and8_64, and8_127, and8_128, and16_1, and16_255, and16_1792, shr8_1, shr8_3, shr8_4, shr8_6, shr16_1, shr16_6, shr16_8, shl16_8, shl16_14] at e2 e3 e4 ⊢
  simp only [e2, e3] at e4 ⊢
  rw [show tabF T45 37 = F37 by rfl, v37, show tabF T45 43 = F43 by rfl, show tabF T45 83 = F83 by rfl, show tabF T45 84 = F84 by rfl] at e4
  simp only [List.getD_cons_zero] at e4
  cases hm : okP i0 i1 i2 i4 i5 i6 i7 i8 i9 i10
  · rw [hm] at e4
    clear hm
    grind
  · rw [hm] at e4
    simp only [okP, okE, Bool.and_eq_true, decide_eq_true_eq] at hm
    rw [mu83 (h6 := by omega) (h9 := by omega), tg84 (h6 := by omega) (h9 := by omega)] at e4
    simp only [List.getD_cons_zero, List.getD_cons_succ] at e4
    grind
def duty (d s : Int) : Bool := if d = 0 then s == 1 else if d = 1 then s == 1 || s == 2 else if d = 2 then decide (1 ≤ s) && decide (s ≤ 4) else s != 1 && s != 2
theorem wave (d s : Int) (hd : 0 ≤ d ∧ d < 4) (hs : 0 ≤ s ∧ s < 8) : (arI .shr .u8 ([2, 6, 30, 249].getD d.toNat 0) s % 256 % 2 == 0) = !duty d s := by
  have h1 : d = 0 ∨ d = 1 ∨ d = 2 ∨ d = 3 := by omega
  have h2 : s = 0 ∨ s = 1 ∨ s = 2 ∨ s = 3 ∨ s = 4 ∨ s = 5 ∨ s = 6 ∨ s = 7 := by omega
  rcases h1 with rfl | rfl | rfl | rfl <;> rcases h2 with rfl | rfl | rfl | rfl | rfl | rfl | rfl | rfl <;> decide
theorem q36 (i0 i1 i2 i3 i4 i5 i6 i7 i8 i9 i10 : Int) (b0 b1 b2 b3 b4 b5 b6 b7 b8 : Bool) (h0 : 0 ≤ i0) (h1 : 0 ≤ i1) (h2 : 0 ≤ i2) (h3 : 0 ≤ i3) (h4 : 0 ≤ i4) (h5 : 0 ≤ i5) (h6 : 0 ≤ i6) (h7 : 0 ≤ i7) (h8 : 0 ≤ i8) (h9 : 0 ≤ i9) (h10 : 0 ≤ i10) : F36 [i0, i1, i2, i3, i4, i5, i6, i7, i8, i9, i10] [b0, b1, b2, b3, b4, b5, b6, b7, b8] = F65 [i0, i1, i2, i3, i4, i5, i6, i7, i8, i9, i10] [b0, b1, b2, b3, b4, b5, b6, b7, b8] := by
  unfold F36 F65
  obtain ⟨ρ, e1, e2, e3, e4⟩ := Smry.run_specT (Φ := tabF T24) (S := S36) (is := [i0, i1, i2, i3, i4, i5, i6, i7, i8, i9, i10]) (bs := [b0, b1, b2, b3, b4, b5, b6, b7, b8]) rfl
  obtain ⟨σ, f1, f2, f3, f4⟩ := Smry.run_specT (Φ := tabF T48) (S := S65) (is := [i0, i1, i2, i3, i4, i5, i6, i7, i8, i9, i10]) (bs := [b0, b1, b2, b3, b4, b5, b6, b7, b8]) rfl
  rw [e1, f1, obAll_eq, obAll_eq]
  clear e1 f1
  simp only [S36, S65, obs, Gd.d_cons, Gd.d_nil, eqns, Em.eqn, headsI, headsB, RI.d, RB.d, A.d, B.d, cm_eql, cm_neq, cm_lss, cm_leq, cm_gtr, cm_geq, List.map_cons, List.map_nil, and_true, Nat.zero_add, Nat.reduceAdd, ltn, upto, true_and, Nat.add_zero, List.getD_cons_zero, List.getD_cons_succ, add8, sub8, add16, sub16, mul16, wrap_u8, wrap_u16, and8_1, and8_7, and8_8, and8_15, and8_16, and8_31, and8_32, and8_64, and8_127, and8_128, and16_1, and16_255, and16_1792, shr8_1, shr8_3, shr8_4, shr8_6, shr16_1, shr16_6, shr16_8, shl16_8, shl16_14] at e2 e3 e4 f2 f3 f4 ⊢
  simp only [e2, e3, f2, f3] at e4 f4 ⊢
  rw [show tabF T24 68 = F68 by rfl, v68, show tabF T24 74 = F74 by rfl] at e4
  rw [show tabF T48 37 = F37 by rfl, v37, show tabF T48 83 = F83 by rfl] at f4
  simp only [List.getD_cons_zero] at e4 f4
  cases hm : okP i0 i1 i2 i4 i5 i6 i7 i8 i9 i10
  · rw [hm] at e4 f4
    clear hm
    grind
  · rw [hm] at e4 f4
    simp only [okP, okE, Bool.and_eq_true, decide_eq_true_eq] at hm
    rw [mu74 (h6 := by omega) (h9 := by omega)] at e4
    rw [mu83 (h6 := by omega) (h9 := by omega)] at f4
    simp only [List.getD_cons_zero, List.getD_cons_succ] at e4 f4
    generalize (decide (i6 < 8) || decide (2047 < tgt i6 (i6 / ((2 ^ i9.toNat : Nat) : Int)) b7 b0)) = t at *
    have hw := wave i4 i5 (by omega) (by omega)
    generalize ([2, 6, 30, 249] : List Int).getD i4.toNat 0 = u at *
    have h12 : (ρ.i 13 == 0) = !duty i4 i5 := by
      rw [← hw]; grind
    unfold duty at h12
    grind
theorem o65 (i0 i1 i2 i3 i4 i5 i6 i7 i8 i9 i10 : Int) (b0 b1 b2 b3 b4 b5 b6 b7 b8 : Bool) (h6 : 0 ≤ i6) (h9 : 0 ≤ i9) : (F65 [i0, i1, i2, i3, i4, i5, i6, i7, i8, i9, i10] [b0, b1, b2, b3, b4, b5, b6, b7, b8]).2.getD 0 false = true := by
  unfold F65
  obtain ⟨ρ, e1, e2, e3, e4⟩ := Smry.run_specT (Φ := tabF T48) (S := S65) (is := [i0, i1, i2, i3, i4, i5, i6, i7, i8, i9, i10]) (bs := [b0, b1, b2, b3, b4, b5, b6, b7, b8]) rfl
  rw [e1, obAll_eq]
  clear e1
  simp only [S65, obs, Gd.d_cons, Gd.d_nil, eqns, Em.eqn, headsI, headsB, RI.d, RB.d, A.d, B.d, cm_eql, cm_neq, cm_lss, cm_leq, cm_gtr, cm_geq, List.map_cons, List.map_nil, and_true, Nat.zero_add, Nat.reduceAdd, ltn, upto, true_and, Nat.add_zero, List.getD_cons_zero, List.getD_cons_succ, add8, sub8, add16, sub16, mul16, wrap_u8, wrap_u16, and8_1, and8_7, and8_8, and8_15, and8_16, and8_31, and8_32, and8_64, and8_127, and8_128, and16_1, and16_255, and16_1792, shr8_1, shr8_3, shr8_4, shr8_6, shr16_1, shr16_6, shr16_8, shl16_8, shl16_14] at e2 e3 e4 ⊢
  simp only [e2, e3] at e4 ⊢
  rw [show tabF T48 37 = F37 by rfl, v37, show tabF T48 83 = F83 by rfl] at e4
  simp only [List.getD_cons_zero] at e4
  cases hm : okP i0 i1 i2 i4 i5 i6 i7 i8 i9 i10
  · rw [hm] at e4
    clear hm
    grind
  · rw [hm] at e4
    simp only [okP, okE, Bool.and_eq_true, decide_eq_true_eq] at hm
    rw [mu83 (h6 := by omega) (h9 := by omega)] at e4
    simp only [List.getD_cons_zero, List.getD_cons_succ] at e4
    grind
end Go.Proofs.YtoempcgniokpiaaDoor.Ta
