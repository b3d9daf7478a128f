/-
  tone: the clocks keep a channel that may be. WRITTEN BY PROGRAM (wip/gen/tc2.py). No condition.
-/
import Derived.Test.YtoempcgniokpiaaDoorTcV
set_option linter.unusedVariables false
set_option linter.unusedSimpArgs false
namespace Go.Proofs.YtoempcgniokpiaaDoor.Tc
open Go Go.Proofs.YtoempcgniokpiaaDoor.Sx

def Pok (is : List Int) (bs : List Bool) : Prop := ∃ (a0 a1 a2 a3 a4 a5 a6 a7 a8 a9 a10 : Int) (x0 x1 x2 x3 x4 x5 x6 x7 x8 : Bool), is = [a0, a1, a2, a3, a4, a5, a6, a7, a8, a9, a10] ∧ bs = [x0, x1, x2, x3, x4, x5, x6, x7, x8] ∧ (0 ≤ a0 ∧ 0 ≤ a1 ∧ 0 ≤ a2 ∧ 0 ≤ a3 ∧ 0 ≤ a4 ∧ 0 ≤ a5 ∧ 0 ≤ a6 ∧ 0 ≤ a7 ∧ 0 ≤ a8 ∧ 0 ≤ a9 ∧ 0 ≤ a10) ∧ okP a0 a1 a2 a4 a5 a6 a7 a8 a9 a10 = true
def Tok (is : List Int) (bs : List Bool) : Prop := ∃ (a0 a1 a2 a3 a4 a5 : Int) (x0 x1 x2 : Bool), is = [a0, a1, a2, a3, a4, a5] ∧ bs = [x0, x1, x2] ∧ (0 ≤ a0 ∧ 0 ≤ a1 ∧ 0 ≤ a2 ∧ 0 ≤ a3 ∧ 0 ≤ a4 ∧ 0 ≤ a5) ∧ okT a1 a2 a3 a4 a5 = true
def Nok (is : List Int) (bs : List Bool) : Prop := ∃ (a0 a1 a2 a3 a4 a5 a6 : Int) (x0 x1 x2 x3 x4 x5 : Bool), is = [a0, a1, a2, a3, a4, a5, a6] ∧ bs = [x0, x1, x2, x3, x4, x5] ∧ (0 ≤ a0 ∧ 0 ≤ a1 ∧ 0 ≤ a2 ∧ 0 ≤ a3 ∧ 0 ≤ a4 ∧ 0 ≤ a5 ∧ 0 ≤ a6) ∧ okN a0 a1 a2 a4 a5 a6 = true
theorem env40 (i0 i1 i2 : Int) (b0 b1 b2 : Bool) (h0 : 0 ≤ i0 ∧ i0 < 16) (h1 : 0 ≤ i1 ∧ i1 < 16) (h2 : 0 ≤ i2 ∧ i2 < 16) : ∃ a c d x y z, F40 [i0, i1, i2] [b0, b1, b2] = ([a, c, d], [x, y, z]) ∧ 0 ≤ a ∧ a < 16 ∧ 0 ≤ c ∧ c < 16 ∧ 0 ≤ d ∧ d < 16 := by
  unfold F40
  obtain ⟨ρ, e1, e2, e3, e4⟩ := Smry.run_spec (Φ := tabF T20) (S := S40) (is := [i0, i1, i2]) (bs := [b0, b1, b2]) rfl
  rw [e1]
  clear e1
  simp only [S40, eqns, Em.eqn, headsI, headsB, RI.d, RB.d, A.d, B.d, cm_eql, cm_neq, cm_lss, cm_leq, cm_gtr, cm_geq, List.map_cons, List.map_nil, and_true, Nat.zero_add, Nat.reduceAdd, ltn, upto, true_and, Nat.add_zero, List.getD_cons_zero, List.getD_cons_succ, add8, sub8, add16, sub16, mul16, wrap_u8, wrap_u16, and8_1, and8_7, and8_8, and8_15, and8_16, and8_31, and8_32, and8_64, and8_127, and8_128, and16_1, and16_255, and16_1792, shr8_1, shr8_3, shr8_4, shr8_6, shr16_1, shr16_6, shr16_8, shl16_8, shl16_14] at e2 e3 e4 ⊢
  simp only [e2, e3] at e4 ⊢
  refine ⟨_, _, _, _, _, _, rfl, ?_⟩
  grind
theorem k_60 (i0 i1 i2 i3 i4 i5 i6 i7 i8 i9 i10 : Int) (b0 b1 b2 b3 b4 b5 b6 b7 b8 : Bool) (h0 : 0 ≤ i0) (h1 : 0 ≤ i1) (h2 : 0 ≤ i2) (h3 : 0 ≤ i3) (h4 : 0 ≤ i4) (h5 : 0 ≤ i5) (h6 : 0 ≤ i6) (h7 : 0 ≤ i7) (h8 : 0 ≤ i8) (h9 : 0 ≤ i9) (h10 : 0 ≤ i10) (hok : okP i0 i1 i2 i4 i5 i6 i7 i8 i9 i10 = true) : ∃ is' bs', F60 [i0, i1, i2, i3, i4, i5, i6, i7, i8, i9, i10] [b0, b1, b2, b3, b4, b5, b6, b7, b8] = (is', bs') ∧ Pok is' bs' := by
  unfold F60
  obtain ⟨ρ, e1, e2, e3, e4⟩ := Smry.run_spec (Φ := tabF T17) (S := S60) (is := [i0, i1, i2, i3, i4, i5, i6, i7, i8, i9, i10]) (bs := [b0, b1, b2, b3, b4, b5, b6, b7, b8]) rfl
  rw [e1]
  clear e1
  simp only [S60, obs, Gd.d_cons, Gd.d_nil, eqns, Em.eqn, headsI, headsB, RI.d, RB.d, A.d, B.d, cm_eql, cm_neq, cm_lss, cm_leq, cm_gtr, cm_geq, List.map_cons, List.map_nil, and_true, Nat.zero_add, Nat.reduceAdd, ltn, upto, true_and, Nat.add_zero, List.getD_cons_zero, List.getD_cons_succ, add8, sub8, add16, sub16, mul16, wrap_u8, wrap_u16, and8_1, and8_7, and8_8, and8_15, and8_16, and8_31, and8_32, and8_64, and8_127, and8_128, and16_1, and16_255, and16_1792, shr8_1, shr8_3, shr8_4, shr8_6, shr16_1, shr16_6, shr16_8, shl16_8, shl16_14, rem_eq] at e2 e3 e4 ⊢
  simp only [e2, e3] at e4 ⊢
  rw [show tabF T17 68 = F68 by rfl, v68, hok] at e4
  simp only [List.getD_cons_zero] at e4
  simp only [okP, okE, Bool.and_eq_true, decide_eq_true_eq] at hok
  refine ⟨_, _, Prod.ext rfl (by rfl), _, _, _, _, _, _, _, _, _, _, _, _, _, _, _, _, _, _, _, _, rfl, rfl, ?_, ?_⟩
  · grind
  · simp only [okP, okE, Bool.and_eq_true, decide_eq_true_eq]
    grind
theorem k_63 (i0 i1 i2 i3 i4 i5 i6 i7 i8 i9 i10 : Int) (b0 b1 b2 b3 b4 b5 b6 b7 b8 : Bool) (h0 : 0 ≤ i0) (h1 : 0 ≤ i1) (h2 : 0 ≤ i2) (h3 : 0 ≤ i3) (h4 : 0 ≤ i4) (h5 : 0 ≤ i5) (h6 : 0 ≤ i6) (h7 : 0 ≤ i7) (h8 : 0 ≤ i8) (h9 : 0 ≤ i9) (h10 : 0 ≤ i10) (hok : okP i0 i1 i2 i4 i5 i6 i7 i8 i9 i10 = true) : ∃ is' bs', F63 [i0, i1, i2, i3, i4, i5, i6, i7, i8, i9, i10] [b0, b1, b2, b3, b4, b5, b6, b7, b8] = (is', bs') ∧ Pok is' bs' := by
  unfold F63
  obtain ⟨ρ, e1, e2, e3, e4⟩ := Smry.run_spec (Φ := tabF T21) (S := S63) (is := [i0, i1, i2, i3, i4, i5, i6, i7, i8, i9, i10]) (bs := [b0, b1, b2, b3, b4, b5, b6, b7, b8]) rfl
  rw [e1]
  clear e1
  simp only [S63, obs, Gd.d_cons, Gd.d_nil, eqns, Em.eqn, headsI, headsB, RI.d, RB.d, A.d, B.d, cm_eql, cm_neq, cm_lss, cm_leq, cm_gtr, cm_geq, List.map_cons, List.map_nil, and_true, Nat.zero_add, Nat.reduceAdd, ltn, upto, true_and, Nat.add_zero, List.getD_cons_zero, List.getD_cons_succ, add8, sub8, add16, sub16, mul16, wrap_u8, wrap_u16, and8_1, and8_7, and8_8, and8_15, and8_16, and8_31, and8_32, and8_64, and8_127, and8_128, and16_1, and16_255, and16_1792, shr8_1, shr8_3, shr8_4, shr8_6, shr16_1, shr16_6, shr16_8, shl16_8, shl16_14, rem_eq] at e2 e3 e4 ⊢
  simp only [e2, e3] at e4 ⊢
  rw [show tabF T21 68 = F68 by rfl, v68, hok] at e4
  simp only [List.getD_cons_zero] at e4
  simp only [okP, okE, Bool.and_eq_true, decide_eq_true_eq] at hok
  obtain ⟨a, c, d, x, y, z, hE, q⟩ := env40 i0 i1 i2 b1 b2 b3 (by omega) (by omega) (by omega)
  rw [show tabF T21 40 = F40 by rfl, hE] at e4
  simp only [List.getD_cons_zero, List.getD_cons_succ] at e4
  refine ⟨_, _, Prod.ext rfl (by rfl), _, _, _, _, _, _, _, _, _, _, _, _, _, _, _, _, _, _, _, _, rfl, rfl, ?_, ?_⟩
  · grind
  · simp only [okP, okE, Bool.and_eq_true, decide_eq_true_eq]
    grind
theorem k_54 (i0 i1 i2 i3 i4 i5 : Int) (b0 b1 b2 : Bool) (h0 : 0 ≤ i0) (h1 : 0 ≤ i1) (h2 : 0 ≤ i2) (h3 : 0 ≤ i3) (h4 : 0 ≤ i4) (h5 : 0 ≤ i5) (hok : okT i1 i2 i3 i4 i5 = true) : ∃ is' bs', F54 [i0, i1, i2, i3, i4, i5] [b0, b1, b2] = (is', bs') ∧ Tok is' bs' := by
  unfold F54
  obtain ⟨ρ, e1, e2, e3, e4⟩ := Smry.run_spec (Φ := tabF T18) (S := S54) (is := [i0, i1, i2, i3, i4, i5]) (bs := [b0, b1, b2]) rfl
  rw [e1]
  clear e1
  simp only [S54, obs, Gd.d_cons, Gd.d_nil, eqns, Em.eqn, headsI, headsB, RI.d, RB.d, A.d, B.d, cm_eql, cm_neq, cm_lss, cm_leq, cm_gtr, cm_geq, List.map_cons, List.map_nil, and_true, Nat.zero_add, Nat.reduceAdd, ltn, upto, true_and, Nat.add_zero, List.getD_cons_zero, List.getD_cons_succ, add8, sub8, add16, sub16, mul16, wrap_u8, wrap_u16, and8_1, and8_7, and8_8, and8_15, and8_16, and8_31, and8_32, and8_64, and8_127, and8_128, and16_1, and16_255, and16_1792, shr8_1, shr8_3, shr8_4, shr8_6, shr16_1, shr16_6, shr16_8, shl16_8, shl16_14, rem_eq] at e2 e3 e4 ⊢
  simp only [e2, e3] at e4 ⊢
  rw [show tabF T18 69 = F69 by rfl, v69, hok] at e4
  simp only [List.getD_cons_zero] at e4
  simp only [okT, Bool.and_eq_true, decide_eq_true_eq] at hok
  refine ⟨_, _, Prod.ext rfl (by rfl), _, _, _, _, _, _, _, _, _, rfl, rfl, ?_, ?_⟩
  · grind
  · simp only [okT, Bool.and_eq_true, decide_eq_true_eq]
    grind
theorem k_56 (i0 i1 i2 i3 i4 i5 : Int) (b0 b1 b2 : Bool) (h0 : 0 ≤ i0) (h1 : 0 ≤ i1) (h2 : 0 ≤ i2) (h3 : 0 ≤ i3) (h4 : 0 ≤ i4) (h5 : 0 ≤ i5) (hok : okT i1 i2 i3 i4 i5 = true) : ∃ is' bs', F56 [i0, i1, i2, i3, i4, i5] [b0, b1, b2] = (is', bs') ∧ Tok is' bs' := by
  unfold F56
  obtain ⟨ρ, e1, e2, e3, e4⟩ := Smry.run_spec (Φ := tabF T22) (S := S56) (is := [i0, i1, i2, i3, i4, i5]) (bs := [b0, b1, b2]) rfl
  rw [e1]
  clear e1
  simp only [S56, obs, Gd.d_cons, Gd.d_nil, eqns, Em.eqn, headsI, headsB, RI.d, RB.d, A.d, B.d, cm_eql, cm_neq, cm_lss, cm_leq, cm_gtr, cm_geq, List.map_cons, List.map_nil, and_true, Nat.zero_add, Nat.reduceAdd, ltn, upto, true_and, Nat.add_zero, List.getD_cons_zero, List.getD_cons_succ, add8, sub8, add16, sub16, mul16, wrap_u8, wrap_u16, and8_1, and8_7, and8_8, and8_15, and8_16, and8_31, and8_32, and8_64, and8_127, and8_128, and16_1, and16_255, and16_1792, shr8_1, shr8_3, shr8_4, shr8_6, shr16_1, shr16_6, shr16_8, shl16_8, shl16_14, rem_eq] at e2 e3 e4 ⊢
  simp only [e2, e3] at e4 ⊢
  rw [show tabF T22 69 = F69 by rfl, v69, hok] at e4
  simp only [List.getD_cons_zero] at e4
  simp only [okT, Bool.and_eq_true, decide_eq_true_eq] at hok
  refine ⟨_, _, Prod.ext rfl (by rfl), _, _, _, _, _, _, _, _, _, rfl, rfl, ?_, ?_⟩
  · grind
  · simp only [okT, Bool.and_eq_true, decide_eq_true_eq]
    grind
end Go.Proofs.YtoempcgniokpiaaDoor.Tc
