/-
  tone: the clocks keep a channel that may be. WRITTEN BY PROGRAM (wip/gen/tc2.py). No condition.
-/
import Derived.Test.YtdpogmikhfgcmaaDoorApV
set_option linter.unusedVariables false
set_option linter.unusedSimpArgs false
namespace Go.Proofs.YtdpogmikhfgcmaaDoor.Ap
open Go Go.Proofs.YtdpogmikhfgcmaaDoor.Sx

def Pok (is : List Int) (bs : List Bool) : Prop := ∃ (a0 a1 a2 a3 a4 a5 a6 a7 a8 a9 a10 : Int) (x0 x1 x2 x3 x4 x5 x6 x7 x8 : Bool), is = [a0, a1, a2, a3, a4, a5, a6, a7, a8, a9, a10] ∧ bs = [x0, x1, x2, x3, x4, x5, x6, x7, x8] ∧ (0 ≤ a0 ∧ 0 ≤ a1 ∧ 0 ≤ a2 ∧ 0 ≤ a3 ∧ 0 ≤ a4 ∧ 0 ≤ a5 ∧ 0 ≤ a6 ∧ 0 ≤ a7 ∧ 0 ≤ a8 ∧ 0 ≤ a9 ∧ 0 ≤ a10) ∧ okP a0 a1 a2 a4 a5 a6 a7 a8 a9 a10 = true
def Tok (is : List Int) (bs : List Bool) : Prop := ∃ (a0 a1 a2 a3 a4 a5 : Int) (x0 x1 x2 : Bool), is = [a0, a1, a2, a3, a4, a5] ∧ bs = [x0, x1, x2] ∧ (0 ≤ a0 ∧ 0 ≤ a1 ∧ 0 ≤ a2 ∧ 0 ≤ a3 ∧ 0 ≤ a4 ∧ 0 ≤ a5) ∧ okT a1 a2 a3 a4 a5 = true
def Nok (is : List Int) (bs : List Bool) : Prop := ∃ (a0 a1 a2 a3 a4 a5 a6 : Int) (x0 x1 x2 x3 x4 x5 : Bool), is = [a0, a1, a2, a3, a4, a5, a6] ∧ bs = [x0, x1, x2, x3, x4, x5] ∧ (0 ≤ a0 ∧ 0 ≤ a1 ∧ 0 ≤ a2 ∧ 0 ≤ a3 ∧ 0 ≤ a4 ∧ 0 ≤ a5 ∧ 0 ≤ a6) ∧ okN a0 a1 a2 a4 a5 a6 = true
theorem env50 (i0 i1 i2 : Int) (b0 b1 b2 : Bool) (h0 : 0 ≤ i0 ∧ i0 < 16) (h1 : 0 ≤ i1 ∧ i1 < 16) (h2 : 0 ≤ i2 ∧ i2 < 16) : ∃ a c d x y z, F50 [i0, i1, i2] [b0, b1, b2] = ([a, c, d], [x, y, z]) ∧ 0 ≤ a ∧ a < 16 ∧ 0 ≤ c ∧ c < 16 ∧ 0 ≤ d ∧ d < 16 := by
  unfold F50
  obtain ⟨ρ, e1, e2, e3, e4⟩ := Smry.run_spec (Φ := tabF T24) (S := S50) (is := [i0, i1, i2]) (bs := [b0, b1, b2]) rfl
  rw [e1]
  clear e1
  simp only [S50, eqns, Em.eqn, headsI, headsB, RI.d, RB.d, A.d, B.d, cm_eql, cm_neq, cm_lss, cm_leq, cm_gtr, cm_geq, List.map_cons, List.map_nil, and_true, Nat.zero_add, Nat.reduceAdd, ltn, upto, true_and, Nat.add_zero, List.getD_cons_zero, List.getD_cons_succ, add8, sub8, add16, sub16, mul16, wrap_u8, wrap_u16, and8_1, and8_7, and8_8, and8_15, and8_16, and8_31, and8_32, and8_64, and8_127, and8_128, and16_1, and16_255, and16_1792, shr8_1, shr8_3, shr8_4, shr8_6, shr16_1, shr16_6, shr16_8, shl16_8, shl16_14] at e2 e3 e4 ⊢
  simp only [e2, e3] at e4 ⊢
  refine ⟨_, _, _, _, _, _, rfl, ?_⟩
  grind
theorem k_27 (i0 i1 i2 i3 i4 i5 i6 i7 i8 i9 i10 : Int) (b0 b1 b2 b3 b4 b5 b6 b7 b8 : Bool) (h0 : 0 ≤ i0) (h1 : 0 ≤ i1) (h2 : 0 ≤ i2) (h3 : 0 ≤ i3) (h4 : 0 ≤ i4) (h5 : 0 ≤ i5) (h6 : 0 ≤ i6) (h7 : 0 ≤ i7) (h8 : 0 ≤ i8) (h9 : 0 ≤ i9) (h10 : 0 ≤ i10) (hok : okP i0 i1 i2 i4 i5 i6 i7 i8 i9 i10 = true) : ∃ is' bs', F27 [i0, i1, i2, i3, i4, i5, i6, i7, i8, i9, i10] [b0, b1, b2, b3, b4, b5, b6, b7, b8] = (is', bs') ∧ Pok is' bs' := by
  unfold F27
  obtain ⟨ρ, e1, e2, e3, e4⟩ := Smry.run_spec (Φ := tabF T22) (S := S27) (is := [i0, i1, i2, i3, i4, i5, i6, i7, i8, i9, i10]) (bs := [b0, b1, b2, b3, b4, b5, b6, b7, b8]) rfl
  rw [e1]
  clear e1
  simp only [S27, obs, Gd.d_cons, Gd.d_nil, eqns, Em.eqn, headsI, headsB, RI.d, RB.d, A.d, B.d, cm_eql, cm_neq, cm_lss, cm_leq, cm_gtr, cm_geq, List.map_cons, List.map_nil, and_true, Nat.zero_add, Nat.reduceAdd, ltn, upto, true_and, Nat.add_zero, List.getD_cons_zero, List.getD_cons_succ, add8, sub8, add16, sub16, mul16, wrap_u8, wrap_u16, and8_1, and8_7, and8_8, and8_15, and8_16, and8_31, and8_32, and8_64, and8_127, and8_128, and16_1, and16_255, and16_1792, shr8_1, shr8_3, shr8_4, shr8_6, shr16_1, shr16_6, shr16_8, shl16_8, shl16_14, rem_eq] at e2 e3 e4 ⊢
  simp only [e2, e3] at e4 ⊢
  rw [show tabF T22 37 = F37 by rfl, v37, hok] at e4
  simp only [List.getD_cons_zero] at e4
  simp only [okP, okE, Bool.and_eq_true, decide_eq_true_eq] at hok
  refine ⟨_, _, Prod.ext rfl (by rfl), _, _, _, _, _, _, _, _, _, _, _, _, _, _, _, _, _, _, _, _, rfl, rfl, ?_, ?_⟩
  · grind
  · simp only [okP, okE, Bool.and_eq_true, decide_eq_true_eq]
    grind
theorem k_48 (i0 i1 i2 i3 i4 i5 i6 i7 i8 i9 i10 : Int) (b0 b1 b2 b3 b4 b5 b6 b7 b8 : Bool) (h0 : 0 ≤ i0) (h1 : 0 ≤ i1) (h2 : 0 ≤ i2) (h3 : 0 ≤ i3) (h4 : 0 ≤ i4) (h5 : 0 ≤ i5) (h6 : 0 ≤ i6) (h7 : 0 ≤ i7) (h8 : 0 ≤ i8) (h9 : 0 ≤ i9) (h10 : 0 ≤ i10) (hok : okP i0 i1 i2 i4 i5 i6 i7 i8 i9 i10 = true) : ∃ is' bs', F48 [i0, i1, i2, i3, i4, i5, i6, i7, i8, i9, i10] [b0, b1, b2, b3, b4, b5, b6, b7, b8] = (is', bs') ∧ Pok is' bs' := by
  unfold F48
  obtain ⟨ρ, e1, e2, e3, e4⟩ := Smry.run_spec (Φ := tabF T25) (S := S48) (is := [i0, i1, i2, i3, i4, i5, i6, i7, i8, i9, i10]) (bs := [b0, b1, b2, b3, b4, b5, b6, b7, b8]) rfl
  rw [e1]
  clear e1
  simp only [S48, obs, Gd.d_cons, Gd.d_nil, eqns, Em.eqn, headsI, headsB, RI.d, RB.d, A.d, B.d, cm_eql, cm_neq, cm_lss, cm_leq, cm_gtr, cm_geq, List.map_cons, List.map_nil, and_true, Nat.zero_add, Nat.reduceAdd, ltn, upto, true_and, Nat.add_zero, List.getD_cons_zero, List.getD_cons_succ, add8, sub8, add16, sub16, mul16, wrap_u8, wrap_u16, and8_1, and8_7, and8_8, and8_15, and8_16, and8_31, and8_32, and8_64, and8_127, and8_128, and16_1, and16_255, and16_1792, shr8_1, shr8_3, shr8_4, shr8_6, shr16_1, shr16_6, shr16_8, shl16_8, shl16_14, rem_eq] at e2 e3 e4 ⊢
  simp only [e2, e3] at e4 ⊢
  rw [show tabF T25 37 = F37 by rfl, v37, hok] at e4
  simp only [List.getD_cons_zero] at e4
  simp only [okP, okE, Bool.and_eq_true, decide_eq_true_eq] at hok
  obtain ⟨a, c, d, x, y, z, hE, q⟩ := env50 i0 i1 i2 b1 b2 b3 (by omega) (by omega) (by omega)
  rw [show tabF T25 50 = F50 by rfl, hE] at e4
  simp only [List.getD_cons_zero, List.getD_cons_succ] at e4
  refine ⟨_, _, Prod.ext rfl (by rfl), _, _, _, _, _, _, _, _, _, _, _, _, _, _, _, _, _, _, _, _, rfl, rfl, ?_, ?_⟩
  · grind
  · simp only [okP, okE, Bool.and_eq_true, decide_eq_true_eq]
    grind
theorem k_24 (i0 i1 i2 i3 i4 i5 : Int) (b0 b1 b2 : Bool) (h0 : 0 ≤ i0) (h1 : 0 ≤ i1) (h2 : 0 ≤ i2) (h3 : 0 ≤ i3) (h4 : 0 ≤ i4) (h5 : 0 ≤ i5) (hok : okT i1 i2 i3 i4 i5 = true) : ∃ is' bs', F24 [i0, i1, i2, i3, i4, i5] [b0, b1, b2] = (is', bs') ∧ Tok is' bs' := by
  unfold F24
  obtain ⟨ρ, e1, e2, e3, e4⟩ := Smry.run_spec (Φ := tabF T18) (S := S24) (is := [i0, i1, i2, i3, i4, i5]) (bs := [b0, b1, b2]) rfl
  rw [e1]
  clear e1
  simp only [S24, obs, Gd.d_cons, Gd.d_nil, eqns, Em.eqn, headsI, headsB, RI.d, RB.d, A.d, B.d, cm_eql, cm_neq, cm_lss, cm_leq, cm_gtr, cm_geq, List.map_cons, List.map_nil, and_true, Nat.zero_add, Nat.reduceAdd, ltn, upto, true_and, Nat.add_zero, List.getD_cons_zero, List.getD_cons_succ, add8, sub8, add16, sub16, mul16, wrap_u8, wrap_u16, and8_1, and8_7, and8_8, and8_15, and8_16, and8_31, and8_32, and8_64, and8_127, and8_128, and16_1, and16_255, and16_1792, shr8_1, shr8_3, shr8_4, shr8_6, shr16_1, shr16_6, shr16_8, shl16_8, shl16_14, rem_eq] at e2 e3 e4 ⊢
  simp only [e2, e3] at e4 ⊢
  rw [show tabF T18 41 = F41 by rfl, v41, hok] at e4
  simp only [List.getD_cons_zero] at e4
  simp only [okT, Bool.and_eq_true, decide_eq_true_eq] at hok
  refine ⟨_, _, Prod.ext rfl (by rfl), _, _, _, _, _, _, _, _, _, rfl, rfl, ?_, ?_⟩
  · grind
  · simp only [okT, Bool.and_eq_true, decide_eq_true_eq]
    grind
theorem k_49 (i0 i1 i2 i3 i4 i5 : Int) (b0 b1 b2 : Bool) (h0 : 0 ≤ i0) (h1 : 0 ≤ i1) (h2 : 0 ≤ i2) (h3 : 0 ≤ i3) (h4 : 0 ≤ i4) (h5 : 0 ≤ i5) (hok : okT i1 i2 i3 i4 i5 = true) : ∃ is' bs', F49 [i0, i1, i2, i3, i4, i5] [b0, b1, b2] = (is', bs') ∧ Tok is' bs' := by
  unfold F49
  obtain ⟨ρ, e1, e2, e3, e4⟩ := Smry.run_spec (Φ := tabF T26) (S := S49) (is := [i0, i1, i2, i3, i4, i5]) (bs := [b0, b1, b2]) rfl
  rw [e1]
  clear e1
  simp only [S49, obs, Gd.d_cons, Gd.d_nil, eqns, Em.eqn, headsI, headsB, RI.d, RB.d, A.d, B.d, cm_eql, cm_neq, cm_lss, cm_leq, cm_gtr, cm_geq, List.map_cons, List.map_nil, and_true, Nat.zero_add, Nat.reduceAdd, ltn, upto, true_and, Nat.add_zero, List.getD_cons_zero, List.getD_cons_succ, add8, sub8, add16, sub16, mul16, wrap_u8, wrap_u16, and8_1, and8_7, and8_8, and8_15, and8_16, and8_31, and8_32, and8_64, and8_127, and8_128, and16_1, and16_255, and16_1792, shr8_1, shr8_3, shr8_4, shr8_6, shr16_1, shr16_6, shr16_8, shl16_8, shl16_14, rem_eq] at e2 e3 e4 ⊢
  simp only [e2, e3] at e4 ⊢
  rw [show tabF T26 41 = F41 by rfl, v41, hok] at e4
  simp only [List.getD_cons_zero] at e4
  simp only [okT, Bool.and_eq_true, decide_eq_true_eq] at hok
  refine ⟨_, _, Prod.ext rfl (by rfl), _, _, _, _, _, _, _, _, _, rfl, rfl, ?_, ?_⟩
  · grind
  · simp only [okT, Bool.and_eq_true, decide_eq_true_eq]
    grind
end Go.Proofs.YtdpogmikhfgcmaaDoor.Ap
