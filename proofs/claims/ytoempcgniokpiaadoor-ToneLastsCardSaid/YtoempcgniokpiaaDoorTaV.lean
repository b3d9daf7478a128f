/-
  tone: which channels may be, as the program and the document say. WRITTEN BY PROGRAM (wip/gen/ta1.py). No condition.
-/
import Derived.Test.YtoempcgniokpiaaDoorTaS
import Derived.Test.YtoempcgniokpiaaDoorSxAr
set_option linter.unusedVariables false
set_option linter.unusedSimpArgs false
namespace Go.Proofs.YtoempcgniokpiaaDoor.Ta
open Go Go.Proofs.YtoempcgniokpiaaDoor.Sx

def okE (a b c : Int) : Bool := decide (a < 16) && decide (b < 16) && decide (c < 16)
def okP (i0 i1 i2 i4 i5 i6 i7 i8 i9 i10 : Int) : Bool := okE i0 i1 i2 && decide (i4 < 4) && decide (i5 < 8) && decide (i8 < 8) && decide (i9 < 8) && decide (i10 < 8) && decide (i6 < 2048) && decide (i7 < 2048)
def okT (i1 i2 i3 i4 i5 : Int) : Bool := decide (i1 < 128) && decide (i2 < 128) && decide (i3 < 32) && decide (i4 < 2048) && decide (i5 < 2048)
def okN (i0 i1 i2 i4 i5 i6 : Int) : Bool := okE i0 i1 i2 && decide (i4 < 16) && decide (i5 < 4096) && decide (1 ≤ i6) && decide (i6 ≤ 32767)
theorem v68 (i0 i1 i2 i3 i4 i5 i6 i7 i8 i9 i10 : Int) (b0 b1 b2 b3 b4 b5 b6 b7 b8 : Bool) : F68 [i0, i1, i2, i3, i4, i5, i6, i7, i8, i9, i10] [b0, b1, b2, b3, b4, b5, b6, b7, b8] = ([], [okP i0 i1 i2 i4 i5 i6 i7 i8 i9 i10]) := by
  unfold F68
  obtain ⟨ρ, e1, e2, e3, e4⟩ := Smry.run_spec (Φ := tabF T1) (S := S68) (is := [i0, i1, i2, i3, i4, i5, i6, i7, i8, i9, i10]) (bs := [b0, b1, b2, b3, b4, b5, b6, b7, b8]) rfl
  rw [e1]
  clear e1
  simp only [S68, eqns, Em.eqn, headsI, headsB, RI.d, RB.d, A.d, B.d, cm_eql, cm_neq, cm_lss, cm_leq, cm_gtr, cm_geq, List.map_cons, List.map_nil, and_true, Nat.zero_add, Nat.reduceAdd, ltn, upto, true_and, Nat.add_zero, List.getD_cons_zero, List.getD_cons_succ, add8, sub8, add16, sub16, mul16, wrap_u8, wrap_u16, and8_1, and8_7, and8_8, and8_15, and8_16, and8_31, and8_32, and8_64, and8_127, and8_128, and16_1, and16_255, and16_1792, shr8_1, shr8_3, shr8_4, shr8_6, shr16_1, shr16_6, shr16_8, shl16_8, shl16_14] at e2 e3 e4 ⊢
  simp only [e2, e3] at e4 ⊢
  unfold okP okE
  grind
theorem v37 (i0 i1 i2 i3 i4 i5 i6 i7 i8 i9 i10 : Int) (b0 b1 b2 b3 b4 b5 b6 b7 b8 : Bool) : F37 [i0, i1, i2, i3, i4, i5, i6, i7, i8, i9, i10] [b0, b1, b2, b3, b4, b5, b6, b7, b8] = ([], [okP i0 i1 i2 i4 i5 i6 i7 i8 i9 i10]) := by
  unfold F37
  obtain ⟨ρ, e1, e2, e3, e4⟩ := Smry.run_spec (Φ := tabF T6) (S := S37) (is := [i0, i1, i2, i3, i4, i5, i6, i7, i8, i9, i10]) (bs := [b0, b1, b2, b3, b4, b5, b6, b7, b8]) rfl
  rw [e1]
  clear e1
  simp only [S37, eqns, Em.eqn, headsI, headsB, RI.d, RB.d, A.d, B.d, cm_eql, cm_neq, cm_lss, cm_leq, cm_gtr, cm_geq, List.map_cons, List.map_nil, and_true, Nat.zero_add, Nat.reduceAdd, ltn, upto, true_and, Nat.add_zero, List.getD_cons_zero, List.getD_cons_succ, add8, sub8, add16, sub16, mul16, wrap_u8, wrap_u16, and8_1, and8_7, and8_8, and8_15, and8_16, and8_31, and8_32, and8_64, and8_127, and8_128, and16_1, and16_255, and16_1792, shr8_1, shr8_3, shr8_4, shr8_6, shr16_1, shr16_6, shr16_8, shl16_8, shl16_14] at e2 e3 e4 ⊢
  simp only [e2, e3] at e4 ⊢
  unfold okP okE
  grind
theorem v69 (i0 i1 i2 i3 i4 i5 : Int) (b0 b1 b2 : Bool) : F69 [i0, i1, i2, i3, i4, i5] [b0, b1, b2] = ([], [okT i1 i2 i3 i4 i5]) := by
  unfold F69
  obtain ⟨ρ, e1, e2, e3, e4⟩ := Smry.run_spec (Φ := tabF T2) (S := S69) (is := [i0, i1, i2, i3, i4, i5]) (bs := [b0, b1, b2]) rfl
  rw [e1]
  clear e1
  simp only [S69, eqns, Em.eqn, headsI, headsB, RI.d, RB.d, A.d, B.d, cm_eql, cm_neq, cm_lss, cm_leq, cm_gtr, cm_geq, List.map_cons, List.map_nil, and_true, Nat.zero_add, Nat.reduceAdd, ltn, upto, true_and, Nat.add_zero, List.getD_cons_zero, List.getD_cons_succ, add8, sub8, add16, sub16, mul16, wrap_u8, wrap_u16, and8_1, and8_7, and8_8, and8_15, and8_16, and8_31, and8_32, and8_64, and8_127, and8_128, and16_1, and16_255, and16_1792, shr8_1, shr8_3, shr8_4, shr8_6, shr16_1, shr16_6, shr16_8, shl16_8, shl16_14] at e2 e3 e4 ⊢
  simp only [e2, e3] at e4 ⊢
  unfold okT
  grind
theorem v38 (i0 i1 i2 i3 i4 i5 : Int) (b0 b1 b2 : Bool) : F38 [i0, i1, i2, i3, i4, i5] [b0, b1, b2] = ([], [okT i1 i2 i3 i4 i5]) := by
  unfold F38
  obtain ⟨ρ, e1, e2, e3, e4⟩ := Smry.run_spec (Φ := tabF T7) (S := S38) (is := [i0, i1, i2, i3, i4, i5]) (bs := [b0, b1, b2]) rfl
  rw [e1]
  clear e1
  simp only [S38, eqns, Em.eqn, headsI, headsB, RI.d, RB.d, A.d, B.d, cm_eql, cm_neq, cm_lss, cm_leq, cm_gtr, cm_geq, List.map_cons, List.map_nil, and_true, Nat.zero_add, Nat.reduceAdd, ltn, upto, true_and, Nat.add_zero, List.getD_cons_zero, List.getD_cons_succ, add8, sub8, add16, sub16, mul16, wrap_u8, wrap_u16, and8_1, and8_7, and8_8, and8_15, and8_16, and8_31, and8_32, and8_64, and8_127, and8_128, and16_1, and16_255, and16_1792, shr8_1, shr8_3, shr8_4, shr8_6, shr16_1, shr16_6, shr16_8, shl16_8, shl16_14] at e2 e3 e4 ⊢
  simp only [e2, e3] at e4 ⊢
  unfold okT
  grind
theorem v70 (i0 i1 i2 i3 i4 i5 i6 : Int) (b0 b1 b2 b3 b4 b5 : Bool) (h6 : 0 ≤ i6) : F70 [i0, i1, i2, i3, i4, i5, i6] [b0, b1, b2, b3, b4, b5] = ([], [okN i0 i1 i2 i4 i5 i6]) := by
  unfold F70
  obtain ⟨ρ, e1, e2, e3, e4⟩ := Smry.run_spec (Φ := tabF T3) (S := S70) (is := [i0, i1, i2, i3, i4, i5, i6]) (bs := [b0, b1, b2, b3, b4, b5]) rfl
  rw [e1]
  clear e1
  simp only [S70, eqns, Em.eqn, headsI, headsB, RI.d, RB.d, A.d, B.d, cm_eql, cm_neq, cm_lss, cm_leq, cm_gtr, cm_geq, List.map_cons, List.map_nil, and_true, Nat.zero_add, Nat.reduceAdd, ltn, upto, true_and, Nat.add_zero, List.getD_cons_zero, List.getD_cons_succ, add8, sub8, add16, sub16, mul16, wrap_u8, wrap_u16, and8_1, and8_7, and8_8, and8_15, and8_16, and8_31, and8_32, and8_64, and8_127, and8_128, and16_1, and16_255, and16_1792, shr8_1, shr8_3, shr8_4, shr8_6, shr16_1, shr16_6, shr16_8, shl16_8, shl16_14] at e2 e3 e4 ⊢
  simp only [e2, e3] at e4 ⊢
  unfold okN okE
  grind
theorem v39 (i0 i1 i2 i3 i4 i5 i6 : Int) (b0 b1 b2 b3 b4 b5 : Bool) : F39 [i0, i1, i2, i3, i4, i5, i6] [b0, b1, b2, b3, b4, b5] = ([], [okN i0 i1 i2 i4 i5 i6]) := by
  unfold F39
  obtain ⟨ρ, e1, e2, e3, e4⟩ := Smry.run_spec (Φ := tabF T8) (S := S39) (is := [i0, i1, i2, i3, i4, i5, i6]) (bs := [b0, b1, b2, b3, b4, b5]) rfl
  rw [e1]
  clear e1
  simp only [S39, eqns, Em.eqn, headsI, headsB, RI.d, RB.d, A.d, B.d, cm_eql, cm_neq, cm_lss, cm_leq, cm_gtr, cm_geq, List.map_cons, List.map_nil, and_true, Nat.zero_add, Nat.reduceAdd, ltn, upto, true_and, Nat.add_zero, List.getD_cons_zero, List.getD_cons_succ, add8, sub8, add16, sub16, mul16, wrap_u8, wrap_u16, and8_1, and8_7, and8_8, and8_15, and8_16, and8_31, and8_32, and8_64, and8_127, and8_128, and16_1, and16_255, and16_1792, shr8_1, shr8_3, shr8_4, shr8_6, shr16_1, shr16_6, shr16_8, shl16_8, shl16_14] at e2 e3 e4 ⊢
  simp only [e2, e3] at e4 ⊢
  unfold okN okE
  grind
end Go.Proofs.YtoempcgniokpiaaDoor.Ta
