/-
  tone: envelopes, lengths and triangles: program and document agree. WRITTEN BY PROGRAM (wip/gen/ta2.py). No condition.
-/
import Derived.Test.YtoempcgniokpiaaDoorTaV
set_option linter.unusedVariables false
set_option linter.unusedSimpArgs false
namespace Go.Proofs.YtoempcgniokpiaaDoor.Ta
open Go Go.Proofs.YtoempcgniokpiaaDoor.Sx

theorem q40 (i0 i1 i2 : Int) (b0 b1 b2 : Bool) (h0 : 0 ≤ i0) (h1 : 0 ≤ i1) (h2 : 0 ≤ i2) : F40 [i0, i1, i2] [b0, b1, b2] = F41 [i0, i1, i2] [b0, b1, b2] := by
  unfold F40 F41
  obtain ⟨ρ, e1, e2, e3, e4⟩ := Smry.run_spec (Φ := tabF T9) (S := S40) (is := [i0, i1, i2]) (bs := [b0, b1, b2]) rfl
  obtain ⟨σ, f1, f2, f3, f4⟩ := Smry.run_spec (Φ := tabF T10) (S := S41) (is := [i0, i1, i2]) (bs := [b0, b1, b2]) rfl
  rw [e1, f1]
  clear e1 f1
  simp only [S40, S41, obs, Gd.d_cons, Gd.d_nil, eqns, Em.eqn, headsI, headsB, RI.d, RB.d, A.d, B.d, cm_eql, cm_neq, cm_lss, cm_leq, cm_gtr, cm_geq, List.map_cons, List.map_nil, and_true, Nat.zero_add, Nat.reduceAdd, ltn, upto, true_and, Nat.add_zero, List.getD_cons_zero, List.getD_cons_succ, add8, sub8, add16, sub16, mul16, wrap_u8, wrap_u16, and8_1, and8_7, and8_8, and8_15, and8_16, and8_31, and8_32, and8_64, and8_127, and8_128, and16_1, and16_255, and16_1792, shr8_1, shr8_3, shr8_4, shr8_6, shr16_1, shr16_6, shr16_8, shl16_8, shl16_14] at e2 e3 e4 f2 f3 f4 ⊢
  simp only [e2, e3, f2, f3] at e4 f4 ⊢
  grind
theorem q42 (i0 : Int) (b0 b1 : Bool) (h0 : 0 ≤ i0) : F42 [i0] [b0, b1] = F43 [i0] [b0, b1] := by
  unfold F42 F43
  obtain ⟨ρ, e1, e2, e3, e4⟩ := Smry.run_spec (Φ := tabF T11) (S := S42) (is := [i0]) (bs := [b0, b1]) rfl
  obtain ⟨σ, f1, f2, f3, f4⟩ := Smry.run_spec (Φ := tabF T12) (S := S43) (is := [i0]) (bs := [b0, b1]) rfl
  rw [e1, f1]
  clear e1 f1
  simp only [S42, S43, obs, Gd.d_cons, Gd.d_nil, eqns, Em.eqn, headsI, headsB, RI.d, RB.d, A.d, B.d, cm_eql, cm_neq, cm_lss, cm_leq, cm_gtr, cm_geq, List.map_cons, List.map_nil, and_true, Nat.zero_add, Nat.reduceAdd, ltn, upto, true_and, Nat.add_zero, List.getD_cons_zero, List.getD_cons_succ, add8, sub8, add16, sub16, mul16, wrap_u8, wrap_u16, and8_1, and8_7, and8_8, and8_15, and8_16, and8_31, and8_32, and8_64, and8_127, and8_128, and16_1, and16_255, and16_1792, shr8_1, shr8_3, shr8_4, shr8_6, shr16_1, shr16_6, shr16_8, shl16_8, shl16_14] at e2 e3 e4 f2 f3 f4 ⊢
  simp only [e2, e3, f2, f3] at e4 f4 ⊢
  grind
theorem q33 (i0 : Int) (b0 b1 b2 : Bool) : F33 [i0] [b0, b1, b2] = F44 [i0] [b0, b1, b2] := by
  unfold F33 F44
  obtain ⟨ρ, e1, e2, e3, e4⟩ := Smry.run_spec (Φ := tabF T13) (S := S33) (is := [i0]) (bs := [b0, b1, b2]) rfl
  obtain ⟨σ, f1, f2, f3, f4⟩ := Smry.run_spec (Φ := tabF T14) (S := S44) (is := [i0]) (bs := [b0, b1, b2]) rfl
  rw [e1, f1]
  clear e1 f1
  simp only [S33, S44, obs, Gd.d_cons, Gd.d_nil, eqns, Em.eqn, headsI, headsB, RI.d, RB.d, A.d, B.d, cm_eql, cm_neq, cm_lss, cm_leq, cm_gtr, cm_geq, List.map_cons, List.map_nil, and_true, Nat.zero_add, Nat.reduceAdd, ltn, upto, true_and, Nat.add_zero, List.getD_cons_zero, List.getD_cons_succ, add8, sub8, add16, sub16, mul16, wrap_u8, wrap_u16, and8_1, and8_7, and8_8, and8_15, and8_16, and8_31, and8_32, and8_64, and8_127, and8_128, and16_1, and16_255, and16_1792, shr8_1, shr8_3, shr8_4, shr8_6, shr16_1, shr16_6, shr16_8, shl16_8, shl16_14] at e2 e3 e4 f2 f3 f4 ⊢
  simp only [e2, e3, f2, f3] at e4 f4 ⊢
  grind
theorem q54 (i0 i1 i2 i3 i4 i5 : Int) (b0 b1 b2 : Bool) (h0 : 0 ≤ i0) (h1 : 0 ≤ i1) (h2 : 0 ≤ i2) (h3 : 0 ≤ i3) (h4 : 0 ≤ i4) (h5 : 0 ≤ i5) : F54 [i0, i1, i2, i3, i4, i5] [b0, b1, b2] = F55 [i0, i1, i2, i3, i4, i5] [b0, b1, b2] := by
  unfold F54 F55
  obtain ⟨ρ, e1, e2, e3, e4⟩ := Smry.run_spec (Φ := tabF T31) (S := S54) (is := [i0, i1, i2, i3, i4, i5]) (bs := [b0, b1, b2]) rfl
  obtain ⟨σ, f1, f2, f3, f4⟩ := Smry.run_spec (Φ := tabF T32) (S := S55) (is := [i0, i1, i2, i3, i4, i5]) (bs := [b0, b1, b2]) rfl
  rw [e1, f1]
  clear e1 f1
  simp only [S54, S55, obs, Gd.d_cons, Gd.d_nil, eqns, Em.eqn, headsI, headsB, RI.d, RB.d, A.d, B.d, cm_eql, cm_neq, cm_lss, cm_leq, cm_gtr, cm_geq, List.map_cons, List.map_nil, and_true, Nat.zero_add, Nat.reduceAdd, ltn, upto, true_and, Nat.add_zero, List.getD_cons_zero, List.getD_cons_succ, add8, sub8, add16, sub16, mul16, wrap_u8, wrap_u16, and8_1, and8_7, and8_8, and8_15, and8_16, and8_31, and8_32, and8_64, and8_127, and8_128, and16_1, and16_255, and16_1792, shr8_1, shr8_3, shr8_4, shr8_6, shr16_1, shr16_6, shr16_8, shl16_8, shl16_14, rem_eq] at e2 e3 e4 f2 f3 f4 ⊢
  simp only [e2, e3, f2, f3] at e4 f4 ⊢
  rw [show tabF T31 69 = F69 by rfl, v69] at e4
  rw [show tabF T32 38 = F38 by rfl, v38] at f4
  simp only [List.getD_cons_zero] at e4 f4
  cases hm : okT i1 i2 i3 i4 i5
  · rw [hm] at e4 f4
    clear hm
    grind
  · rw [hm] at e4 f4
    simp only [okT, Bool.and_eq_true, decide_eq_true_eq] at hm
    grind
theorem q56 (i0 i1 i2 i3 i4 i5 : Int) (b0 b1 b2 : Bool) (h0 : 0 ≤ i0) (h1 : 0 ≤ i1) (h2 : 0 ≤ i2) (h3 : 0 ≤ i3) (h4 : 0 ≤ i4) (h5 : 0 ≤ i5) : F56 [i0, i1, i2, i3, i4, i5] [b0, b1, b2] = F57 [i0, i1, i2, i3, i4, i5] [b0, b1, b2] := by
  unfold F56 F57
  obtain ⟨ρ, e1, e2, e3, e4⟩ := Smry.run_spec (Φ := tabF T33) (S := S56) (is := [i0, i1, i2, i3, i4, i5]) (bs := [b0, b1, b2]) rfl
  obtain ⟨σ, f1, f2, f3, f4⟩ := Smry.run_spec (Φ := tabF T34) (S := S57) (is := [i0, i1, i2, i3, i4, i5]) (bs := [b0, b1, b2]) rfl
  rw [e1, f1]
  clear e1 f1
  simp only [S56, S57, obs, Gd.d_cons, Gd.d_nil, eqns, Em.eqn, headsI, headsB, RI.d, RB.d, A.d, B.d, cm_eql, cm_neq, cm_lss, cm_leq, cm_gtr, cm_geq, List.map_cons, List.map_nil, and_true, Nat.zero_add, Nat.reduceAdd, ltn, upto, true_and, Nat.add_zero, List.getD_cons_zero, List.getD_cons_succ, add8, sub8, add16, sub16, mul16, wrap_u8, wrap_u16, and8_1, and8_7, and8_8, and8_15, and8_16, and8_31, and8_32, and8_64, and8_127, and8_128, and16_1, and16_255, and16_1792, shr8_1, shr8_3, shr8_4, shr8_6, shr16_1, shr16_6, shr16_8, shl16_8, shl16_14] at e2 e3 e4 f2 f3 f4 ⊢
  simp only [e2, e3, f2, f3] at e4 f4 ⊢
  rw [show tabF T33 69 = F69 by rfl, v69] at e4
  rw [show tabF T34 38 = F38 by rfl, v38] at f4
  simp only [List.getD_cons_zero] at e4 f4
  cases hm : okT i1 i2 i3 i4 i5
  · rw [hm] at e4 f4
    clear hm
    grind
  · rw [hm] at e4 f4
    simp only [okT, Bool.and_eq_true, decide_eq_true_eq] at hm
    grind
theorem q58 (i0 i1 i2 i3 i4 i5 : Int) (b0 b1 b2 : Bool) (h0 : 0 ≤ i0) (h1 : 0 ≤ i1) (h2 : 0 ≤ i2) (h3 : 0 ≤ i3) (h4 : 0 ≤ i4) (h5 : 0 ≤ i5) : F58 [i0, i1, i2, i3, i4, i5] [b0, b1, b2] = F59 [i0, i1, i2, i3, i4, i5] [b0, b1, b2] := by
  unfold F58 F59
  obtain ⟨ρ, e1, e2, e3, e4⟩ := Smry.run_spec (Φ := tabF T20) (S := S58) (is := [i0, i1, i2, i3, i4, i5]) (bs := [b0, b1, b2]) rfl
  obtain ⟨σ, f1, f2, f3, f4⟩ := Smry.run_spec (Φ := tabF T35) (S := S59) (is := [i0, i1, i2, i3, i4, i5]) (bs := [b0, b1, b2]) rfl
  rw [e1, f1]
  clear e1 f1
  simp only [S58, S59, obs, Gd.d_cons, Gd.d_nil, eqns, Em.eqn, headsI, headsB, RI.d, RB.d, A.d, B.d, cm_eql, cm_neq, cm_lss, cm_leq, cm_gtr, cm_geq, List.map_cons, List.map_nil, and_true, Nat.zero_add, Nat.reduceAdd, ltn, upto, true_and, Nat.add_zero, List.getD_cons_zero, List.getD_cons_succ, add8, sub8, add16, sub16, mul16, wrap_u8, wrap_u16, and8_1, and8_7, and8_8, and8_15, and8_16, and8_31, and8_32, and8_64, and8_127, and8_128, and16_1, and16_255, and16_1792, shr8_1, shr8_3, shr8_4, shr8_6, shr16_1, shr16_6, shr16_8, shl16_8, shl16_14] at e2 e3 e4 f2 f3 f4 ⊢
  simp only [e2, e3, f2, f3] at e4 f4 ⊢
  rw [show tabF T20 69 = F69 by rfl, v69] at e4
  rw [show tabF T35 38 = F38 by rfl, v38] at f4
  simp only [List.getD_cons_zero] at e4 f4
  cases hm : okT i1 i2 i3 i4 i5
  · rw [hm] at e4 f4
    clear hm
    grind
  · rw [hm] at e4 f4
    simp only [okT, Bool.and_eq_true, decide_eq_true_eq] at hm
    grind
end Go.Proofs.YtoempcgniokpiaaDoor.Ta
