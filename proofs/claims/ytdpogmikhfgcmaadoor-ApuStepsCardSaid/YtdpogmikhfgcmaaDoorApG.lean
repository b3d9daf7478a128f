/-
  ApuSteps: what a tick, a quarter and a half leave of lengths and of an envelope. WRITTEN BY PROGRAM (wip/gen/ap14.py). No condition.
-/
import Derived.Test.YtdpogmikhfgcmaaDoorApF
import Derived.Test.YtdpogmikhfgcmaaDoorApX
set_option linter.unusedVariables false
set_option linter.unusedSimpArgs false
namespace Go.Proofs.YtdpogmikhfgcmaaDoor.Ap
open Go Go.Proofs.YtdpogmikhfgcmaaDoor.Sx

theorem len46b (i0 : Int) (b0 b1 : Bool) : (F46 [i0] [b0, b1]).2 = [b0, b1] := by
  unfold F46
  obtain ⟨ρ, e1, e2, e3, e4⟩ := Smry.run_spec (Φ := tabF T28) (S := S46) (is := [i0]) (bs := [b0, b1]) rfl
  rw [e1]
  clear e1
  simp only [S46, eqns, Em.eqn, headsI, headsB, RI.d, RB.d, A.d, B.d, cm_eql, cm_neq, cm_lss, cm_leq, cm_gtr, cm_geq, List.map_cons, List.map_nil, and_true, Nat.zero_add, Nat.reduceAdd, ltn, upto, true_and, Nat.add_zero, List.getD_cons_zero, List.getD_cons_succ, add8, sub8, add16, sub16, mul16, wrap_u8, wrap_u16, and8_1, and8_7, and8_8, and8_15, and8_16, and8_31, and8_32, and8_64, and8_127, and8_128, and16_1, and16_255, and16_1792, shr8_1, shr8_3, shr8_4, shr8_6, shr16_1, shr16_6, shr16_8, shl16_8, shl16_14] at e2 e3 e4 ⊢
  simp only [e2, e3] at e4 ⊢
theorem n_48 (i0 i1 i2 i3 i4 i5 i6 i7 i8 i9 i10 : Int) (b0 b1 b2 b3 b4 b5 b6 b7 b8 : Bool) (h0 : 0 ≤ i0) (h1 : 0 ≤ i1) (h2 : 0 ≤ i2) (h3 : 0 ≤ i3) (h4 : 0 ≤ i4) (h5 : 0 ≤ i5) (h6 : 0 ≤ i6) (h7 : 0 ≤ i7) (h8 : 0 ≤ i8) (h9 : 0 ≤ i9) (h10 : 0 ≤ i10) (hok : okP i0 i1 i2 i4 i5 i6 i7 i8 i9 i10 = true) : (F48 [i0, i1, i2, i3, i4, i5, i6, i7, i8, i9, i10] [b0, b1, b2, b3, b4, b5, b6, b7, b8]).1.getD 3 0 = i3 ∧ (F48 [i0, i1, i2, i3, i4, i5, i6, i7, i8, i9, i10] [b0, b1, b2, b3, b4, b5, b6, b7, b8]).2.getD 4 false = b4 ∧ (F48 [i0, i1, i2, i3, i4, i5, i6, i7, i8, i9, i10] [b0, b1, b2, b3, b4, b5, b6, b7, b8]).2.getD 5 false = b5 := by
  unfold F48
  obtain ⟨ρ, e1, e2, e3, e4⟩ := Smry.run_spec (Φ := tabF T25) (S := S48) (is := [i0, i1, i2, i3, i4, i5, i6, i7, i8, i9, i10]) (bs := [b0, b1, b2, b3, b4, b5, b6, b7, b8]) rfl
  rw [e1]
  clear e1
  simp only [S48, obs, Gd.d_cons, Gd.d_nil, eqns, Em.eqn, headsI, headsB, RI.d, RB.d, A.d, B.d, cm_eql, cm_neq, cm_lss, cm_leq, cm_gtr, cm_geq, List.map_cons, List.map_nil, and_true, Nat.zero_add, Nat.reduceAdd, ltn, upto, true_and, Nat.add_zero, List.getD_cons_zero, List.getD_cons_succ, add8, sub8, add16, sub16, mul16, wrap_u8, wrap_u16, and8_1, and8_7, and8_8, and8_15, and8_16, and8_31, and8_32, and8_64, and8_127, and8_128, and16_1, and16_255, and16_1792, shr8_1, shr8_3, shr8_4, shr8_6, shr16_1, shr16_6, shr16_8, shl16_8, shl16_14, rem_eq, quo8_eq, quo16_eq] at e2 e3 e4 ⊢
  simp only [e2, e3] at e4 ⊢
  rw [show tabF T25 37 = F37 by rfl, v37, hok] at e4
  simp only [List.getD_cons_zero] at e4
  clear e2 e3
  have hb9 := e4.1
  have r0 := e4.2
  clear e4
  have hi11 := r0.1.1.1
  have hi12 := r0.1.1.2.1
  have hi13 := r0.1.1.2.2
  have hb10 := r0.1.2.1
  have hb11 := r0.1.2.2.1
  have hb12 := r0.1.2.2.2
  have r1 := r0.2
  clear r0
  have hb13 := r1.1
  have r2 := r1.2
  clear r1
  have hb14 := r2.1
  have r3 := r2.2
  clear r2
  have hb15 := r3.1
  have r4 := r3.2
  clear r3
  have hi14 := r4.1
  have r5 := r4.2
  clear r4
  have hi15 := r5.1
  have r6 := r5.2
  clear r5
  have hi16 := r6
  refine ⟨?_, ?_, ?_⟩
  · first | rfl | (intros; assumption) | (simp)
  · first | rfl | (intros; assumption) | (simp)
  · first | rfl | (intros; assumption) | (simp)
theorem m_27 (i0 i1 i2 i3 i4 i5 i6 i7 i8 i9 i10 : Int) (b0 b1 b2 b3 b4 b5 b6 b7 b8 : Bool) (h0 : 0 ≤ i0) (h1 : 0 ≤ i1) (h2 : 0 ≤ i2) (h3 : 0 ≤ i3) (h4 : 0 ≤ i4) (h5 : 0 ≤ i5) (h6 : 0 ≤ i6) (h7 : 0 ≤ i7) (h8 : 0 ≤ i8) (h9 : 0 ≤ i9) (h10 : 0 ≤ i10) (hok : okP i0 i1 i2 i4 i5 i6 i7 i8 i9 i10 = true) : (F27 [i0, i1, i2, i3, i4, i5, i6, i7, i8, i9, i10] [b0, b1, b2, b3, b4, b5, b6, b7, b8]).1.getD 3 0 = i3 ∧ (F27 [i0, i1, i2, i3, i4, i5, i6, i7, i8, i9, i10] [b0, b1, b2, b3, b4, b5, b6, b7, b8]).2.getD 4 false = b4 := by
  unfold F27
  obtain ⟨ρ, e1, e2, e3, e4⟩ := Smry.run_spec (Φ := tabF T22) (S := S27) (is := [i0, i1, i2, i3, i4, i5, i6, i7, i8, i9, i10]) (bs := [b0, b1, b2, b3, b4, b5, b6, b7, b8]) rfl
  rw [e1]
  clear e1
  simp only [S27, obs, Gd.d_cons, Gd.d_nil, eqns, Em.eqn, headsI, headsB, RI.d, RB.d, A.d, B.d, cm_eql, cm_neq, cm_lss, cm_leq, cm_gtr, cm_geq, List.map_cons, List.map_nil, and_true, Nat.zero_add, Nat.reduceAdd, ltn, upto, true_and, Nat.add_zero, List.getD_cons_zero, List.getD_cons_succ, add8, sub8, add16, sub16, mul16, wrap_u8, wrap_u16, and8_1, and8_7, and8_8, and8_15, and8_16, and8_31, and8_32, and8_64, and8_127, and8_128, and16_1, and16_255, and16_1792, shr8_1, shr8_3, shr8_4, shr8_6, shr16_1, shr16_6, shr16_8, shl16_8, shl16_14, rem_eq, quo8_eq, quo16_eq] at e2 e3 e4 ⊢
  simp only [e2, e3] at e4 ⊢
  rw [show tabF T22 37 = F37 by rfl, v37, hok] at e4
  simp only [List.getD_cons_zero] at e4
  clear e2 e3
  have hb9 := e4.1
  have r0 := e4.2
  clear e4
  have hb10 := r0.1
  have r1 := r0.2
  clear r0
  have hb11 := r1.1
  have r2 := r1.2
  clear r1
  have hi11 := r2.1
  have r3 := r2.2
  clear r2
  have hi12 := r3.1
  have r4 := r3.2
  clear r3
  have hi13 := r4.1
  have r5 := r4.2
  clear r4
  have hi14 := r5.1
  have r6 := r5.2
  clear r5
  have hi15 := r6.1
  have r7 := r6.2
  clear r6
  have hi16 := r7.1
  have r8 := r7.2
  clear r7
  have hi17 := r8
  refine ⟨?_, ?_⟩
  · first | rfl | (intros; assumption) | (simp)
  · first | rfl | (intros; assumption) | (simp)
theorem m_25 (i0 i1 i2 i3 i4 i5 i6 : Int) (b0 b1 b2 b3 b4 b5 : Bool) (h0 : 0 ≤ i0) (h1 : 0 ≤ i1) (h2 : 0 ≤ i2) (h3 : 0 ≤ i3) (h4 : 0 ≤ i4) (h5 : 0 ≤ i5) (h6 : 0 ≤ i6) (hok : okN i0 i1 i2 i4 i5 i6 = true) : (F25 [i0, i1, i2, i3, i4, i5, i6] [b0, b1, b2, b3, b4, b5]).1.getD 0 0 = i0 ∧ (F25 [i0, i1, i2, i3, i4, i5, i6] [b0, b1, b2, b3, b4, b5]).1.getD 1 0 = i1 ∧ (F25 [i0, i1, i2, i3, i4, i5, i6] [b0, b1, b2, b3, b4, b5]).1.getD 2 0 = i2 ∧ (F25 [i0, i1, i2, i3, i4, i5, i6] [b0, b1, b2, b3, b4, b5]).1.getD 3 0 = i3 ∧ (F25 [i0, i1, i2, i3, i4, i5, i6] [b0, b1, b2, b3, b4, b5]).2.getD 3 false = b2 ∧ (F25 [i0, i1, i2, i3, i4, i5, i6] [b0, b1, b2, b3, b4, b5]).2.getD 4 false = b3 := by
  unfold F25
  obtain ⟨ρ, e1, e2, e3, e4⟩ := Smry.run_specT (Φ := tabF T19) (S := S25) (is := [i0, i1, i2, i3, i4, i5, i6]) (bs := [b0, b1, b2, b3, b4, b5]) rfl
  rw [e1, obAll_eq]
  clear e1
  simp only [S25, obs, Gd.d_cons, Gd.d_nil, eqns, Em.eqn, headsI, headsB, RI.d, RB.d, A.d, B.d, cm_eql, cm_neq, cm_lss, cm_leq, cm_gtr, cm_geq, List.map_cons, List.map_nil, and_true, Nat.zero_add, Nat.reduceAdd, ltn, upto, true_and, Nat.add_zero, List.getD_cons_zero, List.getD_cons_succ, add8, sub8, add16, sub16, mul16, wrap_u8, wrap_u16, and8_1, and8_7, and8_8, and8_15, and8_16, and8_31, and8_32, and8_64, and8_127, and8_128, and16_1, and16_255, and16_1792, shr8_1, shr8_3, shr8_4, shr8_6, shr16_1, shr16_6, shr16_8, shl16_8, shl16_14, rem_eq, quo8_eq, quo16_eq] at e2 e3 e4 ⊢
  simp only [e2, e3] at e4 ⊢
  rw [show tabF T19 42 = F42 by rfl, v42 (h6 := h6), hok] at e4
  simp only [List.getD_cons_zero] at e4
  clear e2 e3
  have hb6 := e4.1
  have r0 := e4.2
  clear e4
  have hb7 := r0.1
  have r1 := r0.2
  clear r0
  have hb8 := r1.1
  have r2 := r1.2
  clear r1
  have hi7 := r2.1
  have r3 := r2.2
  clear r2
  have hb9 := r3.1
  have r4 := r3.2
  clear r3
  have hi8 := r4.1
  have r5 := r4.2
  clear r4
  have hb10 := r5.1
  have r6 := r5.2
  clear r5
  have hb11 := r6.1
  have r7 := r6.2
  clear r6
  have hi9 := r7.1
  have r8 := r7.2
  clear r7
  have hi10 := r8.1
  have r9 := r8.2
  clear r8
  have hi11 := r9.1
  have r10 := r9.2
  clear r9
  have hi12 := r10.1
  have r11 := r10.2
  clear r10
  have hb12 := r11.1
  have r12 := r11.2
  clear r11
  have hi13 := r12.1
  have r13 := r12.2
  clear r12
  have hi14 := r13.1
  have r14 := r13.2
  clear r13
  have hi15 := r14.1
  have r15 := r14.2
  clear r14
  have hi16 := r15.1
  have r16 := r15.2
  clear r15
  have hi17 := r16.1
  have r17 := r16.2
  clear r16
  have hb13 := r17.1
  have r18 := r17.2
  clear r17
  have hb14 := r18.1
  have r19 := r18.2
  clear r18
  have hb15 := r19.1
  have r20 := r19.2
  clear r19
  have hi18 := r20.1
  have r21 := r20.2
  clear r20
  have hi19 := r21
  refine ⟨?_, ?_, ?_, ?_, ?_, ?_⟩
  · first | rfl | (intros; assumption) | (simp)
  · first | rfl | (intros; assumption) | (simp)
  · first | rfl | (intros; assumption) | (simp)
  · first | rfl | (intros; assumption) | (simp)
  · first | rfl | (intros; assumption) | (simp)
  · first | rfl | (intros; assumption) | (simp)
theorem len46d (n : Int) (b : Bool) (h : 0 < n ∧ n < 256) : F46 [n] [false, b] = ([n - 1], [false, b]) := by
  unfold F46
  obtain ⟨ρ, e1, e2, e3, e4⟩ := Smry.run_spec (Φ := tabF T28) (S := S46) (is := [n]) (bs := [false, b]) rfl
  rw [e1]
  clear e1
  simp only [S46, eqns, Em.eqn, headsI, headsB, RI.d, RB.d, A.d, B.d, cm_eql, cm_neq, cm_lss, cm_leq, cm_gtr, cm_geq, List.map_cons, List.map_nil, and_true, Nat.zero_add, Nat.reduceAdd, ltn, upto, true_and, Nat.add_zero, List.getD_cons_zero, List.getD_cons_succ, add8, sub8, add16, sub16, mul16, wrap_u8, wrap_u16, and8_1, and8_7, and8_8, and8_15, and8_16, and8_31, and8_32, and8_64, and8_127, and8_128, and16_1, and16_255, and16_1792, shr8_1, shr8_3, shr8_4, shr8_6, shr16_1, shr16_6, shr16_8, shl16_8, shl16_14] at e2 e3 e4 ⊢
  simp only [e2, e3] at e4 ⊢
  grind
theorem env50d (d : Int) (a b : Bool) (h : 0 < d ∧ d < 16) : F50 [0, 0, d] [a, b, false] = ([0, 0, d - 1], [a, b, false]) := by
  unfold F50
  obtain ⟨ρ, e1, e2, e3, e4⟩ := Smry.run_spec (Φ := tabF T24) (S := S50) (is := [0, 0, d]) (bs := [a, b, false]) rfl
  rw [e1]
  clear e1
  simp only [S50, eqns, Em.eqn, headsI, headsB, RI.d, RB.d, A.d, B.d, cm_eql, cm_neq, cm_lss, cm_leq, cm_gtr, cm_geq, List.map_cons, List.map_nil, and_true, Nat.zero_add, Nat.reduceAdd, ltn, upto, true_and, Nat.add_zero, List.getD_cons_zero, List.getD_cons_succ, add8, sub8, add16, sub16, mul16, wrap_u8, wrap_u16, and8_1, and8_7, and8_8, and8_15, and8_16, and8_31, and8_32, and8_64, and8_127, and8_128, and16_1, and16_255, and16_1792, shr8_1, shr8_3, shr8_4, shr8_6, shr16_1, shr16_6, shr16_8, shl16_8, shl16_14] at e2 e3 e4 ⊢
  simp only [e2, e3] at e4 ⊢
  grind
theorem m_45 (i0 i1 i2 i3 i4 i5 i6 i7 i8 i9 i10 : Int) (b0 b1 b2 b3 b4 b5 b6 b7 b8 : Bool) (h0 : 0 ≤ i0) (h1 : 0 ≤ i1) (h2 : 0 ≤ i2) (h3 : 0 ≤ i3) (h4 : 0 ≤ i4) (h5 : 0 ≤ i5) (h6 : 0 ≤ i6) (h7 : 0 ≤ i7) (h8 : 0 ≤ i8) (h9 : 0 ≤ i9) (h10 : 0 ≤ i10) (hok : okP i0 i1 i2 i4 i5 i6 i7 i8 i9 i10 = true) : (F45 [i0, i1, i2, i3, i4, i5, i6, i7, i8, i9, i10] [b0, b1, b2, b3, b4, b5, b6, b7, b8]).2.getD 5 false = b4 ∧ (b4 = false → 0 < i3 ∧ i3 < 256 → (F45 [i0, i1, i2, i3, i4, i5, i6, i7, i8, i9, i10] [b0, b1, b2, b3, b4, b5, b6, b7, b8]).1.getD 3 0 = i3 - 1) := by
  unfold F45
  obtain ⟨ρ, e1, e2, e3, e4⟩ := Smry.run_specT (Φ := tabF T29) (S := S45) (is := [i0, i1, i2, i3, i4, i5, i6, i7, i8, i9, i10]) (bs := [b0, b1, b2, b3, b4, b5, b6, b7, b8]) rfl
  rw [e1, obAll_eq]
  clear e1
  simp only [S45, obs, Gd.d_cons, Gd.d_nil, eqns, Em.eqn, headsI, headsB, RI.d, RB.d, A.d, B.d, cm_eql, cm_neq, cm_lss, cm_leq, cm_gtr, cm_geq, List.map_cons, List.map_nil, and_true, Nat.zero_add, Nat.reduceAdd, ltn, upto, true_and, Nat.add_zero, List.getD_cons_zero, List.getD_cons_succ, add8, sub8, add16, sub16, mul16, wrap_u8, wrap_u16, and8_1, and8_7, and8_8, and8_15, and8_16, and8_31, and8_32, and8_64, and8_127, and8_128, and16_1, and16_255, and16_1792, shr8_1, shr8_3, shr8_4, shr8_6, shr16_1, shr16_6, shr16_8, shl16_8, shl16_14, rem_eq, quo8_eq, quo16_eq] at e2 e3 e4 ⊢
  simp only [e2, e3] at e4 ⊢
  rw [show tabF T29 37 = F37 by rfl, v37, hok] at e4
  simp only [List.getD_cons_zero] at e4
  clear e2 e3
  rw [show tabF T29 46 = F46 by rfl] at e4
  have hbb := len46b i3 b4 b5
  rw [hbb] at e4
  simp only [List.getD_cons_zero, List.getD_cons_succ] at e4
  have hz : b4 = false → 0 < i3 ∧ i3 < 256 → (F46 [i3] [b4, b5]).1.getD 0 0 = i3 - 1 := fun h h' => by rw [h, len46d i3 b5 h']; rfl
  generalize F46 [i3] [b4, b5] = y46 at *
  have hb9 := e4.1
  have r0 := e4.2
  clear e4
  have hb10 := r0.1
  have r1 := r0.2
  clear r0
  have hi11 := r1.1.1
  have hb11 := r1.1.2.1
  have hb12 := r1.1.2.2
  have r2 := r1.2
  clear r1
  have hb13 := r2.1
  have r3 := r2.2
  clear r2
  have hb14 := r3.1
  have r4 := r3.2
  clear r3
  have hb15 := r4.1
  have r5 := r4.2
  clear r4
  have hb16 := r5.1
  have r6 := r5.2
  clear r5
  have hb17 := r6.1.1
  have hb18 := r6.1.2
  have r7 := r6.2
  clear r6
  have hb19 := r7.1
  have r8 := r7.2
  clear r7
  have hb20 := r8.1
  have r9 := r8.2
  clear r8
  have hi12 := r9.1.1
  have hb21 := r9.1.2
  have r10 := r9.2
  clear r9
  have hi13 := r10.1
  have r11 := r10.2
  clear r10
  have hb22 := r11.1
  have r12 := r11.2
  clear r11
  have hb23 := r12.1
  have r13 := r12.2
  clear r12
  have hi14 := r13.1
  have r14 := r13.2
  clear r13
  have hb24 := r14.1
  have r15 := r14.2
  clear r14
  have hi15 := r15.1
  have r16 := r15.2
  clear r15
  have hb25 := r16.1
  have r17 := r16.2
  clear r16
  have hb26 := r17.1
  have r18 := r17.2
  clear r17
  have hb27 := r18.1
  have r19 := r18.2
  clear r18
  have hi16 := r19.1
  have r20 := r19.2
  clear r19
  have hi17 := r20.1
  have r21 := r20.2
  clear r20
  have hb28 := r21.1
  have r22 := r21.2
  clear r21
  have hi18 := r22
  refine ⟨?_, ?_⟩
  · clear hi11 hb12 hb13 hb14 hb15 hb16 hb17 hb18 hb19 hb20 hi12 hb21 hi13 hb22 hb23 hi14 hb24 hi15 hb27 hi16 hi17 hb28 hi18
    show ρ.b 26 = b4
    grind
  · clear hb11 hb12 hb13 hb14 hb15 hb16 hb17 hb18 hb19 hb20 hi12 hb21 hi13 hb22 hb23 hi14 hb24 hi15 hb26 hb27 hi17 hb28 hi18
    show (b4 = false → 0 < i3 ∧ i3 < 256 → ρ.i 16 = i3 - 1)
    grind
theorem Q28 (i0 i1 i2 i3 i4 i5 i6 i7 i8 i9 i10 i11 i12 i13 i14 i15 i16 i17 i18 i19 i20 i21 i22 i23 i24 i25 i26 i27 i28 i29 i30 i31 i32 i33 i34 i35 i36 i37 i38 i39 i40 i41 i42 i43 i44 i45 : Int) (b0 b1 b2 b3 b4 b5 b6 b7 b8 b9 b10 b11 b12 b13 b14 b15 b16 b17 b18 b19 b20 b21 b22 b23 b24 b25 b26 b27 b28 b29 b30 b31 b32 b33 b34 b35 : Bool) (h : Ck i0 i1 i2 i3 i4 i5 i6 i7 i8 i9 i10 i11 i12 i13 i14 i15 i16 i17 i18 i19 i20 i21 i22 i23 i24 i25 i26 i27 i28 i29 i30 i31 i32 i33 i34) (t28 : i28 = 0) (t29 : i29 = 0) (t30 : 0 < i30) (u23 : b23 = false) : (F28 [i0, i1, i2, i3, i4, i5, i6, i7, i8, i9, i10, i11, i12, i13, i14, i15, i16, i17, i18, i19, i20, i21, i22, i23, i24, i25, i26, i27, i28, i29, i30, i31, i32, i33, i34, i35, i36, i37, i38, i39, i40, i41, i42, i43, i44, i45] [b0, b1, b2, b3, b4, b5, b6, b7, b8, b9, b10, b11, b12, b13, b14, b15, b16, b17, b18, b19, b20, b21, b22, b23, b24, b25, b26, b27, b28, b29, b30, b31, b32, b33, b34, b35]).1.getD 3 0 = i3 ∧ (F28 [i0, i1, i2, i3, i4, i5, i6, i7, i8, i9, i10, i11, i12, i13, i14, i15, i16, i17, i18, i19, i20, i21, i22, i23, i24, i25, i26, i27, i28, i29, i30, i31, i32, i33, i34, i35, i36, i37, i38, i39, i40, i41, i42, i43, i44, i45] [b0, b1, b2, b3, b4, b5, b6, b7, b8, b9, b10, b11, b12, b13, b14, b15, b16, b17, b18, b19, b20, b21, b22, b23, b24, b25, b26, b27, b28, b29, b30, b31, b32, b33, b34, b35]).1.getD 28 0 = 0 ∧ (F28 [i0, i1, i2, i3, i4, i5, i6, i7, i8, i9, i10, i11, i12, i13, i14, i15, i16, i17, i18, i19, i20, i21, i22, i23, i24, i25, i26, i27, i28, i29, i30, i31, i32, i33, i34, i35, i36, i37, i38, i39, i40, i41, i42, i43, i44, i45] [b0, b1, b2, b3, b4, b5, b6, b7, b8, b9, b10, b11, b12, b13, b14, b15, b16, b17, b18, b19, b20, b21, b22, b23, b24, b25, b26, b27, b28, b29, b30, b31, b32, b33, b34, b35]).1.getD 29 0 = 0 ∧ (F28 [i0, i1, i2, i3, i4, i5, i6, i7, i8, i9, i10, i11, i12, i13, i14, i15, i16, i17, i18, i19, i20, i21, i22, i23, i24, i25, i26, i27, i28, i29, i30, i31, i32, i33, i34, i35, i36, i37, i38, i39, i40, i41, i42, i43, i44, i45] [b0, b1, b2, b3, b4, b5, b6, b7, b8, b9, b10, b11, b12, b13, b14, b15, b16, b17, b18, b19, b20, b21, b22, b23, b24, b25, b26, b27, b28, b29, b30, b31, b32, b33, b34, b35]).1.getD 30 0 = i30 - 1 ∧ (F28 [i0, i1, i2, i3, i4, i5, i6, i7, i8, i9, i10, i11, i12, i13, i14, i15, i16, i17, i18, i19, i20, i21, i22, i23, i24, i25, i26, i27, i28, i29, i30, i31, i32, i33, i34, i35, i36, i37, i38, i39, i40, i41, i42, i43, i44, i45] [b0, b1, b2, b3, b4, b5, b6, b7, b8, b9, b10, b11, b12, b13, b14, b15, b16, b17, b18, b19, b20, b21, b22, b23, b24, b25, b26, b27, b28, b29, b30, b31, b32, b33, b34, b35]).1.getD 31 0 = i31 ∧ (F28 [i0, i1, i2, i3, i4, i5, i6, i7, i8, i9, i10, i11, i12, i13, i14, i15, i16, i17, i18, i19, i20, i21, i22, i23, i24, i25, i26, i27, i28, i29, i30, i31, i32, i33, i34, i35, i36, i37, i38, i39, i40, i41, i42, i43, i44, i45] [b0, b1, b2, b3, b4, b5, b6, b7, b8, b9, b10, b11, b12, b13, b14, b15, b16, b17, b18, b19, b20, b21, b22, b23, b24, b25, b26, b27, b28, b29, b30, b31, b32, b33, b34, b35]).2.getD 4 false = b4 ∧ (F28 [i0, i1, i2, i3, i4, i5, i6, i7, i8, i9, i10, i11, i12, i13, i14, i15, i16, i17, i18, i19, i20, i21, i22, i23, i24, i25, i26, i27, i28, i29, i30, i31, i32, i33, i34, i35, i36, i37, i38, i39, i40, i41, i42, i43, i44, i45] [b0, b1, b2, b3, b4, b5, b6, b7, b8, b9, b10, b11, b12, b13, b14, b15, b16, b17, b18, b19, b20, b21, b22, b23, b24, b25, b26, b27, b28, b29, b30, b31, b32, b33, b34, b35]).2.getD 23 false = false ∧ (F28 [i0, i1, i2, i3, i4, i5, i6, i7, i8, i9, i10, i11, i12, i13, i14, i15, i16, i17, i18, i19, i20, i21, i22, i23, i24, i25, i26, i27, i28, i29, i30, i31, i32, i33, i34, i35, i36, i37, i38, i39, i40, i41, i42, i43, i44, i45] [b0, b1, b2, b3, b4, b5, b6, b7, b8, b9, b10, b11, b12, b13, b14, b15, b16, b17, b18, b19, b20, b21, b22, b23, b24, b25, b26, b27, b28, b29, b30, b31, b32, b33, b34, b35]).2.getD 24 false = b24 := by
  obtain ⟨h1, h2, h3, h4⟩ := h
  have y1 := n_48 i0 i1 i2 i3 i4 i5 i6 i7 i8 i9 i10 b0 b1 b2 b3 b4 b5 b6 b7 b8 (Pk_nn h1).1 (Pk_nn h1).2.1 (Pk_nn h1).2.2.1 (Pk_nn h1).2.2.2.1 (Pk_nn h1).2.2.2.2.1 (Pk_nn h1).2.2.2.2.2.1 (Pk_nn h1).2.2.2.2.2.2.1 (Pk_nn h1).2.2.2.2.2.2.2.1 (Pk_nn h1).2.2.2.2.2.2.2.2.1 (Pk_nn h1).2.2.2.2.2.2.2.2.2.1 (Pk_nn h1).2.2.2.2.2.2.2.2.2.2 (Pk_ok h1)
  have y4 := env50d i30 b21 b22 (by unfold Nk at h4; omega)
  unfold F28
  obtain ⟨ρ, e1, e2, e3, e4⟩ := Smry.run_spec (Φ := tabF T27) (S := S28) (is := [i0, i1, i2, i3, i4, i5, i6, i7, i8, i9, i10, i11, i12, i13, i14, i15, i16, i17, i18, i19, i20, i21, i22, i23, i24, i25, i26, i27, i28, i29, i30, i31, i32, i33, i34, i35, i36, i37, i38, i39, i40, i41, i42, i43, i44, i45]) (bs := [b0, b1, b2, b3, b4, b5, b6, b7, b8, b9, b10, b11, b12, b13, b14, b15, b16, b17, b18, b19, b20, b21, b22, b23, b24, b25, b26, b27, b28, b29, b30, b31, b32, b33, b34, b35]) rfl
  rw [e1]
  clear e1
  simp only [S28, obs, Gd.d_cons, Gd.d_nil, eqns, Em.eqn, headsI, headsB, RI.d, RB.d, A.d, B.d, cm_eql, cm_neq, cm_lss, cm_leq, cm_gtr, cm_geq, List.map_cons, List.map_nil, and_true, Nat.zero_add, Nat.reduceAdd, ltn, upto, true_and, Nat.add_zero, List.getD_cons_zero, List.getD_cons_succ, add8, sub8, add16, sub16, mul16, wrap_u8, wrap_u16, and8_1, and8_7, and8_8, and8_15, and8_16, and8_31, and8_32, and8_64, and8_127, and8_128, and16_1, and16_255, and16_1792, shr8_1, shr8_3, shr8_4, shr8_6, shr16_1, shr16_6, shr16_8, shl16_8, shl16_14] at e2 e3 e4 ⊢
  simp only [e2, e3] at e4 ⊢
  clear e2 e3
  have hi46 := e4.1.1.1
  have hi47 := e4.1.1.2.1
  have hi48 := e4.1.1.2.2.1
  have hi49 := e4.1.1.2.2.2.1
  have hi50 := e4.1.1.2.2.2.2.1
  have hi51 := e4.1.1.2.2.2.2.2.1
  have hi52 := e4.1.1.2.2.2.2.2.2.1
  have hi53 := e4.1.1.2.2.2.2.2.2.2.1
  have hi54 := e4.1.1.2.2.2.2.2.2.2.2.1
  have hi55 := e4.1.1.2.2.2.2.2.2.2.2.2.1
  have hi56 := e4.1.1.2.2.2.2.2.2.2.2.2.2
  have hb36 := e4.1.2.1
  have hb37 := e4.1.2.2.1
  have hb38 := e4.1.2.2.2.1
  have hb39 := e4.1.2.2.2.2.1
  have hb40 := e4.1.2.2.2.2.2.1
  have hb41 := e4.1.2.2.2.2.2.2.1
  have hb42 := e4.1.2.2.2.2.2.2.2.1
  have hb43 := e4.1.2.2.2.2.2.2.2.2.1
  have hb44 := e4.1.2.2.2.2.2.2.2.2.2
  have r0 := e4.2
  clear e4
  have hi57 := r0.1.1.1
  have hi58 := r0.1.1.2.1
  have hi59 := r0.1.1.2.2.1
  have hi60 := r0.1.1.2.2.2.1
  have hi61 := r0.1.1.2.2.2.2.1
  have hi62 := r0.1.1.2.2.2.2.2.1
  have hi63 := r0.1.1.2.2.2.2.2.2.1
  have hi64 := r0.1.1.2.2.2.2.2.2.2.1
  have hi65 := r0.1.1.2.2.2.2.2.2.2.2.1
  have hi66 := r0.1.1.2.2.2.2.2.2.2.2.2.1
  have hi67 := r0.1.1.2.2.2.2.2.2.2.2.2.2
  have hb45 := r0.1.2.1
  have hb46 := r0.1.2.2.1
  have hb47 := r0.1.2.2.2.1
  have hb48 := r0.1.2.2.2.2.1
  have hb49 := r0.1.2.2.2.2.2.1
  have hb50 := r0.1.2.2.2.2.2.2.1
  have hb51 := r0.1.2.2.2.2.2.2.2.1
  have hb52 := r0.1.2.2.2.2.2.2.2.2.1
  have hb53 := r0.1.2.2.2.2.2.2.2.2.2
  have r1 := r0.2
  clear r0
  have hi68 := r1.1.1.1
  have hi69 := r1.1.1.2.1
  have hi70 := r1.1.1.2.2.1
  have hi71 := r1.1.1.2.2.2.1
  have hi72 := r1.1.1.2.2.2.2.1
  have hi73 := r1.1.1.2.2.2.2.2
  have hb54 := r1.1.2.1
  have hb55 := r1.1.2.2.1
  have hb56 := r1.1.2.2.2
  have r2 := r1.2
  clear r1
  have hi74 := r2.1.1
  have hi75 := r2.1.2.1
  have hi76 := r2.1.2.2
  have hb57 := r2.2.1
  have hb58 := r2.2.2.1
  have hb59 := r2.2.2.2
  have q50 : tabF T27 50 [i28, i29, i30] [b21, b22, b23] = ([0, 0, i30 - 1], [b21, b22, false]) := by rw [t28, t29, u23]; exact y4
  exact ⟨hi49.trans y1.1, gi hi74 q50, gi hi75 q50, gi hi76 q50, trivial, hb40.trans y1.2.1, gb hb59 q50, trivial⟩
theorem H23 (i0 i1 i2 i3 i4 i5 i6 i7 i8 i9 i10 i11 i12 i13 i14 i15 i16 i17 i18 i19 i20 i21 i22 i23 i24 i25 i26 i27 i28 i29 i30 i31 i32 i33 i34 i35 i36 i37 i38 i39 i40 i41 i42 i43 i44 i45 : Int) (b0 b1 b2 b3 b4 b5 b6 b7 b8 b9 b10 b11 b12 b13 b14 b15 b16 b17 b18 b19 b20 b21 b22 b23 b24 b25 b26 b27 b28 b29 b30 b31 b32 b33 b34 b35 : Bool) (h : Ck i0 i1 i2 i3 i4 i5 i6 i7 i8 i9 i10 i11 i12 i13 i14 i15 i16 i17 i18 i19 i20 i21 i22 i23 i24 i25 i26 i27 i28 i29 i30 i31 i32 i33 i34) (t28 : i28 = 0) (t29 : i29 = 0) (t30 : 0 < i30) (u23 : b23 = false) (t3 : 0 < i3 ∧ i3 < 256) (t31 : 0 < i31 ∧ i31 < 256) (u4 : b4 = false) (u24 : b24 = false) : (F23 [i0, i1, i2, i3, i4, i5, i6, i7, i8, i9, i10, i11, i12, i13, i14, i15, i16, i17, i18, i19, i20, i21, i22, i23, i24, i25, i26, i27, i28, i29, i30, i31, i32, i33, i34, i35, i36, i37, i38, i39, i40, i41, i42, i43, i44, i45] [b0, b1, b2, b3, b4, b5, b6, b7, b8, b9, b10, b11, b12, b13, b14, b15, b16, b17, b18, b19, b20, b21, b22, b23, b24, b25, b26, b27, b28, b29, b30, b31, b32, b33, b34, b35]).1.getD 3 0 = i3 - 1 ∧ (F23 [i0, i1, i2, i3, i4, i5, i6, i7, i8, i9, i10, i11, i12, i13, i14, i15, i16, i17, i18, i19, i20, i21, i22, i23, i24, i25, i26, i27, i28, i29, i30, i31, i32, i33, i34, i35, i36, i37, i38, i39, i40, i41, i42, i43, i44, i45] [b0, b1, b2, b3, b4, b5, b6, b7, b8, b9, b10, b11, b12, b13, b14, b15, b16, b17, b18, b19, b20, b21, b22, b23, b24, b25, b26, b27, b28, b29, b30, b31, b32, b33, b34, b35]).1.getD 28 0 = 0 ∧ (F23 [i0, i1, i2, i3, i4, i5, i6, i7, i8, i9, i10, i11, i12, i13, i14, i15, i16, i17, i18, i19, i20, i21, i22, i23, i24, i25, i26, i27, i28, i29, i30, i31, i32, i33, i34, i35, i36, i37, i38, i39, i40, i41, i42, i43, i44, i45] [b0, b1, b2, b3, b4, b5, b6, b7, b8, b9, b10, b11, b12, b13, b14, b15, b16, b17, b18, b19, b20, b21, b22, b23, b24, b25, b26, b27, b28, b29, b30, b31, b32, b33, b34, b35]).1.getD 29 0 = 0 ∧ (F23 [i0, i1, i2, i3, i4, i5, i6, i7, i8, i9, i10, i11, i12, i13, i14, i15, i16, i17, i18, i19, i20, i21, i22, i23, i24, i25, i26, i27, i28, i29, i30, i31, i32, i33, i34, i35, i36, i37, i38, i39, i40, i41, i42, i43, i44, i45] [b0, b1, b2, b3, b4, b5, b6, b7, b8, b9, b10, b11, b12, b13, b14, b15, b16, b17, b18, b19, b20, b21, b22, b23, b24, b25, b26, b27, b28, b29, b30, b31, b32, b33, b34, b35]).1.getD 30 0 = i30 - 1 ∧ (F23 [i0, i1, i2, i3, i4, i5, i6, i7, i8, i9, i10, i11, i12, i13, i14, i15, i16, i17, i18, i19, i20, i21, i22, i23, i24, i25, i26, i27, i28, i29, i30, i31, i32, i33, i34, i35, i36, i37, i38, i39, i40, i41, i42, i43, i44, i45] [b0, b1, b2, b3, b4, b5, b6, b7, b8, b9, b10, b11, b12, b13, b14, b15, b16, b17, b18, b19, b20, b21, b22, b23, b24, b25, b26, b27, b28, b29, b30, b31, b32, b33, b34, b35]).1.getD 31 0 = i31 - 1 ∧ (F23 [i0, i1, i2, i3, i4, i5, i6, i7, i8, i9, i10, i11, i12, i13, i14, i15, i16, i17, i18, i19, i20, i21, i22, i23, i24, i25, i26, i27, i28, i29, i30, i31, i32, i33, i34, i35, i36, i37, i38, i39, i40, i41, i42, i43, i44, i45] [b0, b1, b2, b3, b4, b5, b6, b7, b8, b9, b10, b11, b12, b13, b14, b15, b16, b17, b18, b19, b20, b21, b22, b23, b24, b25, b26, b27, b28, b29, b30, b31, b32, b33, b34, b35]).2.getD 5 false = false ∧ (F23 [i0, i1, i2, i3, i4, i5, i6, i7, i8, i9, i10, i11, i12, i13, i14, i15, i16, i17, i18, i19, i20, i21, i22, i23, i24, i25, i26, i27, i28, i29, i30, i31, i32, i33, i34, i35, i36, i37, i38, i39, i40, i41, i42, i43, i44, i45] [b0, b1, b2, b3, b4, b5, b6, b7, b8, b9, b10, b11, b12, b13, b14, b15, b16, b17, b18, b19, b20, b21, b22, b23, b24, b25, b26, b27, b28, b29, b30, b31, b32, b33, b34, b35]).2.getD 24 false = false ∧ (F23 [i0, i1, i2, i3, i4, i5, i6, i7, i8, i9, i10, i11, i12, i13, i14, i15, i16, i17, i18, i19, i20, i21, i22, i23, i24, i25, i26, i27, i28, i29, i30, i31, i32, i33, i34, i35, i36, i37, i38, i39, i40, i41, i42, i43, i44, i45] [b0, b1, b2, b3, b4, b5, b6, b7, b8, b9, b10, b11, b12, b13, b14, b15, b16, b17, b18, b19, b20, b21, b22, b23, b24, b25, b26, b27, b28, b29, b30, b31, b32, b33, b34, b35]).2.getD 25 false = false := by
  have e := Q28 i0 i1 i2 i3 i4 i5 i6 i7 i8 i9 i10 i11 i12 i13 i14 i15 i16 i17 i18 i19 i20 i21 i22 i23 i24 i25 i26 i27 i28 i29 i30 i31 i32 i33 i34 i35 i36 i37 i38 i39 i40 i41 i42 i43 i44 i45 b0 b1 b2 b3 b4 b5 b6 b7 b8 b9 b10 b11 b12 b13 b14 b15 b16 b17 b18 b19 b20 b21 b22 b23 b24 b25 b26 b27 b28 b29 b30 b31 b32 b33 b34 b35 h t28 t29 t30 u23
  obtain ⟨c, x, hQ, h1, h2, h3, h4⟩ := kp28F i0 i1 i2 i3 i4 i5 i6 i7 i8 i9 i10 i11 i12 i13 i14 i15 i16 i17 i18 i19 i20 i21 i22 i23 i24 i25 i26 i27 i28 i29 i30 i31 i32 i33 i34 i35 i36 i37 i38 i39 i40 i41 i42 i43 i44 i45 b0 b1 b2 b3 b4 b5 b6 b7 b8 b9 b10 b11 b12 b13 b14 b15 b16 b17 b18 b19 b20 b21 b22 b23 b24 b25 b26 b27 b28 b29 b30 b31 b32 b33 b34 b35 h
  rw [hQ] at e
  have a3 : c 3 = i3 := e.1
  have a28 : c 28 = 0 := e.2.1
  have a29 : c 29 = 0 := e.2.2.1
  have a30 : c 30 = i30 - 1 := e.2.2.2.1
  have a31 : c 31 = i31 := e.2.2.2.2.1
  have z4 : x 4 = b4 := e.2.2.2.2.2.1
  have z23 : x 23 = false := e.2.2.2.2.2.2.1
  have z24 : x 24 = b24 := e.2.2.2.2.2.2.2
  clear e h
  have y1 := m_45 (c 0) (c 1) (c 2) (c 3) (c 4) (c 5) (c 6) (c 7) (c 8) (c 9) (c 10) (x 0) (x 1) (x 2) (x 3) (x 4) (x 5) (x 6) (x 7) (x 8) (Pk_nn h1).1 (Pk_nn h1).2.1 (Pk_nn h1).2.2.1 (Pk_nn h1).2.2.2.1 (Pk_nn h1).2.2.2.2.1 (Pk_nn h1).2.2.2.2.2.1 (Pk_nn h1).2.2.2.2.2.2.1 (Pk_nn h1).2.2.2.2.2.2.2.1 (Pk_nn h1).2.2.2.2.2.2.2.2.1 (Pk_nn h1).2.2.2.2.2.2.2.2.2.1 (Pk_nn h1).2.2.2.2.2.2.2.2.2.2 (Pk_ok h1)
  unfold F23
  obtain ⟨ρ, e1, e2, e3, e4⟩ := Smry.run_specT (Φ := tabF T30) (S := S23) (is := [i0, i1, i2, i3, i4, i5, i6, i7, i8, i9, i10, i11, i12, i13, i14, i15, i16, i17, i18, i19, i20, i21, i22, i23, i24, i25, i26, i27, i28, i29, i30, i31, i32, i33, i34, i35, i36, i37, i38, i39, i40, i41, i42, i43, i44, i45]) (bs := [b0, b1, b2, b3, b4, b5, b6, b7, b8, b9, b10, b11, b12, b13, b14, b15, b16, b17, b18, b19, b20, b21, b22, b23, b24, b25, b26, b27, b28, b29, b30, b31, b32, b33, b34, b35]) rfl
  rw [e1, obAll_eq]
  clear e1
  simp only [S23, obs, Gd.d_cons, Gd.d_nil, eqns, Em.eqn, headsI, headsB, RI.d, RB.d, A.d, B.d, cm_eql, cm_neq, cm_lss, cm_leq, cm_gtr, cm_geq, List.map_cons, List.map_nil, and_true, Nat.zero_add, Nat.reduceAdd, ltn, upto, true_and, Nat.add_zero, List.getD_cons_zero, List.getD_cons_succ, add8, sub8, add16, sub16, mul16, wrap_u8, wrap_u16, and8_1, and8_7, and8_8, and8_15, and8_16, and8_31, and8_32, and8_64, and8_127, and8_128, and16_1, and16_255, and16_1792, shr8_1, shr8_3, shr8_4, shr8_6, shr16_1, shr16_6, shr16_8, shl16_8, shl16_14] at e2 e3 e4 ⊢
  simp only [e2, e3] at e4 ⊢
  clear e2 e3
  have hi46 := e4.1.1.1
  have hi47 := e4.1.1.2.1
  have hi48 := e4.1.1.2.2.1
  have hi49 := e4.1.1.2.2.2.1
  have hi50 := e4.1.1.2.2.2.2.1
  have hi51 := e4.1.1.2.2.2.2.2.1
  have hi52 := e4.1.1.2.2.2.2.2.2.1
  have hi53 := e4.1.1.2.2.2.2.2.2.2.1
  have hi54 := e4.1.1.2.2.2.2.2.2.2.2.1
  have hi55 := e4.1.1.2.2.2.2.2.2.2.2.2.1
  have hi56 := e4.1.1.2.2.2.2.2.2.2.2.2.2.1
  have hi57 := e4.1.1.2.2.2.2.2.2.2.2.2.2.2.1
  have hi58 := e4.1.1.2.2.2.2.2.2.2.2.2.2.2.2.1
  have hi59 := e4.1.1.2.2.2.2.2.2.2.2.2.2.2.2.2.1
  have hi60 := e4.1.1.2.2.2.2.2.2.2.2.2.2.2.2.2.2.1
  have hi61 := e4.1.1.2.2.2.2.2.2.2.2.2.2.2.2.2.2.2.1
  have hi62 := e4.1.1.2.2.2.2.2.2.2.2.2.2.2.2.2.2.2.2.1
  have hi63 := e4.1.1.2.2.2.2.2.2.2.2.2.2.2.2.2.2.2.2.2.1
  have hi64 := e4.1.1.2.2.2.2.2.2.2.2.2.2.2.2.2.2.2.2.2.2.1
  have hi65 := e4.1.1.2.2.2.2.2.2.2.2.2.2.2.2.2.2.2.2.2.2.2.1
  have hi66 := e4.1.1.2.2.2.2.2.2.2.2.2.2.2.2.2.2.2.2.2.2.2.2.1
  have hi67 := e4.1.1.2.2.2.2.2.2.2.2.2.2.2.2.2.2.2.2.2.2.2.2.2.1
  have hi68 := e4.1.1.2.2.2.2.2.2.2.2.2.2.2.2.2.2.2.2.2.2.2.2.2.2.1
  have hi69 := e4.1.1.2.2.2.2.2.2.2.2.2.2.2.2.2.2.2.2.2.2.2.2.2.2.2.1
  have hi70 := e4.1.1.2.2.2.2.2.2.2.2.2.2.2.2.2.2.2.2.2.2.2.2.2.2.2.2.1
  have hi71 := e4.1.1.2.2.2.2.2.2.2.2.2.2.2.2.2.2.2.2.2.2.2.2.2.2.2.2.2.1
  have hi72 := e4.1.1.2.2.2.2.2.2.2.2.2.2.2.2.2.2.2.2.2.2.2.2.2.2.2.2.2.2.1
  have hi73 := e4.1.1.2.2.2.2.2.2.2.2.2.2.2.2.2.2.2.2.2.2.2.2.2.2.2.2.2.2.2.1
  have hi74 := e4.1.1.2.2.2.2.2.2.2.2.2.2.2.2.2.2.2.2.2.2.2.2.2.2.2.2.2.2.2.2.1
  have hi75 := e4.1.1.2.2.2.2.2.2.2.2.2.2.2.2.2.2.2.2.2.2.2.2.2.2.2.2.2.2.2.2.2.1
  have hi76 := e4.1.1.2.2.2.2.2.2.2.2.2.2.2.2.2.2.2.2.2.2.2.2.2.2.2.2.2.2.2.2.2.2.1
  have hi77 := e4.1.1.2.2.2.2.2.2.2.2.2.2.2.2.2.2.2.2.2.2.2.2.2.2.2.2.2.2.2.2.2.2.2.1
  have hi78 := e4.1.1.2.2.2.2.2.2.2.2.2.2.2.2.2.2.2.2.2.2.2.2.2.2.2.2.2.2.2.2.2.2.2.2.1
  have hi79 := e4.1.1.2.2.2.2.2.2.2.2.2.2.2.2.2.2.2.2.2.2.2.2.2.2.2.2.2.2.2.2.2.2.2.2.2.1
  have hi80 := e4.1.1.2.2.2.2.2.2.2.2.2.2.2.2.2.2.2.2.2.2.2.2.2.2.2.2.2.2.2.2.2.2.2.2.2.2.1
  have hi81 := e4.1.1.2.2.2.2.2.2.2.2.2.2.2.2.2.2.2.2.2.2.2.2.2.2.2.2.2.2.2.2.2.2.2.2.2.2.2.1
  have hi82 := e4.1.1.2.2.2.2.2.2.2.2.2.2.2.2.2.2.2.2.2.2.2.2.2.2.2.2.2.2.2.2.2.2.2.2.2.2.2.2.1
  have hi83 := e4.1.1.2.2.2.2.2.2.2.2.2.2.2.2.2.2.2.2.2.2.2.2.2.2.2.2.2.2.2.2.2.2.2.2.2.2.2.2.2.1
  have hi84 := e4.1.1.2.2.2.2.2.2.2.2.2.2.2.2.2.2.2.2.2.2.2.2.2.2.2.2.2.2.2.2.2.2.2.2.2.2.2.2.2.2.1
  have hi85 := e4.1.1.2.2.2.2.2.2.2.2.2.2.2.2.2.2.2.2.2.2.2.2.2.2.2.2.2.2.2.2.2.2.2.2.2.2.2.2.2.2.2.1
  have hi86 := e4.1.1.2.2.2.2.2.2.2.2.2.2.2.2.2.2.2.2.2.2.2.2.2.2.2.2.2.2.2.2.2.2.2.2.2.2.2.2.2.2.2.2.1
  have hi87 := e4.1.1.2.2.2.2.2.2.2.2.2.2.2.2.2.2.2.2.2.2.2.2.2.2.2.2.2.2.2.2.2.2.2.2.2.2.2.2.2.2.2.2.2.1
  have hi88 := e4.1.1.2.2.2.2.2.2.2.2.2.2.2.2.2.2.2.2.2.2.2.2.2.2.2.2.2.2.2.2.2.2.2.2.2.2.2.2.2.2.2.2.2.2.1
  have hi89 := e4.1.1.2.2.2.2.2.2.2.2.2.2.2.2.2.2.2.2.2.2.2.2.2.2.2.2.2.2.2.2.2.2.2.2.2.2.2.2.2.2.2.2.2.2.2.1
  have hi90 := e4.1.1.2.2.2.2.2.2.2.2.2.2.2.2.2.2.2.2.2.2.2.2.2.2.2.2.2.2.2.2.2.2.2.2.2.2.2.2.2.2.2.2.2.2.2.2.1
  have hi91 := e4.1.1.2.2.2.2.2.2.2.2.2.2.2.2.2.2.2.2.2.2.2.2.2.2.2.2.2.2.2.2.2.2.2.2.2.2.2.2.2.2.2.2.2.2.2.2.2
  have hb36 := e4.1.2.1
  have hb37 := e4.1.2.2.1
  have hb38 := e4.1.2.2.2.1
  have hb39 := e4.1.2.2.2.2.1
  have hb40 := e4.1.2.2.2.2.2.1
  have hb41 := e4.1.2.2.2.2.2.2.1
  have hb42 := e4.1.2.2.2.2.2.2.2.1
  have hb43 := e4.1.2.2.2.2.2.2.2.2.1
  have hb44 := e4.1.2.2.2.2.2.2.2.2.2.1
  have hb45 := e4.1.2.2.2.2.2.2.2.2.2.2.1
  have hb46 := e4.1.2.2.2.2.2.2.2.2.2.2.2.1
  have hb47 := e4.1.2.2.2.2.2.2.2.2.2.2.2.2.1
  have hb48 := e4.1.2.2.2.2.2.2.2.2.2.2.2.2.2.1
  have hb49 := e4.1.2.2.2.2.2.2.2.2.2.2.2.2.2.2.1
  have hb50 := e4.1.2.2.2.2.2.2.2.2.2.2.2.2.2.2.2.1
  have hb51 := e4.1.2.2.2.2.2.2.2.2.2.2.2.2.2.2.2.2.1
  have hb52 := e4.1.2.2.2.2.2.2.2.2.2.2.2.2.2.2.2.2.2.1
  have hb53 := e4.1.2.2.2.2.2.2.2.2.2.2.2.2.2.2.2.2.2.2.1
  have hb54 := e4.1.2.2.2.2.2.2.2.2.2.2.2.2.2.2.2.2.2.2.2.1
  have hb55 := e4.1.2.2.2.2.2.2.2.2.2.2.2.2.2.2.2.2.2.2.2.2.1
  have hb56 := e4.1.2.2.2.2.2.2.2.2.2.2.2.2.2.2.2.2.2.2.2.2.2.1
  have hb57 := e4.1.2.2.2.2.2.2.2.2.2.2.2.2.2.2.2.2.2.2.2.2.2.2.1
  have hb58 := e4.1.2.2.2.2.2.2.2.2.2.2.2.2.2.2.2.2.2.2.2.2.2.2.2.1
  have hb59 := e4.1.2.2.2.2.2.2.2.2.2.2.2.2.2.2.2.2.2.2.2.2.2.2.2.2.1
  have hb60 := e4.1.2.2.2.2.2.2.2.2.2.2.2.2.2.2.2.2.2.2.2.2.2.2.2.2.2.1
  have hb61 := e4.1.2.2.2.2.2.2.2.2.2.2.2.2.2.2.2.2.2.2.2.2.2.2.2.2.2.2.1
  have hb62 := e4.1.2.2.2.2.2.2.2.2.2.2.2.2.2.2.2.2.2.2.2.2.2.2.2.2.2.2.2.1
  have hb63 := e4.1.2.2.2.2.2.2.2.2.2.2.2.2.2.2.2.2.2.2.2.2.2.2.2.2.2.2.2.2.1
  have hb64 := e4.1.2.2.2.2.2.2.2.2.2.2.2.2.2.2.2.2.2.2.2.2.2.2.2.2.2.2.2.2.2.1
  have hb65 := e4.1.2.2.2.2.2.2.2.2.2.2.2.2.2.2.2.2.2.2.2.2.2.2.2.2.2.2.2.2.2.2.1
  have hb66 := e4.1.2.2.2.2.2.2.2.2.2.2.2.2.2.2.2.2.2.2.2.2.2.2.2.2.2.2.2.2.2.2.2.1
  have hb67 := e4.1.2.2.2.2.2.2.2.2.2.2.2.2.2.2.2.2.2.2.2.2.2.2.2.2.2.2.2.2.2.2.2.2.1
  have hb68 := e4.1.2.2.2.2.2.2.2.2.2.2.2.2.2.2.2.2.2.2.2.2.2.2.2.2.2.2.2.2.2.2.2.2.2.1
  have hb69 := e4.1.2.2.2.2.2.2.2.2.2.2.2.2.2.2.2.2.2.2.2.2.2.2.2.2.2.2.2.2.2.2.2.2.2.2.1
  have hb70 := e4.1.2.2.2.2.2.2.2.2.2.2.2.2.2.2.2.2.2.2.2.2.2.2.2.2.2.2.2.2.2.2.2.2.2.2.2.1
  have hb71 := e4.1.2.2.2.2.2.2.2.2.2.2.2.2.2.2.2.2.2.2.2.2.2.2.2.2.2.2.2.2.2.2.2.2.2.2.2.2
  have r0 := e4.2
  clear e4
  have hi92 := r0.1.1.1
  have hi93 := r0.1.1.2.1
  have hi94 := r0.1.1.2.2.1
  have hi95 := r0.1.1.2.2.2.1
  have hi96 := r0.1.1.2.2.2.2.1
  have hi97 := r0.1.1.2.2.2.2.2.1
  have hi98 := r0.1.1.2.2.2.2.2.2.1
  have hi99 := r0.1.1.2.2.2.2.2.2.2.1
  have hi100 := r0.1.1.2.2.2.2.2.2.2.2.1
  have hi101 := r0.1.1.2.2.2.2.2.2.2.2.2.1
  have hi102 := r0.1.1.2.2.2.2.2.2.2.2.2.2
  have hb72 := r0.1.2.1
  have hb73 := r0.1.2.2.1
  have hb74 := r0.1.2.2.2.1
  have hb75 := r0.1.2.2.2.2.1
  have hb76 := r0.1.2.2.2.2.2.1
  have hb77 := r0.1.2.2.2.2.2.2.1
  have hb78 := r0.1.2.2.2.2.2.2.2.1
  have hb79 := r0.1.2.2.2.2.2.2.2.2.1
  have hb80 := r0.1.2.2.2.2.2.2.2.2.2.1
  have hb81 := r0.1.2.2.2.2.2.2.2.2.2.2
  have r1 := r0.2
  clear r0
  have hi103 := r1.1.1.1
  have hi104 := r1.1.1.2.1
  have hi105 := r1.1.1.2.2.1
  have hi106 := r1.1.1.2.2.2.1
  have hi107 := r1.1.1.2.2.2.2.1
  have hi108 := r1.1.1.2.2.2.2.2.1
  have hi109 := r1.1.1.2.2.2.2.2.2.1
  have hi110 := r1.1.1.2.2.2.2.2.2.2.1
  have hi111 := r1.1.1.2.2.2.2.2.2.2.2.1
  have hi112 := r1.1.1.2.2.2.2.2.2.2.2.2.1
  have hi113 := r1.1.1.2.2.2.2.2.2.2.2.2.2
  have hb82 := r1.1.2.1
  have hb83 := r1.1.2.2.1
  have hb84 := r1.1.2.2.2.1
  have hb85 := r1.1.2.2.2.2.1
  have hb86 := r1.1.2.2.2.2.2.1
  have hb87 := r1.1.2.2.2.2.2.2.1
  have hb88 := r1.1.2.2.2.2.2.2.2.1
  have hb89 := r1.1.2.2.2.2.2.2.2.2.1
  have hb90 := r1.1.2.2.2.2.2.2.2.2.2.1
  have hb91 := r1.1.2.2.2.2.2.2.2.2.2.2
  have r2 := r1.2
  clear r1
  have hi114 := r2.1.1
  have hb92 := r2.1.2.1
  have hb93 := r2.1.2.2
  have r3 := r2.2
  clear r2
  have hi115 := r3.1
  have hb94 := r3.2.1
  have hb95 := r3.2.2
  have hQ' : tabF T30 28 [i0, i1, i2, i3, i4, i5, i6, i7, i8, i9, i10, i11, i12, i13, i14, i15, i16, i17, i18, i19, i20, i21, i22, i23, i24, i25, i26, i27, i28, i29, i30, i31, i32, i33, i34, i35, i36, i37, i38, i39, i40, i41, i42, i43, i44, i45] [b0, b1, b2, b3, b4, b5, b6, b7, b8, b9, b10, b11, b12, b13, b14, b15, b16, b17, b18, b19, b20, b21, b22, b23, b24, b25, b26, b27, b28, b29, b30, b31, b32, b33, b34, b35] = _ := hQ
  have w0 : ρ.i 46 = c 0 := gi hi46 hQ'
  have w1 : ρ.i 47 = c 1 := gi hi47 hQ'
  have w2 : ρ.i 48 = c 2 := gi hi48 hQ'
  have w3 : ρ.i 49 = c 3 := gi hi49 hQ'
  have w4 : ρ.i 50 = c 4 := gi hi50 hQ'
  have w5 : ρ.i 51 = c 5 := gi hi51 hQ'
  have w6 : ρ.i 52 = c 6 := gi hi52 hQ'
  have w7 : ρ.i 53 = c 7 := gi hi53 hQ'
  have w8 : ρ.i 54 = c 8 := gi hi54 hQ'
  have w9 : ρ.i 55 = c 9 := gi hi55 hQ'
  have w10 : ρ.i 56 = c 10 := gi hi56 hQ'
  have w31 : ρ.i 77 = c 31 := gi hi77 hQ'
  have u0_ : ρ.b 36 = x 0 := gb hb36 hQ'
  have u1_ : ρ.b 37 = x 1 := gb hb37 hQ'
  have u2_ : ρ.b 38 = x 2 := gb hb38 hQ'
  have u3_ : ρ.b 39 = x 3 := gb hb39 hQ'
  have u4_ : ρ.b 40 = x 4 := gb hb40 hQ'
  have u5_ : ρ.b 41 = x 5 := gb hb41 hQ'
  have u6_ : ρ.b 42 = x 6 := gb hb42 hQ'
  have u7_ : ρ.b 43 = x 7 := gb hb43 hQ'
  have u8_ : ρ.b 44 = x 8 := gb hb44 hQ'
  have u24_ : ρ.b 60 = x 24 := gb hb60 hQ'
  have u25_ : ρ.b 61 = x 25 := gb hb61 hQ'
  have q1 : tabF T30 45 [ρ.i 46, ρ.i 47, ρ.i 48, ρ.i 49, ρ.i 50, ρ.i 51, ρ.i 52, ρ.i 53, ρ.i 54, ρ.i 55, ρ.i 56] [ρ.b 36, ρ.b 37, ρ.b 38, ρ.b 39, ρ.b 40, ρ.b 41, ρ.b 42, ρ.b 43, ρ.b 44] = F45 [(c 0), (c 1), (c 2), (c 3), (c 4), (c 5), (c 6), (c 7), (c 8), (c 9), (c 10)] [(x 0), (x 1), (x 2), (x 3), (x 4), (x 5), (x 6), (x 7), (x 8)] := by rw [w0, w1, w2, w3, w4, w5, w6, w7, w8, w9, w10, u0_, u1_, u2_, u3_, u4_, u5_, u6_, u7_, u8_]; rfl
  have q4 : tabF T30 46 [ρ.i 77] [ρ.b 60, ρ.b 61] = ([i31 - 1], [false, x 25]) := by rw [w31, u24_, u25_, a31, z24, u24]; exact len46d i31 (x 25) t31
  exact ⟨(gi hi95 q1).trans ((y1.2 (z4.trans u4) (by rw [a3]; exact t3)).trans (by rw [a3])), (gi hi74 hQ').trans a28, (gi hi75 hQ').trans a29, (gi hi76 hQ').trans a30, gi hi115 q4, (gb hb77 q1).trans (y1.1.trans (z4.trans u4)), (gb hb59 hQ').trans z23, gb hb94 q4⟩
end Go.Proofs.YtdpogmikhfgcmaaDoor.Ap
