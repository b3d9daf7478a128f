/-
  ToneAgain: its three loops. WRITTEN BY PROGRAM (wip/gen/td3.py). No condition.
-/
import Derived.Test.YtoempcgniokpiaaDoorTdA
import Derived.Test.YtoempcgniokpiaaDoorTdM
set_option linter.unusedVariables false
set_option linter.unusedSimpArgs false
namespace Go.Proofs.YtoempcgniokpiaaDoor.Td
open Go Go.Proofs.YtoempcgniokpiaaDoor.Sx

theorem nx_nat (s : Bool) (b : Nat) : nx s (b : Int) = ((nxN s b : Nat) : Int) := by
  unfold nx nxN
  cases s <;> simp <;> omega
def Inv3 (n : Nat) (s : Bool) (L x0 x1 x2 x3 x4 : Int) (is : List Int) (bs : List Bool) : Prop := ∃ (i : Int) (y0 y1 y2 y3 y4 : Bool), is = [((n : Nat) : Int), i, x0, x1, x2, x3, x4, 0, ((it s (i - 1).toNat n : Nat) : Int)] ∧ bs = [y0, y1, y2, y3, y4, s] ∧ 1 ≤ i ∧ i ≤ L
theorem it_last (s : Bool) (k n : Nat) : it s (k + 1) n = nxN s (it s k n) := it_add s k 1 n
set_option maxRecDepth 20000 in
theorem step3 (n : Nat) (s : Bool) (L x0 x1 x2 x3 x4 : Int) (hn : 1 ≤ n ∧ n < 32768) (hL : 1 ≤ L ∧ L ≤ 32767) (hr : it s L.toNat n = n) (hm : ∀ j, 1 ≤ j → j < L.toNat → it s j n ≠ n) (h4 : 0 ≤ x4) (hx : okE x0 x1 x2 = true ∧ x4 < 16) (is : List Int) (bs : List Bool) (h : Inv3 n s L x0 x1 x2 x3 x4 is bs) :
    ∃ c rb, (L101202.S.run (tabF T18) true is bs).2 = true :: c :: rb ∧
      (c = false → (fun p : Fl => p.1.getD 0 0 = L) ((L101202.S.run (tabF T18) true is bs).1.drop 9, rb.drop 6)) ∧
      (c = true → Inv3 n s L x0 x1 x2 x3 x4 ((L101202.S.run (tabF T18) true is bs).1.take 9) (rb.take 6) ∧ (L - (((L101202.S.run (tabF T18) true is bs).1.take 9).getD 1 0)).toNat < (L - is.getD 1 0).toNat) := by
  obtain ⟨i, y0, y1, y2, y3, y4, rfl, rfl, i1, i2⟩ := h
  have hb := it_in s (i - 1).toNat n hn
  obtain ⟨cc, hF⟩ := tk48 x0 x1 x2 x3 x4 ((it s (i - 1).toNat n : Nat) : Int) y0 y1 y2 y3 y4 s h4 (by omega) (by
    simp only [okN, okE, Bool.and_eq_true, decide_eq_true_eq] at hx ⊢
    omega)
  rw [nx_nat, ← it_last, show (i - 1).toNat + 1 = i.toNat by omega] at hF
  obtain ⟨ρ, e1, e2, e3, e4⟩ := Smry.run_specT (Φ := tabF T18) (S := L101202.S) (is := [((n : Nat) : Int), i, x0, x1, x2, x3, x4, 0, ((it s (i - 1).toNat n : Nat) : Int)]) (bs := [y0, y1, y2, y3, y4, s]) rfl
  rw [e1, obAll_eq]
  clear e1
  simp only [L101202, obs, Gd.d_cons, Gd.d_nil, eqns, Em.eqn, headsI, headsB, RI.d, RB.d, A.d, B.d, cm_eql, cm_neq, cm_lss, cm_leq, cm_gtr, cm_geq, List.map_cons, List.map_nil, and_true, Nat.zero_add, Nat.reduceAdd, ltn, upto, true_and, Nat.add_zero, List.getD_cons_zero, List.getD_cons_succ, add8, sub8, add16, sub16, mul16, wrap_u8, wrap_u16, and8_1, and8_7, and8_8, and8_15, and8_16, and8_31, and8_32, and8_64, and8_127, and8_128, and16_1, and16_255, and16_1792, shr8_1, shr8_3, shr8_4, shr8_6, shr16_1, shr16_6, shr16_8, shl16_8, shl16_14, add64] at e2 e3 e4 ⊢
  simp only [e2, e3] at e4 ⊢
  clear e2 e3
  have hb6 := e4.1
  have r0 := e4.2
  clear e4
  have hi9 := r0.1.1.1
  have hi10 := r0.1.1.2.1
  have hi11 := r0.1.1.2.2.1
  have hi12 := r0.1.1.2.2.2.1
  have hi13 := r0.1.1.2.2.2.2.1
  have hi14 := r0.1.1.2.2.2.2.2.1
  have hi15 := r0.1.1.2.2.2.2.2.2
  have hb7 := r0.1.2.1
  have hb8 := r0.1.2.2.1
  have hb9 := r0.1.2.2.2.1
  have hb10 := r0.1.2.2.2.2.1
  have hb11 := r0.1.2.2.2.2.2.1
  have hb12 := r0.1.2.2.2.2.2.2.1
  have hb13 := r0.1.2.2.2.2.2.2.2
  have r1 := r0.2
  clear r0
  have hb14 := r1.1
  have r2 := r1.2
  clear r1
  have hi16 := r2.1
  have r3 := r2.2
  clear r2
  have hb15 := r3.1
  have r4 := r3.2
  clear r3
  have hb16 := r4.1
  have r5 := r4.2
  clear r4
  have hb17 := r5.1
  have r6 := r5.2
  clear r5
  have hi17 := r6.1
  have r7 := r6.2
  clear r6
  have hb18 := r7.1
  have r8 := r7.2
  clear r7
  have hb19 := r8.1
  have r9 := r8.2
  clear r8
  have hb20 := r9.1
  have r10 := r9.2
  clear r9
  have hi18 := r10.1
  have r11 := r10.2
  clear r10
  have hi19 := r11.1
  have r12 := r11.2
  clear r11
  have hi20 := r12.1
  have r13 := r12.2
  clear r12
  have hb21 := r13.1
  have r14 := r13.2
  clear r13
  have hb22 := r14.1
  have r15 := r14.2
  clear r14
  have hi21 := r15.1
  have r16 := r15.2
  clear r15
  have hb23 := r16.1
  have r17 := r16.2
  clear r16
  have hi22 := r17.1
  have r18 := r17.2
  clear r17
  have hi23 := r18.1
  have r19 := r18.2
  clear r18
  have hi24 := r19.1
  have r20 := r19.2
  clear r19
  have hb24 := r20.1
  have r21 := r20.2
  clear r20
  have hb25 := r21
  have q : tabF T18 48 [x0, x1, x2, x3, x4, 0, ((it s (i - 1).toNat n : Nat) : Int)] [y0, y1, y2, y3, y4, s] = _ := hF
  have w7 : ρ.b 7 = true := by rw [hb7, q]; rfl
  have w15 : ρ.i 15 = ((it s i.toNat n : Nat) : Int) := by rw [hi15, q]; rfl
  have w6 : ρ.b 6 = true := by rw [hb6]; exact decide_eq_true (by clear hb6 hi9 hi10 hi11 hi12 hi13 hi14 hi15 hb7 hb8 hb9 hb10 hb11 hb12 hb13 hb14 hi16 hb15 hb16 hb17 hi17 hb18 hb19 hb20 hi18 hi19 hi20 hb21 hb22 hi21 hb23 hi22 hi23 hi24 hb24 hb25 q hF; omega)
  have w16 : ρ.i 16 = i + 1 := by rw [hi16]; exact wrap_i64_in (by clear hb6 hi9 hi10 hi11 hi12 hi13 hi14 hi15 hb7 hb8 hb9 hb10 hb11 hb12 hb13 hb14 hi16 hb15 hb16 hb17 hi17 hb18 hb19 hb20 hi18 hi19 hi20 hb21 hb22 hi21 hb23 hi22 hi23 hi24 hb24 hb25 q hF; omega) (by clear hb6 hi9 hi10 hi11 hi12 hi13 hi14 hi15 hb7 hb8 hb9 hb10 hb11 hb12 hb13 hb14 hi16 hb15 hb16 hb17 hi17 hb18 hb19 hb20 hi18 hi19 hi20 hb21 hb22 hi21 hb23 hi22 hi23 hi24 hb24 hb25 q hF; omega)
  have w17 : ρ.i 17 = i := by simp only [hi17, w6, if_true]
  have w25 : ρ.b 25 = !(ρ.b 14) := by rw [hb25, w6, hb24]; rfl
  have u9 : ρ.i 9 = x0 := by rw [hi9, q]; rfl
  have u10 : ρ.i 10 = x1 := by rw [hi10, q]; rfl
  have u11 : ρ.i 11 = x2 := by rw [hi11, q]; rfl
  have u12 : ρ.i 12 = x3 := by rw [hi12, q]; rfl
  have u13 : ρ.i 13 = x4 := by rw [hi13, q]; rfl
  have v13 : ρ.b 13 = s := by rw [hb13, q]; rfl
  refine ⟨ρ.b 25, _, List.cons_eq_cons.2 ⟨?_, rfl⟩, fun hc => ?_, fun hc => ?_⟩
  · simp only [w6, w7]; rfl
  · show ρ.i 17 = L
    rw [w17]
    rw [w25] at hc
    have h14 : ρ.b 14 = true := by simpa using hc
    rw [hb14, w15] at h14
    simp only [beq_iff_eq] at h14
    clear hb6 hi9 hi10 hi11 hi12 hi13 hi14 hi15 hb7 hb8 hb9 hb10 hb11 hb12 hb13 hb14 hi16 hb15 hb16 hb17 hi17 hb18 hb19 hb20 hi18 hi19 hi20 hb21 hb22 hi21 hb23 hi22 hi23 hi24 hb24 hb25 q hF
    rcases Int.lt_or_eq_of_le i2 with hlt | heq
    · exact absurd (by exact_mod_cast h14) (hm i.toNat (by omega) (by omega))
    · exact heq
  · rw [w25] at hc
    have h14 : ρ.b 14 = false := by simpa using hc
    rw [hb14, w15] at h14
    simp only [beq_eq_false_iff_ne, ne_eq] at h14
    have hlt : i < L := by
      clear hb6 hi9 hi10 hi11 hi12 hi13 hi14 hi15 hb7 hb8 hb9 hb10 hb11 hb12 hb13 hb14 hi16 hb15 hb16 hb17 hi17 hb18 hb19 hb20 hi18 hi19 hi20 hb21 hb22 hi21 hb23 hi22 hi23 hi24 hb24 hb25 q hF
      rcases Int.lt_or_eq_of_le i2 with hlt | heq
      · exact hlt
      · subst heq; exact absurd (by exact_mod_cast hr) h14
    refine ⟨⟨i + 1, ρ.b 8, ρ.b 9, ρ.b 10, ρ.b 11, ρ.b 12, ?_, ?_, by clear hb6 hi9 hi10 hi11 hi12 hi13 hi14 hi15 hb7 hb8 hb9 hb10 hb11 hb12 hb13 hb14 hi16 hb15 hb16 hb17 hi17 hb18 hb19 hb20 hi18 hi19 hi20 hb21 hb22 hi21 hb23 hi22 hi23 hi24 hb24 hb25 q hF; omega, by clear hb6 hi9 hi10 hi11 hi12 hi13 hi14 hi15 hb7 hb8 hb9 hb10 hb11 hb12 hb13 hb14 hi16 hb15 hb16 hb17 hi17 hb18 hb19 hb20 hi18 hi19 hi20 hb21 hb22 hi21 hb23 hi22 hi23 hi24 hb24 hb25 q hF; omega⟩, ?_⟩
    · simp only [List.take_succ_cons, List.take_zero, w16, w15, u9, u10, u11, u12, u13]
      rw [show i + 1 - 1 = i by clear hb6 hi9 hi10 hi11 hi12 hi13 hi14 hi15 hb7 hb8 hb9 hb10 hb11 hb12 hb13 hb14 hi16 hb15 hb16 hb17 hi17 hb18 hb19 hb20 hi18 hi19 hi20 hb21 hb22 hi21 hb23 hi22 hi23 hi24 hb24 hb25 q hF; omega]
    · simp only [List.take_succ_cons, List.take_zero, v13]
    · simp only [List.take_succ_cons, List.take_zero, List.getD_cons_zero, List.getD_cons_succ, w16]
      clear hb6 hi9 hi10 hi11 hi12 hi13 hi14 hi15 hb7 hb8 hb9 hb10 hb11 hb12 hb13 hb14 hi16 hb15 hb16 hb17 hi17 hb18 hb19 hb20 hi18 hi19 hi20 hb21 hb22 hi21 hb23 hi22 hi23 hi24 hb24 hb25 q hF
      omega
def Inv2 (is : List Int) (bs : List Bool) : Prop := ∃ i : Int, is = [2, 2, 2, 2, 2, 2, 2, 2, 2, 2, 2, 2, 2, 2, 2, 2, i] ∧ bs = [] ∧ 0 ≤ i ∧ i ≤ 16
set_option maxRecDepth 20000 in
theorem step2 (is : List Int) (bs : List Bool) (h : Inv2 is bs) :
    ∃ c rb, (L101201.S.run (lpF [L101202] (tabF T18)) true is bs).2 = true :: c :: rb ∧
      (c = false → (fun p : Fl => p.2.getD 0 false = false ∧ p.2.getD 1 false = true) ((L101201.S.run (lpF [L101202] (tabF T18)) true is bs).1.drop 17, rb.drop 0)) ∧
      (c = true → Inv2 ((L101201.S.run (lpF [L101202] (tabF T18)) true is bs).1.take 17) (rb.take 0) ∧ (16 - (((L101201.S.run (lpF [L101202] (tabF T18)) true is bs).1.take 17).getD 16 0)).toNat < (16 - is.getD 16 0).toNat) := by
  obtain ⟨i, rfl, rfl, i1, i2⟩ := h
  obtain ⟨ρ, e1, e2, e3, e4⟩ := Smry.run_specT (Φ := lpF [L101202] (tabF T18)) (S := L101201.S) (is := [2, 2, 2, 2, 2, 2, 2, 2, 2, 2, 2, 2, 2, 2, 2, 2, i]) (bs := []) rfl
  rw [e1, obAll_eq]
  clear e1
  simp only [L101201, obs, Gd.d_cons, Gd.d_nil, eqns, Em.eqn, headsI, headsB, RI.d, RB.d, A.d, B.d, cm_eql, cm_neq, cm_lss, cm_leq, cm_gtr, cm_geq, List.map_cons, List.map_nil, and_true, Nat.zero_add, Nat.reduceAdd, ltn, upto, true_and, Nat.add_zero, List.getD_cons_zero, List.getD_cons_succ, add8, sub8, add16, sub16, mul16, wrap_u8, wrap_u16, and8_1, and8_7, and8_8, and8_15, and8_16, and8_31, and8_32, and8_64, and8_127, and8_128, and16_1, and16_255, and16_1792, shr8_1, shr8_3, shr8_4, shr8_6, shr16_1, shr16_6, shr16_8, shl16_8, shl16_14, add64] at e2 e3 e4 ⊢
  simp only [e2, e3] at e4 ⊢
  clear e2 e3
  have hb0 := e4.1
  have r0 := e4.2
  clear e4
  have hb1 := r0.1
  have r1 := r0.2
  clear r0
  have hb2 := r1.1
  have r2 := r1.2
  clear r1
  have hb3 := r2.1
  have r3 := r2.2
  clear r2
  have hb4 := r3.1
  have r4 := r3.2
  clear r3
  have hb5 := r4.1
  have r5 := r4.2
  clear r4
  have hb6 := r5.1
  have r6 := r5.2
  clear r5
  have hb7 := r6.1
  have r7 := r6.2
  clear r6
  have hb8 := r7.1
  have r8 := r7.2
  clear r7
  have hb9 := r8.1
  have r9 := r8.2
  clear r8
  have hb10 := r9.1
  have r10 := r9.2
  clear r9
  have hb11 := r10.1
  have r11 := r10.2
  clear r10
  have hb12 := r11.1
  have r12 := r11.2
  clear r11
  have hb13 := r12.1
  have r13 := r12.2
  clear r12
  have hb14 := r13.1
  have r14 := r13.2
  clear r13
  have hb15 := r14.1
  have r15 := r14.2
  clear r14
  have hb16 := r15.1
  have r16 := r15.2
  clear r15
  have hb17 := r16.1
  have r17 := r16.2
  clear r16
  have hi17 := r17.1
  have r18 := r17.2
  clear r17
  have hi18 := r18.1
  have r19 := r18.2
  clear r18
  have hi19 := r19.1
  have r20 := r19.2
  clear r19
  have hi20 := r20.1
  have r21 := r20.2
  clear r20
  have hi21 := r21.1
  have r22 := r21.2
  clear r21
  have hi22 := r22.1
  have r23 := r22.2
  clear r22
  have hi23 := r23.1
  have r24 := r23.2
  clear r23
  have hi24 := r24.1
  have r25 := r24.2
  clear r24
  have hi25 := r25.1
  have r26 := r25.2
  clear r25
  have hi26 := r26.1
  have r27 := r26.2
  clear r26
  have hi27 := r27.1
  have r28 := r27.2
  clear r27
  have hi28 := r28.1
  have r29 := r28.2
  clear r28
  have hi29 := r29.1
  have r30 := r29.2
  clear r29
  have hi30 := r30.1
  have r31 := r30.2
  clear r30
  have hi31 := r31.1
  have r32 := r31.2
  clear r31
  have hb18 := r32.1
  have r33 := r32.2
  clear r32
  have hi32 := r33.1
  have r34 := r33.2
  clear r33
  have hb19 := r34.1
  have r35 := r34.2
  clear r34
  have hb20 := r35.1
  have r36 := r35.2
  clear r35
  have hb21 := r36.1
  have r37 := r36.2
  clear r36
  have hb22 := r37.1
  have r38 := r37.2
  clear r37
  have hb23 := r38
  have w17 : ρ.i 17 = 2 := by rw [hi17]; exact ite_self _
  have w18 : ρ.i 18 = 2 := by rw [hi18, w17]; exact ite_self _
  have w19 : ρ.i 19 = 2 := by rw [hi19, w18]; exact ite_self _
  have w20 : ρ.i 20 = 2 := by rw [hi20, w19]; exact ite_self _
  have w21 : ρ.i 21 = 2 := by rw [hi21, w20]; exact ite_self _
  have w22 : ρ.i 22 = 2 := by rw [hi22, w21]; exact ite_self _
  have w23 : ρ.i 23 = 2 := by rw [hi23, w22]; exact ite_self _
  have w24 : ρ.i 24 = 2 := by rw [hi24, w23]; exact ite_self _
  have w25 : ρ.i 25 = 2 := by rw [hi25, w24]; exact ite_self _
  have w26 : ρ.i 26 = 2 := by rw [hi26, w25]; exact ite_self _
  have w27 : ρ.i 27 = 2 := by rw [hi27, w26]; exact ite_self _
  have w28 : ρ.i 28 = 2 := by rw [hi28, w27]; exact ite_self _
  have w29 : ρ.i 29 = 2 := by rw [hi29, w28]; exact ite_self _
  have w30 : ρ.i 30 = 2 := by rw [hi30, w29]; exact ite_self _
  have w31 : ρ.i 31 = 2 := by rw [hi31, w30]; exact ite_self _
  have w18_ : ρ.b 18 = false := by rw [hb18, w31]; rfl
  have z20 : ρ.b 20 = true := by rw [hb20, w18_]; rfl
  have z21 : ρ.b 21 = ρ.b 0 := by rw [hb21, z20, Bool.and_true]
  have z22 : ρ.b 22 = false := by rw [hb22, w18_, Bool.and_false]
  have z32 : ρ.i 32 = i + 1 := by rw [hi32]; exact wrap_i64_in (by clear hb0 hb1 hb2 hb3 hb4 hb5 hb6 hb7 hb8 hb9 hb10 hb11 hb12 hb13 hb14 hb15 hb16 hb17 hi17 hi18 hi19 hi20 hi21 hi22 hi23 hi24 hi25 hi26 hi27 hi28 hi29 hi30 hi31 hb18 hi32 hb19 hb20 hb21 hb22 hb23; omega) (by clear hb0 hb1 hb2 hb3 hb4 hb5 hb6 hb7 hb8 hb9 hb10 hb11 hb12 hb13 hb14 hb15 hb16 hb17 hi17 hi18 hi19 hi20 hi21 hi22 hi23 hi24 hi25 hi26 hi27 hi28 hi29 hi30 hi31 hb18 hi32 hb19 hb20 hb21 hb22 hb23; omega)
  have z1 : ρ.b 1 = true := by rw [hb1]; exact decide_eq_true i1
  have z2 : ρ.b 2 = ρ.b 0 := by rw [hb2, hb0]
  refine ⟨ρ.b 21, _, List.cons_eq_cons.2 ⟨?_, rfl⟩, fun hc => ?_, fun hc => ?_⟩
  · rw [z1, z2]; cases ρ.b 0 <;> rfl
  · rw [z21] at hc
    exact ⟨z22, by show ρ.b 23 = true; rw [hb23, hc]; rfl⟩
  · rw [z21, hb0] at hc
    simp only [decide_eq_true_eq] at hc
    refine ⟨⟨i + 1, ?_, rfl, by clear hb0 hb1 hb2 hb3 hb4 hb5 hb6 hb7 hb8 hb9 hb10 hb11 hb12 hb13 hb14 hb15 hb16 hb17 hi17 hi18 hi19 hi20 hi21 hi22 hi23 hi24 hi25 hi26 hi27 hi28 hi29 hi30 hi31 hb18 hi32 hb19 hb20 hb21 hb22 hb23; omega, by clear hb0 hb1 hb2 hb3 hb4 hb5 hb6 hb7 hb8 hb9 hb10 hb11 hb12 hb13 hb14 hb15 hb16 hb17 hi17 hi18 hi19 hi20 hi21 hi22 hi23 hi24 hi25 hi26 hi27 hi28 hi29 hi30 hi31 hb18 hi32 hb19 hb20 hb21 hb22 hb23; omega⟩, ?_⟩
    · simp only [List.take_succ_cons, List.take_zero, z32]
    · simp only [List.take_succ_cons, List.take_zero, List.getD_cons_zero, List.getD_cons_succ, z32]
      clear hb0 hb1 hb2 hb3 hb4 hb5 hb6 hb7 hb8 hb9 hb10 hb11 hb12 hb13 hb14 hb15 hb16 hb17 hi17 hi18 hi19 hi20 hi21 hi22 hi23 hi24 hi25 hi26 hi27 hi28 hi29 hi30 hi31 hb18 hi32 hb19 hb20 hb21 hb22 hb23
      omega
end Go.Proofs.YtoempcgniokpiaaDoor.Td
