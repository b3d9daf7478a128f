/-
  apu: who is off stays silent; who is on and written lasts. WRITTEN BY PROGRAM (wip/gen/ap11.py). No condition.
-/
import Derived.Test.YtdpogmikhfgcmaaDoorApF
set_option linter.unusedVariables false
set_option linter.unusedSimpArgs false
namespace Go.Proofs.YtdpogmikhfgcmaaDoor.Ap
open Go Go.Proofs.YtdpogmikhfgcmaaDoor.Sx

theorem ld40 (i0 i1 : Int) (b0 b1 : Bool) (h1 : 0 ≤ i1 ∧ i1 ≤ 255) : ∃ t, F40 [i0, i1] [b0, b1] = ([if b1 then t else i0], [true, b0, b1]) ∧ 0 < t := by
  unfold F40
  obtain ⟨ρ, e1, e2, e3, e4⟩ := Smry.run_specT (Φ := tabF T37) (S := S40) (is := [i0, i1]) (bs := [b0, b1]) rfl
  rw [e1, obAll_eq]
  clear e1
  simp only [S40, obs, Gd.d_cons, Gd.d_nil, eqns, Em.eqn, headsI, headsB, RI.d, RB.d, A.d, B.d, cm_eql, cm_neq, cm_lss, cm_leq, cm_gtr, cm_geq, List.map_cons, List.map_nil, and_true, Nat.zero_add, Nat.reduceAdd, ltn, upto, true_and, Nat.add_zero, List.getD_cons_zero, List.getD_cons_succ, add8, sub8, add16, sub16, mul16, wrap_u8, wrap_u16, and8_1, and8_7, and8_8, and8_15, and8_16, and8_31, and8_32, and8_64, and8_127, and8_128, and16_1, and16_255, and16_1792, shr8_1, shr8_3, shr8_4, shr8_6, shr16_1, shr16_6, shr16_8, shl16_8, shl16_14, quo8_eq] at e2 e3 e4 ⊢
  simp only [e2, e3] at e4 ⊢
  have ht : ∀ m, m < 32 → 0 < longTab.getD m 0 := by decide +kernel
  have ht := ht (i1 / 8).toNat (by omega)
  refine ⟨longTab.getD (i1 / 8).toNat 0, ?_, ht⟩
  rw [show [10, 254, 20, 2, 40, 4, 80, 6, 160, 8, 60, 10, 14, 12, 26, 14, 12, 16, 24, 18, 48, 20, 96, 22, 192, 24, 72, 26, 16, 28, 32, 30] = longTab by rfl] at e4
  generalize longTab = tb at *
  grind
theorem n_18 (i0 i1 i2 i3 i4 i5 i6 i7 i8 i9 i10 : Int) (b0 b1 b2 b3 b4 b5 b6 b7 b8 : Bool) (i11 i12 : Int) (h0 : 0 ≤ i0) (h1 : 0 ≤ i1) (h2 : 0 ≤ i2) (h3 : 0 ≤ i3) (h4 : 0 ≤ i4) (h5 : 0 ≤ i5) (h6 : 0 ≤ i6) (h7 : 0 ≤ i7) (h8 : 0 ≤ i8) (h9 : 0 ≤ i9) (h10 : 0 ≤ i10) (h12 : 0 ≤ i12 ∧ i12 ≤ 255) (hok : okP i0 i1 i2 i4 i5 i6 i7 i8 i9 i10 = true) : (F18 [i0, i1, i2, i3, i4, i5, i6, i7, i8, i9, i10, i11, i12] [b0, b1, b2, b3, b4, b5, b6, b7, b8]).2.getD 6 false = b5 ∧ (b5 = false → (F18 [i0, i1, i2, i3, i4, i5, i6, i7, i8, i9, i10, i11, i12] [b0, b1, b2, b3, b4, b5, b6, b7, b8]).1.getD 3 0 = i3) ∧ (b5 = true → i11 = 3 → 0 < (F18 [i0, i1, i2, i3, i4, i5, i6, i7, i8, i9, i10, i11, i12] [b0, b1, b2, b3, b4, b5, b6, b7, b8]).1.getD 3 0) := by
  unfold F18
  obtain ⟨ρ, e1, e2, e3, e4⟩ := Smry.run_specT (Φ := tabF T38) (S := S18) (is := [i0, i1, i2, i3, i4, i5, i6, i7, i8, i9, i10, i11, i12]) (bs := [b0, b1, b2, b3, b4, b5, b6, b7, b8]) rfl
  rw [e1, obAll_eq]
  clear e1
  simp only [S18, obs, Gd.d_cons, Gd.d_nil, eqns, Em.eqn, headsI, headsB, RI.d, RB.d, A.d, B.d, cm_eql, cm_neq, cm_lss, cm_leq, cm_gtr, cm_geq, List.map_cons, List.map_nil, and_true, Nat.zero_add, Nat.reduceAdd, ltn, upto, true_and, Nat.add_zero, List.getD_cons_zero, List.getD_cons_succ, add8, sub8, add16, sub16, mul16, wrap_u8, wrap_u16, and8_1, and8_7, and8_8, and8_15, and8_16, and8_31, and8_32, and8_64, and8_127, and8_128, and16_1, and16_255, and16_1792, shr8_1, shr8_3, shr8_4, shr8_6, shr16_1, shr16_6, shr16_8, shl16_8, shl16_14, rem_eq, quo8_eq, quo16_eq] at e2 e3 e4 ⊢
  simp only [e2, e3] at e4 ⊢
  rw [show tabF T38 37 = F37 by rfl, v37, hok] at e4
  simp only [List.getD_cons_zero] at e4
  clear e2 e3
  obtain ⟨t, hL, ht⟩ := ld40 i3 i12 b4 b5 h12
  rw [show tabF T38 40 = F40 by rfl, hL] at e4
  simp only [List.getD_cons_zero, List.getD_cons_succ] at e4
  have hb9 := e4.1
  have r0 := e4.2
  clear e4
  have hb10 := r0.1
  have r1 := r0.2
  clear r0
  have hb11 := r1.1
  have r2 := r1.2
  clear r1
  have hi13 := r2.1
  have r3 := r2.2
  clear r2
  have hi14 := r3.1
  have r4 := r3.2
  clear r3
  have hb12 := r4.1
  have r5 := r4.2
  clear r4
  have hi15 := r5.1
  have r6 := r5.2
  clear r5
  have hb13 := r6.1
  have r7 := r6.2
  clear r6
  have hi16 := r7.1
  have r8 := r7.2
  clear r7
  have hb14 := r8.1
  have r9 := r8.2
  clear r8
  have hi17 := r9.1
  have r10 := r9.2
  clear r9
  have hb15 := r10.1
  have r11 := r10.2
  clear r10
  have hi18 := r11.1
  have r12 := r11.2
  clear r11
  have hi19 := r12.1
  have r13 := r12.2
  clear r12
  have hi20 := r13.1
  have r14 := r13.2
  clear r13
  have hb16 := r14.1
  have r15 := r14.2
  clear r14
  have hi21 := r15.1
  have r16 := r15.2
  clear r15
  have hb17 := r16.1
  have r17 := r16.2
  clear r16
  have hb18 := r17.1
  have r18 := r17.2
  clear r17
  have hb19 := r18.1
  have r19 := r18.2
  clear r18
  have hb20 := r19.1
  have r20 := r19.2
  clear r19
  have hi22 := r20.1
  have r21 := r20.2
  clear r20
  have hi23 := r21.1
  have r22 := r21.2
  clear r21
  have hi24 := r22.1
  have r23 := r22.2
  clear r22
  have hi25 := r23.1
  have r24 := r23.2
  clear r23
  have hi26 := r24.1
  have r25 := r24.2
  clear r24
  have hi27 := r25.1
  have r26 := r25.2
  clear r25
  have hi28 := r26.1
  have r27 := r26.2
  clear r26
  have hi29 := r27.1
  have r28 := r27.2
  clear r27
  have hi30 := r28.1
  have r29 := r28.2
  clear r28
  have hb21 := r29.1
  have r30 := r29.2
  clear r29
  have hi31 := r30.1.1
  have hb22 := r30.1.2.1
  have hb23 := r30.1.2.2.1
  have hb24 := r30.1.2.2.2
  have r31 := r30.2
  clear r30
  have hb25 := r31.1
  have r32 := r31.2
  clear r31
  have hb26 := r32.1
  have r33 := r32.2
  clear r32
  have hb27 := r33.1
  have r34 := r33.2
  clear r33
  have hi32 := r34.1
  have r35 := r34.2
  clear r34
  have hi33 := r35.1
  have r36 := r35.2
  clear r35
  have hb28 := r36.1
  have r37 := r36.2
  clear r36
  have hb29 := r37.1
  have r38 := r37.2
  clear r37
  have hb30 := r38.1
  have r39 := r38.2
  clear r38
  have hi34 := r39.1
  have r40 := r39.2
  clear r39
  have hi35 := r40.1
  have r41 := r40.2
  clear r40
  have hi36 := r41.1
  have r42 := r41.2
  clear r41
  have hb31 := r42.1
  have r43 := r42.2
  clear r42
  have hb32 := r43.1
  have r44 := r43.2
  clear r43
  have hb33 := r44.1
  have r45 := r44.2
  clear r44
  have hi37 := r45.1
  have r46 := r45.2
  clear r45
  have hi38 := r46.1
  have r47 := r46.2
  clear r46
  have hi39 := r47.1
  have r48 := r47.2
  clear r47
  have hb34 := r48.1
  have r49 := r48.2
  clear r48
  have hb35 := r49.1
  have r50 := r49.2
  clear r49
  have hb36 := r50.1
  have r51 := r50.2
  clear r50
  have hi40 := r51.1
  have r52 := r51.2
  clear r51
  have hi41 := r52.1
  have r53 := r52.2
  clear r52
  have hb37 := r53.1
  have r54 := r53.2
  clear r53
  have hb38 := r54.1
  have r55 := r54.2
  clear r54
  have hb39 := r55.1
  have r56 := r55.2
  clear r55
  have hi42 := r56.1
  have r57 := r56.2
  clear r56
  have hb40 := r57.1
  have r58 := r57.2
  clear r57
  have hb41 := r58.1
  have r59 := r58.2
  clear r58
  have hi43 := r59.1
  have r60 := r59.2
  clear r59
  have hi44 := r60.1
  have r61 := r60.2
  clear r60
  have hi45 := r61.1
  have r62 := r61.2
  clear r61
  have hi46 := r62.1
  have r63 := r62.2
  clear r62
  have hb42 := r63.1
  have r64 := r63.2
  clear r63
  have hb43 := r64.1
  have r65 := r64.2
  clear r64
  have hb44 := r65.1
  have r66 := r65.2
  clear r65
  have hi47 := r66.1
  have r67 := r66.2
  clear r66
  have hi48 := r67.1
  have r68 := r67.2
  clear r67
  have hb45 := r68.1
  have r69 := r68.2
  clear r68
  have hb46 := r69.1
  have r70 := r69.2
  clear r69
  have hb47 := r70.1
  have r71 := r70.2
  clear r70
  have hb48 := r71.1
  have r72 := r71.2
  clear r71
  have hi49 := r72.1
  have r73 := r72.2
  clear r72
  have hb49 := r73.1
  have r74 := r73.2
  clear r73
  have hb50 := r74.1
  have r75 := r74.2
  clear r74
  have hi50 := r75.1
  have r76 := r75.2
  clear r75
  have hi51 := r76.1
  have r77 := r76.2
  clear r76
  have hi52 := r77.1
  have r78 := r77.2
  clear r77
  have hi53 := r78.1
  have r79 := r78.2
  clear r78
  have hb51 := r79.1
  have r80 := r79.2
  clear r79
  have hb52 := r80.1
  have r81 := r80.2
  clear r80
  have hb53 := r81.1
  have r82 := r81.2
  clear r81
  have hi54 := r82.1
  have r83 := r82.2
  clear r82
  have hi55 := r83
  refine ⟨?_, ?_, ?_⟩
  · clear hi13 hi14 hb12 hi15 hb13 hi16 hi17 hb15 hi18 hi19 hi20 hb16 hi21 hb20 hi22 hi23 hi24 hi25 hi26 hi27 hi28 hi29 hi30 hi31 hb22 hb23 hb25 hb26 hi32 hi33 hb28 hb29 hi34 hi35 hi36 hb31 hb32 hi37 hi38 hi39 hb34 hb35 hb36 hi40 hi41 hb37 hb38 hb39 hi42 hb40 hi43 hi44 hi45 hi46 hb42 hb43 hb44 hi47 hi48 hb46 hb47 hb48 hi49 hb49 hi50 hi51 hi52 hi53 hb51 hb52 hb53 hi54 hi55
    show ρ.b 50 = b5
    grind
  · clear hi13 hi14 hb12 hi15 hb13 hi16 hi17 hb15 hi18 hi19 hi20 hb16 hi21 hb20 hi22 hi23 hi24 hi25 hi26 hi27 hi28 hi29 hi30 hb22 hb23 hb24 hb25 hb26 hb27 hi33 hb28 hb29 hb30 hi35 hi36 hb31 hb32 hb33 hi38 hi39 hb34 hb35 hb36 hi40 hi41 hb37 hb38 hb39 hi42 hb40 hb41 hi44 hi45 hi46 hb42 hb43 hb44 hi47 hi48 hb46 hb47 hb48 hi49 hb49 hb50 hi51 hi52 hi53 hb51 hb52 hb53 hi54 hi55
    show (b5 = false → ρ.i 50 = i3)
    grind
  · clear hi13 hi14 hb12 hi15 hb13 hi16 hi17 hb15 hi18 hi19 hi20 hb16 hi21 hb20 hi22 hi23 hi24 hi25 hi26 hi27 hi28 hi29 hi30 hb22 hb23 hb24 hb25 hb26 hb27 hi33 hb28 hb29 hb30 hi35 hi36 hb31 hb32 hb33 hi38 hi39 hb34 hb35 hb36 hi40 hi41 hb37 hb38 hb39 hi42 hb40 hb41 hi44 hi45 hi46 hb42 hb43 hb44 hi47 hi48 hb46 hb47 hb48 hi49 hb49 hb50 hi51 hi52 hi53 hb51 hb52 hb53 hi54 hi55
    show (b5 = true → i11 = 3 → 0 < ρ.i 50)
    grind
theorem n_19 (i0 i1 i2 i3 i4 i5 : Int) (b0 b1 b2 : Bool) (i6 i7 : Int) (h0 : 0 ≤ i0) (h1 : 0 ≤ i1) (h2 : 0 ≤ i2) (h3 : 0 ≤ i3) (h4 : 0 ≤ i4) (h5 : 0 ≤ i5) (h7 : 0 ≤ i7 ∧ i7 ≤ 255) (hok : okT i1 i2 i3 i4 i5 = true) : (F19 [i0, i1, i2, i3, i4, i5, i6, i7] [b0, b1, b2]).2.getD 2 false = b1 ∧ (b1 = false → (F19 [i0, i1, i2, i3, i4, i5, i6, i7] [b0, b1, b2]).1.getD 0 0 = i0) ∧ (b1 = true → i6 = 3 → 0 < (F19 [i0, i1, i2, i3, i4, i5, i6, i7] [b0, b1, b2]).1.getD 0 0) := by
  unfold F19
  obtain ⟨ρ, e1, e2, e3, e4⟩ := Smry.run_specT (Φ := tabF T39) (S := S19) (is := [i0, i1, i2, i3, i4, i5, i6, i7]) (bs := [b0, b1, b2]) rfl
  rw [e1, obAll_eq]
  clear e1
  simp only [S19, obs, Gd.d_cons, Gd.d_nil, eqns, Em.eqn, headsI, headsB, RI.d, RB.d, A.d, B.d, cm_eql, cm_neq, cm_lss, cm_leq, cm_gtr, cm_geq, List.map_cons, List.map_nil, and_true, Nat.zero_add, Nat.reduceAdd, ltn, upto, true_and, Nat.add_zero, List.getD_cons_zero, List.getD_cons_succ, add8, sub8, add16, sub16, mul16, wrap_u8, wrap_u16, and8_1, and8_7, and8_8, and8_15, and8_16, and8_31, and8_32, and8_64, and8_127, and8_128, and16_1, and16_255, and16_1792, shr8_1, shr8_3, shr8_4, shr8_6, shr16_1, shr16_6, shr16_8, shl16_8, shl16_14, rem_eq, quo8_eq, quo16_eq] at e2 e3 e4 ⊢
  simp only [e2, e3] at e4 ⊢
  rw [show tabF T39 41 = F41 by rfl, v41, hok] at e4
  simp only [List.getD_cons_zero] at e4
  clear e2 e3
  obtain ⟨t, hL, ht⟩ := ld40 i0 i7 b0 b1 h7
  rw [show tabF T39 40 = F40 by rfl, hL] at e4
  simp only [List.getD_cons_zero, List.getD_cons_succ] at e4
  have hb3 := e4.1
  have r0 := e4.2
  clear e4
  have hb4 := r0.1
  have r1 := r0.2
  clear r0
  have hb5 := r1.1
  have r2 := r1.2
  clear r1
  have hi8 := r2.1
  have r3 := r2.2
  clear r2
  have hb6 := r3.1
  have r4 := r3.2
  clear r3
  have hi9 := r4.1
  have r5 := r4.2
  clear r4
  have hb7 := r5.1
  have r6 := r5.2
  clear r5
  have hb8 := r6.1
  have r7 := r6.2
  clear r6
  have hb9 := r7.1
  have r8 := r7.2
  clear r7
  have hb10 := r8.1
  have r9 := r8.2
  clear r8
  have hi10 := r9.1
  have r10 := r9.2
  clear r9
  have hi11 := r10.1
  have r11 := r10.2
  clear r10
  have hi12 := r11.1
  have r12 := r11.2
  clear r11
  have hi13 := r12.1
  have r13 := r12.2
  clear r12
  have hi14 := r13.1
  have r14 := r13.2
  clear r13
  have hi15 := r14.1
  have r15 := r14.2
  clear r14
  have hi16 := r15.1
  have r16 := r15.2
  clear r15
  have hi17 := r16.1
  have r17 := r16.2
  clear r16
  have hi18 := r17.1
  have r18 := r17.2
  clear r17
  have hb11 := r18.1
  have r19 := r18.2
  clear r18
  have hi19 := r19.1.1
  have hb12 := r19.1.2.1
  have hb13 := r19.1.2.2.1
  have hb14 := r19.1.2.2.2
  have r20 := r19.2
  clear r19
  have hb15 := r20.1
  have r21 := r20.2
  clear r20
  have hb16 := r21.1
  have r22 := r21.2
  clear r21
  have hi20 := r22.1
  have r23 := r22.2
  clear r22
  have hb17 := r23.1
  have r24 := r23.2
  clear r23
  have hb18 := r24.1
  have r25 := r24.2
  clear r24
  have hb19 := r25.1
  have r26 := r25.2
  clear r25
  have hi21 := r26.1
  have r27 := r26.2
  clear r26
  have hb20 := r27.1
  have r28 := r27.2
  clear r27
  have hi22 := r28.1
  have r29 := r28.2
  clear r28
  have hb21 := r29.1
  have r30 := r29.2
  clear r29
  have hb22 := r30.1
  have r31 := r30.2
  clear r30
  have hi23 := r31.1
  have r32 := r31.2
  clear r31
  have hi24 := r32.1
  have r33 := r32.2
  clear r32
  have hb23 := r33.1
  have r34 := r33.2
  clear r33
  have hi25 := r34.1
  have r35 := r34.2
  clear r34
  have hb24 := r35.1
  have r36 := r35.2
  clear r35
  have hb25 := r36.1
  have r37 := r36.2
  clear r36
  have hb26 := r37.1
  have r38 := r37.2
  clear r37
  have hi26 := r38.1
  have r39 := r38.2
  clear r38
  have hi27 := r39.1
  have r40 := r39.2
  clear r39
  have hb27 := r40.1
  have r41 := r40.2
  clear r40
  have hi28 := r41
  refine ⟨?_, ?_, ?_⟩
  · clear hi8 hb6 hi9 hb10 hi10 hi11 hi12 hi13 hi14 hi15 hi16 hi17 hi18 hi19 hb12 hb13 hb15 hi20 hb17 hb18 hi21 hb20 hi22 hb21 hi23 hi24 hb23 hi25 hb25 hi26 hi27 hb27 hi28
    show ρ.b 26 = b1
    grind
  · clear hi8 hb6 hi9 hb10 hi10 hi11 hi12 hi13 hi14 hi15 hi16 hi17 hi18 hb12 hb13 hb14 hb15 hb16 hb17 hb18 hb19 hb20 hi22 hb21 hb22 hi24 hb23 hi25 hb25 hb26 hi27 hb27 hi28
    show (b1 = false → ρ.i 26 = i0)
    grind
  · clear hi8 hb6 hi9 hb10 hi10 hi11 hi12 hi13 hi14 hi15 hi16 hi17 hi18 hb12 hb13 hb14 hb15 hb16 hb17 hb18 hb19 hb20 hi22 hb21 hb22 hi24 hb23 hi25 hb25 hb26 hi27 hb27 hi28
    show (b1 = true → i6 = 3 → 0 < ρ.i 26)
    grind
theorem n_20 (i0 i1 i2 i3 i4 i5 i6 : Int) (b0 b1 b2 b3 b4 b5 : Bool) (i7 i8 : Int) (h0 : 0 ≤ i0) (h1 : 0 ≤ i1) (h2 : 0 ≤ i2) (h3 : 0 ≤ i3) (h4 : 0 ≤ i4) (h5 : 0 ≤ i5) (h6 : 0 ≤ i6) (h8 : 0 ≤ i8 ∧ i8 ≤ 255) (hok : okN i0 i1 i2 i4 i5 i6 = true) : (F20 [i0, i1, i2, i3, i4, i5, i6, i7, i8] [b0, b1, b2, b3, b4, b5]).2.getD 5 false = b4 ∧ (b4 = false → (F20 [i0, i1, i2, i3, i4, i5, i6, i7, i8] [b0, b1, b2, b3, b4, b5]).1.getD 3 0 = i3) ∧ (b4 = true → i7 = 3 → 0 < (F20 [i0, i1, i2, i3, i4, i5, i6, i7, i8] [b0, b1, b2, b3, b4, b5]).1.getD 3 0) := by
  unfold F20
  obtain ⟨ρ, e1, e2, e3, e4⟩ := Smry.run_specT (Φ := tabF T40) (S := S20) (is := [i0, i1, i2, i3, i4, i5, i6, i7, i8]) (bs := [b0, b1, b2, b3, b4, b5]) rfl
  rw [e1, obAll_eq]
  clear e1
  simp only [S20, obs, Gd.d_cons, Gd.d_nil, eqns, Em.eqn, headsI, headsB, RI.d, RB.d, A.d, B.d, cm_eql, cm_neq, cm_lss, cm_leq, cm_gtr, cm_geq, List.map_cons, List.map_nil, and_true, Nat.zero_add, Nat.reduceAdd, ltn, upto, true_and, Nat.add_zero, List.getD_cons_zero, List.getD_cons_succ, add8, sub8, add16, sub16, mul16, wrap_u8, wrap_u16, and8_1, and8_7, and8_8, and8_15, and8_16, and8_31, and8_32, and8_64, and8_127, and8_128, and16_1, and16_255, and16_1792, shr8_1, shr8_3, shr8_4, shr8_6, shr16_1, shr16_6, shr16_8, shl16_8, shl16_14, rem_eq, quo8_eq, quo16_eq] at e2 e3 e4 ⊢
  simp only [e2, e3] at e4 ⊢
  rw [show tabF T40 42 = F42 by rfl, v42 (h6 := h6), hok] at e4
  simp only [List.getD_cons_zero] at e4
  clear e2 e3
  obtain ⟨t, hL, ht⟩ := ld40 i3 i8 b3 b4 h8
  rw [show tabF T40 40 = F40 by rfl, hL] at e4
  simp only [List.getD_cons_zero, List.getD_cons_succ] at e4
  have hb6 := e4.1
  have r0 := e4.2
  clear e4
  have hb7 := r0.1
  have r1 := r0.2
  clear r0
  have hb8 := r1.1
  have r2 := r1.2
  clear r1
  have hi9 := r2.1
  have r3 := r2.2
  clear r2
  have hb9 := r3.1
  have r4 := r3.2
  clear r3
  have hi10 := r4.1
  have r5 := r4.2
  clear r4
  have hb10 := r5.1
  have r6 := r5.2
  clear r5
  have hi11 := r6.1
  have r7 := r6.2
  clear r6
  have hb11 := r7.1
  have r8 := r7.2
  clear r7
  have hi12 := r8.1
  have r9 := r8.2
  clear r8
  have hb12 := r9.1
  have r10 := r9.2
  clear r9
  have hi13 := r10.1
  have r11 := r10.2
  clear r10
  have hb13 := r11.1
  have r12 := r11.2
  clear r11
  have hi14 := r12.1.1
  have hb14 := r12.1.2.1
  have hb15 := r12.1.2.2.1
  have hb16 := r12.1.2.2.2
  have r13 := r12.2
  clear r12
  have hb17 := r13.1
  have r14 := r13.2
  clear r13
  have hb18 := r14.1
  have r15 := r14.2
  clear r14
  have hb19 := r15.1
  have r16 := r15.2
  clear r15
  have hi15 := r16.1
  have r17 := r16.2
  clear r16
  have hb20 := r17.1
  have r18 := r17.2
  clear r17
  have hb21 := r18.1
  have r19 := r18.2
  clear r18
  have hb22 := r19.1
  have r20 := r19.2
  clear r19
  have hi16 := r20.1
  have r21 := r20.2
  clear r20
  have hb23 := r21.1
  have r22 := r21.2
  clear r21
  have hi17 := r22.1
  have r23 := r22.2
  clear r22
  have hb24 := r23.1
  have r24 := r23.2
  clear r23
  have hb25 := r24.1
  have r25 := r24.2
  clear r24
  have hb26 := r25.1
  have r26 := r25.2
  clear r25
  have hi18 := r26.1
  have r27 := r26.2
  clear r26
  have hb27 := r27.1
  have r28 := r27.2
  clear r27
  have hb28 := r28.1
  have r29 := r28.2
  clear r28
  have hi19 := r29.1
  have r30 := r29.2
  clear r29
  have hb29 := r30.1
  have r31 := r30.2
  clear r30
  have hi20 := r31.1
  have r32 := r31.2
  clear r31
  have hb30 := r32.1
  have r33 := r32.2
  clear r32
  have hb31 := r33.1
  have r34 := r33.2
  clear r33
  have hb32 := r34.1
  have r35 := r34.2
  clear r34
  have hb33 := r35.1
  have r36 := r35.2
  clear r35
  have hi21 := r36.1
  have r37 := r36.2
  clear r36
  have hb34 := r37.1
  have r38 := r37.2
  clear r37
  have hb35 := r38.1
  have r39 := r38.2
  clear r38
  have hi22 := r39.1
  have r40 := r39.2
  clear r39
  have hb36 := r40.1
  have r41 := r40.2
  clear r40
  have hi23 := r41
  refine ⟨?_, ?_, ?_⟩
  · clear hi9 hb9 hi10 hb10 hi11 hi12 hb12 hi13 hi14 hb14 hb15 hb17 hb18 hi15 hb20 hb21 hi16 hb23 hi17 hb24 hb25 hb26 hi18 hb27 hi19 hb29 hi20 hb31 hb32 hb33 hi21 hb34 hi22 hb36 hi23
    show ρ.b 35 = b4
    grind
  · clear hi9 hb9 hi10 hb10 hi11 hi12 hb12 hi13 hb14 hb15 hb16 hb17 hb18 hb19 hb20 hb21 hb22 hb23 hi17 hb24 hb25 hb26 hi18 hb27 hb28 hb29 hi20 hb31 hb32 hb33 hi21 hb34 hb35 hb36 hi23
    show (b4 = false → ρ.i 22 = i3)
    grind
  · clear hi9 hb9 hi10 hb10 hi11 hi12 hb12 hi13 hb14 hb15 hb16 hb17 hb18 hb19 hb20 hb21 hb22 hb23 hi17 hb24 hb25 hb26 hi18 hb27 hb28 hb29 hi20 hb31 hb32 hb33 hi21 hb34 hb35 hb36 hi23
    show (b4 = true → i7 = 3 → 0 < ρ.i 22)
    grind
theorem len46z (b0 b1 : Bool) : F46 [0] [b0, b1] = ([0], [b0, b1]) := by
  unfold F46
  obtain ⟨ρ, e1, e2, e3, e4⟩ := Smry.run_spec (Φ := tabF T28) (S := S46) (is := [0]) (bs := [b0, b1]) rfl
  rw [e1]
  clear e1
  simp only [S46, eqns, Em.eqn, headsI, headsB, RI.d, RB.d, A.d, B.d, cm_eql, cm_neq, cm_lss, cm_leq, cm_gtr, cm_geq, List.map_cons, List.map_nil, and_true, Nat.zero_add, Nat.reduceAdd, ltn, upto, true_and, Nat.add_zero, List.getD_cons_zero, List.getD_cons_succ, add8, sub8, add16, sub16, mul16, wrap_u8, wrap_u16, and8_1, and8_7, and8_8, and8_15, and8_16, and8_31, and8_32, and8_64, and8_127, and8_128, and16_1, and16_255, and16_1792, shr8_1, shr8_3, shr8_4, shr8_6, shr16_1, shr16_6, shr16_8, shl16_8, shl16_14] at e2 e3 e4 ⊢
  simp only [e2, e3] at e4 ⊢
  grind
theorem len46b (i0 : Int) (b0 b1 : Bool) : (F46 [i0] [b0, b1]).2 = [b0, b1] := by
  unfold F46
  obtain ⟨ρ, e1, e2, e3, e4⟩ := Smry.run_spec (Φ := tabF T28) (S := S46) (is := [i0]) (bs := [b0, b1]) rfl
  rw [e1]
  clear e1
  simp only [S46, eqns, Em.eqn, headsI, headsB, RI.d, RB.d, A.d, B.d, cm_eql, cm_neq, cm_lss, cm_leq, cm_gtr, cm_geq, List.map_cons, List.map_nil, and_true, Nat.zero_add, Nat.reduceAdd, ltn, upto, true_and, Nat.add_zero, List.getD_cons_zero, List.getD_cons_succ, add8, sub8, add16, sub16, mul16, wrap_u8, wrap_u16, and8_1, and8_7, and8_8, and8_15, and8_16, and8_31, and8_32, and8_64, and8_127, and8_128, and16_1, and16_255, and16_1792, shr8_1, shr8_3, shr8_4, shr8_6, shr16_1, shr16_6, shr16_8, shl16_8, shl16_14] at e2 e3 e4 ⊢
  simp only [e2, e3] at e4 ⊢
theorem n_48 (i0 i1 i2 i3 i4 i5 i6 i7 i8 i9 i10 : Int) (b0 b1 b2 b3 b4 b5 b6 b7 b8 : Bool) (h0 : 0 ≤ i0) (h1 : 0 ≤ i1) (h2 : 0 ≤ i2) (h3 : 0 ≤ i3) (h4 : 0 ≤ i4) (h5 : 0 ≤ i5) (h6 : 0 ≤ i6) (h7 : 0 ≤ i7) (h8 : 0 ≤ i8) (h9 : 0 ≤ i9) (h10 : 0 ≤ i10) (hok : okP i0 i1 i2 i4 i5 i6 i7 i8 i9 i10 = true) : (F48 [i0, i1, i2, i3, i4, i5, i6, i7, i8, i9, i10] [b0, b1, b2, b3, b4, b5, b6, b7, b8]).1.getD 3 0 = i3 ∧ (F48 [i0, i1, i2, i3, i4, i5, i6, i7, i8, i9, i10] [b0, b1, b2, b3, b4, b5, b6, b7, b8]).2.getD 4 false = b4 ∧ (F48 [i0, i1, i2, i3, i4, i5, i6, i7, i8, i9, i10] [b0, b1, b2, b3, b4, b5, b6, b7, b8]).2.getD 5 false = b5 := by
  unfold F48
  obtain ⟨ρ, e1, e2, e3, e4⟩ := Smry.run_spec (Φ := tabF T25) (S := S48) (is := [i0, i1, i2, i3, i4, i5, i6, i7, i8, i9, i10]) (bs := [b0, b1, b2, b3, b4, b5, b6, b7, b8]) rfl
  rw [e1]
  clear e1
  simp only [S48, obs, Gd.d_cons, Gd.d_nil, eqns, Em.eqn, headsI, headsB, RI.d, RB.d, A.d, B.d, cm_eql, cm_neq, cm_lss, cm_leq, cm_gtr, cm_geq, List.map_cons, List.map_nil, and_true, Nat.zero_add, Nat.reduceAdd, ltn, upto, true_and, Nat.add_zero, List.getD_cons_zero, List.getD_cons_succ, add8, sub8, add16, sub16, mul16, wrap_u8, wrap_u16, and8_1, and8_7, and8_8, and8_15, and8_16, and8_31, and8_32, and8_64, and8_127, and8_128, and16_1, and16_255, and16_1792, shr8_1, shr8_3, shr8_4, shr8_6, shr16_1, shr16_6, shr16_8, shl16_8, shl16_14, rem_eq, quo8_eq, quo16_eq] at e2 e3 e4 ⊢
  simp only [e2, e3] at e4 ⊢
  rw [show tabF T25 37 = F37 by rfl, v37, hok] at e4
  simp only [List.getD_cons_zero] at e4
  clear e2 e3
  have hb9 := e4.1
  have r0 := e4.2
  clear e4
  have hi11 := r0.1.1.1
  have hi12 := r0.1.1.2.1
  have hi13 := r0.1.1.2.2
  have hb10 := r0.1.2.1
  have hb11 := r0.1.2.2.1
  have hb12 := r0.1.2.2.2
  have r1 := r0.2
  clear r0
  have hb13 := r1.1
  have r2 := r1.2
  clear r1
  have hb14 := r2.1
  have r3 := r2.2
  clear r2
  have hb15 := r3.1
  have r4 := r3.2
  clear r3
  have hi14 := r4.1
  have r5 := r4.2
  clear r4
  have hi15 := r5.1
  have r6 := r5.2
  clear r5
  have hi16 := r6
  refine ⟨?_, ?_, ?_⟩
  · first | rfl | (intros; assumption) | (simp)
  · first | rfl | (intros; assumption) | (simp)
  · first | rfl | (intros; assumption) | (simp)
theorem n_49 (i0 i1 i2 i3 i4 i5 : Int) (b0 b1 b2 : Bool) (h0 : 0 ≤ i0) (h1 : 0 ≤ i1) (h2 : 0 ≤ i2) (h3 : 0 ≤ i3) (h4 : 0 ≤ i4) (h5 : 0 ≤ i5) (hok : okT i1 i2 i3 i4 i5 = true) : (F49 [i0, i1, i2, i3, i4, i5] [b0, b1, b2]).1.getD 0 0 = i0 ∧ (F49 [i0, i1, i2, i3, i4, i5] [b0, b1, b2]).2.getD 0 false = b0 ∧ (F49 [i0, i1, i2, i3, i4, i5] [b0, b1, b2]).2.getD 1 false = b1 := by
  unfold F49
  obtain ⟨ρ, e1, e2, e3, e4⟩ := Smry.run_spec (Φ := tabF T26) (S := S49) (is := [i0, i1, i2, i3, i4, i5]) (bs := [b0, b1, b2]) rfl
  rw [e1]
  clear e1
  simp only [S49, obs, Gd.d_cons, Gd.d_nil, eqns, Em.eqn, headsI, headsB, RI.d, RB.d, A.d, B.d, cm_eql, cm_neq, cm_lss, cm_leq, cm_gtr, cm_geq, List.map_cons, List.map_nil, and_true, Nat.zero_add, Nat.reduceAdd, ltn, upto, true_and, Nat.add_zero, List.getD_cons_zero, List.getD_cons_succ, add8, sub8, add16, sub16, mul16, wrap_u8, wrap_u16, and8_1, and8_7, and8_8, and8_15, and8_16, and8_31, and8_32, and8_64, and8_127, and8_128, and16_1, and16_255, and16_1792, shr8_1, shr8_3, shr8_4, shr8_6, shr16_1, shr16_6, shr16_8, shl16_8, shl16_14, rem_eq, quo8_eq, quo16_eq] at e2 e3 e4 ⊢
  simp only [e2, e3] at e4 ⊢
  rw [show tabF T26 41 = F41 by rfl, v41, hok] at e4
  simp only [List.getD_cons_zero] at e4
  clear e2 e3
  have hb3 := e4.1
  have r0 := e4.2
  clear e4
  have hb4 := r0.1
  have r1 := r0.2
  clear r0
  have hb5 := r1.1
  have r2 := r1.2
  clear r1
  have hi6 := r2.1
  have r3 := r2.2
  clear r2
  have hi7 := r3.1
  have r4 := r3.2
  clear r3
  have hi8 := r4.1
  have r5 := r4.2
  clear r4
  have hb6 := r5.1
  have r6 := r5.2
  clear r5
  have hb7 := r6.1
  have r7 := r6.2
  clear r6
  have hi9 := r7.1
  have r8 := r7.2
  clear r7
  have hb8 := r8
  refine ⟨?_, ?_, ?_⟩
  · first | rfl | (intros; assumption) | (simp)
  · first | rfl | (intros; assumption) | (simp)
  · first | rfl | (intros; assumption) | (simp)
theorem n_45 (i0 i1 i2 i3 i4 i5 i6 i7 i8 i9 i10 : Int) (b0 b1 b2 b3 b4 b5 b6 b7 b8 : Bool) (h0 : 0 ≤ i0) (h1 : 0 ≤ i1) (h2 : 0 ≤ i2) (h3 : 0 ≤ i3) (h4 : 0 ≤ i4) (h5 : 0 ≤ i5) (h6 : 0 ≤ i6) (h7 : 0 ≤ i7) (h8 : 0 ≤ i8) (h9 : 0 ≤ i9) (h10 : 0 ≤ i10) (hok : okP i0 i1 i2 i4 i5 i6 i7 i8 i9 i10 = true) : (F45 [i0, i1, i2, i3, i4, i5, i6, i7, i8, i9, i10] [b0, b1, b2, b3, b4, b5, b6, b7, b8]).2.getD 6 false = b5 ∧ (i3 = 0 → (F45 [i0, i1, i2, i3, i4, i5, i6, i7, i8, i9, i10] [b0, b1, b2, b3, b4, b5, b6, b7, b8]).1.getD 3 0 = 0) := by
  unfold F45
  obtain ⟨ρ, e1, e2, e3, e4⟩ := Smry.run_specT (Φ := tabF T29) (S := S45) (is := [i0, i1, i2, i3, i4, i5, i6, i7, i8, i9, i10]) (bs := [b0, b1, b2, b3, b4, b5, b6, b7, b8]) rfl
  rw [e1, obAll_eq]
  clear e1
  simp only [S45, obs, Gd.d_cons, Gd.d_nil, eqns, Em.eqn, headsI, headsB, RI.d, RB.d, A.d, B.d, cm_eql, cm_neq, cm_lss, cm_leq, cm_gtr, cm_geq, List.map_cons, List.map_nil, and_true, Nat.zero_add, Nat.reduceAdd, ltn, upto, true_and, Nat.add_zero, List.getD_cons_zero, List.getD_cons_succ, add8, sub8, add16, sub16, mul16, wrap_u8, wrap_u16, and8_1, and8_7, and8_8, and8_15, and8_16, and8_31, and8_32, and8_64, and8_127, and8_128, and16_1, and16_255, and16_1792, shr8_1, shr8_3, shr8_4, shr8_6, shr16_1, shr16_6, shr16_8, shl16_8, shl16_14, rem_eq, quo8_eq, quo16_eq] at e2 e3 e4 ⊢
  simp only [e2, e3] at e4 ⊢
  rw [show tabF T29 37 = F37 by rfl, v37, hok] at e4
  simp only [List.getD_cons_zero] at e4
  clear e2 e3
  have hbb := len46b i3 b4 b5
  rw [show tabF T29 46 = F46 by rfl] at e4
  rw [hbb] at e4
  simp only [List.getD_cons_zero, List.getD_cons_succ] at e4
  have hz : i3 = 0 → (F46 [i3] [b4, b5]).1.getD 0 0 = 0 := fun h => by rw [h, len46z]; rfl
  generalize F46 [i3] [b4, b5] = y46 at *
  have hb9 := e4.1
  have r0 := e4.2
  clear e4
  have hb10 := r0.1
  have r1 := r0.2
  clear r0
  have hi11 := r1.1.1
  have hb11 := r1.1.2.1
  have hb12 := r1.1.2.2
  have r2 := r1.2
  clear r1
  have hb13 := r2.1
  have r3 := r2.2
  clear r2
  have hb14 := r3.1
  have r4 := r3.2
  clear r3
  have hb15 := r4.1
  have r5 := r4.2
  clear r4
  have hb16 := r5.1
  have r6 := r5.2
  clear r5
  have hb17 := r6.1.1
  have hb18 := r6.1.2
  have r7 := r6.2
  clear r6
  have hb19 := r7.1
  have r8 := r7.2
  clear r7
  have hb20 := r8.1
  have r9 := r8.2
  clear r8
  have hi12 := r9.1.1
  have hb21 := r9.1.2
  have r10 := r9.2
  clear r9
  have hi13 := r10.1
  have r11 := r10.2
  clear r10
  have hb22 := r11.1
  have r12 := r11.2
  clear r11
  have hb23 := r12.1
  have r13 := r12.2
  clear r12
  have hi14 := r13.1
  have r14 := r13.2
  clear r13
  have hb24 := r14.1
  have r15 := r14.2
  clear r14
  have hi15 := r15.1
  have r16 := r15.2
  clear r15
  have hb25 := r16.1
  have r17 := r16.2
  clear r16
  have hb26 := r17.1
  have r18 := r17.2
  clear r17
  have hb27 := r18.1
  have r19 := r18.2
  clear r18
  have hi16 := r19.1
  have r20 := r19.2
  clear r19
  have hi17 := r20.1
  have r21 := r20.2
  clear r20
  have hb28 := r21.1
  have r22 := r21.2
  clear r21
  have hi18 := r22
  refine ⟨?_, ?_⟩
  · clear hi11 hb11 hb13 hb14 hb15 hb16 hb17 hb18 hb19 hb20 hi12 hb21 hi13 hb22 hb23 hi14 hb24 hi15 hb26 hi16 hi17 hb28 hi18
    show ρ.b 27 = b5
    grind
  · clear hb11 hb12 hb13 hb14 hb15 hb16 hb17 hb18 hb19 hb20 hi12 hb21 hi13 hb22 hb23 hi14 hb24 hi15 hb26 hb27 hi17 hb28 hi18
    show (i3 = 0 → ρ.i 16 = 0)
    grind
end Go.Proofs.YtdpogmikhfgcmaaDoor.Ap
