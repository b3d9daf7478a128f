/-
  tone: a length's load, and the silence of a length that is over. WRITTEN BY PROGRAM (wip/gen/ta10.py). No condition.
-/
import Derived.Test.YtoempcgniokpiaaDoorTaU
set_option linter.unusedVariables false
set_option linter.unusedSimpArgs false
namespace Go.Proofs.YtoempcgniokpiaaDoor.Ta
open Go Go.Proofs.YtoempcgniokpiaaDoor.Sx

theorem snd0 (i0 i1 i2 i4 i5 i6 i7 i8 i9 i10 : Int) (b0 b1 b2 b3 b4 b5 b6 b7 b8 : Bool) : F65 [i0, i1, i2, 0, i4, i5, i6, i7, i8, i9, i10] [b0, b1, b2, b3, b4, b5, b6, b7, b8] = ([0], [true]) := by
  unfold F65
  obtain ⟨ρ, e1, e2, e3, e4⟩ := Smry.run_specT (Φ := tabF T48) (S := S65) (is := [i0, i1, i2, 0, i4, i5, i6, i7, i8, i9, i10]) (bs := [b0, b1, b2, b3, b4, b5, b6, b7, b8]) rfl
  rw [e1, obAll_eq]
  clear e1
  simp only [S65, obs, Gd.d_cons, Gd.d_nil, eqns, Em.eqn, headsI, headsB, RI.d, RB.d, A.d, B.d, cm_eql, cm_neq, cm_lss, cm_leq, cm_gtr, cm_geq, List.map_cons, List.map_nil, and_true, Nat.zero_add, Nat.reduceAdd, ltn, upto, true_and, Nat.add_zero, List.getD_cons_zero, List.getD_cons_succ, add8, sub8, add16, sub16, mul16, wrap_u8, wrap_u16, and8_1, and8_7, and8_8, and8_15, and8_16, and8_31, and8_32, and8_64, and8_127, and8_128, and16_1, and16_255, and16_1792, shr8_1, shr8_3, shr8_4, shr8_6, shr16_1, shr16_6, shr16_8, shl16_8, shl16_14] at e2 e3 e4 ⊢
  simp only [e2, e3] at e4 ⊢
  have gb9 := e4.1
  have r0 := e4.2
  clear e4
  have gb10 := r0.1
  have r1 := r0.2
  clear r0
  have gb11 := r1.1
  have r2 := r1.2
  clear r1
  have gb12 := r2.1
  have r3 := r2.2
  clear r2
  have gb13 := r3.1.1
  have gb14 := r3.1.2
  have r4 := r3.2
  clear r3
  have gb15 := r4.1
  have r5 := r4.2
  clear r4
  have gb16 := r5.1
  have r6 := r5.2
  clear r5
  have gb17 := r6.1
  have r7 := r6.2
  clear r6
  have gb18 := r7.1
  have r8 := r7.2
  clear r7
  have gb19 := r8.1
  have r9 := r8.2
  clear r8
  have gb20 := r9.1
  have r10 := r9.2
  clear r9
  have gb21 := r10.1
  have r11 := r10.2
  clear r10
  have gb22 := r11.1
  have r12 := r11.2
  clear r11
  have gb23 := r12.1
  have r13 := r12.2
  clear r12
  have gb24 := r13.1
  have r14 := r13.2
  clear r13
  have gb25 := r14.1
  have r15 := r14.2
  clear r14
  have gb26 := r15.1
  have r16 := r15.2
  clear r15
  have gb27 := r16.1
  have r17 := r16.2
  clear r16
  have gb28 := r17.1
  have r18 := r17.2
  clear r17
  have gb29 := r18.1
  have r19 := r18.2
  clear r18
  have gb30 := r19.1
  have r20 := r19.2
  clear r19
  have gb31 := r20.1
  have r21 := r20.2
  clear r20
  have gb32 := r21.1
  have r22 := r21.2
  clear r21
  have gb33 := r22.1
  have r23 := r22.2
  clear r22
  have gb34 := r23.1
  have r24 := r23.2
  clear r23
  have gb35 := r24.1
  have r25 := r24.2
  clear r24
  have gb36 := r25.1
  have r26 := r25.2
  clear r25
  have gb37 := r26.1
  have r27 := r26.2
  clear r26
  have gb38 := r27.1
  have r28 := r27.2
  clear r27
  have gb39 := r28.1
  have r29 := r28.2
  clear r28
  have gb40 := r29.1
  have r30 := r29.2
  clear r29
  have gb41 := r30.1
  have r31 := r30.2
  clear r30
  have gi11 := r31.1
  have r32 := r31.2
  clear r31
  have gb42 := r32.1
  have r33 := r32.2
  clear r32
  have gi12 := r33
  have t11 : ρ.b 11 = true := gb11
  have t12 : ρ.b 12 = true := by rw [gb12, t11, Bool.or_true]
  have t15 : ρ.b 15 = true := by rw [gb15, t12, Bool.true_or]
  have t40 : ρ.b 40 = true := by rw [gb40, t15, Bool.true_or]
  simp [t12, gi12, gb42, t40]
/-- THE LOAD of a pulse that may be. -/
theorem wr61 (i0 i1 i2 i3 i4 i5 i6 i7 i8 i9 i10 i12 : Int) (b0 b1 b2 b3 b4 b5 b6 b7 b8 : Bool) (h0 : 0 ≤ i0) (h1 : 0 ≤ i1) (h2 : 0 ≤ i2) (h3 : 0 ≤ i3) (h4 : 0 ≤ i4) (h5 : 0 ≤ i5) (h6 : 0 ≤ i6) (h7 : 0 ≤ i7) (h8 : 0 ≤ i8) (h9 : 0 ≤ i9) (h10 : 0 ≤ i10) (h12 : 0 ≤ i12 ∧ i12 ≤ 255) (hok : okP i0 i1 i2 i4 i5 i6 i7 i8 i9 i10 = true) :
    ∃ p, F61 [i0, i1, i2, i3, i4, i5, i6, i7, i8, i9, i10, 3, i12] [b0, b1, b2, b3, b4, b5, b6, b7, b8] = ([i0, i1, i2, if b5 then longTab.getD (i12 / 8).toNat 0 else i3, i4, 0, p, i7, i8, i9, i10], [true, b0, b1, b2, true, b4, b5, b6, b7, b8]) ∧ 0 ≤ p ∧ okP i0 i1 i2 i4 0 p i7 i8 i9 i10 = true := by
  unfold F61
  obtain ⟨ρ, e1, e2, e3, e4⟩ := Smry.run_specT (Φ := tabF T38) (S := S61) (is := [i0, i1, i2, i3, i4, i5, i6, i7, i8, i9, i10, 3, i12]) (bs := [b0, b1, b2, b3, b4, b5, b6, b7, b8]) rfl
  rw [e1, obAll_eq]
  clear e1
  simp only [S61, obs, Gd.d_cons, Gd.d_nil, eqns, Em.eqn, headsI, headsB, RI.d, RB.d, A.d, B.d, cm_eql, cm_neq, cm_lss, cm_leq, cm_gtr, cm_geq, List.map_cons, List.map_nil, and_true, Nat.zero_add, Nat.reduceAdd, ltn, upto, true_and, Nat.add_zero, List.getD_cons_zero, List.getD_cons_succ, add8, sub8, add16, sub16, mul16, wrap_u8, wrap_u16, and8_1, and8_7, and8_8, and8_15, and8_16, and8_31, and8_32, and8_64, and8_127, and8_128, and16_1, and16_255, and16_1792, shr8_1, shr8_3, shr8_4, shr8_6, shr16_1, shr16_6, shr16_8, shl16_8, shl16_14, rem_eq] at e2 e3 e4 ⊢
  simp only [e2, e3] at e4 ⊢
  rw [show tabF T38 37 = F37 by rfl, v37, show tabF T38 80 = F80 by rfl, l80 (h1 := h12)] at e4
  rw [hok] at e4
  simp only [List.getD_cons_zero, List.getD_cons_succ] at e4
  generalize longTab.getD (i12 / 8).toNat 0 = tb at *
  simp only [okP, okE, Bool.and_eq_true, decide_eq_true_eq] at hok ⊢
  have gb9 := e4.1
  have r0 := e4.2
  clear e4
  have gb10 := r0.1
  have r1 := r0.2
  clear r0
  have gb11 := r1.1
  have r2 := r1.2
  clear r1
  have gi13 := r2.1
  have r3 := r2.2
  clear r2
  have gi14 := r3.1
  have r4 := r3.2
  clear r3
  have gi15 := r4.1
  have r5 := r4.2
  clear r4
  have gb12 := r5.1
  have r6 := r5.2
  clear r5
  have gi16 := r6.1
  have r7 := r6.2
  clear r6
  have gi17 := r7.1
  have r8 := r7.2
  clear r7
  have gb13 := r8.1
  have r9 := r8.2
  clear r8
  have gi18 := r9.1
  have r10 := r9.2
  clear r9
  have gi19 := r10.1
  have r11 := r10.2
  clear r10
  have gi20 := r11.1
  have r12 := r11.2
  clear r11
  have gb14 := r12.1
  have r13 := r12.2
  clear r12
  have gb15 := r13.1
  have r14 := r13.2
  clear r13
  have gb16 := r14.1
  have r15 := r14.2
  clear r14
  have gi21 := r15.1
  have r16 := r15.2
  clear r15
  have gi22 := r16.1
  have r17 := r16.2
  clear r16
  have gi23 := r17.1
  have r18 := r17.2
  clear r17
  have gi24 := r18.1
  have r19 := r18.2
  clear r18
  have gb17 := r19.1
  have r20 := r19.2
  clear r19
  have gi25 := r20.1
  have r21 := r20.2
  clear r20
  have gb18 := r21.1
  have r22 := r21.2
  clear r21
  have gi26 := r22.1
  have r23 := r22.2
  clear r22
  have gi27 := r23.1
  have r24 := r23.2
  clear r23
  have gi28 := r24.1
  have r25 := r24.2
  clear r24
  have gi29 := r25.1
  have r26 := r25.2
  clear r25
  have gb19 := r26.1
  have r27 := r26.2
  clear r26
  have gi30 := r27.1
  have r28 := r27.2
  clear r27
  have gi31 := r28.1
  have r29 := r28.2
  clear r28
  have gi32 := r29.1
  have r30 := r29.2
  clear r29
  have gi33 := r30.1
  have r31 := r30.2
  clear r30
  have gi34 := r31.1
  have r32 := r31.2
  clear r31
  have gi35 := r32.1.1
  have gb20 := r32.1.2.1
  have gb21 := r32.1.2.2.1
  have gb22 := r32.1.2.2.2
  have r33 := r32.2
  clear r32
  have gb23 := r33.1
  have r34 := r33.2
  clear r33
  have gb24 := r34.1
  have r35 := r34.2
  clear r34
  have gb25 := r35.1
  have r36 := r35.2
  clear r35
  have gi36 := r36.1
  have r37 := r36.2
  clear r36
  have gi37 := r37.1
  have r38 := r37.2
  clear r37
  have gi38 := r38.1
  have r39 := r38.2
  clear r38
  have gb26 := r39.1
  have r40 := r39.2
  clear r39
  have gb27 := r40.1
  have r41 := r40.2
  clear r40
  have gb28 := r41.1
  have r42 := r41.2
  clear r41
  have gi39 := r42.1
  have r43 := r42.2
  clear r42
  have gi40 := r43.1
  have r44 := r43.2
  clear r43
  have gi41 := r44.1
  have r45 := r44.2
  clear r44
  have gb29 := r45.1
  have r46 := r45.2
  clear r45
  have gb30 := r46.1
  have r47 := r46.2
  clear r46
  have gb31 := r47.1
  have r48 := r47.2
  clear r47
  have gi42 := r48.1
  have r49 := r48.2
  clear r48
  have gi43 := r49.1
  have r50 := r49.2
  clear r49
  have gi44 := r50.1
  have r51 := r50.2
  clear r50
  have gb32 := r51.1
  have r52 := r51.2
  clear r51
  have gb33 := r52.1
  have r53 := r52.2
  clear r52
  have gb34 := r53.1
  have r54 := r53.2
  clear r53
  have gi45 := r54.1
  have r55 := r54.2
  clear r54
  have gi46 := r55.1
  have r56 := r55.2
  clear r55
  have gb35 := r56.1
  have r57 := r56.2
  clear r56
  have gb36 := r57.1
  have r58 := r57.2
  clear r57
  have gb37 := r58.1
  have r59 := r58.2
  clear r58
  have gi47 := r59.1
  have r60 := r59.2
  clear r59
  have gb38 := r60.1
  have r61 := r60.2
  clear r60
  have gb39 := r61.1
  have r62 := r61.2
  clear r61
  have gi48 := r62.1
  have r63 := r62.2
  clear r62
  have gi49 := r63.1
  have r64 := r63.2
  clear r63
  have gi50 := r64.1
  have r65 := r64.2
  clear r64
  have gi51 := r65.1
  have r66 := r65.2
  clear r65
  have gb40 := r66.1
  have r67 := r66.2
  clear r66
  have gb41 := r67.1
  have r68 := r67.2
  clear r67
  have gb42 := r68.1
  have r69 := r68.2
  clear r68
  have gi52 := r69.1
  have r70 := r69.2
  clear r69
  have gi53 := r70.1
  have r71 := r70.2
  clear r70
  have gb43 := r71.1
  have r72 := r71.2
  clear r71
  have gb44 := r72.1
  have r73 := r72.2
  clear r72
  have gb45 := r73.1
  have r74 := r73.2
  clear r73
  have gb46 := r74.1
  have r75 := r74.2
  clear r74
  have gi54 := r75.1
  have r76 := r75.2
  clear r75
  have gb47 := r76.1
  have r77 := r76.2
  clear r76
  have gb48 := r77.1
  have r78 := r77.2
  clear r77
  have gi55 := r78.1
  have r79 := r78.2
  clear r78
  have gi56 := r79.1
  have r80 := r79.2
  clear r79
  have gi57 := r80.1
  have r81 := r80.2
  clear r80
  have gi58 := r81.1
  have r82 := r81.2
  clear r81
  have gb49 := r82.1
  have r83 := r82.2
  clear r82
  have gb50 := r83.1
  have r84 := r83.2
  clear r83
  have gb51 := r84.1
  have r85 := r84.2
  clear r84
  have gi59 := r85.1
  have r86 := r85.2
  clear r85
  have gi60 := r86
  have t11 : ρ.b 11 = false := gb11
  have t15 : ρ.b 15 = false := gb15
  have t18 : ρ.b 18 = false := gb18
  have t19 : ρ.b 19 = true := gb19
  have t43 : ρ.b 43 = true := by rw [gb43, gb10, gb9]; rfl
  have p58 : ρ.i 58 = ρ.i 34 := by simp [gi58, t43, gi51, t11, gi44, t15, gi41, t18, gi38, t19]
  have p34 : 0 ≤ ρ.i 34 ∧ ρ.i 34 < 2048 := by
    rw [gi34, gi30, gi33, gi32, gi31]
    clear e2 e3 p58 t11 t15 t18 t19 t43 gb9 gb10 gb11 gi13 gi14 gi15 gb12 gi16 gi17 gb13 gi18 gi19 gi20 gb14 gb15 gb16 gi21 gi22 gi23 gi24 gb17 gi25 gb18 gi26 gi27 gi28 gi29 gb19 gi30 gi31 gi32 gi33 gi34 gi35 gb20 gb21 gb22 gb23 gb24 gb25 gi36 gi37 gi38 gb26 gb27 gb28 gi39 gi40 gi41 gb29 gb30 gb31 gi42 gi43 gi44 gb32 gb33 gb34 gi45 gi46 gb35 gb36 gb37 gi47 gb38 gb39 gi48 gi49 gi50 gi51 gb40 gb41 gb42 gi52 gi53 gb43 gb44 gb45 gb46 gi54 gb47 gb48 gi55 gi56 gi57 gi58 gb49 gb50 gb51 gi59 gi60
    (repeat' split) <;> omega
  refine ⟨ρ.i 58, by simp [t11, t15, t18, t19, t43, gb9, gb10, gi35, gb20, gb21, gb22, gb23, gb24, gb25, gi36, gi37, gi38, gb26, gb27, gb28, gi39, gi40, gi41, gb29, gb30, gb31, gi42, gi43, gi44, gb32, gb33, gb34, gi45, gi46, gb35, gb36, gb37, gi47, gb38, gb39, gi48, gi49, gi50, gi51, gb40, gb41, gb42, gi52, gi53, gb44, gb45, gb46, gi54, gb47, gb48, gi55, gi56, gi57, gb49, gb50, gb51, gi59, gi60], ?_, ?_⟩
  · omega
  · rw [p58]; omega
end Go.Proofs.YtoempcgniokpiaaDoor.Ta
