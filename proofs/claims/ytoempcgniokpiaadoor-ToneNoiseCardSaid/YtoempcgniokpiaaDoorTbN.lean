/-
  ToneNoise answers true. WRITTEN BY PROGRAM (wip/gen/tb1.py). No condition.
-/
import Derived.Test.YtoempcgniokpiaaDoorTbM
set_option linter.unusedVariables false
set_option linter.unusedSimpArgs false
namespace Go.Proofs.YtoempcgniokpiaaDoor.Tb
open Go Go.Proofs.YtoempcgniokpiaaDoor.Sx

theorem awake31 : F31 [] [] = ([], [true, true]) := by kernel_rfl
set_option maxRecDepth 10000 in
theorem noise (i0 i1 i2 i3 i4 i5 i6 i7 i8 i9 i10 i11 i12 i13 i14 i15 i16 i17 i18 i19 i20 i21 i22 i23 i24 i25 : Int) (b0 b1 b2 b3 b4 b5 b6 b7 b8 b9 b10 b11 b12 b13 b14 b15 b16 b17 : Bool) (h17 : 0 ≤ i17) (h18 : 0 ≤ i18) (h19 : 0 ≤ i19) (h20 : 0 ≤ i20) (h21 : 0 ≤ i21) (h22 : 0 ≤ i22) (h23 : 0 ≤ i23) (h25 : 0 ≤ i25 ∧ i25 ≤ 255) : F10 [i0, i1, i2, i3, i4, i5, i6, i7, i8, i9, i10, i11, i12, i13, i14, i15, i16, i17, i18, i19, i20, i21, i22, i23, i24, i25] [b0, b1, b2, b3, b4, b5, b6, b7, b8, b9, b10, b11, b12, b13, b14, b15, b16, b17] = ([], [true, true]) := by
  unfold F10
  obtain ⟨ρ, e1, e2, e3, e4⟩ := Smry.run_specT (Φ := tabF T27) (S := S10) (is := [i0, i1, i2, i3, i4, i5, i6, i7, i8, i9, i10, i11, i12, i13, i14, i15, i16, i17, i18, i19, i20, i21, i22, i23, i24, i25]) (bs := [b0, b1, b2, b3, b4, b5, b6, b7, b8, b9, b10, b11, b12, b13, b14, b15, b16, b17]) rfl
  rw [e1, obAll_eq]
  clear e1
  simp only [S10, obs, Gd.d_cons, Gd.d_nil, eqns, Em.eqn, headsI, headsB, RI.d, RB.d, A.d, B.d, cm_eql, cm_neq, cm_lss, cm_leq, cm_gtr, cm_geq, List.map_cons, List.map_nil, and_true, Nat.zero_add, Nat.reduceAdd, ltn, upto, true_and, Nat.add_zero, List.getD_cons_zero, List.getD_cons_succ, add8, sub8, add16, sub16, mul16, wrap_u8, wrap_u16, and8_1, and8_7, and8_8, and8_15, and8_16, and8_31, and8_32, and8_64, and8_127, and8_128, and16_1, and16_255, and16_1792, shr8_1, shr8_3, shr8_4, shr8_6, shr16_1, shr16_6, shr16_8, shl16_8, shl16_14] at e2 e3 e4 ⊢
  simp only [e2, e3] at e4 ⊢
  rw [show tabF T27 31 = F31 by rfl] at e4
  rw [show tabF T27 46 = F46 by rfl] at e4
  rw [show tabF T27 47 = F47 by rfl] at e4
  rw [show tabF T27 48 = F48 by rfl] at e4
  rw [show tabF T27 49 = F49 by rfl] at e4
  rw [show tabF T27 50 = F50 by rfl] at e4
  rw [show tabF T27 51 = F51 by rfl] at e4
  rw [q46 (h0 := h17) (h1 := h18) (h2 := h19) (h3 := h20) (h4 := h21) (h5 := h22) (h6 := h23) (h8 := h25), q48 (h0 := h17) (h1 := h18) (h2 := h19) (h3 := h20) (h4 := h21) (h5 := h22) (h6 := h23), q50 (h0 := h17) (h1 := h18) (h2 := h19) (h3 := h20) (h4 := h21) (h5 := h22) (h6 := h23), awake31, o47 (h8 := h25), o49 (h4 := h21)] at e4
  simp only [List.getD_cons_zero, List.getD_cons_succ] at e4
  have hi26 := e4.1.1.1
  have hi27 := e4.1.1.2.1
  have hi28 := e4.1.1.2.2.1
  have hi29 := e4.1.1.2.2.2.1
  have hi30 := e4.1.1.2.2.2.2.1
  have hi31 := e4.1.1.2.2.2.2.2.1
  have hi32 := e4.1.1.2.2.2.2.2.2
  have hb18 := e4.1.2.1
  have hb19 := e4.1.2.2.1
  have hb20 := e4.1.2.2.2.1
  have hb21 := e4.1.2.2.2.2.1
  have hb22 := e4.1.2.2.2.2.2.1
  have hb23 := e4.1.2.2.2.2.2.2.1
  have hb24 := e4.1.2.2.2.2.2.2.2
  have r0 := e4.2
  clear e4
  have hi33 := r0.1.1.1
  have hi34 := r0.1.1.2.1
  have hi35 := r0.1.1.2.2.1
  have hi36 := r0.1.1.2.2.2.1
  have hi37 := r0.1.1.2.2.2.2.1
  have hi38 := r0.1.1.2.2.2.2.2.1
  have hi39 := r0.1.1.2.2.2.2.2.2
  have hb25 := r0.1.2.1
  have hb26 := r0.1.2.2.1
  have hb27 := r0.1.2.2.2.1
  have hb28 := r0.1.2.2.2.2.1
  have hb29 := r0.1.2.2.2.2.2.1
  have hb30 := r0.1.2.2.2.2.2.2.1
  have hb31 := r0.1.2.2.2.2.2.2.2
  have r1 := r0.2
  clear r0
  have hb32 := r1.1
  have r2 := r1.2
  clear r1
  have hb33 := r2.1
  have r3 := r2.2
  clear r2
  have hb34 := r3.1
  have r4 := r3.2
  clear r3
  have hb35 := r4.1
  have r5 := r4.2
  clear r4
  have hb36 := r5.1
  have r6 := r5.2
  clear r5
  have hb37 := r6.1
  have r7 := r6.2
  clear r6
  have hb38 := r7.1
  have r8 := r7.2
  clear r7
  have hb39 := r8.1
  have r9 := r8.2
  clear r8
  have hb40 := r9.1
  have r10 := r9.2
  clear r9
  have hb41 := r10.1
  have r11 := r10.2
  clear r10
  have hb42 := r11.1
  have r12 := r11.2
  clear r11
  have hb43 := r12.1
  have r13 := r12.2
  clear r12
  have hb44 := r13.1
  have r14 := r13.2
  clear r13
  have hb45 := r14.1
  have r15 := r14.2
  clear r14
  have hb46 := r15.1
  have r16 := r15.2
  clear r15
  have hb47 := r16.1
  have r17 := r16.2
  clear r16
  have hb48 := r17.1
  have r18 := r17.2
  clear r17
  have hb49 := r18.1
  have r19 := r18.2
  clear r18
  have hb50 := r19.1
  have r20 := r19.2
  clear r19
  have hb51 := r20.1
  have r21 := r20.2
  clear r20
  have hb52 := r21.1
  have r22 := r21.2
  clear r21
  have hb53 := r22.1
  have r23 := r22.2
  clear r22
  have hb54 := r23.1
  have r24 := r23.2
  clear r23
  have hb55 := r24.1
  have r25 := r24.2
  clear r24
  have hb56 := r25.1
  have r26 := r25.2
  clear r25
  have hi40 := r26.1.1.1
  have hi41 := r26.1.1.2.1
  have hi42 := r26.1.1.2.2.1
  have hi43 := r26.1.1.2.2.2.1
  have hi44 := r26.1.1.2.2.2.2.1
  have hi45 := r26.1.1.2.2.2.2.2.1
  have hi46 := r26.1.1.2.2.2.2.2.2
  have hb57 := r26.1.2.1
  have hb58 := r26.1.2.2.1
  have hb59 := r26.1.2.2.2.1
  have hb60 := r26.1.2.2.2.2.1
  have hb61 := r26.1.2.2.2.2.2.1
  have hb62 := r26.1.2.2.2.2.2.2.1
  have hb63 := r26.1.2.2.2.2.2.2.2
  have r27 := r26.2
  clear r26
  have hi47 := r27.1.1.1
  have hi48 := r27.1.1.2.1
  have hi49 := r27.1.1.2.2.1
  have hi50 := r27.1.1.2.2.2.1
  have hi51 := r27.1.1.2.2.2.2.1
  have hi52 := r27.1.1.2.2.2.2.2.1
  have hi53 := r27.1.1.2.2.2.2.2.2
  have hb64 := r27.1.2.1
  have hb65 := r27.1.2.2.1
  have hb66 := r27.1.2.2.2.1
  have hb67 := r27.1.2.2.2.2.1
  have hb68 := r27.1.2.2.2.2.2.1
  have hb69 := r27.1.2.2.2.2.2.2.1
  have hb70 := r27.1.2.2.2.2.2.2.2
  have r28 := r27.2
  clear r27
  have hb71 := r28.1
  have r29 := r28.2
  clear r28
  have hb72 := r29.1
  have r30 := r29.2
  clear r29
  have hb73 := r30.1
  have r31 := r30.2
  clear r30
  have hb74 := r31.1
  have r32 := r31.2
  clear r31
  have hb75 := r32.1
  have r33 := r32.2
  clear r32
  have hb76 := r33.1
  have r34 := r33.2
  clear r33
  have hb77 := r34.1
  have r35 := r34.2
  clear r34
  have hb78 := r35.1
  have r36 := r35.2
  clear r35
  have hb79 := r36.1
  have r37 := r36.2
  clear r36
  have hb80 := r37.1
  have r38 := r37.2
  clear r37
  have hb81 := r38.1
  have r39 := r38.2
  clear r38
  have hb82 := r39.1
  have r40 := r39.2
  clear r39
  have hb83 := r40.1
  have r41 := r40.2
  clear r40
  have hb84 := r41.1
  have r42 := r41.2
  clear r41
  have hb85 := r42.1
  have r43 := r42.2
  clear r42
  have hb86 := r43.1
  have r44 := r43.2
  clear r43
  have hb87 := r44.1
  have r45 := r44.2
  clear r44
  have hb88 := r45.1
  have r46 := r45.2
  clear r45
  have hb89 := r46.1
  have r47 := r46.2
  clear r46
  have hb90 := r47.1
  have r48 := r47.2
  clear r47
  have hb91 := r48.1
  have r49 := r48.2
  clear r48
  have hb92 := r49.1
  have r50 := r49.2
  clear r49
  have hb93 := r50.1
  have r51 := r50.2
  clear r50
  have hb94 := r51.1
  have r52 := r51.2
  clear r51
  have hb95 := r52.1
  have r53 := r52.2
  clear r52
  have hb96 := r53.1
  have r54 := r53.2
  clear r53
  have hi54 := r54.1
  have r55 := r54.2
  clear r54
  have hi55 := r55.1
  have r56 := r55.2
  clear r55
  have hb97 := r56.1
  have r57 := r56.2
  clear r56
  have hb98 := r57.1
  have r58 := r57.2
  clear r57
  have hb99 := r58.1.1
  have hb100 := r58.1.2
  have r59 := r58.2
  clear r58
  have hb101 := r59
  have t32 : ρ.b 32 = true := by
    rw [hb32, hb19, hb26]
    exact beq_self_eq_true _
  have t33 : ρ.b 33 = true := by
    rw [hb33, hb20, hb27]
    exact beq_self_eq_true _
  have t34 : ρ.b 34 = true := by
    rw [hb34, hb21, hb28]
    exact beq_self_eq_true _
  have t35 : ρ.b 35 = true := by
    rw [hb35, hi26, hi33]
    exact beq_self_eq_true _
  have t36 : ρ.b 36 = true := by
    rw [hb36, hi27, hi34]
    exact beq_self_eq_true _
  have t37 : ρ.b 37 = true := by
    rw [hb37, hi28, hi35]
    exact beq_self_eq_true _
  have t38 : ρ.b 38 = true := by rw [hb38, t36, t37]; rfl
  have t39 : ρ.b 39 = true := by rw [hb39, t35, t38]; rfl
  have t40 : ρ.b 40 = true := by rw [hb40, t34, t39]; rfl
  have t41 : ρ.b 41 = true := by rw [hb41, t33, t40]; rfl
  have t42 : ρ.b 42 = true := by rw [hb42, t32, t41]; rfl
  have t43 : ρ.b 43 = true := by
    rw [hb43, hb22, hb29]
    exact beq_self_eq_true _
  have t44 : ρ.b 44 = true := by
    rw [hb44, hb23, hb30]
    exact beq_self_eq_true _
  have t45 : ρ.b 45 = true := by
    rw [hb45, hi29, hi36]
    exact beq_self_eq_true _
  have t46 : ρ.b 46 = true := by rw [hb46, t44, t45]; rfl
  have t47 : ρ.b 47 = true := by rw [hb47, t43, t46]; rfl
  have t48 : ρ.b 48 = true := by
    rw [hb48, hb24, hb31]
    exact beq_self_eq_true _
  have t49 : ρ.b 49 = true := by
    rw [hb49, hi30, hi37]
    exact beq_self_eq_true _
  have t50 : ρ.b 50 = true := by
    rw [hb50, hi31, hi38]
    exact beq_self_eq_true _
  have t51 : ρ.b 51 = true := by
    rw [hb51, hi32, hi39]
    exact beq_self_eq_true _
  have t52 : ρ.b 52 = true := by rw [hb52, t50, t51]; rfl
  have t53 : ρ.b 53 = true := by rw [hb53, t49, t52]; rfl
  have t54 : ρ.b 54 = true := by rw [hb54, t48, t53]; rfl
  have t55 : ρ.b 55 = true := by rw [hb55, t47, t54]; rfl
  have t56 : ρ.b 56 = true := by rw [hb56, t42, t55]; rfl
  have t71 : ρ.b 71 = true := by
    rw [hb71, hb58, hb65]
    exact beq_self_eq_true _
  have t72 : ρ.b 72 = true := by
    rw [hb72, hb59, hb66]
    exact beq_self_eq_true _
  have t73 : ρ.b 73 = true := by
    rw [hb73, hb60, hb67]
    exact beq_self_eq_true _
  have t74 : ρ.b 74 = true := by
    rw [hb74, hi40, hi47]
    exact beq_self_eq_true _
  have t75 : ρ.b 75 = true := by
    rw [hb75, hi41, hi48]
    exact beq_self_eq_true _
  have t76 : ρ.b 76 = true := by
    rw [hb76, hi42, hi49]
    exact beq_self_eq_true _
  have t77 : ρ.b 77 = true := by rw [hb77, t75, t76]; rfl
  have t78 : ρ.b 78 = true := by rw [hb78, t74, t77]; rfl
  have t79 : ρ.b 79 = true := by rw [hb79, t73, t78]; rfl
  have t80 : ρ.b 80 = true := by rw [hb80, t72, t79]; rfl
  have t81 : ρ.b 81 = true := by rw [hb81, t71, t80]; rfl
  have t82 : ρ.b 82 = true := by
    rw [hb82, hb61, hb68]
    exact beq_self_eq_true _
  have t83 : ρ.b 83 = true := by
    rw [hb83, hb62, hb69]
    exact beq_self_eq_true _
  have t84 : ρ.b 84 = true := by
    rw [hb84, hi43, hi50]
    exact beq_self_eq_true _
  have t85 : ρ.b 85 = true := by rw [hb85, t83, t84]; rfl
  have t86 : ρ.b 86 = true := by rw [hb86, t82, t85]; rfl
  have t87 : ρ.b 87 = true := by
    rw [hb87, hb63, hb70]
    exact beq_self_eq_true _
  have t88 : ρ.b 88 = true := by
    rw [hb88, hi44, hi51]
    exact beq_self_eq_true _
  have t89 : ρ.b 89 = true := by
    rw [hb89, hi45, hi52]
    exact beq_self_eq_true _
  have t90 : ρ.b 90 = true := by
    rw [hb90, hi46, hi53]
    exact beq_self_eq_true _
  have t91 : ρ.b 91 = true := by rw [hb91, t89, t90]; rfl
  have t92 : ρ.b 92 = true := by rw [hb92, t88, t91]; rfl
  have t93 : ρ.b 93 = true := by rw [hb93, t87, t92]; rfl
  have t94 : ρ.b 94 = true := by rw [hb94, t86, t93]; rfl
  have t95 : ρ.b 95 = true := by rw [hb95, t81, t94]; rfl
  have t96 : ρ.b 96 = true := by rw [hb96, t56, t95]; rfl
  have t97 : ρ.b 97 = true := by
    rw [hb97, hi54, hi55]
    exact beq_self_eq_true _
  have t98 : ρ.b 98 = true := by rw [hb98, t96, t97]; rfl
  have t101 : ρ.b 101 = true := by rw [hb101, t98, hb100]; rfl
  simp [hb18, hb25, hb57, hb64, hb99, t101]
end Go.Proofs.YtoempcgniokpiaaDoor.Tb
