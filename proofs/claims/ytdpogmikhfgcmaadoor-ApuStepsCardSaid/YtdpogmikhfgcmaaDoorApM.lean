/-
  tone: the pulse written, clocked, heard; the noise ticked, heard; the triangle heard. WRITTEN BY PROGRAM (wip/gen/tc3.py). No condition.
-/
import Derived.Test.YtdpogmikhfgcmaaDoorApL
set_option linter.unusedVariables false
set_option linter.unusedSimpArgs false
namespace Go.Proofs.YtdpogmikhfgcmaaDoor.Ap
open Go Go.Proofs.YtdpogmikhfgcmaaDoor.Sx

theorem k_18 (i0 i1 i2 i3 i4 i5 i6 i7 i8 i9 i10 : Int) (b0 b1 b2 b3 b4 b5 b6 b7 b8 : Bool) (i11 i12 : Int) (h0 : 0 ≤ i0) (h1 : 0 ≤ i1) (h2 : 0 ≤ i2) (h3 : 0 ≤ i3) (h4 : 0 ≤ i4) (h5 : 0 ≤ i5) (h6 : 0 ≤ i6) (h7 : 0 ≤ i7) (h8 : 0 ≤ i8) (h9 : 0 ≤ i9) (h10 : 0 ≤ i10) (h12 : 0 ≤ i12 ∧ i12 ≤ 255) (hok : okP i0 i1 i2 i4 i5 i6 i7 i8 i9 i10 = true) : ∃ is' bs', F18 [i0, i1, i2, i3, i4, i5, i6, i7, i8, i9, i10, i11, i12] [b0, b1, b2, b3, b4, b5, b6, b7, b8] = (is', true :: bs') ∧ Pok is' bs' := by
  unfold F18
  obtain ⟨ρ, e1, e2, e3, e4⟩ := Smry.run_specT (Φ := tabF T38) (S := S18) (is := [i0, i1, i2, i3, i4, i5, i6, i7, i8, i9, i10, i11, i12]) (bs := [b0, b1, b2, b3, b4, b5, b6, b7, b8]) rfl
  rw [e1, obAll_eq]
  clear e1
  simp only [S18, obs, Gd.d_cons, Gd.d_nil, eqns, Em.eqn, headsI, headsB, RI.d, RB.d, A.d, B.d, cm_eql, cm_neq, cm_lss, cm_leq, cm_gtr, cm_geq, List.map_cons, List.map_nil, and_true, Nat.zero_add, Nat.reduceAdd, ltn, upto, true_and, Nat.add_zero, List.getD_cons_zero, List.getD_cons_succ, add8, sub8, add16, sub16, mul16, wrap_u8, wrap_u16, and8_1, and8_7, and8_8, and8_15, and8_16, and8_31, and8_32, and8_64, and8_127, and8_128, and16_1, and16_255, and16_1792, shr8_1, shr8_3, shr8_4, shr8_6, shr16_1, shr16_6, shr16_8, shl16_8, shl16_14, rem_eq, quo8_eq, quo16_eq] at e2 e3 e4 ⊢
  simp only [e2, e3] at e4 ⊢
  rw [show tabF T38 37 = F37 by rfl, v37, hok] at e4
  simp only [List.getD_cons_zero] at e4
  simp only [okP, okE, Bool.and_eq_true, decide_eq_true_eq] at hok
  have p0 : 0 ≤ i0 ∧ i0 < 16 := ⟨h0, by clear e2 e3 e4; omega⟩
  have p1 : 0 ≤ i1 ∧ i1 < 16 := ⟨h1, by clear e2 e3 e4; omega⟩
  have p2 : 0 ≤ i2 ∧ i2 < 16 := ⟨h2, by clear e2 e3 e4; omega⟩
  have p3 : 0 ≤ i3 := h3
  have p4 : 0 ≤ i4 ∧ i4 < 4 := ⟨h4, by clear e2 e3 e4; omega⟩
  have p5 : 0 ≤ i5 ∧ i5 < 8 := ⟨h5, by clear e2 e3 e4; omega⟩
  have p6 : 0 ≤ i6 ∧ i6 < 2048 := ⟨h6, by clear e2 e3 e4; omega⟩
  have p7 : 0 ≤ i7 ∧ i7 < 2048 := ⟨h7, by clear e2 e3 e4; omega⟩
  have p8 : 0 ≤ i8 ∧ i8 < 8 := ⟨h8, by clear e2 e3 e4; omega⟩
  have p9 : 0 ≤ i9 ∧ i9 < 8 := ⟨h9, by clear e2 e3 e4; omega⟩
  have p10 : 0 ≤ i10 ∧ i10 < 8 := ⟨h10, by clear e2 e3 e4; omega⟩
  clear hok h0 h1 h2 h3 h4 h5 h6 h7 h8 h9 h10 e2 e3
  obtain ⟨c, hL, hc⟩ := l40 i3 i12 b4 b5 p3 h12
  rw [show tabF T38 40 = F40 by rfl, hL] at e4
  simp only [List.getD_cons_zero, List.getD_cons_succ] at e4
  have hb9 := e4.1
  have r0 := e4.2
  clear e4
  have hb10 := r0.1
  have r1 := r0.2
  clear r0
  have hb11 := r1.1
  have r2 := r1.2
  clear r1
  have hi13 := r2.1
  have r3 := r2.2
  clear r2
  have hi14 := r3.1
  have r4 := r3.2
  clear r3
  have hb12 := r4.1
  have r5 := r4.2
  clear r4
  have hi15 := r5.1
  have r6 := r5.2
  clear r5
  have hb13 := r6.1
  have r7 := r6.2
  clear r6
  have hi16 := r7.1
  have r8 := r7.2
  clear r7
  have hb14 := r8.1
  have r9 := r8.2
  clear r8
  have hi17 := r9.1
  have r10 := r9.2
  clear r9
  have hb15 := r10.1
  have r11 := r10.2
  clear r10
  have hi18 := r11.1
  have r12 := r11.2
  clear r11
  have hi19 := r12.1
  have r13 := r12.2
  clear r12
  have hi20 := r13.1
  have r14 := r13.2
  clear r13
  have hb16 := r14.1
  have r15 := r14.2
  clear r14
  have hi21 := r15.1
  have r16 := r15.2
  clear r15
  have hb17 := r16.1
  have r17 := r16.2
  clear r16
  have hb18 := r17.1
  have r18 := r17.2
  clear r17
  have hb19 := r18.1
  have r19 := r18.2
  clear r18
  have hb20 := r19.1
  have r20 := r19.2
  clear r19
  have hi22 := r20.1
  have r21 := r20.2
  clear r20
  have hi23 := r21.1
  have r22 := r21.2
  clear r21
  have hi24 := r22.1
  have r23 := r22.2
  clear r22
  have hi25 := r23.1
  have r24 := r23.2
  clear r23
  have hi26 := r24.1
  have r25 := r24.2
  clear r24
  have hi27 := r25.1
  have r26 := r25.2
  clear r25
  have hi28 := r26.1
  have r27 := r26.2
  clear r26
  have hi29 := r27.1
  have r28 := r27.2
  clear r27
  have hi30 := r28.1
  have r29 := r28.2
  clear r28
  have hb21 := r29.1
  have r30 := r29.2
  clear r29
  have hi31 := r30.1.1
  have hb22 := r30.1.2.1
  have hb23 := r30.1.2.2.1
  have hb24 := r30.1.2.2.2
  have r31 := r30.2
  clear r30
  have hb25 := r31.1
  have r32 := r31.2
  clear r31
  have hb26 := r32.1
  have r33 := r32.2
  clear r32
  have hb27 := r33.1
  have r34 := r33.2
  clear r33
  have hi32 := r34.1
  have r35 := r34.2
  clear r34
  have hi33 := r35.1
  have r36 := r35.2
  clear r35
  have hb28 := r36.1
  have r37 := r36.2
  clear r36
  have hb29 := r37.1
  have r38 := r37.2
  clear r37
  have hb30 := r38.1
  have r39 := r38.2
  clear r38
  have hi34 := r39.1
  have r40 := r39.2
  clear r39
  have hi35 := r40.1
  have r41 := r40.2
  clear r40
  have hi36 := r41.1
  have r42 := r41.2
  clear r41
  have hb31 := r42.1
  have r43 := r42.2
  clear r42
  have hb32 := r43.1
  have r44 := r43.2
  clear r43
  have hb33 := r44.1
  have r45 := r44.2
  clear r44
  have hi37 := r45.1
  have r46 := r45.2
  clear r45
  have hi38 := r46.1
  have r47 := r46.2
  clear r46
  have hi39 := r47.1
  have r48 := r47.2
  clear r47
  have hb34 := r48.1
  have r49 := r48.2
  clear r48
  have hb35 := r49.1
  have r50 := r49.2
  clear r49
  have hb36 := r50.1
  have r51 := r50.2
  clear r50
  have hi40 := r51.1
  have r52 := r51.2
  clear r51
  have hi41 := r52.1
  have r53 := r52.2
  clear r52
  have hb37 := r53.1
  have r54 := r53.2
  clear r53
  have hb38 := r54.1
  have r55 := r54.2
  clear r54
  have hb39 := r55.1
  have r56 := r55.2
  clear r55
  have hi42 := r56.1
  have r57 := r56.2
  clear r56
  have hb40 := r57.1
  have r58 := r57.2
  clear r57
  have hb41 := r58.1
  have r59 := r58.2
  clear r58
  have hi43 := r59.1
  have r60 := r59.2
  clear r59
  have hi44 := r60.1
  have r61 := r60.2
  clear r60
  have hi45 := r61.1
  have r62 := r61.2
  clear r61
  have hi46 := r62.1
  have r63 := r62.2
  clear r62
  have hb42 := r63.1
  have r64 := r63.2
  clear r63
  have hb43 := r64.1
  have r65 := r64.2
  clear r64
  have hb44 := r65.1
  have r66 := r65.2
  clear r65
  have hi47 := r66.1
  have r67 := r66.2
  clear r66
  have hi48 := r67.1
  have r68 := r67.2
  clear r67
  have hb45 := r68.1
  have r69 := r68.2
  clear r68
  have hb46 := r69.1
  have r70 := r69.2
  clear r69
  have hb47 := r70.1
  have r71 := r70.2
  clear r70
  have hb48 := r71.1
  have r72 := r71.2
  clear r71
  have hi49 := r72.1
  have r73 := r72.2
  clear r72
  have hb49 := r73.1
  have r74 := r73.2
  clear r73
  have hb50 := r74.1
  have r75 := r74.2
  clear r74
  have hi50 := r75.1
  have r76 := r75.2
  clear r75
  have hi51 := r76.1
  have r77 := r76.2
  clear r76
  have hi52 := r77.1
  have r78 := r77.2
  clear r77
  have hi53 := r78.1
  have r79 := r78.2
  clear r78
  have hb51 := r79.1
  have r80 := r79.2
  clear r79
  have hb52 := r80.1
  have r81 := r80.2
  clear r80
  have hb53 := r81.1
  have r82 := r81.2
  clear r81
  have hi54 := r82.1
  have r83 := r82.2
  clear r82
  have hi55 := r83
  have o24 : 0 ≤ ρ.i 24 ∧ ρ.i 24 < 2048 := by
    have z := orW_lt (ρ.i 22) (ρ.i 23) 11 (by decide) (by rw [hi22]; clear hb9 hb10 hb11 hi13 hi14 hb12 hi15 hb13 hi16 hb14 hi17 hb15 hi18 hi19 hi20 hb16 hi21 hb17 hb18 hb19 hb20 hi22 hi23 hi24 hi25 hi26 hi27 hi28 hi29 hi30 hb21 hi31 hb22 hb23 hb24 hb25 hb26 hb27 hi32 hi33 hb28 hb29 hb30 hi34 hi35 hi36 hb31 hb32 hb33 hi37 hi38 hi39 hb34 hb35 hb36 hi40 hi41 hb37 hb38 hb39 hi42 hb40 hb41 hi43 hi44 hi45 hi46 hb42 hb43 hb44 hi47 hi48 hb45 hb46 hb47 hb48 hi49 hb49 hb50 hi50 hi51 hi52 hi53 hb51 hb52 hb53 hi54 hi55; omega) (by rw [hi23]; clear hb9 hb10 hb11 hi13 hi14 hb12 hi15 hb13 hi16 hb14 hi17 hb15 hi18 hi19 hi20 hb16 hi21 hb17 hb18 hb19 hb20 hi22 hi23 hi24 hi25 hi26 hi27 hi28 hi29 hi30 hb21 hi31 hb22 hb23 hb24 hb25 hb26 hb27 hi32 hi33 hb28 hb29 hb30 hi34 hi35 hi36 hb31 hb32 hb33 hi37 hi38 hi39 hb34 hb35 hb36 hi40 hi41 hb37 hb38 hb39 hi42 hb40 hb41 hi43 hi44 hi45 hi46 hb42 hb43 hb44 hi47 hi48 hb45 hb46 hb47 hb48 hi49 hb49 hb50 hi50 hi51 hi52 hi53 hb51 hb52 hb53 hi54 hi55; omega)
    rw [hi24]; exact ⟨z.1, z.2.1⟩
  have o29 : 0 ≤ ρ.i 29 ∧ ρ.i 29 < 2048 := by
    have z := orW_lt (ρ.i 25) (ρ.i 28) 11 (by decide) (by rw [hi25]; clear hb9 hb10 hb11 hi13 hi14 hb12 hi15 hb13 hi16 hb14 hi17 hb15 hi18 hi19 hi20 hb16 hi21 hb17 hb18 hb19 hb20 hi22 hi23 hi24 hi25 hi26 hi27 hi28 hi29 hi30 hb21 hi31 hb22 hb23 hb24 hb25 hb26 hb27 hi32 hi33 hb28 hb29 hb30 hi34 hi35 hi36 hb31 hb32 hb33 hi37 hi38 hi39 hb34 hb35 hb36 hi40 hi41 hb37 hb38 hb39 hi42 hb40 hb41 hi43 hi44 hi45 hi46 hb42 hb43 hb44 hi47 hi48 hb45 hb46 hb47 hb48 hi49 hb49 hb50 hi50 hi51 hi52 hi53 hb51 hb52 hb53 hi54 hi55; omega) (by rw [hi28, hi27, hi26]; clear hb9 hb10 hb11 hi13 hi14 hb12 hi15 hb13 hi16 hb14 hi17 hb15 hi18 hi19 hi20 hb16 hi21 hb17 hb18 hb19 hb20 hi22 hi23 hi24 hi25 hi26 hi27 hi28 hi29 hi30 hb21 hi31 hb22 hb23 hb24 hb25 hb26 hb27 hi32 hi33 hb28 hb29 hb30 hi34 hi35 hi36 hb31 hb32 hb33 hi37 hi38 hi39 hb34 hb35 hb36 hi40 hi41 hb37 hb38 hb39 hi42 hb40 hb41 hi43 hi44 hi45 hi46 hb42 hb43 hb44 hi47 hi48 hb45 hb46 hb47 hb48 hi49 hb49 hb50 hi50 hi51 hi52 hi53 hb51 hb52 hb53 hi54 hi55; omega)
    rw [hi29]; exact ⟨z.1, z.2.1⟩
  have q0 : 0 ≤ ρ.i 49 ∧ ρ.i 49 < 16 := by
    clear hb12 hb13 hb14 hb15 hb16 hb17 hb18 hb19 hb20 hb21 hb22 hb23 hb24 hb25 hb26 hb27 hb28 hb29 hb30 hb31 hb32 hb33 hb34 hb35 hb36 hb37 hb38 hb39 hb40 hb41 hb42 hb43 hb44 hb46 hb47 hb48 hb49 hb50 hb51 hb52 hb53 hc hi13 hi14 hi15 hi17 hi18 hi19 hi20 hi21 hi22 hi23 hi24 hi25 hi26 hi27 hi28 hi29 hi30 hi31 hi32 hi33 hi34 hi35 hi36 hi37 hi38 hi39 hi40 hi41 hi43 hi44 hi45 hi46 hi47 hi48 hi50 hi51 hi52 hi53 hi54 hi55 o24 o29 p1 p10 p2 p3 p4 p5 p6 p7 p8 p9
    grind
  have q3 : 0 ≤ ρ.i 50 := by
    clear h12 hb12 hb13 hb15 hb16 hb20 hb22 hb23 hb24 hb25 hb26 hb27 hb28 hb29 hb30 hb31 hb32 hb33 hb34 hb35 hb36 hb37 hb38 hb39 hb40 hb41 hb42 hb43 hb44 hb46 hb47 hb48 hb49 hb50 hb51 hb52 hb53 hi13 hi14 hi15 hi16 hi17 hi18 hi19 hi20 hi21 hi22 hi23 hi24 hi25 hi26 hi27 hi28 hi29 hi30 hi33 hi35 hi36 hi38 hi39 hi40 hi41 hi42 hi44 hi45 hi46 hi47 hi48 hi49 hi51 hi52 hi53 hi54 hi55 o24 o29 p0 p1 p10 p2 p4 p5 p6 p7 p8 p9
    grind
  have q4 : 0 ≤ ρ.i 51 ∧ ρ.i 51 < 4 := by
    clear hb12 hb13 hb14 hb15 hb16 hb17 hb18 hb19 hb20 hb21 hb22 hb23 hb24 hb25 hb26 hb27 hb28 hb29 hb30 hb31 hb32 hb33 hb34 hb35 hb36 hb37 hb38 hb39 hb40 hb41 hb42 hb43 hb44 hb46 hb47 hb48 hb49 hb50 hb51 hb52 hb53 hc hi14 hi15 hi16 hi17 hi18 hi19 hi20 hi21 hi22 hi23 hi24 hi25 hi26 hi27 hi28 hi29 hi30 hi31 hi32 hi33 hi34 hi35 hi36 hi37 hi38 hi39 hi40 hi41 hi42 hi43 hi45 hi46 hi47 hi48 hi49 hi50 hi52 hi53 hi54 hi55 o24 o29 p0 p1 p10 p2 p3 p5 p6 p7 p8 p9
    grind
  have q5 : 0 ≤ ρ.i 52 ∧ ρ.i 52 < 8 := by
    clear h12 hb12 hb13 hb15 hb16 hb20 hb22 hb23 hb24 hb25 hb26 hb27 hb28 hb29 hb30 hb31 hb32 hb33 hb34 hb35 hb36 hb37 hb38 hb39 hb40 hb41 hb42 hb43 hb44 hb46 hb47 hb48 hb49 hb50 hb51 hb52 hb53 hc hi13 hi14 hi15 hi16 hi17 hi18 hi19 hi20 hi21 hi22 hi23 hi24 hi25 hi26 hi27 hi28 hi29 hi30 hi31 hi32 hi34 hi36 hi37 hi39 hi40 hi41 hi42 hi43 hi44 hi46 hi47 hi48 hi49 hi50 hi51 hi53 hi54 hi55 o24 o29 p0 p1 p10 p2 p3 p4 p6 p7 p8 p9
    grind
  have q6 : 0 ≤ ρ.i 53 ∧ ρ.i 53 < 2048 := by
    clear h12 hb12 hb13 hb15 hb16 hb21 hb22 hb23 hb24 hb25 hb26 hb27 hb28 hb29 hb30 hb31 hb32 hb33 hb34 hb35 hb36 hb37 hb38 hb39 hb40 hb41 hb42 hb43 hb44 hb46 hb47 hb48 hb49 hb50 hb51 hb52 hb53 hc hi13 hi14 hi15 hi16 hi17 hi18 hi19 hi20 hi21 hi22 hi23 hi24 hi25 hi26 hi27 hi28 hi29 hi31 hi32 hi33 hi34 hi35 hi37 hi38 hi40 hi41 hi42 hi43 hi44 hi45 hi47 hi48 hi49 hi50 hi51 hi52 hi54 hi55 p0 p1 p10 p2 p3 p4 p5 p7 p8 p9
    grind
  have q8 : 0 ≤ ρ.i 54 ∧ ρ.i 54 < 8 := by
    clear hb12 hb13 hb15 hb16 hb17 hb18 hb19 hb20 hb21 hb22 hb23 hb24 hb25 hb26 hb27 hb28 hb29 hb30 hb31 hb32 hb33 hb34 hb35 hb36 hb37 hb38 hb39 hb40 hb41 hb42 hb43 hb44 hb46 hb47 hb48 hb49 hb50 hb51 hb52 hb53 hc hi13 hi14 hi15 hi16 hi17 hi20 hi21 hi22 hi23 hi24 hi25 hi26 hi27 hi28 hi29 hi30 hi31 hi32 hi33 hi34 hi35 hi36 hi37 hi38 hi39 hi41 hi42 hi43 hi44 hi45 hi46 hi48 hi49 hi50 hi51 hi52 hi53 hi55 o24 o29 p0 p1 p10 p2 p3 p4 p5 p6 p7 p9
    grind
  have q9 : 0 ≤ ρ.i 55 ∧ ρ.i 55 < 8 := by
    clear hb12 hb13 hb15 hb16 hb17 hb18 hb19 hb20 hb21 hb22 hb23 hb24 hb25 hb26 hb27 hb28 hb29 hb30 hb31 hb32 hb33 hb34 hb35 hb36 hb37 hb38 hb39 hb40 hb41 hb42 hb43 hb44 hb46 hb47 hb48 hb49 hb50 hb51 hb52 hb53 hc hi13 hi14 hi15 hi16 hi17 hi18 hi19 hi20 hi22 hi23 hi24 hi25 hi26 hi27 hi28 hi29 hi30 hi31 hi32 hi33 hi34 hi35 hi36 hi37 hi38 hi39 hi40 hi42 hi43 hi44 hi45 hi46 hi47 hi49 hi50 hi51 hi52 hi53 hi54 o24 o29 p0 p1 p10 p2 p3 p4 p5 p6 p7 p8
    grind
  refine ⟨_, _, obPair ?ob, mkP q0 p1 p2 q3 q4 q5 q6 p7 q8 q9 p10⟩
  simp [hb22]
theorem shr16_pow (x y : Int) (hy : 0 ≤ y ∧ y < 8) : arI .shr .u16 x y = x / ((2 ^ y.toNat : Nat) : Int) := by
  obtain ⟨n, rfl⟩ := Int.eq_ofNat_of_zero_le hy.1
  rw [shrC .u16 x n (2 ^ min n 16) rfl, Nat.min_eq_left (by omega), Int.toNat_natCast]
theorem pow_div (x : Int) (n : Nat) (hx : 0 ≤ x) : 0 ≤ x / ((2 ^ n : Nat) : Int) ∧ x / ((2 ^ n : Nat) : Int) ≤ x :=
  ⟨Int.ediv_nonneg hx (Int.natCast_nonneg _), Int.ediv_le_self _ hx⟩
/-- The target of a sweep: the period 'p', its part 'c'. -/
def tgt (p c : Int) (neg snd : Bool) : Int := if neg then max 0 (p - (if snd then c else c + 1)) else p + c
theorem tg56 (i0 i1 i2 i3 i4 i5 i6 i7 i8 i9 i10 : Int) (b0 b1 b2 b3 b4 b5 b6 b7 b8 : Bool) (h6 : 0 ≤ i6 ∧ i6 < 2048) (h9 : 0 ≤ i9 ∧ i9 < 8) : F56 [i0, i1, i2, i3, i4, i5, i6, i7, i8, i9, i10] [b0, b1, b2, b3, b4, b5, b6, b7, b8] = ([tgt i6 (i6 / ((2 ^ i9.toNat : Nat) : Int)) b7 b0], [true]) := by
  unfold F56
  obtain ⟨ρ, e1, e2, e3, e4⟩ := Smry.run_specT (Φ := tabF T11) (S := S56) (is := [i0, i1, i2, i3, i4, i5, i6, i7, i8, i9, i10]) (bs := [b0, b1, b2, b3, b4, b5, b6, b7, b8]) rfl
  rw [e1, obAll_eq]
  clear e1
  simp only [S56, obs, Gd.d_cons, Gd.d_nil, eqns, Em.eqn, headsI, headsB, RI.d, RB.d, A.d, B.d, cm_eql, cm_neq, cm_lss, cm_leq, cm_gtr, cm_geq, List.map_cons, List.map_nil, and_true, Nat.zero_add, Nat.reduceAdd, ltn, upto, true_and, Nat.add_zero, List.getD_cons_zero, List.getD_cons_succ, add8, sub8, add16, sub16, mul16, wrap_u8, wrap_u16, and8_1, and8_7, and8_8, and8_15, and8_16, and8_31, and8_32, and8_64, and8_127, and8_128, and16_1, and16_255, and16_1792, shr8_1, shr8_3, shr8_4, shr8_6, shr16_1, shr16_6, shr16_8, shl16_8, shl16_14] at e2 e3 e4 ⊢
  simp only [e2, e3] at e4 ⊢
  rw [shr16_pow _ _ h9] at e4
  have hc := pow_div i6 i9.toNat h6.1
  generalize i6 / ((2 ^ i9.toNat : Nat) : Int) = c at *
  unfold tgt
  grind
theorem mu53 (i0 i1 i2 i3 i4 i5 i6 i7 i8 i9 i10 : Int) (b0 b1 b2 b3 b4 b5 b6 b7 b8 : Bool) (h6 : 0 ≤ i6 ∧ i6 < 2048) (h9 : 0 ≤ i9 ∧ i9 < 8) : F53 [i0, i1, i2, i3, i4, i5, i6, i7, i8, i9, i10] [b0, b1, b2, b3, b4, b5, b6, b7, b8] = ([], [true, decide (i6 < 8) || decide (2047 < tgt i6 (i6 / ((2 ^ i9.toNat : Nat) : Int)) b7 b0)]) := by
  unfold F53
  obtain ⟨ρ, e1, e2, e3, e4⟩ := Smry.run_specT (Φ := tabF T12) (S := S53) (is := [i0, i1, i2, i3, i4, i5, i6, i7, i8, i9, i10]) (bs := [b0, b1, b2, b3, b4, b5, b6, b7, b8]) rfl
  rw [e1, obAll_eq]
  clear e1
  simp only [S53, obs, Gd.d_cons, Gd.d_nil, eqns, Em.eqn, headsI, headsB, RI.d, RB.d, A.d, B.d, cm_eql, cm_neq, cm_lss, cm_leq, cm_gtr, cm_geq, List.map_cons, List.map_nil, and_true, Nat.zero_add, Nat.reduceAdd, ltn, upto, true_and, Nat.add_zero, List.getD_cons_zero, List.getD_cons_succ, add8, sub8, add16, sub16, mul16, wrap_u8, wrap_u16, and8_1, and8_7, and8_8, and8_15, and8_16, and8_31, and8_32, and8_64, and8_127, and8_128, and16_1, and16_255, and16_1792, shr8_1, shr8_3, shr8_4, shr8_6, shr16_1, shr16_6, shr16_8, shl16_8, shl16_14] at e2 e3 e4 ⊢
  simp only [e2, e3] at e4 ⊢
  rw [show tabF T12 56 = F56 by rfl, tg56 (h6 := h6) (h9 := h9)] at e4
  simp only [List.getD_cons_zero, List.getD_cons_succ] at e4
  grind
theorem len46 (i0 : Int) (b0 b1 : Bool) (h0 : 0 ≤ i0) : ∃ c, F46 [i0] [b0, b1] = ([c], [b0, b1]) ∧ 0 ≤ c := by
  unfold F46
  obtain ⟨ρ, e1, e2, e3, e4⟩ := Smry.run_spec (Φ := tabF T28) (S := S46) (is := [i0]) (bs := [b0, b1]) rfl
  rw [e1]
  clear e1
  simp only [S46, eqns, Em.eqn, headsI, headsB, RI.d, RB.d, A.d, B.d, cm_eql, cm_neq, cm_lss, cm_leq, cm_gtr, cm_geq, List.map_cons, List.map_nil, and_true, Nat.zero_add, Nat.reduceAdd, ltn, upto, true_and, Nat.add_zero, List.getD_cons_zero, List.getD_cons_succ, add8, sub8, add16, sub16, mul16, wrap_u8, wrap_u16, and8_1, and8_7, and8_8, and8_15, and8_16, and8_31, and8_32, and8_64, and8_127, and8_128, and16_1, and16_255, and16_1792, shr8_1, shr8_3, shr8_4, shr8_6, shr16_1, shr16_6, shr16_8, shl16_8, shl16_14] at e2 e3 e4 ⊢
  simp only [e2, e3] at e4 ⊢
  refine ⟨_, rfl, ?_⟩
  grind
theorem k_45 (i0 i1 i2 i3 i4 i5 i6 i7 i8 i9 i10 : Int) (b0 b1 b2 b3 b4 b5 b6 b7 b8 : Bool) (h0 : 0 ≤ i0) (h1 : 0 ≤ i1) (h2 : 0 ≤ i2) (h3 : 0 ≤ i3) (h4 : 0 ≤ i4) (h5 : 0 ≤ i5) (h6 : 0 ≤ i6) (h7 : 0 ≤ i7) (h8 : 0 ≤ i8) (h9 : 0 ≤ i9) (h10 : 0 ≤ i10) (hok : okP i0 i1 i2 i4 i5 i6 i7 i8 i9 i10 = true) : ∃ is' bs', F45 [i0, i1, i2, i3, i4, i5, i6, i7, i8, i9, i10] [b0, b1, b2, b3, b4, b5, b6, b7, b8] = (is', true :: bs') ∧ Pok is' bs' := by
  unfold F45
  obtain ⟨ρ, e1, e2, e3, e4⟩ := Smry.run_specT (Φ := tabF T29) (S := S45) (is := [i0, i1, i2, i3, i4, i5, i6, i7, i8, i9, i10]) (bs := [b0, b1, b2, b3, b4, b5, b6, b7, b8]) rfl
  rw [e1, obAll_eq]
  clear e1
  simp only [S45, obs, Gd.d_cons, Gd.d_nil, eqns, Em.eqn, headsI, headsB, RI.d, RB.d, A.d, B.d, cm_eql, cm_neq, cm_lss, cm_leq, cm_gtr, cm_geq, List.map_cons, List.map_nil, and_true, Nat.zero_add, Nat.reduceAdd, ltn, upto, true_and, Nat.add_zero, List.getD_cons_zero, List.getD_cons_succ, add8, sub8, add16, sub16, mul16, wrap_u8, wrap_u16, and8_1, and8_7, and8_8, and8_15, and8_16, and8_31, and8_32, and8_64, and8_127, and8_128, and16_1, and16_255, and16_1792, shr8_1, shr8_3, shr8_4, shr8_6, shr16_1, shr16_6, shr16_8, shl16_8, shl16_14, rem_eq, quo8_eq, quo16_eq] at e2 e3 e4 ⊢
  simp only [e2, e3] at e4 ⊢
  rw [show tabF T29 37 = F37 by rfl, v37, hok] at e4
  simp only [List.getD_cons_zero] at e4
  simp only [okP, okE, Bool.and_eq_true, decide_eq_true_eq] at hok
  have p0 : 0 ≤ i0 ∧ i0 < 16 := ⟨h0, by clear e2 e3 e4; omega⟩
  have p1 : 0 ≤ i1 ∧ i1 < 16 := ⟨h1, by clear e2 e3 e4; omega⟩
  have p2 : 0 ≤ i2 ∧ i2 < 16 := ⟨h2, by clear e2 e3 e4; omega⟩
  have p3 : 0 ≤ i3 := h3
  have p4 : 0 ≤ i4 ∧ i4 < 4 := ⟨h4, by clear e2 e3 e4; omega⟩
  have p5 : 0 ≤ i5 ∧ i5 < 8 := ⟨h5, by clear e2 e3 e4; omega⟩
  have p6 : 0 ≤ i6 ∧ i6 < 2048 := ⟨h6, by clear e2 e3 e4; omega⟩
  have p7 : 0 ≤ i7 ∧ i7 < 2048 := ⟨h7, by clear e2 e3 e4; omega⟩
  have p8 : 0 ≤ i8 ∧ i8 < 8 := ⟨h8, by clear e2 e3 e4; omega⟩
  have p9 : 0 ≤ i9 ∧ i9 < 8 := ⟨h9, by clear e2 e3 e4; omega⟩
  have p10 : 0 ≤ i10 ∧ i10 < 8 := ⟨h10, by clear e2 e3 e4; omega⟩
  clear hok h0 h1 h2 h3 h4 h5 h6 h7 h8 h9 h10 e2 e3
  obtain ⟨c, hL, hc⟩ := len46 i3 b4 b5 p3
  rw [show tabF T29 46 = F46 by rfl, hL, show tabF T29 53 = F53 by rfl, show tabF T29 56 = F56 by rfl, mu53 (h6 := p6) (h9 := p9), tg56 (h6 := p6) (h9 := p9)] at e4
  simp only [List.getD_cons_zero, List.getD_cons_succ] at e4
  have hd := pow_div i6 i9.toNat p6.1
  have ht : ∀ c, 0 ≤ c → c ≤ i6 → 0 ≤ tgt i6 c b7 b0 ∧ tgt i6 c b7 b0 < 4096 := fun c _ _ => by unfold tgt; clear e4; grind
  have ht := ht _ hd.1 hd.2
  generalize tgt i6 (i6 / ((2 ^ i9.toNat : Nat) : Int)) b7 b0 = t at *
  clear hd
  have hb9 := e4.1
  have r0 := e4.2
  clear e4
  have hb10 := r0.1
  have r1 := r0.2
  clear r0
  have hi11 := r1.1.1
  have hb11 := r1.1.2.1
  have hb12 := r1.1.2.2
  have r2 := r1.2
  clear r1
  have hb13 := r2.1
  have r3 := r2.2
  clear r2
  have hb14 := r3.1
  have r4 := r3.2
  clear r3
  have hb15 := r4.1
  have r5 := r4.2
  clear r4
  have hb16 := r5.1
  have r6 := r5.2
  clear r5
  have hb17 := r6.1.1
  have hb18 := r6.1.2
  have r7 := r6.2
  clear r6
  have hb19 := r7.1
  have r8 := r7.2
  clear r7
  have hb20 := r8.1
  have r9 := r8.2
  clear r8
  have hi12 := r9.1.1
  have hb21 := r9.1.2
  have r10 := r9.2
  clear r9
  have hi13 := r10.1
  have r11 := r10.2
  clear r10
  have hb22 := r11.1
  have r12 := r11.2
  clear r11
  have hb23 := r12.1
  have r13 := r12.2
  clear r12
  have hi14 := r13.1
  have r14 := r13.2
  clear r13
  have hb24 := r14.1
  have r15 := r14.2
  clear r14
  have hi15 := r15.1
  have r16 := r15.2
  clear r15
  have hb25 := r16.1
  have r17 := r16.2
  clear r16
  have hb26 := r17.1
  have r18 := r17.2
  clear r17
  have hb27 := r18.1
  have r19 := r18.2
  clear r18
  have hi16 := r19.1
  have r20 := r19.2
  clear r19
  have hi17 := r20.1
  have r21 := r20.2
  clear r20
  have hb28 := r21.1
  have r22 := r21.2
  clear r21
  have hi18 := r22
  have q3 : 0 ≤ ρ.i 16 := by
    clear hb11 hb12 hb13 hb14 hb15 hb16 hb17 hb18 hb19 hb20 hb21 hb22 hb23 hb24 hb26 hb27 hb28 hi12 hi13 hi14 hi15 hi17 hi18 ht p0 p1 p10 p2 p4 p5 p6 p7 p8 p9
    grind
  have q6 : 0 ≤ ρ.i 17 ∧ ρ.i 17 < 2048 := by
    clear hb11 hb12 hb17 hb21 hb22 hb23 hb24 hb26 hb27 hb28 hc hi11 hi14 hi15 hi16 hi18 p0 p1 p2 p3 p4 p5 p7 p8
    grind
  have q10 : 0 ≤ ρ.i 18 ∧ ρ.i 18 < 8 := by
    clear hb11 hb12 hb13 hb14 hb15 hb16 hb17 hb18 hb19 hb20 hb21 hb24 hb26 hb27 hb28 hc hi11 hi12 hi13 hi16 hi17 ht p0 p1 p2 p3 p4 p5 p6 p7 p9
    grind
  refine ⟨_, _, obPair ?ob, mkP p0 p1 p2 q3 p4 p5 q6 p7 p8 p9 q10⟩
  simp [hb17, hb21]
theorem rate_in (n : Nat) (h : n < 16) : 4 ≤ rateTab.getD n 0 ∧ rateTab.getD n 0 < 4069 := by
  have : ∀ m, m < 16 → 4 ≤ rateTab.getD m 0 ∧ rateTab.getD m 0 < 4069 := by decide +kernel
  exact this n h
theorem xor1 (x y : Int) (h : 0 ≤ x ∧ x < 65536 ∧ 0 ≤ y ∧ y < 65536) : arI .xor .u16 x y % 65536 % 2 = (x + y) % 2 := by
  obtain ⟨m, rfl⟩ := Int.eq_ofNat_of_zero_le h.1
  obtain ⟨n, rfl⟩ := Int.eq_ofNat_of_zero_le h.2.2.1
  rw [xor16_nat, show ((m : Int) % 65536).toNat = m by omega, show ((n : Int) % 65536).toNat = n by omega]
  have h : (m ^^^ n) % 2 = 1 ↔ ¬ (m % 2 = 1 ↔ n % 2 = 1) := by simp
  omega
theorem k_25 (i0 i1 i2 i3 i4 i5 i6 : Int) (b0 b1 b2 b3 b4 b5 : Bool) (h0 : 0 ≤ i0) (h1 : 0 ≤ i1) (h2 : 0 ≤ i2) (h3 : 0 ≤ i3) (h4 : 0 ≤ i4) (h5 : 0 ≤ i5) (h6 : 0 ≤ i6) (hok : okN i0 i1 i2 i4 i5 i6 = true) : ∃ is' bs', F25 [i0, i1, i2, i3, i4, i5, i6] [b0, b1, b2, b3, b4, b5] = (is', true :: bs') ∧ Nok is' bs' := by
  unfold F25
  obtain ⟨ρ, e1, e2, e3, e4⟩ := Smry.run_specT (Φ := tabF T19) (S := S25) (is := [i0, i1, i2, i3, i4, i5, i6]) (bs := [b0, b1, b2, b3, b4, b5]) rfl
  rw [e1, obAll_eq]
  clear e1
  simp only [S25, obs, Gd.d_cons, Gd.d_nil, eqns, Em.eqn, headsI, headsB, RI.d, RB.d, A.d, B.d, cm_eql, cm_neq, cm_lss, cm_leq, cm_gtr, cm_geq, List.map_cons, List.map_nil, and_true, Nat.zero_add, Nat.reduceAdd, ltn, upto, true_and, Nat.add_zero, List.getD_cons_zero, List.getD_cons_succ, add8, sub8, add16, sub16, mul16, wrap_u8, wrap_u16, and8_1, and8_7, and8_8, and8_15, and8_16, and8_31, and8_32, and8_64, and8_127, and8_128, and16_1, and16_255, and16_1792, shr8_1, shr8_3, shr8_4, shr8_6, shr16_1, shr16_6, shr16_8, shl16_8, shl16_14, rem_eq, quo8_eq, quo16_eq] at e2 e3 e4 ⊢
  simp only [e2, e3] at e4 ⊢
  rw [show tabF T19 42 = F42 by rfl, v42 (h6 := h6), hok] at e4
  simp only [List.getD_cons_zero] at e4
  simp only [okN, okE, Bool.and_eq_true, decide_eq_true_eq] at hok
  have p0 : 0 ≤ i0 ∧ i0 < 16 := ⟨h0, by clear e2 e3 e4; omega⟩
  have p1 : 0 ≤ i1 ∧ i1 < 16 := ⟨h1, by clear e2 e3 e4; omega⟩
  have p2 : 0 ≤ i2 ∧ i2 < 16 := ⟨h2, by clear e2 e3 e4; omega⟩
  have p3 : 0 ≤ i3 := h3
  have p4 : 0 ≤ i4 ∧ i4 < 16 := ⟨h4, by clear e2 e3 e4; omega⟩
  have p5 : 0 ≤ i5 ∧ i5 < 4096 := ⟨h5, by clear e2 e3 e4; omega⟩
  have p6 : 1 ≤ i6 ∧ i6 < 32768 := by clear e2 e3 e4; omega
  clear hok h0 h1 h2 h3 h4 h5 h6 e2 e3
  have hb6 := e4.1
  have r0 := e4.2
  clear e4
  have hb7 := r0.1
  have r1 := r0.2
  clear r0
  have hb8 := r1.1
  have r2 := r1.2
  clear r1
  have hi7 := r2.1
  have r3 := r2.2
  clear r2
  have hb9 := r3.1
  have r4 := r3.2
  clear r3
  have hi8 := r4.1
  have r5 := r4.2
  clear r4
  have hb10 := r5.1
  have r6 := r5.2
  clear r5
  have hb11 := r6.1
  have r7 := r6.2
  clear r6
  have hi9 := r7.1
  have r8 := r7.2
  clear r7
  have hi10 := r8.1
  have r9 := r8.2
  clear r8
  have hi11 := r9.1
  have r10 := r9.2
  clear r9
  have hi12 := r10.1
  have r11 := r10.2
  clear r10
  have hb12 := r11.1
  have r12 := r11.2
  clear r11
  have hi13 := r12.1
  have r13 := r12.2
  clear r12
  have hi14 := r13.1
  have r14 := r13.2
  clear r13
  have hi15 := r14.1
  have r15 := r14.2
  clear r14
  have hi16 := r15.1
  have r16 := r15.2
  clear r15
  have hi17 := r16.1
  have r17 := r16.2
  clear r16
  have hb13 := r17.1
  have r18 := r17.2
  clear r17
  have hb14 := r18.1
  have r19 := r18.2
  clear r18
  have hb15 := r19.1
  have r20 := r19.2
  clear r19
  have hi18 := r20.1
  have r21 := r20.2
  clear r20
  have hi19 := r21
  have o9 : 4 ≤ ρ.i 9 ∧ ρ.i 9 < 4069 := by rw [hi9]; exact rate_in _ (by clear hb6 hb7 hb8 hi7 hb9 hi8 hb10 hb11 hi9 hi10 hi11 hi12 hb12 hi13 hi14 hi15 hi16 hi17 hb13 hb14 hb15 hi18 hi19; omega)
  have a13 : ρ.i 13 = i6 / 2 ∨ ρ.i 13 = i6 / 64 := by
    rw [hi13, hi11]
    clear hb6 hb7 hb8 hi7 hb9 hi8 hb10 hb11 hi9 hi10 hi11 hi12 hb12 hi13 hi14 hi15 hi16 hi17 hb13 hb14 hb15 hi18 hi19
    split
    · exact .inr (by simp only [shr16_6])
    · exact .inl (by simp only [shr16_1])
  have a15 : ρ.i 15 = (i6 + ρ.i 13) % 2 := by
    rw [hi15, hi14]
    exact xor1 i6 (ρ.i 13) (by clear hb6 hb7 hb8 hi7 hb9 hi8 hb10 hb11 hi9 hi10 hi11 hi12 hb12 hi13 hi14 hi15 hi16 hi17 hb13 hb14 hb15 hi18 hi19; omega)
  have a16 : ρ.i 16 = 16384 * ρ.i 15 := by rw [hi16]; clear hb6 hb7 hb8 hi7 hb9 hi8 hb10 hb11 hi9 hi10 hi11 hi12 hb12 hi13 hi14 hi15 hi16 hi17 hb13 hb14 hb15 hi18 hi19; omega
  have a12 : ρ.i 12 = i6 / 2 := by rw [hi12]
  have o17 : 1 ≤ ρ.i 17 ∧ ρ.i 17 < 32768 := by
    have z := orW_lt (ρ.i 12) (ρ.i 16) 15 (by decide) (by clear hb6 hb7 hb8 hi7 hb9 hi8 hb10 hb11 hi9 hi10 hi11 hi12 hb12 hi13 hi14 hi15 hi16 hi17 hb13 hb14 hb15 hi18 hi19; omega) (by clear hb6 hb7 hb8 hi7 hb9 hi8 hb10 hb11 hi9 hi10 hi11 hi12 hb12 hi13 hi14 hi15 hi16 hi17 hb13 hb14 hb15 hi18 hi19; omega)
    rw [← hi17] at z
    clear hb6 hb7 hb8 hi7 hb9 hi8 hb10 hb11 hi9 hi10 hi11 hi12 hb12 hi13 hi14 hi15 hi16 hi17 hb13 hb14 hb15 hi18 hi19
    have c6 : i6 = 1 ∨ 2 ≤ i6 := by clear z a12 a13 a15 a16; omega
    rcases c6 with rfl | c6
    · have d13 : ρ.i 13 = 0 := by clear z a12 a15 a16; omega
      have d15 : ρ.i 15 = 1 := by rw [a15, d13]; rfl
      clear a12 a13 a15
      omega
    · clear a13 a15
      omega
  have q5 : 0 ≤ ρ.i 18 ∧ ρ.i 18 < 4096 := by
    clear hb10 hb11 hb12 hb9 hi11 hi12 hi13 hi14 hi15 hi16 hi17 hi19 hi9 o17 p0 p1 p2 p3 p4 p6
    grind
  have q6 : 1 ≤ ρ.i 19 ∧ ρ.i 19 < 32768 := by
    clear hb10 hb11 hb12 hb9 hi10 hi11 hi12 hi13 hi14 hi15 hi16 hi17 hi18 hi7 hi8 hi9 o9 p0 p1 p2 p3 p4
    grind
  refine ⟨_, _, obPair ?ob, mkN p0 p1 p2 p3 p4 q5 q6⟩
  grind
theorem s_35 (i0 i1 i2 i3 i4 i5 : Int) (b0 b1 b2 : Bool) (h0 : 0 ≤ i0) (h1 : 0 ≤ i1) (h2 : 0 ≤ i2) (h3 : 0 ≤ i3) (h4 : 0 ≤ i4) (h5 : 0 ≤ i5) (hok : okT i1 i2 i3 i4 i5 = true) : ∃ s, F35 [i0, i1, i2, i3, i4, i5] [b0, b1, b2] = ([s], []) ∧ 0 ≤ s ∧ s < 16 := by
  unfold F35
  obtain ⟨ρ, e1, e2, e3, e4⟩ := Smry.run_spec (Φ := tabF T15) (S := S35) (is := [i0, i1, i2, i3, i4, i5]) (bs := [b0, b1, b2]) rfl
  rw [e1]
  clear e1
  simp only [S35, obs, Gd.d_cons, Gd.d_nil, eqns, Em.eqn, headsI, headsB, RI.d, RB.d, A.d, B.d, cm_eql, cm_neq, cm_lss, cm_leq, cm_gtr, cm_geq, List.map_cons, List.map_nil, and_true, Nat.zero_add, Nat.reduceAdd, ltn, upto, true_and, Nat.add_zero, List.getD_cons_zero, List.getD_cons_succ, add8, sub8, add16, sub16, mul16, wrap_u8, wrap_u16, and8_1, and8_7, and8_8, and8_15, and8_16, and8_31, and8_32, and8_64, and8_127, and8_128, and16_1, and16_255, and16_1792, shr8_1, shr8_3, shr8_4, shr8_6, shr16_1, shr16_6, shr16_8, shl16_8, shl16_14, rem_eq, quo8_eq, quo16_eq] at e2 e3 e4 ⊢
  simp only [e2, e3] at e4 ⊢
  rw [show tabF T15 41 = F41 by rfl, v41, hok] at e4
  simp only [List.getD_cons_zero] at e4
  simp only [okT, Bool.and_eq_true, decide_eq_true_eq] at hok
  have p0 : 0 ≤ i0 := h0
  have p1 : 0 ≤ i1 ∧ i1 < 128 := ⟨h1, by clear e2 e3 e4; omega⟩
  have p2 : 0 ≤ i2 ∧ i2 < 128 := ⟨h2, by clear e2 e3 e4; omega⟩
  have p3 : 0 ≤ i3 ∧ i3 < 32 := ⟨h3, by clear e2 e3 e4; omega⟩
  have p4 : 0 ≤ i4 ∧ i4 < 2048 := ⟨h4, by clear e2 e3 e4; omega⟩
  have p5 : 0 ≤ i5 ∧ i5 < 2048 := ⟨h5, by clear e2 e3 e4; omega⟩
  clear hok h0 h1 h2 h3 h4 h5 e2 e3
  have hb3 := e4.1
  have r0 := e4.2
  clear e4
  have hb4 := r0.1
  have r1 := r0.2
  clear r0
  have hb5 := r1.1
  have r2 := r1.2
  clear r1
  have hi6 := r2.1
  have r3 := r2.2
  clear r2
  have hb6 := r3.1
  have r4 := r3.2
  clear r3
  have hi7 := r4.1
  have r5 := r4.2
  clear r4
  have hi8 := r5.1
  have r6 := r5.2
  clear r5
  have hb7 := r6.1
  have r7 := r6.2
  clear r6
  have hb8 := r7.1
  have r8 := r7.2
  clear r7
  have hb9 := r8.1
  have r9 := r8.2
  clear r8
  have hi9 := r9
  refine ⟨_, rfl, ?bd⟩
  grind
theorem s_36 (i0 i1 i2 i3 i4 i5 i6 : Int) (b0 b1 b2 b3 b4 b5 : Bool) (h0 : 0 ≤ i0) (h1 : 0 ≤ i1) (h2 : 0 ≤ i2) (h3 : 0 ≤ i3) (h4 : 0 ≤ i4) (h5 : 0 ≤ i5) (h6 : 0 ≤ i6) (hok : okN i0 i1 i2 i4 i5 i6 = true) : ∃ s, F36 [i0, i1, i2, i3, i4, i5, i6] [b0, b1, b2, b3, b4, b5] = ([s], []) ∧ 0 ≤ s ∧ s < 16 := by
  unfold F36
  obtain ⟨ρ, e1, e2, e3, e4⟩ := Smry.run_spec (Φ := tabF T16) (S := S36) (is := [i0, i1, i2, i3, i4, i5, i6]) (bs := [b0, b1, b2, b3, b4, b5]) rfl
  rw [e1]
  clear e1
  simp only [S36, obs, Gd.d_cons, Gd.d_nil, eqns, Em.eqn, headsI, headsB, RI.d, RB.d, A.d, B.d, cm_eql, cm_neq, cm_lss, cm_leq, cm_gtr, cm_geq, List.map_cons, List.map_nil, and_true, Nat.zero_add, Nat.reduceAdd, ltn, upto, true_and, Nat.add_zero, List.getD_cons_zero, List.getD_cons_succ, add8, sub8, add16, sub16, mul16, wrap_u8, wrap_u16, and8_1, and8_7, and8_8, and8_15, and8_16, and8_31, and8_32, and8_64, and8_127, and8_128, and16_1, and16_255, and16_1792, shr8_1, shr8_3, shr8_4, shr8_6, shr16_1, shr16_6, shr16_8, shl16_8, shl16_14, rem_eq, quo8_eq, quo16_eq] at e2 e3 e4 ⊢
  simp only [e2, e3] at e4 ⊢
  rw [show tabF T16 42 = F42 by rfl, v42 (h6 := h6), hok] at e4
  simp only [List.getD_cons_zero] at e4
  simp only [okN, okE, Bool.and_eq_true, decide_eq_true_eq] at hok
  have p0 : 0 ≤ i0 ∧ i0 < 16 := ⟨h0, by clear e2 e3 e4; omega⟩
  have p1 : 0 ≤ i1 ∧ i1 < 16 := ⟨h1, by clear e2 e3 e4; omega⟩
  have p2 : 0 ≤ i2 ∧ i2 < 16 := ⟨h2, by clear e2 e3 e4; omega⟩
  have p3 : 0 ≤ i3 := h3
  have p4 : 0 ≤ i4 ∧ i4 < 16 := ⟨h4, by clear e2 e3 e4; omega⟩
  have p5 : 0 ≤ i5 ∧ i5 < 4096 := ⟨h5, by clear e2 e3 e4; omega⟩
  have p6 : 1 ≤ i6 ∧ i6 < 32768 := by clear e2 e3 e4; omega
  clear hok h0 h1 h2 h3 h4 h5 h6 e2 e3
  have hb6 := e4.1
  have r0 := e4.2
  clear e4
  have hb7 := r0.1
  have r1 := r0.2
  clear r0
  have hb8 := r1.1
  have r2 := r1.2
  clear r1
  have hb9 := r2.1
  have r3 := r2.2
  clear r2
  have hi7 := r3.1
  have r4 := r3.2
  clear r3
  have hb10 := r4.1
  have r5 := r4.2
  clear r4
  have hb11 := r5.1
  have r6 := r5.2
  clear r5
  have hb12 := r6.1
  have r7 := r6.2
  clear r6
  have hi8 := r7.1
  have r8 := r7.2
  clear r7
  have hb13 := r8.1
  have r9 := r8.2
  clear r8
  have hi9 := r9
  refine ⟨_, rfl, ?bd⟩
  grind
theorem s_34 (i0 i1 i2 i3 i4 i5 i6 i7 i8 i9 i10 : Int) (b0 b1 b2 b3 b4 b5 b6 b7 b8 : Bool) (h0 : 0 ≤ i0) (h1 : 0 ≤ i1) (h2 : 0 ≤ i2) (h3 : 0 ≤ i3) (h4 : 0 ≤ i4) (h5 : 0 ≤ i5) (h6 : 0 ≤ i6) (h7 : 0 ≤ i7) (h8 : 0 ≤ i8) (h9 : 0 ≤ i9) (h10 : 0 ≤ i10) (hok : okP i0 i1 i2 i4 i5 i6 i7 i8 i9 i10 = true) : ∃ s, F34 [i0, i1, i2, i3, i4, i5, i6, i7, i8, i9, i10] [b0, b1, b2, b3, b4, b5, b6, b7, b8] = ([s], [true]) ∧ 0 ≤ s ∧ s < 16 := by
  unfold F34
  obtain ⟨ρ, e1, e2, e3, e4⟩ := Smry.run_specT (Φ := tabF T14) (S := S34) (is := [i0, i1, i2, i3, i4, i5, i6, i7, i8, i9, i10]) (bs := [b0, b1, b2, b3, b4, b5, b6, b7, b8]) rfl
  rw [e1, obAll_eq]
  clear e1
  simp only [S34, obs, Gd.d_cons, Gd.d_nil, eqns, Em.eqn, headsI, headsB, RI.d, RB.d, A.d, B.d, cm_eql, cm_neq, cm_lss, cm_leq, cm_gtr, cm_geq, List.map_cons, List.map_nil, and_true, Nat.zero_add, Nat.reduceAdd, ltn, upto, true_and, Nat.add_zero, List.getD_cons_zero, List.getD_cons_succ, add8, sub8, add16, sub16, mul16, wrap_u8, wrap_u16, and8_1, and8_7, and8_8, and8_15, and8_16, and8_31, and8_32, and8_64, and8_127, and8_128, and16_1, and16_255, and16_1792, shr8_1, shr8_3, shr8_4, shr8_6, shr16_1, shr16_6, shr16_8, shl16_8, shl16_14, rem_eq, quo8_eq, quo16_eq] at e2 e3 e4 ⊢
  simp only [e2, e3] at e4 ⊢
  rw [show tabF T14 37 = F37 by rfl, v37, hok] at e4
  simp only [List.getD_cons_zero] at e4
  simp only [okP, okE, Bool.and_eq_true, decide_eq_true_eq] at hok
  have p0 : 0 ≤ i0 ∧ i0 < 16 := ⟨h0, by clear e2 e3 e4; omega⟩
  have p1 : 0 ≤ i1 ∧ i1 < 16 := ⟨h1, by clear e2 e3 e4; omega⟩
  have p2 : 0 ≤ i2 ∧ i2 < 16 := ⟨h2, by clear e2 e3 e4; omega⟩
  have p3 : 0 ≤ i3 := h3
  have p4 : 0 ≤ i4 ∧ i4 < 4 := ⟨h4, by clear e2 e3 e4; omega⟩
  have p5 : 0 ≤ i5 ∧ i5 < 8 := ⟨h5, by clear e2 e3 e4; omega⟩
  have p6 : 0 ≤ i6 ∧ i6 < 2048 := ⟨h6, by clear e2 e3 e4; omega⟩
  have p7 : 0 ≤ i7 ∧ i7 < 2048 := ⟨h7, by clear e2 e3 e4; omega⟩
  have p8 : 0 ≤ i8 ∧ i8 < 8 := ⟨h8, by clear e2 e3 e4; omega⟩
  have p9 : 0 ≤ i9 ∧ i9 < 8 := ⟨h9, by clear e2 e3 e4; omega⟩
  have p10 : 0 ≤ i10 ∧ i10 < 8 := ⟨h10, by clear e2 e3 e4; omega⟩
  clear hok h0 h1 h2 h3 h4 h5 h6 h7 h8 h9 h10 e2 e3
  rw [show tabF T14 53 = F53 by rfl, mu53 (h6 := p6) (h9 := p9)] at e4
  simp only [List.getD_cons_zero, List.getD_cons_succ] at e4
  have hb9 := e4.1
  have r0 := e4.2
  clear e4
  have hb10 := r0.1
  have r1 := r0.2
  clear r0
  have hb11 := r1.1
  have r2 := r1.2
  clear r1
  have hb12 := r2.1
  have r3 := r2.2
  clear r2
  have hb13 := r3.1.1
  have hb14 := r3.1.2
  have r4 := r3.2
  clear r3
  have hb15 := r4.1
  have r5 := r4.2
  clear r4
  have hb16 := r5.1
  have r6 := r5.2
  clear r5
  have hb17 := r6.1
  have r7 := r6.2
  clear r6
  have hi11 := r7.1
  have r8 := r7.2
  clear r7
  have hb18 := r8.1
  have r9 := r8.2
  clear r8
  have hi12 := r9.1
  have r10 := r9.2
  clear r9
  have hi13 := r10.1
  have r11 := r10.2
  clear r10
  have hb19 := r11.1
  have r12 := r11.2
  clear r11
  have hb20 := r12.1
  have r13 := r12.2
  clear r12
  have hb21 := r13.1
  have r14 := r13.2
  clear r13
  have hi14 := r14.1
  have r15 := r14.2
  clear r14
  have hb22 := r15.1
  have r16 := r15.2
  clear r15
  have hi15 := r16
  refine ⟨_, obPair ?ob, ?bd⟩
  case ob => simp [hb13, hb16, hb17, hb18, p4, p5]
  case bd => rw [hi15, hi14]; clear hb9 hb10 hb11 hb12 hb13 hb14 hb15 hb16 hb17 hi11 hb18 hi12 hi13 hb19 hb20 hb21 hi14 hb22 hi15 r16; by_cases hq : ρ.b 22 = true <;> by_cases hr : ρ.b 21 = true <;> simp [hq, hr] <;> omega
end Go.Proofs.YtdpogmikhfgcmaaDoor.Ap
