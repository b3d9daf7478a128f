/-
  tone: the pulse: writes and timer. WRITTEN BY PROGRAM (wip/gen/ta7.py). No condition.
-/
import Derived.Test.YtoempcgniokpiaaDoorTaN
set_option linter.unusedVariables false
set_option linter.unusedSimpArgs false
namespace Go.Proofs.YtoempcgniokpiaaDoor.Ta
open Go Go.Proofs.YtoempcgniokpiaaDoor.Sx

theorem q32 (i0 i1 i2 i3 i4 i5 i6 i7 i8 i9 i10 i11 i12 : Int) (b0 b1 b2 b3 b4 b5 b6 b7 b8 : Bool) (h0 : 0 ≤ i0) (h1 : 0 ≤ i1) (h2 : 0 ≤ i2) (h3 : 0 ≤ i3) (h4 : 0 ≤ i4) (h5 : 0 ≤ i5) (h6 : 0 ≤ i6) (h7 : 0 ≤ i7) (h8 : 0 ≤ i8) (h9 : 0 ≤ i9) (h10 : 0 ≤ i10) (h12 : 0 ≤ i12 ∧ i12 ≤ 255) : F32 [i0, i1, i2, i3, i4, i5, i6, i7, i8, i9, i10, i11, i12] [b0, b1, b2, b3, b4, b5, b6, b7, b8] = F61 [i0, i1, i2, i3, i4, i5, i6, i7, i8, i9, i10, i11, i12] [b0, b1, b2, b3, b4, b5, b6, b7, b8] := by
  unfold F32 F61
  obtain ⟨ρ, e1, e2, e3, e4⟩ := Smry.run_specT (Φ := tabF T19) (S := S32) (is := [i0, i1, i2, i3, i4, i5, i6, i7, i8, i9, i10, i11, i12]) (bs := [b0, b1, b2, b3, b4, b5, b6, b7, b8]) rfl
  obtain ⟨σ, f1, f2, f3, f4⟩ := Smry.run_specT (Φ := tabF T38) (S := S61) (is := [i0, i1, i2, i3, i4, i5, i6, i7, i8, i9, i10, i11, i12]) (bs := [b0, b1, b2, b3, b4, b5, b6, b7, b8]) rfl
  rw [e1, f1, obAll_eq, obAll_eq]
  clear e1 f1
  simp only [S32, S61, obs, Gd.d_cons, Gd.d_nil, eqns, Em.eqn, headsI, headsB, RI.d, RB.d, A.d, B.d, cm_eql, cm_neq, cm_lss, cm_leq, cm_gtr, cm_geq, List.map_cons, List.map_nil, and_true, Nat.zero_add, Nat.reduceAdd, ltn, upto, true_and, Nat.add_zero, List.getD_cons_zero, List.getD_cons_succ, add8, sub8, add16, sub16, mul16, wrap_u8, wrap_u16, and8_1, and8_7, and8_8, and8_15, and8_16, and8_31, and8_32, and8_64, and8_127, and8_128, and16_1, and16_255, and16_1792, shr8_1, shr8_3, shr8_4, shr8_6, shr16_1, shr16_6, shr16_8, shl16_8, shl16_14, rem_eq, quo8_eq, quo16_eq] at e2 e3 e4 f2 f3 f4 ⊢
  simp only [e2, e3, f2, f3] at e4 f4 ⊢
  rw [show tabF T19 68 = F68 by rfl, v68] at e4
  rw [show tabF T38 37 = F37 by rfl, v37] at f4
  simp only [List.getD_cons_zero] at e4 f4
  rw [show tabF T19 73 = F73 by rfl, l73 (h1 := h12)] at e4
  rw [show tabF T38 80 = F80 by rfl, l80 (h1 := h12)] at f4
  simp only [List.getD_cons_zero, List.getD_cons_succ] at e4 f4
  have ht := longs_byte (i12 / 8).toNat
  generalize longTab.getD (i12 / 8).toNat 0 = tb at *
  cases hm : okP i0 i1 i2 i4 i5 i6 i7 i8 i9 i10
  · rw [hm] at e4 f4
    clear hm
    grind
  · rw [hm] at e4 f4
    simp only [okP, okE, Bool.and_eq_true, decide_eq_true_eq] at hm
    obtain ⟨hb9, hb10, hb11, hi13, hi14, hb12, hi15, hb13, hi16, hb14, hi17, hb15, hi18, hi19, hi20, hb16, hi21, hb17, hb18, hb19, hb20, hi22, hi23, hi24, hi25, hi26, hi27, hi28, hi29, hi30, hb21, ⟨hi31, hb22, hb23, hb24⟩, hb25, hb26, hb27, hi32, hi33, hb28, hb29, hb30, hi34, hi35, hi36, hb31, hb32, hb33, hi37, hi38, hi39, hb34, hb35, hb36, hi40, hi41, hb37, hb38, hb39, hi42, hb40, hb41, hi43, hi44, hi45, hi46, hb42, hb43, hb44, hi47, hi48, hb45, hb46, hb47, hb48, hi49, hb49, hb50, hi50, hi51, hi52, hi53, hb51, hb52, hb53, hi54, hi55⟩ := e4
    obtain ⟨gb9, gb10, gb11, gi13, gi14, gi15, gb12, gi16, gi17, gb13, gi18, gi19, gi20, gb14, gb15, gb16, gi21, gi22, gi23, gi24, gb17, gi25, gb18, gi26, gi27, gi28, gi29, gb19, gi30, gi31, gi32, gi33, gi34, ⟨gi35, gb20, gb21, gb22⟩, gb23, gb24, gb25, gi36, gi37, gi38, gb26, gb27, gb28, gi39, gi40, gi41, gb29, gb30, gb31, gi42, gi43, gi44, gb32, gb33, gb34, gi45, gi46, gb35, gb36, gb37, gi47, gb38, gb39, gi48, gi49, gi50, gi51, gb40, gb41, gb42, gi52, gi53, gb43, gb44, gb45, gb46, gi54, gb47, gb48, gi55, gi56, gi57, gi58, gb49, gb50, gb51, gi59, gi60⟩ := f4
    have A1 : ρ.i 13 = σ.i 13 := by
      rw [hi13, gi13]
      clear e2 e3 f2 f3 hb9 hb10 hb11 hi13 hi14 hb12 hi15 hb13 hi16 hb14 hi17 hb15 hi18 hi19 hi20 hb16 hi21 hb17 hb18 hb19 hb20 hi22 hi23 hi24 hi25 hi26 hi27 hi28 hi29 hi30 hb21 hi31 hb22 hb23 hb24 hb25 hb26 hb27 hi32 hi33 hb28 hb29 hb30 hi34 hi35 hi36 hb31 hb32 hb33 hi37 hi38 hi39 hb34 hb35 hb36 hi40 hi41 hb37 hb38 hb39 hi42 hb40 hb41 hi43 hi44 hi45 hi46 hb42 hb43 hb44 hi47 hi48 hb45 hb46 hb47 hb48 hi49 hb49 hb50 hi50 hi51 hi52 hi53 hb51 hb52 hb53 hi54 hi55 gb9 gb10 gb11 gi13 gi14 gi15 gb12 gi16 gi17 gb13 gi18 gi19 gi20 gb14 gb15 gb16 gi21 gi22 gi23 gi24 gb17 gi25 gb18 gi26 gi27 gi28 gi29 gb19 gi30 gi31 gi32 gi33 gi34 gi35 gb20 gb21 gb22 gb23 gb24 gb25 gi36 gi37 gi38 gb26 gb27 gb28 gi39 gi40 gi41 gb29 gb30 gb31 gi42 gi43 gi44 gb32 gb33 gb34 gi45 gi46 gb35 gb36 gb37 gi47 gb38 gb39 gi48 gi49 gi50 gi51 gb40 gb41 gb42 gi52 gi53 gb43 gb44 gb45 gb46 gi54 gb47 gb48 gi55 gi56 gi57 gi58 gb49 gb50 gb51 gi59 gi60
      (repeat' split) <;> omega
    have A2 : ρ.b 12 = σ.b 12 := by
      rw [hb12, hi14, gb12, gi15, gi14]
      rw [Bool.eq_iff_iff]
      simp only [decide_eq_true_eq, beq_iff_eq]
      clear e2 e3 f2 f3 hb9 hb10 hb11 hi13 hi14 hb12 hi15 hb13 hi16 hb14 hi17 hb15 hi18 hi19 hi20 hb16 hi21 hb17 hb18 hb19 hb20 hi22 hi23 hi24 hi25 hi26 hi27 hi28 hi29 hi30 hb21 hi31 hb22 hb23 hb24 hb25 hb26 hb27 hi32 hi33 hb28 hb29 hb30 hi34 hi35 hi36 hb31 hb32 hb33 hi37 hi38 hi39 hb34 hb35 hb36 hi40 hi41 hb37 hb38 hb39 hi42 hb40 hb41 hi43 hi44 hi45 hi46 hb42 hb43 hb44 hi47 hi48 hb45 hb46 hb47 hb48 hi49 hb49 hb50 hi50 hi51 hi52 hi53 hb51 hb52 hb53 hi54 hi55 gb9 gb10 gb11 gi13 gi14 gi15 gb12 gi16 gi17 gb13 gi18 gi19 gi20 gb14 gb15 gb16 gi21 gi22 gi23 gi24 gb17 gi25 gb18 gi26 gi27 gi28 gi29 gb19 gi30 gi31 gi32 gi33 gi34 gi35 gb20 gb21 gb22 gb23 gb24 gb25 gi36 gi37 gi38 gb26 gb27 gb28 gi39 gi40 gi41 gb29 gb30 gb31 gi42 gi43 gi44 gb32 gb33 gb34 gi45 gi46 gb35 gb36 gb37 gi47 gb38 gb39 gi48 gi49 gi50 gi51 gb40 gb41 gb42 gi52 gi53 gb43 gb44 gb45 gb46 gi54 gb47 gb48 gi55 gi56 gi57 gi58 gb49 gb50 gb51 gi59 gi60
      (repeat' split) <;> omega
    have A3 : ρ.b 13 = σ.b 13 := by
      rw [hb13, hi15, gb13, gi17, gi16]
      rw [Bool.eq_iff_iff]
      simp only [decide_eq_true_eq, beq_iff_eq]
      clear e2 e3 f2 f3 hb9 hb10 hb11 hi13 hi14 hb12 hi15 hb13 hi16 hb14 hi17 hb15 hi18 hi19 hi20 hb16 hi21 hb17 hb18 hb19 hb20 hi22 hi23 hi24 hi25 hi26 hi27 hi28 hi29 hi30 hb21 hi31 hb22 hb23 hb24 hb25 hb26 hb27 hi32 hi33 hb28 hb29 hb30 hi34 hi35 hi36 hb31 hb32 hb33 hi37 hi38 hi39 hb34 hb35 hb36 hi40 hi41 hb37 hb38 hb39 hi42 hb40 hb41 hi43 hi44 hi45 hi46 hb42 hb43 hb44 hi47 hi48 hb45 hb46 hb47 hb48 hi49 hb49 hb50 hi50 hi51 hi52 hi53 hb51 hb52 hb53 hi54 hi55 gb9 gb10 gb11 gi13 gi14 gi15 gb12 gi16 gi17 gb13 gi18 gi19 gi20 gb14 gb15 gb16 gi21 gi22 gi23 gi24 gb17 gi25 gb18 gi26 gi27 gi28 gi29 gb19 gi30 gi31 gi32 gi33 gi34 gi35 gb20 gb21 gb22 gb23 gb24 gb25 gi36 gi37 gi38 gb26 gb27 gb28 gi39 gi40 gi41 gb29 gb30 gb31 gi42 gi43 gi44 gb32 gb33 gb34 gi45 gi46 gb35 gb36 gb37 gi47 gb38 gb39 gi48 gi49 gi50 gi51 gb40 gb41 gb42 gi52 gi53 gb43 gb44 gb45 gb46 gi54 gb47 gb48 gi55 gi56 gi57 gi58 gb49 gb50 gb51 gi59 gi60
      (repeat' split) <;> omega
    have A4 : ρ.i 16 = σ.i 18 := by
      rw [hi16, gi18]
      clear e2 e3 f2 f3 hb9 hb10 hb11 hi13 hi14 hb12 hi15 hb13 hi16 hb14 hi17 hb15 hi18 hi19 hi20 hb16 hi21 hb17 hb18 hb19 hb20 hi22 hi23 hi24 hi25 hi26 hi27 hi28 hi29 hi30 hb21 hi31 hb22 hb23 hb24 hb25 hb26 hb27 hi32 hi33 hb28 hb29 hb30 hi34 hi35 hi36 hb31 hb32 hb33 hi37 hi38 hi39 hb34 hb35 hb36 hi40 hi41 hb37 hb38 hb39 hi42 hb40 hb41 hi43 hi44 hi45 hi46 hb42 hb43 hb44 hi47 hi48 hb45 hb46 hb47 hb48 hi49 hb49 hb50 hi50 hi51 hi52 hi53 hb51 hb52 hb53 hi54 hi55 gb9 gb10 gb11 gi13 gi14 gi15 gb12 gi16 gi17 gb13 gi18 gi19 gi20 gb14 gb15 gb16 gi21 gi22 gi23 gi24 gb17 gi25 gb18 gi26 gi27 gi28 gi29 gb19 gi30 gi31 gi32 gi33 gi34 gi35 gb20 gb21 gb22 gb23 gb24 gb25 gi36 gi37 gi38 gb26 gb27 gb28 gi39 gi40 gi41 gb29 gb30 gb31 gi42 gi43 gi44 gb32 gb33 gb34 gi45 gi46 gb35 gb36 gb37 gi47 gb38 gb39 gi48 gi49 gi50 gi51 gb40 gb41 gb42 gi52 gi53 gb43 gb44 gb45 gb46 gi54 gb47 gb48 gi55 gi56 gi57 gi58 gb49 gb50 gb51 gi59 gi60
      (repeat' split) <;> omega
    have A5 : σ.b 14 = σ.b 12 := by rw [gb14, gb12, gi20, gi15, gi19, gi14]
    have A6 : ρ.b 15 = σ.b 16 := by
      rw [hb15, hi17, gb16]
      rw [Bool.eq_iff_iff]
      simp only [decide_eq_true_eq, beq_iff_eq]
      clear e2 e3 f2 f3 hb9 hb10 hb11 hi13 hi14 hb12 hi15 hb13 hi16 hb14 hi17 hb15 hi18 hi19 hi20 hb16 hi21 hb17 hb18 hb19 hb20 hi22 hi23 hi24 hi25 hi26 hi27 hi28 hi29 hi30 hb21 hi31 hb22 hb23 hb24 hb25 hb26 hb27 hi32 hi33 hb28 hb29 hb30 hi34 hi35 hi36 hb31 hb32 hb33 hi37 hi38 hi39 hb34 hb35 hb36 hi40 hi41 hb37 hb38 hb39 hi42 hb40 hb41 hi43 hi44 hi45 hi46 hb42 hb43 hb44 hi47 hi48 hb45 hb46 hb47 hb48 hi49 hb49 hb50 hi50 hi51 hi52 hi53 hb51 hb52 hb53 hi54 hi55 gb9 gb10 gb11 gi13 gi14 gi15 gb12 gi16 gi17 gb13 gi18 gi19 gi20 gb14 gb15 gb16 gi21 gi22 gi23 gi24 gb17 gi25 gb18 gi26 gi27 gi28 gi29 gb19 gi30 gi31 gi32 gi33 gi34 gi35 gb20 gb21 gb22 gb23 gb24 gb25 gi36 gi37 gi38 gb26 gb27 gb28 gi39 gi40 gi41 gb29 gb30 gb31 gi42 gi43 gi44 gb32 gb33 gb34 gi45 gi46 gb35 gb36 gb37 gi47 gb38 gb39 gi48 gi49 gi50 gi51 gb40 gb41 gb42 gi52 gi53 gb43 gb44 gb45 gb46 gi54 gb47 gb48 gi55 gi56 gi57 gi58 gb49 gb50 gb51 gi59 gi60
      (repeat' split) <;> omega
    have A7 : ρ.i 19 = σ.i 22 := by
      rw [hi19, hi18, gi22, gi21]
      clear e2 e3 f2 f3 hb9 hb10 hb11 hi13 hi14 hb12 hi15 hb13 hi16 hb14 hi17 hb15 hi18 hi19 hi20 hb16 hi21 hb17 hb18 hb19 hb20 hi22 hi23 hi24 hi25 hi26 hi27 hi28 hi29 hi30 hb21 hi31 hb22 hb23 hb24 hb25 hb26 hb27 hi32 hi33 hb28 hb29 hb30 hi34 hi35 hi36 hb31 hb32 hb33 hi37 hi38 hi39 hb34 hb35 hb36 hi40 hi41 hb37 hb38 hb39 hi42 hb40 hb41 hi43 hi44 hi45 hi46 hb42 hb43 hb44 hi47 hi48 hb45 hb46 hb47 hb48 hi49 hb49 hb50 hi50 hi51 hi52 hi53 hb51 hb52 hb53 hi54 hi55 gb9 gb10 gb11 gi13 gi14 gi15 gb12 gi16 gi17 gb13 gi18 gi19 gi20 gb14 gb15 gb16 gi21 gi22 gi23 gi24 gb17 gi25 gb18 gi26 gi27 gi28 gi29 gb19 gi30 gi31 gi32 gi33 gi34 gi35 gb20 gb21 gb22 gb23 gb24 gb25 gi36 gi37 gi38 gb26 gb27 gb28 gi39 gi40 gi41 gb29 gb30 gb31 gi42 gi43 gi44 gb32 gb33 gb34 gi45 gi46 gb35 gb36 gb37 gi47 gb38 gb39 gi48 gi49 gi50 gi51 gb40 gb41 gb42 gi52 gi53 gb43 gb44 gb45 gb46 gi54 gb47 gb48 gi55 gi56 gi57 gi58 gb49 gb50 gb51 gi59 gi60
      (repeat' split) <;> omega
    have A8 : ρ.b 16 = σ.b 17 := by
      rw [hb16, hi20, gb17, gi24, gi23]
      rw [Bool.eq_iff_iff]
      simp only [decide_eq_true_eq, beq_iff_eq]
      clear e2 e3 f2 f3 hb9 hb10 hb11 hi13 hi14 hb12 hi15 hb13 hi16 hb14 hi17 hb15 hi18 hi19 hi20 hb16 hi21 hb17 hb18 hb19 hb20 hi22 hi23 hi24 hi25 hi26 hi27 hi28 hi29 hi30 hb21 hi31 hb22 hb23 hb24 hb25 hb26 hb27 hi32 hi33 hb28 hb29 hb30 hi34 hi35 hi36 hb31 hb32 hb33 hi37 hi38 hi39 hb34 hb35 hb36 hi40 hi41 hb37 hb38 hb39 hi42 hb40 hb41 hi43 hi44 hi45 hi46 hb42 hb43 hb44 hi47 hi48 hb45 hb46 hb47 hb48 hi49 hb49 hb50 hi50 hi51 hi52 hi53 hb51 hb52 hb53 hi54 hi55 gb9 gb10 gb11 gi13 gi14 gi15 gb12 gi16 gi17 gb13 gi18 gi19 gi20 gb14 gb15 gb16 gi21 gi22 gi23 gi24 gb17 gi25 gb18 gi26 gi27 gi28 gi29 gb19 gi30 gi31 gi32 gi33 gi34 gi35 gb20 gb21 gb22 gb23 gb24 gb25 gi36 gi37 gi38 gb26 gb27 gb28 gi39 gi40 gi41 gb29 gb30 gb31 gi42 gi43 gi44 gb32 gb33 gb34 gi45 gi46 gb35 gb36 gb37 gi47 gb38 gb39 gi48 gi49 gi50 gi51 gb40 gb41 gb42 gi52 gi53 gb43 gb44 gb45 gb46 gi54 gb47 gb48 gi55 gi56 gi57 gi58 gb49 gb50 gb51 gi59 gi60
      (repeat' split) <;> omega
    have A9 : ρ.i 21 = σ.i 25 := by
      rw [hi21, gi25]
      clear e2 e3 f2 f3 hb9 hb10 hb11 hi13 hi14 hb12 hi15 hb13 hi16 hb14 hi17 hb15 hi18 hi19 hi20 hb16 hi21 hb17 hb18 hb19 hb20 hi22 hi23 hi24 hi25 hi26 hi27 hi28 hi29 hi30 hb21 hi31 hb22 hb23 hb24 hb25 hb26 hb27 hi32 hi33 hb28 hb29 hb30 hi34 hi35 hi36 hb31 hb32 hb33 hi37 hi38 hi39 hb34 hb35 hb36 hi40 hi41 hb37 hb38 hb39 hi42 hb40 hb41 hi43 hi44 hi45 hi46 hb42 hb43 hb44 hi47 hi48 hb45 hb46 hb47 hb48 hi49 hb49 hb50 hi50 hi51 hi52 hi53 hb51 hb52 hb53 hi54 hi55 gb9 gb10 gb11 gi13 gi14 gi15 gb12 gi16 gi17 gb13 gi18 gi19 gi20 gb14 gb15 gb16 gi21 gi22 gi23 gi24 gb17 gi25 gb18 gi26 gi27 gi28 gi29 gb19 gi30 gi31 gi32 gi33 gi34 gi35 gb20 gb21 gb22 gb23 gb24 gb25 gi36 gi37 gi38 gb26 gb27 gb28 gi39 gi40 gi41 gb29 gb30 gb31 gi42 gi43 gi44 gb32 gb33 gb34 gi45 gi46 gb35 gb36 gb37 gi47 gb38 gb39 gi48 gi49 gi50 gi51 gb40 gb41 gb42 gi52 gi53 gb43 gb44 gb45 gb46 gi54 gb47 gb48 gi55 gi56 gi57 gi58 gb49 gb50 gb51 gi59 gi60
      (repeat' split) <;> omega
    have A10 : ρ.i 24 = σ.i 29 := by
      rw [hi24, or16_hi _ _ (by rw [hi22, hi23]; clear e2 e3 f2 f3 hb9 hb10 hb11 hi13 hi14 hb12 hi15 hb13 hi16 hb14 hi17 hb15 hi18 hi19 hi20 hb16 hi21 hb17 hb18 hb19 hb20 hi22 hi23 hi24 hi25 hi26 hi27 hi28 hi29 hi30 hb21 hi31 hb22 hb23 hb24 hb25 hb26 hb27 hi32 hi33 hb28 hb29 hb30 hi34 hi35 hi36 hb31 hb32 hb33 hi37 hi38 hi39 hb34 hb35 hb36 hi40 hi41 hb37 hb38 hb39 hi42 hb40 hb41 hi43 hi44 hi45 hi46 hb42 hb43 hb44 hi47 hi48 hb45 hb46 hb47 hb48 hi49 hb49 hb50 hi50 hi51 hi52 hi53 hb51 hb52 hb53 hi54 hi55 gb9 gb10 gb11 gi13 gi14 gi15 gb12 gi16 gi17 gb13 gi18 gi19 gi20 gb14 gb15 gb16 gi21 gi22 gi23 gi24 gb17 gi25 gb18 gi26 gi27 gi28 gi29 gb19 gi30 gi31 gi32 gi33 gi34 gi35 gb20 gb21 gb22 gb23 gb24 gb25 gi36 gi37 gi38 gb26 gb27 gb28 gi39 gi40 gi41 gb29 gb30 gb31 gi42 gi43 gi44 gb32 gb33 gb34 gi45 gi46 gb35 gb36 gb37 gi47 gb38 gb39 gi48 gi49 gi50 gi51 gb40 gb41 gb42 gi52 gi53 gb43 gb44 gb45 gb46 gi54 gb47 gb48 gi55 gi56 gi57 gi58 gb49 gb50 gb51 gi59 gi60; omega), hi22, hi23, gi29, gi27, gi28, gi26]
      clear e2 e3 f2 f3 hb9 hb10 hb11 hi13 hi14 hb12 hi15 hb13 hi16 hb14 hi17 hb15 hi18 hi19 hi20 hb16 hi21 hb17 hb18 hb19 hb20 hi22 hi23 hi24 hi25 hi26 hi27 hi28 hi29 hi30 hb21 hi31 hb22 hb23 hb24 hb25 hb26 hb27 hi32 hi33 hb28 hb29 hb30 hi34 hi35 hi36 hb31 hb32 hb33 hi37 hi38 hi39 hb34 hb35 hb36 hi40 hi41 hb37 hb38 hb39 hi42 hb40 hb41 hi43 hi44 hi45 hi46 hb42 hb43 hb44 hi47 hi48 hb45 hb46 hb47 hb48 hi49 hb49 hb50 hi50 hi51 hi52 hi53 hb51 hb52 hb53 hi54 hi55 gb9 gb10 gb11 gi13 gi14 gi15 gb12 gi16 gi17 gb13 gi18 gi19 gi20 gb14 gb15 gb16 gi21 gi22 gi23 gi24 gb17 gi25 gb18 gi26 gi27 gi28 gi29 gb19 gi30 gi31 gi32 gi33 gi34 gi35 gb20 gb21 gb22 gb23 gb24 gb25 gi36 gi37 gi38 gb26 gb27 gb28 gi39 gi40 gi41 gb29 gb30 gb31 gi42 gi43 gi44 gb32 gb33 gb34 gi45 gi46 gb35 gb36 gb37 gi47 gb38 gb39 gi48 gi49 gi50 gi51 gb40 gb41 gb42 gi52 gi53 gb43 gb44 gb45 gb46 gi54 gb47 gb48 gi55 gi56 gi57 gi58 gb49 gb50 gb51 gi59 gi60
      (repeat' split) <;> omega
    have A11 : ρ.i 29 = σ.i 34 := by
      rw [hi29, or16_lo _ _ (by rw [hi25, hi28, hi27, hi26]; clear e2 e3 f2 f3 hb9 hb10 hb11 hi13 hi14 hb12 hi15 hb13 hi16 hb14 hi17 hb15 hi18 hi19 hi20 hb16 hi21 hb17 hb18 hb19 hb20 hi22 hi23 hi24 hi25 hi26 hi27 hi28 hi29 hi30 hb21 hi31 hb22 hb23 hb24 hb25 hb26 hb27 hi32 hi33 hb28 hb29 hb30 hi34 hi35 hi36 hb31 hb32 hb33 hi37 hi38 hi39 hb34 hb35 hb36 hi40 hi41 hb37 hb38 hb39 hi42 hb40 hb41 hi43 hi44 hi45 hi46 hb42 hb43 hb44 hi47 hi48 hb45 hb46 hb47 hb48 hi49 hb49 hb50 hi50 hi51 hi52 hi53 hb51 hb52 hb53 hi54 hi55 gb9 gb10 gb11 gi13 gi14 gi15 gb12 gi16 gi17 gb13 gi18 gi19 gi20 gb14 gb15 gb16 gi21 gi22 gi23 gi24 gb17 gi25 gb18 gi26 gi27 gi28 gi29 gb19 gi30 gi31 gi32 gi33 gi34 gi35 gb20 gb21 gb22 gb23 gb24 gb25 gi36 gi37 gi38 gb26 gb27 gb28 gi39 gi40 gi41 gb29 gb30 gb31 gi42 gi43 gi44 gb32 gb33 gb34 gi45 gi46 gb35 gb36 gb37 gi47 gb38 gb39 gi48 gi49 gi50 gi51 gb40 gb41 gb42 gi52 gi53 gb43 gb44 gb45 gb46 gi54 gb47 gb48 gi55 gi56 gi57 gi58 gb49 gb50 gb51 gi59 gi60; omega), hi25, hi28, hi27, hi26, gi34, gi30, gi33, gi32, gi31]
      clear e2 e3 f2 f3 hb9 hb10 hb11 hi13 hi14 hb12 hi15 hb13 hi16 hb14 hi17 hb15 hi18 hi19 hi20 hb16 hi21 hb17 hb18 hb19 hb20 hi22 hi23 hi24 hi25 hi26 hi27 hi28 hi29 hi30 hb21 hi31 hb22 hb23 hb24 hb25 hb26 hb27 hi32 hi33 hb28 hb29 hb30 hi34 hi35 hi36 hb31 hb32 hb33 hi37 hi38 hi39 hb34 hb35 hb36 hi40 hi41 hb37 hb38 hb39 hi42 hb40 hb41 hi43 hi44 hi45 hi46 hb42 hb43 hb44 hi47 hi48 hb45 hb46 hb47 hb48 hi49 hb49 hb50 hi50 hi51 hi52 hi53 hb51 hb52 hb53 hi54 hi55 gb9 gb10 gb11 gi13 gi14 gi15 gb12 gi16 gi17 gb13 gi18 gi19 gi20 gb14 gb15 gb16 gi21 gi22 gi23 gi24 gb17 gi25 gb18 gi26 gi27 gi28 gi29 gb19 gi30 gi31 gi32 gi33 gi34 gi35 gb20 gb21 gb22 gb23 gb24 gb25 gi36 gi37 gi38 gb26 gb27 gb28 gi39 gi40 gi41 gb29 gb30 gb31 gi42 gi43 gi44 gb32 gb33 gb34 gi45 gi46 gb35 gb36 gb37 gi47 gb38 gb39 gi48 gi49 gi50 gi51 gb40 gb41 gb42 gi52 gi53 gb43 gb44 gb45 gb46 gi54 gb47 gb48 gi55 gi56 gi57 gi58 gb49 gb50 gb51 gi59 gi60
      (repeat' split) <;> omega
    clear hb12 hb13 hb15 hb16 hi13 hi14 hi15 hi16 hi17 hi18 hi19 hi20 hi21 hi22 hi23 hi24 hi25 hi26 hi27 hi28 hi29 gb12 gb13 gb14 gb16 gb17 gi13 gi14 gi15 gi16 gi17 gi18 gi19 gi20 gi21 gi22 gi23 gi24 gi25 gi26 gi27 gi28 gi29 gi30 gi31 gi32 gi33 gi34
    have hr : i11 = 0 ∨ i11 = 1 ∨ i11 = 2 ∨ i11 = 3 ∨ ((i11 == 0) = false ∧ (i11 == 1) = false ∧ (i11 == 2) = false ∧ (i11 == 3) = false) := by
      simp only [beq_eq_false_iff_ne]; omega
    rcases hr with rfl | rfl | rfl | rfl | ⟨n0, n1, n2, n3⟩
    iterate 4 simp [hb9, hb10, hb11, hb14, hb17, hb18, hb19, hb20, hi30, hb21, hi31, hb22, hb23, hb24, hb25, hb26, hb27, hi32, hi33, hb28, hb29, hb30, hi34, hi35, hi36, hb31, hb32, hb33, hi37, hi38, hi39, hb34, hb35, hb36, hi40, hi41, hb37, hb38, hb39, hi42, hb40, hb41, hi43, hi44, hi45, hi46, hb42, hb43, hb44, hi47, hi48, hb45, hb46, hb47, hb48, hi49, hb49, hb50, hi50, hi51, hi52, hi53, hb51, hb52, hb53, hi54, hi55, gb9, gb10, gb11, gb15, gb18, gb19, gi35, gb20, gb21, gb22, gb23, gb24, gb25, gi36, gi37, gi38, gb26, gb27, gb28, gi39, gi40, gi41, gb29, gb30, gb31, gi42, gi43, gi44, gb32, gb33, gb34, gi45, gi46, gb35, gb36, gb37, gi47, gb38, gb39, gi48, gi49, gi50, gi51, gb40, gb41, gb42, gi52, gi53, gb43, gb44, gb45, gb46, gi54, gb47, gb48, gi55, gi56, gi57, gi58, gb49, gb50, gb51, gi59, gi60, A1, A2, A3, A4, A5, A6, A7, A8, A9, A10, A11]
    simp [hb9, hb10, hb11, hb14, hb17, hb18, hb19, hb20, hi30, hb21, hi31, hb22, hb23, hb24, hb25, hb26, hb27, hi32, hi33, hb28, hb29, hb30, hi34, hi35, hi36, hb31, hb32, hb33, hi37, hi38, hi39, hb34, hb35, hb36, hi40, hi41, hb37, hb38, hb39, hi42, hb40, hb41, hi43, hi44, hi45, hi46, hb42, hb43, hb44, hi47, hi48, hb45, hb46, hb47, hb48, hi49, hb49, hb50, hi50, hi51, hi52, hi53, hb51, hb52, hb53, hi54, hi55, gb9, gb10, gb11, gb15, gb18, gb19, gi35, gb20, gb21, gb22, gb23, gb24, gb25, gi36, gi37, gi38, gb26, gb27, gb28, gi39, gi40, gi41, gb29, gb30, gb31, gi42, gi43, gi44, gb32, gb33, gb34, gi45, gi46, gb35, gb36, gb37, gi47, gb38, gb39, gi48, gi49, gi50, gi51, gb40, gb41, gb42, gi52, gi53, gb43, gb44, gb45, gb46, gi54, gb47, gb48, gi55, gi56, gi57, gi58, gb49, gb50, gb51, gi59, gi60, A1, A2, A3, A4, A5, A6, A7, A8, A9, A10, A11, n0, n1, n2, n3]
theorem o61 (i0 i1 i2 i3 i4 i5 i6 i7 i8 i9 i10 i11 i12 : Int) (b0 b1 b2 b3 b4 b5 b6 b7 b8 : Bool) (h12 : 0 ≤ i12 ∧ i12 ≤ 255) : (F61 [i0, i1, i2, i3, i4, i5, i6, i7, i8, i9, i10, i11, i12] [b0, b1, b2, b3, b4, b5, b6, b7, b8]).2.getD 0 false = true := by
  unfold F61
  obtain ⟨ρ, e1, e2, e3, e4⟩ := Smry.run_specT (Φ := tabF T38) (S := S61) (is := [i0, i1, i2, i3, i4, i5, i6, i7, i8, i9, i10, i11, i12]) (bs := [b0, b1, b2, b3, b4, b5, b6, b7, b8]) rfl
  rw [e1, obAll_eq]
  clear e1
  simp only [S61, obs, Gd.d_cons, Gd.d_nil, eqns, Em.eqn, headsI, headsB, RI.d, RB.d, A.d, B.d, cm_eql, cm_neq, cm_lss, cm_leq, cm_gtr, cm_geq, List.map_cons, List.map_nil, and_true, Nat.zero_add, Nat.reduceAdd, ltn, upto, true_and, Nat.add_zero, List.getD_cons_zero, List.getD_cons_succ, add8, sub8, add16, sub16, mul16, wrap_u8, wrap_u16, and8_1, and8_7, and8_8, and8_15, and8_16, and8_31, and8_32, and8_64, and8_127, and8_128, and16_1, and16_255, and16_1792, shr8_1, shr8_3, shr8_4, shr8_6, shr16_1, shr16_6, shr16_8, shl16_8, shl16_14] at e2 e3 e4 ⊢
  simp only [e2, e3] at e4 ⊢
  rw [show tabF T38 80 = F80 by rfl, l80 (h1 := h12)] at e4
  simp only [List.getD_cons_zero, List.getD_cons_succ] at e4
  grind
theorem q60 (i0 i1 i2 i3 i4 i5 i6 i7 i8 i9 i10 : Int) (b0 b1 b2 b3 b4 b5 b6 b7 b8 : Bool) (h0 : 0 ≤ i0) (h1 : 0 ≤ i1) (h2 : 0 ≤ i2) (h3 : 0 ≤ i3) (h4 : 0 ≤ i4) (h5 : 0 ≤ i5) (h6 : 0 ≤ i6) (h7 : 0 ≤ i7) (h8 : 0 ≤ i8) (h9 : 0 ≤ i9) (h10 : 0 ≤ i10) : F60 [i0, i1, i2, i3, i4, i5, i6, i7, i8, i9, i10] [b0, b1, b2, b3, b4, b5, b6, b7, b8] = F62 [i0, i1, i2, i3, i4, i5, i6, i7, i8, i9, i10] [b0, b1, b2, b3, b4, b5, b6, b7, b8] := by
  unfold F60 F62
  obtain ⟨ρ, e1, e2, e3, e4⟩ := Smry.run_spec (Φ := tabF T39) (S := S60) (is := [i0, i1, i2, i3, i4, i5, i6, i7, i8, i9, i10]) (bs := [b0, b1, b2, b3, b4, b5, b6, b7, b8]) rfl
  obtain ⟨σ, f1, f2, f3, f4⟩ := Smry.run_spec (Φ := tabF T40) (S := S62) (is := [i0, i1, i2, i3, i4, i5, i6, i7, i8, i9, i10]) (bs := [b0, b1, b2, b3, b4, b5, b6, b7, b8]) rfl
  rw [e1, f1]
  clear e1 f1
  simp only [S60, S62, obs, Gd.d_cons, Gd.d_nil, eqns, Em.eqn, headsI, headsB, RI.d, RB.d, A.d, B.d, cm_eql, cm_neq, cm_lss, cm_leq, cm_gtr, cm_geq, List.map_cons, List.map_nil, and_true, Nat.zero_add, Nat.reduceAdd, ltn, upto, true_and, Nat.add_zero, List.getD_cons_zero, List.getD_cons_succ, add8, sub8, add16, sub16, mul16, wrap_u8, wrap_u16, and8_1, and8_7, and8_8, and8_15, and8_16, and8_31, and8_32, and8_64, and8_127, and8_128, and16_1, and16_255, and16_1792, shr8_1, shr8_3, shr8_4, shr8_6, shr16_1, shr16_6, shr16_8, shl16_8, shl16_14, rem_eq] at e2 e3 e4 f2 f3 f4 ⊢
  simp only [e2, e3, f2, f3] at e4 f4 ⊢
  rw [show tabF T39 68 = F68 by rfl, v68] at e4
  rw [show tabF T40 37 = F37 by rfl, v37] at f4
  simp only [List.getD_cons_zero] at e4 f4
  cases hm : okP i0 i1 i2 i4 i5 i6 i7 i8 i9 i10
  · rw [hm] at e4 f4
    clear hm
    grind
  · rw [hm] at e4 f4
    simp only [okP, okE, Bool.and_eq_true, decide_eq_true_eq] at hm
    grind
theorem p63 (i0 i1 i2 i3 i4 i5 i6 i7 i8 i9 i10 : Int) (b0 b1 b2 b3 b4 b5 b6 b7 b8 : Bool) (h0 : 0 ≤ i0) (h1 : 0 ≤ i1) (h2 : 0 ≤ i2) : F63 [i0, i1, i2, i3, i4, i5, i6, i7, i8, i9, i10] [b0, b1, b2, b3, b4, b5, b6, b7, b8] = ([if okP i0 i1 i2 i4 i5 i6 i7 i8 i9 i10 then (F41 [i0, i1, i2] [b1, b2, b3]).1.getD 0 0 else i0, if okP i0 i1 i2 i4 i5 i6 i7 i8 i9 i10 then (F41 [i0, i1, i2] [b1, b2, b3]).1.getD 1 0 else i1, if okP i0 i1 i2 i4 i5 i6 i7 i8 i9 i10 then (F41 [i0, i1, i2] [b1, b2, b3]).1.getD 2 0 else i2, i3, i4, i5, i6, i7, i8, i9, i10],
    [b0, if okP i0 i1 i2 i4 i5 i6 i7 i8 i9 i10 then (F41 [i0, i1, i2] [b1, b2, b3]).2.getD 0 false else b1, if okP i0 i1 i2 i4 i5 i6 i7 i8 i9 i10 then (F41 [i0, i1, i2] [b1, b2, b3]).2.getD 1 false else b2, if okP i0 i1 i2 i4 i5 i6 i7 i8 i9 i10 then (F41 [i0, i1, i2] [b1, b2, b3]).2.getD 2 false else b3, b4, b5, b6, b7, b8]) := by
  unfold F63
  obtain ⟨ρ, e1, e2, e3, e4⟩ := Smry.run_spec (Φ := tabF T41) (S := S63) (is := [i0, i1, i2, i3, i4, i5, i6, i7, i8, i9, i10]) (bs := [b0, b1, b2, b3, b4, b5, b6, b7, b8]) rfl
  rw [e1]
  clear e1
  simp only [S63, eqns, Em.eqn, headsI, headsB, RI.d, RB.d, A.d, B.d, cm_eql, cm_neq, cm_lss, cm_leq, cm_gtr, cm_geq, List.map_cons, List.map_nil, and_true, Nat.zero_add, Nat.reduceAdd, ltn, upto, true_and, Nat.add_zero, List.getD_cons_zero, List.getD_cons_succ, add8, sub8, add16, sub16, mul16, wrap_u8, wrap_u16, and8_1, and8_7, and8_8, and8_15, and8_16, and8_31, and8_32, and8_64, and8_127, and8_128, and16_1, and16_255, and16_1792, shr8_1, shr8_3, shr8_4, shr8_6, shr16_1, shr16_6, shr16_8, shl16_8, shl16_14] at e2 e3 e4 ⊢
  simp only [e2, e3] at e4 ⊢
  rw [show tabF T41 68 = F68 by rfl, v68, show tabF T41 40 = F40 by rfl, q40 (h0 := h0) (h1 := h1) (h2 := h2)] at e4
  simp only [List.getD_cons_zero] at e4
  generalize okP i0 i1 i2 i4 i5 i6 i7 i8 i9 i10 = x at *
  generalize F41 [i0, i1, i2] [b1, b2, b3] = y at *
  cases x <;> simp_all
end Go.Proofs.YtoempcgniokpiaaDoor.Ta
