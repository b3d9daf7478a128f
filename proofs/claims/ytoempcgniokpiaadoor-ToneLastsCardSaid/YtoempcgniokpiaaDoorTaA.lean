/-
  ToneClocks and ToneTriangle answer true. WRITTEN BY PROGRAM (wip/gen/ta3.py). No condition.
-/
import Derived.Test.YtoempcgniokpiaaDoorTaP
set_option linter.unusedVariables false
set_option linter.unusedSimpArgs false
namespace Go.Proofs.YtoempcgniokpiaaDoor.Ta
open Go Go.Proofs.YtoempcgniokpiaaDoor.Sx

theorem awake31 : F31 [] [] = ([], [true, true]) := by kernel_rfl
theorem new45 : F45 [] [] = ([0, 0, 0, 0, 0, 0, 1], [false, false, false, false, false, false]) := by kernel_rfl
theorem v30 (i0 i1 i2 i3 i4 i5 i6 i7 i8 i9 i10 i11 i12 i13 i14 i15 i16 i17 i18 i19 i20 i21 i22 i23 : Int) (b0 b1 b2 b3 b4 b5 b6 b7 b8 b9 b10 b11 b12 b13 b14 b15 b16 b17 : Bool) (h23 : 0 ≤ i23) : F30 [i0, i1, i2, i3, i4, i5, i6, i7, i8, i9, i10, i11, i12, i13, i14, i15, i16, i17, i18, i19, i20, i21, i22, i23] [b0, b1, b2, b3, b4, b5, b6, b7, b8, b9, b10, b11, b12, b13, b14, b15, b16, b17] = ([if okP i0 i1 i2 i4 i5 i6 i7 i8 i9 i10 && okT i12 i13 i14 i15 i16 && okN i17 i18 i19 i21 i22 i23 then 0 else 1], []) := by
  unfold F30
  obtain ⟨ρ, e1, e2, e3, e4⟩ := Smry.run_spec (Φ := tabF T4) (S := S30) (is := [i0, i1, i2, i3, i4, i5, i6, i7, i8, i9, i10, i11, i12, i13, i14, i15, i16, i17, i18, i19, i20, i21, i22, i23]) (bs := [b0, b1, b2, b3, b4, b5, b6, b7, b8, b9, b10, b11, b12, b13, b14, b15, b16, b17]) rfl
  rw [e1]
  clear e1
  simp only [S30, eqns, Em.eqn, headsI, headsB, RI.d, RB.d, A.d, B.d, cm_eql, cm_neq, cm_lss, cm_leq, cm_gtr, cm_geq, List.map_cons, List.map_nil, and_true, Nat.zero_add, Nat.reduceAdd, ltn, upto, true_and, Nat.add_zero, List.getD_cons_zero, List.getD_cons_succ, add8, sub8, add16, sub16, mul16, wrap_u8, wrap_u16, and8_1, and8_7, and8_8, and8_15, and8_16, and8_31, and8_32, and8_64, and8_127, and8_128, and16_1, and16_255, and16_1792, shr8_1, shr8_3, shr8_4, shr8_6, shr16_1, shr16_6, shr16_8, shl16_8, shl16_14] at e2 e3 e4 ⊢
  simp only [e2, e3] at e4 ⊢
  rw [show tabF T4 68 = F68 by rfl, show tabF T4 69 = F69 by rfl, show tabF T4 70 = F70 by rfl, v68, v69, v70 (h6 := h23)] at e4
  simp only [List.getD_cons_zero] at e4
  generalize okP i0 i1 i2 i4 i5 i6 i7 i8 i9 i10 = x at e4 ⊢
  generalize okT i12 i13 i14 i15 i16 = y at e4 ⊢
  generalize okN i17 i18 i19 i21 i22 i23 = z at e4 ⊢
  cases x <;> cases y <;> cases z <;> simp_all
set_option maxRecDepth 10000 in
theorem clocks (i0 i1 i2 i3 i4 i5 i6 i7 i8 i9 i10 i11 i12 i13 i14 i15 i16 i17 i18 i19 i20 i21 i22 i23 i24 i25 : Int) (b0 b1 b2 b3 b4 b5 b6 b7 b8 b9 b10 b11 b12 b13 b14 b15 b16 b17 b18 : Bool) (h0 : 0 ≤ i0) (h1 : 0 ≤ i1) (h2 : 0 ≤ i2) (h3 : 0 ≤ i3) (h23 : 0 ≤ i23) : F9 [i0, i1, i2, i3, i4, i5, i6, i7, i8, i9, i10, i11, i12, i13, i14, i15, i16, i17, i18, i19, i20, i21, i22, i23, i24, i25] [b0, b1, b2, b3, b4, b5, b6, b7, b8, b9, b10, b11, b12, b13, b14, b15, b16, b17, b18] = ([], [true, true]) := by
  unfold F9
  obtain ⟨ρ, e1, e2, e3, e4⟩ := Smry.run_specT (Φ := tabF T26) (S := S9) (is := [i0, i1, i2, i3, i4, i5, i6, i7, i8, i9, i10, i11, i12, i13, i14, i15, i16, i17, i18, i19, i20, i21, i22, i23, i24, i25]) (bs := [b0, b1, b2, b3, b4, b5, b6, b7, b8, b9, b10, b11, b12, b13, b14, b15, b16, b17, b18]) rfl
  rw [e1, obAll_eq]
  clear e1
  simp only [S9, obs, Gd.d_cons, Gd.d_nil, eqns, Em.eqn, headsI, headsB, RI.d, RB.d, A.d, B.d, cm_eql, cm_neq, cm_lss, cm_leq, cm_gtr, cm_geq, List.map_cons, List.map_nil, and_true, Nat.zero_add, Nat.reduceAdd, ltn, upto, true_and, Nat.add_zero, List.getD_cons_zero, List.getD_cons_succ, add8, sub8, add16, sub16, mul16, wrap_u8, wrap_u16, and8_1, and8_7, and8_8, and8_15, and8_16, and8_31, and8_32, and8_64, and8_127, and8_128, and16_1, and16_255, and16_1792, shr8_1, shr8_3, shr8_4, shr8_6, shr16_1, shr16_6, shr16_8, shl16_8, shl16_14] at e2 e3 e4 ⊢
  simp only [e2, e3] at e4 ⊢
  rw [show tabF T26 30 = F30 by rfl] at e4
  rw [show tabF T26 31 = F31 by rfl] at e4
  rw [show tabF T26 33 = F33 by rfl] at e4
  rw [show tabF T26 37 = F37 by rfl] at e4
  rw [show tabF T26 38 = F38 by rfl] at e4
  rw [show tabF T26 39 = F39 by rfl] at e4
  rw [show tabF T26 40 = F40 by rfl] at e4
  rw [show tabF T26 41 = F41 by rfl] at e4
  rw [show tabF T26 42 = F42 by rfl] at e4
  rw [show tabF T26 43 = F43 by rfl] at e4
  rw [show tabF T26 44 = F44 by rfl] at e4
  rw [show tabF T26 45 = F45 by rfl] at e4
  rw [v30 (h23 := h23), v37, v38, v39, q40 (h0 := h0) (h1 := h1) (h2 := h2), q42 (h0 := h3), q33, new45, awake31] at e4
  simp only [List.getD_cons_zero, List.getD_cons_succ] at e4
  obtain ⟨hi26, hb19, hb20, hb21, hb22, hb23, hb24, hb25, ⟨⟨hi27, hi28, hi29⟩, hb26, hb27, hb28⟩, ⟨⟨hi30, hi31, hi32⟩, hb29, hb30, hb31⟩, hb32, hb33, hb34, hb35, hb36, hb37, hb38, hb39, hb40, hb41, hb42, hb43, ⟨hi33, hb44, hb45⟩, ⟨hi34, hb46, hb47⟩, hb48, hb49, hb50, hb51, hb52, hb53, ⟨hi35, hb54, hb55⟩, ⟨hi36, hb56, hb57⟩, hb58, hb59, hb60, hb61, hb62, hb63, ⟨⟨hi37, hi38, hi39, hi40, hi41, hi42, hi43⟩, hb64, hb65, hb66, hb67, hb68, hb69⟩, hb70, hb71, hb72, hb73, hb74, hb75, hb76, hb77, hb78, hb79, hb80, hb81, hb82, hb83, hb84, hb85, hb86, hb87, hb88, hb89, hb90, hb91, hb92, hb93, hb94, hb95, ⟨hb96, hb97⟩, hb98⟩ := e4
  generalize okP i0 i1 i2 i4 i5 i6 i7 i8 i9 i10 = x at *
  generalize okT i12 i13 i14 i15 i16 = y at *
  generalize okN i17 i18 i19 i21 i22 i23 = z at *
  have h25 : ρ.b 25 = true := by rw [hb25, hb19, hi26, hb24, hb22, hb20, hb21, hb23]; cases x <;> cases y <;> cases z <;> rfl
  simp [hi27, hi28, hi29, hb26, hb27, hb28, hi30, hi31, hi32, hb29, hb30, hb31, hb32, hb33, hb34, hb35, hb36, hb37, hb38, hb39, hb40, hb41, hb42, hb43, hi33, hb44, hb45, hi34, hb46, hb47, hb48, hb49, hb50, hb51, hb52, hb53, hi35, hb54, hb55, hi36, hb56, hb57, hb58, hb59, hb60, hb61, hb62, hb63, hi37, hi38, hi39, hi40, hi41, hi42, hi43, hb64, hb65, hb66, hb67, hb68, hb69, hb70, hb71, hb72, hb73, hb74, hb75, hb76, hb77, hb78, hb79, hb80, hb81, hb82, hb83, hb84, hb85, hb86, hb87, hb88, hb89, hb90, hb91, hb92, hb93, hb94, hb95, hb96, hb97, hb98, h25]
end Go.Proofs.YtoempcgniokpiaaDoor.Ta
