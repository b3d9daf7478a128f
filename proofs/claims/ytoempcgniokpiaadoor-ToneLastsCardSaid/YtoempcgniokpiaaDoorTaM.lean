/-
  ToneTriangle answers true. WRITTEN BY PROGRAM (wip/gen/ta5.py). No condition.
-/
import Derived.Test.YtoempcgniokpiaaDoorTaL
set_option linter.unusedVariables false
set_option linter.unusedSimpArgs false
namespace Go.Proofs.YtoempcgniokpiaaDoor.Ta
open Go Go.Proofs.YtoempcgniokpiaaDoor.Sx

theorem o53 (i0 i1 i2 i3 i4 i5 i6 i7 : Int) (b0 b1 b2 : Bool) (h7 : 0 ≤ i7 ∧ i7 ≤ 255) : (F53 [i0, i1, i2, i3, i4, i5, i6, i7] [b0, b1, b2]).2.getD 0 false = true := by
  unfold F53
  obtain ⟨ρ, e1, e2, e3, e4⟩ := Smry.run_specT (Φ := tabF T30) (S := S53) (is := [i0, i1, i2, i3, i4, i5, i6, i7]) (bs := [b0, b1, b2]) rfl
  rw [e1, obAll_eq]
  clear e1
  simp only [S53, obs, Gd.d_cons, Gd.d_nil, eqns, Em.eqn, headsI, headsB, RI.d, RB.d, A.d, B.d, cm_eql, cm_neq, cm_lss, cm_leq, cm_gtr, cm_geq, List.map_cons, List.map_nil, and_true, Nat.zero_add, Nat.reduceAdd, ltn, upto, true_and, Nat.add_zero, List.getD_cons_zero, List.getD_cons_succ, add8, sub8, add16, sub16, mul16, wrap_u8, wrap_u16, and8_1, and8_7, and8_8, and8_15, and8_16, and8_31, and8_32, and8_64, and8_127, and8_128, and16_1, and16_255, and16_1792, shr8_1, shr8_3, shr8_4, shr8_6, shr16_1, shr16_6, shr16_8, shl16_8, shl16_14] at e2 e3 e4 ⊢
  simp only [e2, e3] at e4 ⊢
  rw [show tabF T30 80 = F80 by rfl, l80 (h1 := h7)] at e4
  simp only [List.getD_cons_zero, List.getD_cons_succ] at e4
  grind
set_option maxRecDepth 10000 in
theorem triangle (i0 i1 i2 i3 i4 i5 i6 i7 i8 i9 i10 i11 i12 i13 i14 i15 i16 i17 i18 i19 i20 i21 i22 i23 i24 i25 : Int) (b0 b1 b2 b3 b4 b5 b6 b7 b8 b9 b10 b11 b12 b13 b14 b15 b16 b17 : Bool) (h11 : 0 ≤ i11) (h12 : 0 ≤ i12) (h13 : 0 ≤ i13) (h14 : 0 ≤ i14) (h15 : 0 ≤ i15) (h16 : 0 ≤ i16) (h25 : 0 ≤ i25 ∧ i25 ≤ 255) : F11 [i0, i1, i2, i3, i4, i5, i6, i7, i8, i9, i10, i11, i12, i13, i14, i15, i16, i17, i18, i19, i20, i21, i22, i23, i24, i25] [b0, b1, b2, b3, b4, b5, b6, b7, b8, b9, b10, b11, b12, b13, b14, b15, b16, b17] = ([], [true, true]) := by
  unfold F11
  obtain ⟨ρ, e1, e2, e3, e4⟩ := Smry.run_specT (Φ := tabF T36) (S := S11) (is := [i0, i1, i2, i3, i4, i5, i6, i7, i8, i9, i10, i11, i12, i13, i14, i15, i16, i17, i18, i19, i20, i21, i22, i23, i24, i25]) (bs := [b0, b1, b2, b3, b4, b5, b6, b7, b8, b9, b10, b11, b12, b13, b14, b15, b16, b17]) rfl
  rw [e1, obAll_eq]
  clear e1
  simp only [S11, obs, Gd.d_cons, Gd.d_nil, eqns, Em.eqn, headsI, headsB, RI.d, RB.d, A.d, B.d, cm_eql, cm_neq, cm_lss, cm_leq, cm_gtr, cm_geq, List.map_cons, List.map_nil, and_true, Nat.zero_add, Nat.reduceAdd, ltn, upto, true_and, Nat.add_zero, List.getD_cons_zero, List.getD_cons_succ, add8, sub8, add16, sub16, mul16, wrap_u8, wrap_u16, and8_1, and8_7, and8_8, and8_15, and8_16, and8_31, and8_32, and8_64, and8_127, and8_128, and16_1, and16_255, and16_1792, shr8_1, shr8_3, shr8_4, shr8_6, shr16_1, shr16_6, shr16_8, shl16_8, shl16_14] at e2 e3 e4 ⊢
  simp only [e2, e3] at e4 ⊢
  rw [show tabF T36 31 = F31 by rfl] at e4
  rw [show tabF T36 52 = F52 by rfl] at e4
  rw [show tabF T36 53 = F53 by rfl] at e4
  rw [show tabF T36 54 = F54 by rfl] at e4
  rw [show tabF T36 55 = F55 by rfl] at e4
  rw [show tabF T36 56 = F56 by rfl] at e4
  rw [show tabF T36 57 = F57 by rfl] at e4
  rw [show tabF T36 58 = F58 by rfl] at e4
  rw [show tabF T36 59 = F59 by rfl] at e4
  rw [q52 (h0 := h11) (h1 := h12) (h2 := h13) (h3 := h14) (h4 := h15) (h5 := h16) (h7 := h25), q54 (h0 := h11) (h1 := h12) (h2 := h13) (h3 := h14) (h4 := h15) (h5 := h16), q56 (h0 := h11) (h1 := h12) (h2 := h13) (h3 := h14) (h4 := h15) (h5 := h16), q58 (h0 := h11) (h1 := h12) (h2 := h13) (h3 := h14) (h4 := h15) (h5 := h16), awake31, o53 (h7 := h25)] at e4
  simp only [List.getD_cons_zero, List.getD_cons_succ] at e4
  obtain ⟨⟨⟨hi26, hi27, hi28, hi29, hi30, hi31⟩, hb18, hb19, hb20, hb21⟩, ⟨⟨hi32, hi33, hi34, hi35, hi36, hi37⟩, hb22, hb23, hb24, hb25⟩, hb26, hb27, hb28, hb29, hb30, hb31, hb32, hb33, hb34, hb35, hb36, hb37, hb38, hb39, hb40, hb41, hb42, ⟨⟨hi38, hi39, hi40, hi41, hi42, hi43⟩, hb43, hb44, hb45⟩, ⟨⟨hi44, hi45, hi46, hi47, hi48, hi49⟩, hb46, hb47, hb48⟩, hb49, hb50, hb51, hb52, hb53, hb54, hb55, hb56, hb57, hb58, hb59, hb60, hb61, hb62, hb63, hb64, hb65, hb66, ⟨⟨hi50, hi51, hi52, hi53, hi54, hi55⟩, hb67, hb68, hb69⟩, ⟨⟨hi56, hi57, hi58, hi59, hi60, hi61⟩, hb70, hb71, hb72⟩, hb73, hb74, hb75, hb76, hb77, hb78, hb79, hb80, hb81, hb82, hb83, hb84, hb85, hb86, hb87, hb88, hb89, hb90, hi62, hi63, hb91, hb92, ⟨hb93, hb94⟩, hb95⟩ := e4
  simp [hi26, hi27, hi28, hi29, hi30, hi31, hb18, hb19, hb20, hb21, hi32, hi33, hi34, hi35, hi36, hi37, hb22, hb23, hb24, hb25, hb26, hb27, hb28, hb29, hb30, hb31, hb32, hb33, hb34, hb35, hb36, hb37, hb38, hb39, hb40, hb41, hb42, hi38, hi39, hi40, hi41, hi42, hi43, hb43, hb44, hb45, hi44, hi45, hi46, hi47, hi48, hi49, hb46, hb47, hb48, hb49, hb50, hb51, hb52, hb53, hb54, hb55, hb56, hb57, hb58, hb59, hb60, hb61, hb62, hb63, hb64, hb65, hb66, hi50, hi51, hi52, hi53, hi54, hi55, hb67, hb68, hb69, hi56, hi57, hi58, hi59, hi60, hi61, hb70, hb71, hb72, hb73, hb74, hb75, hb76, hb77, hb78, hb79, hb80, hb81, hb82, hb83, hb84, hb85, hb86, hb87, hb88, hb89, hb90, hi62, hi63, hb91, hb92, hb93, hb94, hb95]
end Go.Proofs.YtoempcgniokpiaaDoor.Ta
