/-
  Merged texts (CeL). No condition.
-/
import Derived.Test.YtgbgibbonhklgaaCmP
set_option linter.unusedVariables false
set_option linter.unusedSimpArgs false
namespace Go.Proofs.Ytgbgibbonhklgaa.Ce
open Go Go.Proofs Go.Proofs.Ytgbgibbonhklgaa.Sx

theorem v6 (n : Int) (vs : List Int) (sec : List Pr) : F6 [n, enc vs, eP sec, sec.length] [] = ([], [true, true]) := by
  have hl : (lpF (l6.map (·.2)) (tabF T30)) 100600 = loopF (L100600.S.run (tabF T30) true) 7 0 := by kernel_rfl
  have f9 : (lpF (l6.map (·.2)) (tabF T30)) 9 = F9 := by kernel_rfl
  have f23 : (lpF (l6.map (·.2)) (tabF T30)) 23 = F23 := by kernel_rfl
  have f12 : (lpF (l6.map (·.2)) (tabF T30)) 12 = F12 := by kernel_rfl
  have f16 : (lpF (l6.map (·.2)) (tabF T30)) 16 = F16 := by kernel_rfl
  have f24 : (lpF (l6.map (·.2)) (tabF T30)) 24 = F24 := by kernel_rfl
  have f22 : (lpF (l6.map (·.2)) (tabF T30)) 22 = F22 := by kernel_rfl
  have f25 : (lpF (l6.map (·.2)) (tabF T30)) 25 = F25 := by kernel_rfl
  have f26 : (lpF (l6.map (·.2)) (tabF T30)) 26 = F26 := by kernel_rfl
  have f17 : (lpF (l6.map (·.2)) (tabF T30)) 17 = F17 := by kernel_rfl
  have f27 : (lpF (l6.map (·.2)) (tabF T30)) 27 = F27 := by kernel_rfl
  have f28 : (lpF (l6.map (·.2)) (tabF T30)) 28 = F28 := by kernel_rfl
  show S6.run (lpF (l6.map (·.2)) (tabF T30)) true [n, enc vs, eP sec, sec.length] [] = _
  generalize lpF (l6.map (·.2)) (tabF T30) = Φ at hl f9 f23 f12 f16 f24 f22 f25 f26 f17 f27 f28
  obtain ⟨ρ, e1, e2, e3, e4⟩ := Smry.run_specT (Φ := Φ) (S := S6) (is := [n, enc vs, eP sec, sec.length]) (bs := []) rfl
  rw [e1, obAll_eq]
  clear e1
  simp only [S6, obs, Gd.d_cons, Gd.d_nil, eqns, Em.eqn, headsI, headsB, RI.d, RB.d, A.d, B.d, cm_eql, cm_neq, cm_lss, cm_leq, cm_gtr, cm_geq, List.map_cons, List.map_nil, and_true, Nat.zero_add, Nat.reduceAdd, ltn, upto, true_and, Nat.add_zero, List.getD_cons_zero, List.getD_cons_succ] at e2 e3 e4 ⊢
  simp only [e2, e3, Int.toNat_natCast] at e4 ⊢
  clear e2 e3
  rw [hl, f9, f23, f12, f16, f24, f22, f25, f26, f17, f27, f28] at e4
  obtain ⟨⟨⟨i4, i5⟩, b0⟩, i6, b1, i7, b2, i8, i9, ⟨⟨i10, i11, i12⟩, b3⟩, b4, b5, b6, i13, b7, b8, ⟨b9, b10⟩, b11, b12, b13, b14, b15, ⟨b16, b17⟩, b18, ⟨⟨i14, i15⟩, b19⟩, ⟨b20, b21⟩, b22, b23, b24, ⟨⟨i16, i17⟩, b25⟩, ⟨⟨i18, i19⟩, b26⟩, ⟨b27, b28⟩, b29, b30, ⟨i20, b31⟩, ⟨⟨i21, i22⟩, b32⟩, i23, b33, b34, b35, ⟨b36, b37, b38⟩, ⟨b39, b40⟩, b41, b42, b43, b44, b45, b46, b47⟩ := e4
  have hS : (sec.take 20).length ≤ 20 := by rw [List.length_take]; omega
  simp only [w9, List.getD_cons_zero, List.getD_cons_succ] at i4 i5 b0
  generalize sec.take 20 = S at i4 i5 hS
  have i9' : ρ.i 9 = enc (vs.take 300) ∧ (ρ.b 1 = false ∨ ρ.b 2 = true) := by
    rw [dec_enc] at i6 i7 i8
    simp only [Nat.div_one] at i6 i7
    rw [i6] at b1
    rw [i7] at b2
    rcases Nat.lt_or_ge 300 vs.length with h | h
    · have b1 : ρ.b 1 = true := by rw [b1]; exact decide_eq_true (by omega)
      refine ⟨(i9.trans (if_pos b1)).trans ?_, .inr (by rw [b2]; exact decide_eq_true (by omega))⟩
      rw [i8]
      simp
    · have b1 : ρ.b 1 = false := by rw [b1]; exact decide_eq_false (by omega)
      refine ⟨(i9.trans (if_neg (by rw [b1]; exact Bool.false_ne_true))).trans ?_, .inl b1⟩
      rw [List.take_of_length_le h]
  obtain ⟨i9, o2⟩ := i9'
  generalize vs.take 300 = W at i9
  have h23 := w23 n W S (by omega)
  have h12 := w12 (l := S) (by unfold small; omega)
  rw [← any_CM] at h12
  simp only [i4, i5, i9, h23, List.getD_cons_zero, List.getD_cons_succ] at i10 i11 i12 b3
  simp only [i4, i5, h12, List.getD_cons_zero, List.getD_cons_succ] at b9 b10
  simp only [w16, List.getD_cons_zero, List.getD_cons_succ] at b16 b17 b39 b40
  rw [i9, dec_enc] at i13
  simp only [Nat.div_one] at i13
  have h12' : ρ.b 12 = refuse n W S := by
    rw [b12, b8, b6, b4, b5, b7, b11, b10, i13]
    unfold refuse
    simp
  cases hr : refuse n W S with
  | true =>
    rw [hr] at h12'
    simp only [hr, if_true, List.getD_cons_zero, List.getD_cons_succ] at i10 i11 i12 b3
    have b18 : ρ.b 18 = true := by rw [b18, b15, b13, b14, i11, i12, b17]; rfl
    have b46 : ρ.b 46 = false := by rw [b46, h12']; rfl
    have b47 : ρ.b 47 = true := b47.trans ((if_neg (by rw [b46]; exact Bool.false_ne_true)).trans b18)
    rcases o2 with o2 | o2 <;> simp [b0, o2, b3, b9, b16, h12', b47]
  | false =>
    rw [hr] at h12'
    simp only [hr, Bool.false_eq_true, if_false, List.getD_cons_zero, List.getD_cons_succ] at i10 i11 i12 b3
    unfold refuse at hr
    simp only [Bool.or_eq_false_iff, decide_eq_false_iff_not] at hr
    obtain ⟨⟨⟨r0, r1⟩, r2⟩, r3⟩ := hr
    obtain ⟨m, rfl⟩ : ∃ m : Nat, n = (m : Int) := ⟨n.toNat, by omega⟩
    rw [Int.toNat_natCast] at i10
    have hn : m ≤ 65536 := by omega
    have h24 := w24 m hn W S (by omega)
    have hml := mkC_len m W S
    generalize mkC m W S = X at i10 h24 hml
    subst hml
    have h22 := w22 (a := X) (b := X) (by unfold small; omega) (by unfold small; omega)
    rw [allR_refl rB_refl] at h22
    have hXl : (Sec X).length ≤ 65536 := by have := (Sec_J X).len; omega
    have h17 := w17 (a := Sec X) (b := Sec X) (by unfold small; omega) (by unfold small; omega)
    rw [allR_refl rR_refl] at h17
    have h25 := w25 X (by omega)
    have h26 := w26 X (by omega)
    have h27 := w27 X (by omega)
    have h28 := w28 X (by omega)
    have h6 := lp6 (Φ := tabF T30) (l := X) (by omega)
    simp only [i9, i4, i5, h24, List.getD_cons_zero, List.getD_cons_succ] at i14 i15 b19
    simp only [i10, i11, i14, i15, h22, List.getD_cons_zero, List.getD_cons_succ] at b20 b21
    simp only [i10, i11, h25, List.getD_cons_zero, List.getD_cons_succ] at i16 i17 b25
    simp only [i14, i15, h26, List.getD_cons_zero, List.getD_cons_succ] at i18 i19 b26
    simp only [i16, i17, i18, i19, h17, List.getD_cons_zero, List.getD_cons_succ] at b27 b28
    simp only [i10, i11, h27, List.getD_cons_zero, List.getD_cons_succ] at i20 b31
    simp only [i10, i11, h28, List.getD_cons_zero, List.getD_cons_succ] at i21 i22 b32
    rw [i20, dec_enc] at i23
    simp only [Nat.div_one, List.length_map] at i23
    simp only [i14, i15, i20, i21, i22, h6, List.getD_cons_zero, List.getD_cons_succ] at b36 b37 b38
    have b24 : ρ.b 24 = false := by rw [b24, b22, b21, b23, i12]; rfl
    have b30 : ρ.b 30 = false := by rw [b30, b24, b29, b28]; rfl
    have b35 : ρ.b 35 = false := by rw [b35, b33, b34, i23, i22]; simp
    have b43 : ρ.b 43 = true := by rw [b43, b42, b35, b41, b38, b40]; rfl
    have b45 : ρ.b 45 = true := by rw [b45, b44, b30, b43]; rfl
    have b46 : ρ.b 46 = true := by rw [b46, h12']; rfl
    have b47 : ρ.b 47 = true := b47.trans ((if_pos b46).trans b45)
    rcases o2 with o2 | o2 <;> simp [b0, o2, b3, b9, b16, h12', b47, b19, b20, b25, b26, b27, b31, b32, b36, b39]
end Go.Proofs.Ytgbgibbonhklgaa.Ce
