/-
  Merged texts (CeI). No condition.
-/
import Derived.Test.YtgbgibbonhklgaaCmP
set_option linter.unusedVariables false
set_option linter.unusedSimpArgs false
namespace Go.Proofs.Ytgbgibbonhklgaa.Ce
open Go Go.Proofs Go.Proofs.Ytgbgibbonhklgaa.Sx

theorem v5 (l : List Pr) (t v : Int) (b : Bool) : F5 [eP l, l.length, t, v] [b] = ([], [true, true]) := by
  have hl : (lpF (l5.map (·.2)) (tabF T23)) 100500 = loopF (L100500.S.run (tabF T23) true) 7 1 := by kernel_rfl
  have f19 : (lpF (l5.map (·.2)) (tabF T23)) 19 = F19 := by kernel_rfl
  have f21 : (lpF (l5.map (·.2)) (tabF T23)) 21 = F21 := by kernel_rfl
  have f22 : (lpF (l5.map (·.2)) (tabF T23)) 22 = F22 := by kernel_rfl
  have f16 : (lpF (l5.map (·.2)) (tabF T23)) 16 = F16 := by kernel_rfl
  show S5.run (lpF (l5.map (·.2)) (tabF T23)) true [eP l, l.length, t, v] [b] = _
  generalize lpF (l5.map (·.2)) (tabF T23) = Φ at hl f19 f21 f22 f16
  obtain ⟨ρ, e1, e2, e3, e4⟩ := Smry.run_specT (Φ := Φ) (S := S5) (is := [eP l, l.length, t, v]) (bs := [b]) rfl
  rw [e1, obAll_eq]
  clear e1
  simp only [S5, obs, Gd.d_cons, Gd.d_nil, eqns, Em.eqn, headsI, headsB, RI.d, RB.d, A.d, B.d, cm_eql, cm_neq, cm_lss, cm_leq, cm_gtr, cm_geq, List.map_cons, List.map_nil, and_true, Nat.zero_add, Nat.reduceAdd, ltn, upto, true_and, Nat.add_zero, List.getD_cons_zero, List.getD_cons_succ] at e2 e3 e4 ⊢
  simp only [e2, e3, Int.toNat_natCast] at e4 ⊢
  clear e2 e3
  rw [hl, f19, f21, f22, f16] at e4
  obtain ⟨⟨⟨i4, i5⟩, b1⟩, b2, b3, b4, b5, b6, b7, i6, b8, b9, i7, i8, b10, ⟨⟨i9, i10, i11⟩, b11⟩, ⟨b12, b13⟩, b14, b15, b16, b17, b18, b19, b20, b21, b22, ⟨b23, b24⟩, b25, b26, b27, ⟨b28, b29⟩, b30, b31, b32, i12, b33, b34, b35, b36, b37, b38, b39, b40, b41, b42, b43, ⟨b44, b45, b46⟩, ⟨b47, b48⟩, b49, b50, b51, b52, b53, b54, b55⟩ := e4
  have hL : (l.take 300).length ≤ 300 := by rw [List.length_take]; omega
  simp only [w19, List.getD_cons_zero, List.getD_cons_succ] at i4 i5 b1
  generalize l.take 300 = L at i4 i5 hL
  have hs : small L.length := by unfold small; omega
  have h22 := w22 (a := L) (b := L) hs hs
  rw [allR_refl rB_refl] at h22
  have h21 := w21 L (by omega) t v b
  simp only [i4, i5, h22, List.getD_cons_zero, List.getD_cons_succ] at b12 b13
  simp only [w16, List.getD_cons_zero, List.getD_cons_succ] at b28 b29 b47 b48
  have d2 : decide ((L.length : Int) ≤ 35184372088832) = true := decide_eq_true (by omega)
  rw [i5, d2] at b2
  rw [i4, i5, h21] at i9 i10 i11 b11
  cases hin : isIn L t with
  | false =>
    simp only [hin, Bool.false_eq_true, if_false, List.getD_cons_zero, List.getD_cons_succ] at i9 i10 i11 b11
    have h5 : (decide (t < 0) || decide (t ≥ (L.length : Int))) = true := by
      unfold isIn at hin
      rw [Bool.and_eq_false_iff, decide_eq_false_iff_not, decide_eq_false_iff_not] at hin
      rw [Bool.or_eq_true, decide_eq_true_eq, decide_eq_true_eq]
      omega
    have b5 : ρ.b 5 = true := by rw [b5, b4, b3, i5]; exact h5
    have b17 : ρ.b 17 = true := by rw [b17, b16, b15, i5]; exact h5
    have b9 : ρ.b 9 = false := by rw [b9, b5]; rfl
    have i7 : ρ.i 7 = 2 := i7.trans (if_neg (by rw [b9]; exact Bool.false_ne_true))
    have i8 : ρ.i 8 = 0 := i8.trans (if_neg (by rw [b9]; exact Bool.false_ne_true))
    have b10 : ρ.b 10 = false := by rw [b10, b9]; rfl
    simp only [i9, i10, i4, i5, h22, List.getD_cons_zero, List.getD_cons_succ] at b23 b24
    have b14 : ρ.b 14 = false := by rw [b14, b13]; rfl
    have b22 : ρ.b 22 = true := by rw [b22, b20, b18, b19, b21, i8, b10, i7]; rfl
    have b27 : ρ.b 27 = true := by rw [b27, b25, b22, b24, b26, i11]; rfl
    have b30 : ρ.b 30 = true := by rw [b30, b27, b29]; rfl
    have b52 : ρ.b 52 = false := by rw [b52, b17]; rfl
    simp [b1, b2, b11, b12, b14, b17, b23, b28, b54, b55, b52, b53, b30]
  | true =>
    simp only [hin, if_true, List.getD_cons_zero, List.getD_cons_succ] at i9 i10 i11 b11
    unfold isIn at hin
    rw [Bool.and_eq_true, decide_eq_true_eq, decide_eq_true_eq] at hin
    obtain ⟨T, rfl⟩ : ∃ T : Nat, t = (T : Int) := ⟨t.toNat, by omega⟩
    have hT : T < L.length := by omega
    have h5 : (decide ((T : Int) < 0) || decide ((T : Int) ≥ (L.length : Int))) = false := by
      rw [Bool.or_eq_false_iff, decide_eq_false_iff_not, decide_eq_false_iff_not]; omega
    have b5 : ρ.b 5 = false := by rw [b5, b4, b3, i5]; exact h5
    have b17 : ρ.b 17 = false := by rw [b17, b16, b15, i5]; exact h5
    have b9 : ρ.b 9 = true := by rw [b9, b5]; rfl
    have i7 : ρ.i 7 = 0 := i7.trans (if_pos b9)
    have i8 : ρ.i 8 = ρ.i 6 := i8.trans (if_pos b9)
    have b10 : ρ.b 10 = ρ.b 8 := by rw [b10, b9]; rfl
    have b14 : ρ.b 14 = false := by rw [b14, b13]; rfl
    have b31 : ρ.b 31 = true := by rw [b31]; exact decide_eq_true (by omega)
    have b32 : ρ.b 32 = true := by rw [b32, i5]; exact decide_eq_true (by omega)
    have b36 : ρ.b 36 = true := by rw [b36, b34, b35, i8, b10, i6, i12, b8, b33]; simp
    have b42 : ρ.b 42 = false := by rw [b42, i10, i5]; simp
    have b43 : ρ.b 43 = false := by rw [b43, b41, b39, b37, b36, b38, i7, b40, i11, b42]; rfl
    rw [Int.toNat_natCast] at i9
    have h := lp5 (Φ := tabF T23) T v b hs hT
    simp only [i4, i5, i9, i10, h, List.getD_cons_zero, List.getD_cons_succ] at b44 b45 b46
    have b51 : ρ.b 51 = true := by rw [b51, b50, b43, b49, b46, b48]; rfl
    have b52 : ρ.b 52 = true := by rw [b52, b17]; rfl
    simp [b1, b2, b11, b12, b14, b17, b31, b32, b43, b44, b46, b47, b54, b55, b52, b53, b51]
end Go.Proofs.Ytgbgibbonhklgaa.Ce
