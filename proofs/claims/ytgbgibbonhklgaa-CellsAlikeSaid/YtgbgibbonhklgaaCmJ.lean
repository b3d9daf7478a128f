/-
  Merged texts (CeJ). No condition.
-/
import Derived.Test.YtgbgibbonhklgaaCmP
set_option linter.unusedVariables false
set_option linter.unusedSimpArgs false
namespace Go.Proofs.Ytgbgibbonhklgaa.Ce
open Go Go.Proofs Go.Proofs.Ytgbgibbonhklgaa.Sx

theorem allR_iff {r : Pr → Pr → Bool} {a b : List Pr} : allR r a b = true ↔ a.length = b.length ∧ ∀ i, i < a.length → r (a.getD i (0, 0)) (b.getD i (0, 0)) = true := by
  unfold allR
  rw [Bool.and_eq_true, decide_eq_true_eq, List.all_eq_true]
  constructor
  · rintro ⟨h1, h2⟩
    exact ⟨h1, fun i hi => h2 i (by rw [List.mem_range'_1]; omega)⟩
  · rintro ⟨h1, h2⟩
    exact ⟨h1, fun i hi => h2 i (by rw [List.mem_range'_1] at hi; omega)⟩
theorem rL_eq : rL = rA := by funext x y; exact rL_A x y
theorem marks_eq {a b : List Pr} (h : allR rA a b = true) : a.map mark = b.map mark := by
  obtain ⟨h1, h2⟩ := allR_iff.1 h
  refine List.ext_getElem (by simp [h1]) fun i hi hj => ?_
  rw [List.length_map] at hi hj
  have := h2 i hi
  rw [List.getD_eq_getElem?_getD, List.getElem?_eq_getElem hi, List.getD_eq_getElem?_getD, List.getElem?_eq_getElem hj] at this
  simp only [Option.getD_some] at this
  unfold rA at this
  rw [Bool.and_eq_true] at this
  have := this.1
  simp only [List.getElem_map, mark]
  rw [beq_iff_eq] at this
  rw [this]
theorem set_alike {a b : List Pr} {x y : Pr} (h : allR rA a b = true) (hxy : rA x y = true) (T : Nat) : allR rA (a.set T x) (b.set T y) = true := by
  obtain ⟨h1, h2⟩ := allR_iff.1 h
  refine allR_iff.2 ⟨by simp [h1], fun i hi => ?_⟩
  rw [List.length_set] at hi
  by_cases hT : i = T
  · subst hT
    rw [getD_set_eq hi, getD_set_eq (by omega)]
    exact hxy
  · rw [getD_set_ne hT, getD_set_ne hT]
    exact h2 i hi
theorem v8 (a b : List Pr) (t u v : Int) (p q : Bool) : F8 [eP a, a.length, eP b, b.length, t, u, v] [p, q] = ([], [true, true]) := by
  have f19 : tabF T35 19 = F19 := by kernel_rfl
  have f21 : tabF T35 21 = F21 := by kernel_rfl
  have f29 : tabF T35 29 = F29 := by kernel_rfl
  have f30 : tabF T35 30 = F30 := by kernel_rfl
  have f25 : tabF T35 25 = F25 := by kernel_rfl
  have f17 : tabF T35 17 = F17 := by kernel_rfl
  have f16 : tabF T35 16 = F16 := by kernel_rfl
  show S8.run (tabF T35) true [eP a, a.length, eP b, b.length, t, u, v] [p, q] = _
  generalize tabF T35 = Φ at f19 f21 f29 f30 f25 f17 f16
  obtain ⟨ρ, e1, e2, e3, e4⟩ := Smry.run_specT (Φ := Φ) (S := S8) (is := [eP a, a.length, eP b, b.length, t, u, v]) (bs := [p, q]) rfl
  rw [e1, obAll_eq]
  clear e1
  simp only [S8, obs, Gd.d_cons, Gd.d_nil, eqns, Em.eqn, headsI, headsB, RI.d, RB.d, A.d, B.d, cm_eql, cm_neq, cm_lss, cm_leq, cm_gtr, cm_geq, List.map_cons, List.map_nil, and_true, Nat.zero_add, Nat.reduceAdd, ltn, upto, true_and, Nat.add_zero, List.getD_cons_zero, List.getD_cons_succ] at e2 e3 e4 ⊢
  simp only [e2, e3, Int.toNat_natCast] at e4 ⊢
  clear e2 e3
  rw [f19, f21, f29, f30, f25, f17, f16] at e4
  obtain ⟨⟨⟨i7, i8⟩, b2⟩, ⟨⟨i9, i10⟩, b3⟩, ⟨b4, b5⟩, ⟨b6, b7⟩, b8, b9, ⟨b10, b11⟩, b12, b13, b14, b15, b16, b17, b18, b19, ⟨b20, b21⟩, ⟨⟨i11, i12, i13⟩, b22⟩, ⟨⟨i14, i15, i16⟩, b23⟩, b24, ⟨b25, b26⟩, b27, ⟨b28, b29⟩, b30, ⟨⟨i17, i18⟩, b31⟩, ⟨⟨i19, i20⟩, b32⟩, ⟨b33, b34⟩, b35, ⟨b36, b37⟩, b38, b39, b40, b41, b42⟩ := e4
  have hA : (a.take 300).length ≤ 300 := by rw [List.length_take]; omega
  have hB : (b.take 300).length ≤ 300 := by rw [List.length_take]; omega
  simp only [w19, List.getD_cons_zero, List.getD_cons_succ] at i7 i8 b2 i9 i10 b3
  generalize a.take 300 = X at i7 i8 hA
  generalize b.take 300 = Y at i9 i10 hB
  have hsX : small X.length := by unfold small; omega
  have hsY : small Y.length := by unfold small; omega
  have h29 := w29 hsX hsY
  have h30 := w30 hsX hsY
  rw [rL_eq] at h30
  simp only [i7, i8, i9, i10, h29, h30, List.getD_cons_zero, List.getD_cons_succ] at b4 b5 b6 b7 b10 b11
  simp only [w16, List.getD_cons_zero, List.getD_cons_succ] at b20 b21 b36 b37
  have b8 : ρ.b 8 = true := by rw [b8, b5, b7]; simp
  have b9 : ρ.b 9 = false := by rw [b9, b8]; rfl
  have b41 : ρ.b 41 = true := by rw [b41, b9]; rfl
  cases h19 : ρ.b 19 with
  | true =>
    have b39 : ρ.b 39 = false := by rw [b39, h19]; rfl
    have b40 : ρ.b 40 = true := b40.trans ((if_neg (by rw [b39]; exact Bool.false_ne_true)).trans b21)
    simp [b2, b3, b4, b6, b9, b10, b20, b41, b42, b40, h19]
  | false =>
    rw [b19] at h19
    rw [Bool.or_eq_false_iff, b15, Bool.or_eq_false_iff, b12, b14, b13, b18, b16, b17, Bool.not_eq_false', Bool.not_eq_false'] at h19
    obtain ⟨⟨hal, hpq⟩, huv⟩ := h19
    rw [b11] at hal
    rw [beq_iff_eq] at hpq
    subst hpq
    obtain ⟨hlen, _⟩ := allR_iff.1 hal
    have h21X := w21 X (by omega) t u p
    have h21Y := w21 Y (by omega) t v p
    have hin : isIn X t = isIn Y t := by unfold isIn; rw [hlen]
    rw [i7, i8, h21X] at i11 i12 i13 b22
    rw [i9, i10, h21Y] at i14 i15 i16 b23
    have hx : rA (u, if p then 1 else 0) (v, if p then 1 else 0) = true := by
      unfold rA
      cases p
      · simp at huv; simp [huv]
      · simp
    obtain ⟨X', Y', e11, e12, e14, e15, e13, hX', hY', h', e22, e23⟩ : ∃ X' Y', ρ.i 11 = eP X' ∧ ρ.i 12 = X'.length ∧ ρ.i 14 = eP Y' ∧ ρ.i 15 = Y'.length ∧ ρ.i 13 = ρ.i 16 ∧ X'.length ≤ 300 ∧ Y'.length ≤ 300 ∧ allR rA X' Y' = true ∧ ρ.b 22 = true ∧ ρ.b 23 = true := by
      cases hi : isIn X t with
      | false =>
        rw [hi] at hin
        simp only [hi, ← hin, Bool.false_eq_true, if_false, List.getD_cons_zero, List.getD_cons_succ] at i11 i12 i13 b22 i14 i15 i16 b23
        exact ⟨X, Y, i11, i12, i14, i15, by rw [i13, i16], hA, hB, hal, b22, b23⟩
      | true =>
        rw [hi] at hin
        simp only [hi, ← hin, if_true, List.getD_cons_zero, List.getD_cons_succ] at i11 i12 i13 b22 i14 i15 i16 b23
        exact ⟨_, _, i11, by rw [i12, List.length_set], i14, by rw [i15, List.length_set], by rw [i13, i16], by rw [List.length_set]; exact hA, by rw [List.length_set]; exact hB, set_alike hal hx _, b22, b23⟩
    have h29 := w29 (a := X') (b := Y') (by unfold small; omega) (by unfold small; omega)
    have h30 := w30 (a := X') (b := Y') (by unfold small; omega) (by unfold small; omega)
    rw [rL_eq] at h30
    rw [h'] at h29 h30
    simp only [e11, e12, e14, e15, h29, h30, List.getD_cons_zero, List.getD_cons_succ] at b25 b26 b28 b29
    have h25X := w25 X' (by omega)
    have h25Y := w25 Y' (by omega)
    have hS : Sec X' = Sec Y' := by unfold Sec; rw [marks_eq h']
    rw [← hS] at h25Y
    have hSl : (Sec X').length ≤ 300 := by have := (Sec_J X').len; omega
    simp only [e11, e12, e14, e15, h25X, h25Y, List.getD_cons_zero, List.getD_cons_succ] at i17 i18 b31 i19 i20 b32
    have h17 := w17 (a := Sec X') (b := Sec X') (by unfold small; omega) (by unfold small; omega)
    rw [allR_refl rR_refl] at h17
    simp only [i17, i18, i19, i20, h17, List.getD_cons_zero, List.getD_cons_succ] at b33 b34
    have b24 : ρ.b 24 = true := by rw [b24, e13]; simp
    have h19 : ρ.b 19 = false := by
      rw [b19, b15, b12, b14, b13, b18, b16, b17, b11, hal, huv]; simp
    have b38 : ρ.b 38 = true := by rw [b38, b37, b35, b34, b30, b29, b27, b26, b24]; rfl
    have b39 : ρ.b 39 = true := by rw [b39, h19]; rfl
    have b40 : ρ.b 40 = true := b40.trans ((if_pos b39).trans b38)
    simp [b2, b3, b4, b6, b9, b10, b41, b42, b40, h19, e22, e23, b25, b28, b31, b32, b33, b36]
end Go.Proofs.Ytgbgibbonhklgaa.Ce
