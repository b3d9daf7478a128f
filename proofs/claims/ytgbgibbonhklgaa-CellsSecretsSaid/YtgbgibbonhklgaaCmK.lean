/-
  Merged texts (CeK). No condition.
-/
import Derived.Test.YtgbgibbonhklgaaCmJ
set_option linter.unusedVariables false
set_option linter.unusedSimpArgs false
namespace Go.Proofs.Ytgbgibbonhklgaa.Ce
open Go Go.Proofs Go.Proofs.Ytgbgibbonhklgaa.Sx

theorem Sec_lt {l : List Pr} (h : l.length ≤ 65536) : ∀ p, p ∈ Sec l → p.2 < 65536 := fun p hp => by
  have h1 := Tdy.ok (Sec_J l).tdy p hp
  have h2 := ((Sec_J l).plc p.2).1 ⟨p, hp, h1.2, Int.le_refl _⟩
  omega
theorem Sec_any {l : List Pr} (i : Nat) : anyI (Sec l) i = fS l i := by
  rw [Bool.eq_iff_iff]
  unfold anyI
  rw [← plc_any, (Sec_J l).plc]
  rw [Int.toNat_natCast]
  constructor
  · rintro ⟨_, _, h⟩; exact h
  · intro h
    refine ⟨by omega, ?_, h⟩
    by_cases hi : i < l.length
    · omega
    · rw [fS_out (by omega)] at h; cases h
theorem Sec_low (l : List Pr) : (Sec (l.map low)).length = 0 := by
  have h := Sec_J (l.map low)
  cases hS : Sec (l.map low) with
  | nil => rfl
  | cons p s =>
    rw [hS] at h
    have h1 := h.tdy
    have h2 := ((h.plc p.1).1 (Plc.cons.2 (.inl ⟨Int.le_refl _, h1.2.1⟩))).2.2
    unfold fS at h2
    rw [List.getD_eq_getElem?_getD, List.getElem?_map] at h2
    cases hg : l[p.1.toNat]? with
    | none => rw [hg] at h2; simp at h2
    | some x => rw [hg] at h2; simp [low] at h2
theorem v7 (l : List Pr) : F7 [eP l, l.length] [] = ([], [true, true]) := by
  have f19 : tabF T31 19 = F19 := by kernel_rfl
  have f25 : tabF T31 25 = F25 := by kernel_rfl
  have f27 : tabF T31 27 = F27 := by kernel_rfl
  have f23 : tabF T31 23 = F23 := by kernel_rfl
  have f11 : tabF T31 11 = F11 := by kernel_rfl
  have f22 : tabF T31 22 = F22 := by kernel_rfl
  have f28 : tabF T31 28 = F28 := by kernel_rfl
  have f16 : tabF T31 16 = F16 := by kernel_rfl
  show S7.run (tabF T31) true [eP l, l.length] [] = _
  generalize tabF T31 = Φ at f19 f25 f27 f23 f11 f22 f28 f16
  obtain ⟨ρ, e1, e2, e3, e4⟩ := Smry.run_specT (Φ := Φ) (S := S7) (is := [eP l, l.length]) (bs := []) rfl
  rw [e1, obAll_eq]
  clear e1
  simp only [S7, obs, Gd.d_cons, Gd.d_nil, eqns, Em.eqn, headsI, headsB, RI.d, RB.d, A.d, B.d, cm_eql, cm_neq, cm_lss, cm_leq, cm_gtr, cm_geq, List.map_cons, List.map_nil, and_true, Nat.zero_add, Nat.reduceAdd, ltn, upto, true_and, Nat.add_zero, List.getD_cons_zero, List.getD_cons_succ] at e2 e3 e4 ⊢
  simp only [e2, e3, Int.toNat_natCast] at e4 ⊢
  clear e2 e3
  rw [f19, f25, f27, f23, f11, f22, f28, f16] at e4
  obtain ⟨⟨⟨i2, i3⟩, b0⟩, ⟨⟨i4, i5⟩, b1⟩, ⟨i6, b2⟩, ⟨⟨i7, i8, i9⟩, b3⟩, ⟨i10, b4⟩, b5, b6, b7, ⟨b8, b9⟩, b10, ⟨⟨i11, i12⟩, b11⟩, ⟨⟨i13, i14⟩, b12⟩, b13, b14, ⟨b15, b16⟩, b17⟩ := e4
  have hL : (l.take 300).length ≤ 300 := by rw [List.length_take]; omega
  simp only [w19, List.getD_cons_zero, List.getD_cons_succ] at i2 i3 b0
  generalize l.take 300 = L at i2 i3 hL
  have hSl : (Sec L).length ≤ 300 := by have := (Sec_J L).len; omega
  have h25 := w25 L (by omega)
  have h27 := w27 L (by omega)
  have h28 := w28 L (by omega)
  have h25' := w25 (L.map low) (by rw [List.length_map]; omega)
  rw [List.length_map, Sec_low] at h25'
  have hC := (Sec_J L).tdy.badC (Sec_lt (by omega))
  have h11 := w11 (l := Sec L) (by unfold small; omega)
  rw [hC] at h11
  have h23 := w23 (L.length : Int) (L.map (·.1)) (Sec L) (by omega)
  have hr : refuse (L.length : Int) (L.map (·.1)) (Sec L) = false := by
    unfold refuse
    rw [hC, List.length_map]
    simp only [Bool.or_false, Bool.or_eq_false_iff, decide_eq_false_iff_not]
    omega
  rw [hr, Int.toNat_natCast] at h23
  have h23 : F23 [(L.length : Int), enc (L.map (·.1)), eP (Sec L), (Sec L).length] [] = ([eP (mkC L.length (L.map (·.1)) (Sec L)), L.length, 0], [true]) := h23
  have h22 := w22 (a := mkC L.length (L.map (·.1)) (Sec L)) (b := L) (by rw [mkC_len]; unfold small; omega) (by unfold small; omega)
  have hS : allR rB (mkC L.length (L.map (·.1)) (Sec L)) L = true := by
    refine allR_iff.2 ⟨mkC_len _ _ _, fun i hi => ?_⟩
    rw [mkC_len] at hi
    rw [mkC_get hi]
    unfold cellM rB
    rw [Sec_any, List.getD_eq_getElem?_getD, List.getElem?_map, List.getElem?_eq_getElem hi]
    unfold fS
    rw [List.getD_eq_getElem?_getD, List.getElem?_eq_getElem hi]
    simp only [Option.map_some, Option.getD_some]
    by_cases h : (L[i]).2 = 0 <;> simp [h]
  rw [hS, mkC_len] at h22
  simp only [i2, i3, h25, List.getD_cons_zero, List.getD_cons_succ] at i4 i5 b1
  simp only [i2, i3, h27, List.getD_cons_zero, List.getD_cons_succ] at i6 b2
  simp only [i3, i6, i4, i5, h23, List.getD_cons_zero, List.getD_cons_succ] at i7 i8 i9 b3
  simp only [i4, i5, h11, List.getD_cons_zero, List.getD_cons_succ] at i10 b4
  simp only [i7, i8, i2, i3, h22, List.getD_cons_zero, List.getD_cons_succ] at b8 b9
  simp only [i2, i3, h28, List.getD_cons_zero, List.getD_cons_succ] at i11 i12 b11
  simp only [i11, i12, h25', List.getD_cons_zero, List.getD_cons_succ] at i13 i14 b12
  simp only [w16, List.getD_cons_zero, List.getD_cons_succ] at b15 b16
  have b10 : ρ.b 10 = true := by rw [b10, b7, b5, b6, i10, i9, b9]; rfl
  have b17 : ρ.b 17 = true := by rw [b17, b16, b14, b10, b13, i14]; rfl
  simp [b0, b1, b2, b3, b4, b8, b11, b12, b15, b17]
end Go.Proofs.Ytgbgibbonhklgaa.Ce
