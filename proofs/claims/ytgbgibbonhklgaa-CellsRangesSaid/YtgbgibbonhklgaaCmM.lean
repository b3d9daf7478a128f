/-
  Merged texts (CeM). No condition.
-/
import Derived.Test.YtgbgibbonhklgaaCmP
set_option linter.unusedVariables false
set_option linter.unusedSimpArgs false
namespace Go.Proofs.Ytgbgibbonhklgaa.Ce
open Go Go.Proofs Go.Proofs.Ytgbgibbonhklgaa.Sx

theorem v3 (l : List Pr) (t : Int) : F3 [eP l, l.length, t] [] = ([], [true, true]) := by
  have f9 : tabF T19 9 = F9 := by kernel_rfl
  have f10 : tabF T19 10 = F10 := by kernel_rfl
  have f11 : tabF T19 11 = F11 := by kernel_rfl
  have f12 : tabF T19 12 = F12 := by kernel_rfl
  have f13 : tabF T19 13 = F13 := by kernel_rfl
  have f14 : tabF T19 14 = F14 := by kernel_rfl
  have f15 : tabF T19 15 = F15 := by kernel_rfl
  have f16 : tabF T19 16 = F16 := by kernel_rfl
  have f17 : tabF T19 17 = F17 := by kernel_rfl
  have f18 : tabF T19 18 = F18 := by kernel_rfl
  show S3.run (tabF T19) true [eP l, l.length, t] [] = _
  generalize tabF T19 = Φ at f9 f10 f11 f12 f13 f14 f15 f16 f17 f18
  obtain ⟨ρ, e1, e2, e3, e4⟩ := Smry.run_specT (Φ := Φ) (S := S3) (is := [eP l, l.length, t]) (bs := []) rfl
  rw [e1, obAll_eq]
  clear e1
  simp only [S3, obs, Gd.d_cons, Gd.d_nil, eqns, Em.eqn, headsI, headsB, RI.d, RB.d, A.d, B.d, cm_eql, cm_neq, cm_lss, cm_leq, cm_gtr, cm_geq, List.map_cons, List.map_nil, and_true, Nat.zero_add, Nat.reduceAdd, ltn, upto, true_and, Nat.add_zero, List.getD_cons_zero, List.getD_cons_succ] at e2 e3 e4 ⊢
  simp only [e2, e3, Int.toNat_natCast] at e4 ⊢
  clear e2 e3
  rw [f9, f10, f11, f12, f13, f14, f15, f16, f17, f18] at e4
  obtain ⟨⟨⟨i3, i4⟩, b0⟩, ⟨⟨i5, i6, i7⟩, b1⟩, ⟨i8, b2⟩, b3, ⟨b4, b5⟩, b6, b7, ⟨b8, b9⟩, ⟨b10, b11⟩, b12, b13, b14, ⟨b15, b16⟩, b17, b18, b19, b20, ⟨b21, b22⟩, b23, ⟨⟨i9, i10⟩, b24⟩, ⟨b25, b26⟩, b27, b28, ⟨b29, b30⟩, b31, b32, b33, b34, b35⟩ := e4
  have hL : (l.take 20).length ≤ 20 := by rw [List.length_take]; omega
  simp only [w9, List.getD_cons_zero, List.getD_cons_succ] at i3 i4 b0
  generalize l.take 20 = L at i3 i4 hL
  have hs : small L.length := by unfold small; omega
  have h11 := w11 hs
  have h12 := w12 hs
  have h13 := w13 (t := t) hs
  have h14 := w14 L t hs
  have h15 := w15 hs
  rw [← any_CM] at h12
  simp only [i3, i4, h11, List.getD_cons_zero, List.getD_cons_succ] at i8 b2
  simp only [i3, i4, h12, List.getD_cons_zero, List.getD_cons_succ] at b4 b5
  simp only [i3, i4, h13, List.getD_cons_zero, List.getD_cons_succ] at b8 b9
  simp only [i3, i4, h14, List.getD_cons_zero, List.getD_cons_succ] at b10 b11
  simp only [i3, i4, h15, List.getD_cons_zero, List.getD_cons_succ] at b15 b16
  simp only [w16, List.getD_cons_zero, List.getD_cons_succ] at b21 b22 b29 b30
  have b6 : ρ.b 6 = true := by
    rw [b6, b3, b5, i8]
    cases (List.range' 0 L.length).any (badC L) <;> rfl
  have b7 : ρ.b 7 = false := by rw [b7, b6]; rfl
  have b12 : ρ.b 12 = true := by rw [b12, b9, b11]; simp
  have b14 : ρ.b 14 = false := by rw [b14, b7, b13, b12]; rfl
  have b34 : ρ.b 34 = true := by rw [b34, b14]; rfl
  obtain ⟨t1, t2⟩ := w10 L (by omega)
  cases hb : (List.range' 0 L.length).any (badW L) with
  | true =>
    have t1 := t1 hb
    simp only [i3, i4, t1, List.getD_cons_zero, List.getD_cons_succ] at i5 i6 i7 b1
    rw [hb] at b16
    have b17 : ρ.b 17 = true := by rw [b17, b16]; rfl
    have b23 : ρ.b 23 = true := by rw [b23, b20, b18, b19, i6, i7, b22]; rfl
    have b32 : ρ.b 32 = false := by rw [b32, b17]; rfl
    have b33 : ρ.b 33 = true := b33.trans ((if_neg (by rw [b32]; exact Bool.false_ne_true)).trans b23)
    have b35 : ρ.b 35 = true := by rw [b35, b34, b33]; rfl
    simp [b0, b1, b2, b4, b7, b8, b10, b14, b15, b17, b21, b35]
  | false =>
    obtain ⟨Q, hQ, hlt, hlen, h10⟩ := t2 hb
    obtain ⟨Q', hQ', h18⟩ := w18 L (by omega) (Whl.of hb)
    have e : Q' = Q := hQ'.uniq hQ
    subst e
    have h17 := w17 (a := Q') (b := Q') (by unfold small; omega) (by unfold small; omega)
    rw [allR_refl rR_refl] at h17
    simp only [i3, i4, h10, List.getD_cons_zero, List.getD_cons_succ] at i5 i6 i7 b1
    simp only [i3, i4, h18, List.getD_cons_zero, List.getD_cons_succ] at i9 i10 b24
    simp only [i5, i6, i9, i10, h17, List.getD_cons_zero, List.getD_cons_succ] at b25 b26
    rw [hb] at b16
    have b17 : ρ.b 17 = false := by rw [b17, b16]; rfl
    have b31 : ρ.b 31 = true := by rw [b31, b28, b26, b27, i7, b30]; rfl
    have b32 : ρ.b 32 = true := by rw [b32, b17]; rfl
    have b33 : ρ.b 33 = true := b33.trans ((if_pos b32).trans b31)
    have b35 : ρ.b 35 = true := by rw [b35, b34, b33]; rfl
    simp [b0, b1, b2, b4, b7, b8, b10, b14, b15, b17, b21, b24, b25, b29, b35]
end Go.Proofs.Ytgbgibbonhklgaa.Ce
