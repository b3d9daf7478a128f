/-
  Merged texts (CeN). No condition.
-/
import Derived.Test.YtgbgibbonhklgaaCmP
set_option linter.unusedVariables false
set_option linter.unusedSimpArgs false
namespace Go.Proofs.Ytgbgibbonhklgaa.Ce
open Go Go.Proofs Go.Proofs.Ytgbgibbonhklgaa.Sx

theorem any_plc {A B : List Pr} {t : Int} (h : Plc A t ↔ Plc B t) : ((List.range' 0 A.length).any fun i => inR' (A.getD i (0, 0)) t) = ((List.range' 0 B.length).any fun i => inR' (B.getD i (0, 0)) t) := by
  rw [Bool.eq_iff_iff, ← plc_any, ← plc_any]
  exact h
theorem v4 (l : List Pr) (t : Int) : F4 [eP l, l.length, t] [] = ([], [true, true]) := by
  have f9 : tabF T20 9 = F9 := by kernel_rfl
  have f10 : tabF T20 10 = F10 := by kernel_rfl
  have f11 : tabF T20 11 = F11 := by kernel_rfl
  have f13 : tabF T20 13 = F13 := by kernel_rfl
  have f16 : tabF T20 16 = F16 := by kernel_rfl
  have f17 : tabF T20 17 = F17 := by kernel_rfl
  show S4.run (tabF T20) true [eP l, l.length, t] [] = _
  generalize tabF T20 = Φ at f9 f10 f11 f13 f16 f17
  obtain ⟨ρ, e1, e2, e3, e4⟩ := Smry.run_specT (Φ := Φ) (S := S4) (is := [eP l, l.length, t]) (bs := []) rfl
  rw [e1, obAll_eq]
  clear e1
  simp only [S4, obs, Gd.d_cons, Gd.d_nil, eqns, Em.eqn, headsI, headsB, RI.d, RB.d, A.d, B.d, cm_eql, cm_neq, cm_lss, cm_leq, cm_gtr, cm_geq, List.map_cons, List.map_nil, and_true, Nat.zero_add, Nat.reduceAdd, ltn, upto, true_and, Nat.add_zero, List.getD_cons_zero, List.getD_cons_succ] at e2 e3 e4 ⊢
  simp only [e2, e3, Int.toNat_natCast] at e4 ⊢
  clear e2 e3
  rw [f9, f10, f11, f13, f16, f17] at e4
  obtain ⟨⟨⟨i3, i4⟩, b0⟩, ⟨⟨i5, i6, i7⟩, b1⟩, b2, b3, ⟨b4, b5⟩, b6, ⟨⟨i8, i9, i10⟩, b7⟩, ⟨i11, b8⟩, b9, b10, b11, ⟨b12, b13⟩, b14, b15, ⟨i12, b16⟩, b17, ⟨b18, b19⟩, b20, b21, b22, i13, ⟨b23, b24⟩, i14, ⟨b25, b26⟩, b27, ⟨b28, b29⟩, b30, b31, ⟨b32, b33⟩, b34, b35, b36, b37, b38⟩ := e4
  have hL : (l.take 20).length ≤ 20 := by rw [List.length_take]; omega
  simp only [w9, List.getD_cons_zero, List.getD_cons_succ] at i3 i4 b0
  generalize l.take 20 = L at i3 i4 hL
  have hs : small L.length := by unfold small; omega
  simp only [w16, List.getD_cons_zero, List.getD_cons_succ] at b4 b5 b32 b33
  obtain ⟨t1, t2⟩ := w10 L (by omega)
  cases hb : (List.range' 0 L.length).any (badW L) with
  | true =>
    have t1 := t1 hb
    simp only [i3, i4, t1, List.getD_cons_zero, List.getD_cons_succ] at i5 i6 i7 b1
    have b2 : ρ.b 2 = true := by rw [b2, i7]; rfl
    have b6 : ρ.b 6 = true := by rw [b6, b3, i6, b5]; rfl
    have b37 : ρ.b 37 = false := by rw [b37, b2]; rfl
    have b38 : ρ.b 38 = true := b38.trans ((if_neg (by rw [b37]; exact Bool.false_ne_true)).trans b6)
    simp [b0, b1, b2, b4, b38]
  | false =>
    obtain ⟨Q, hQ, hlt, hlen, h10⟩ := t2 hb
    simp only [i3, i4, h10, List.getD_cons_zero, List.getD_cons_succ] at i5 i6 i7 b1
    have hC := hQ.tdy.badC hlt
    obtain ⟨Q', hQ', _, _, h10'⟩ := (w10 Q (by omega)).2 (badW_of_C hC)
    have e : Q' = Q := hQ'.uniq (Tid.self hQ.tdy)
    subst e
    have hsQ : small Q'.length := by unfold small; omega
    have h17 := w17 (a := Q') (b := Q') hsQ hsQ
    rw [allR_refl rR_refl] at h17
    have h11 := w11 hsQ
    rw [hC] at h11
    have h11L := w11 hs
    simp only [i5, i6, h10', List.getD_cons_zero, List.getD_cons_succ] at i8 i9 i10 b7
    simp only [i5, i6, h11, List.getD_cons_zero, List.getD_cons_succ] at i11 b8
    simp only [i5, i6, i8, i9, h17, List.getD_cons_zero, List.getD_cons_succ] at b12 b13
    simp only [i3, i4, h11L, List.getD_cons_zero, List.getD_cons_succ] at i12 b16
    have h17L := w17 (a := Q') (b := L) hsQ hs
    simp only [i3, i4, i5, i6, h17L, List.getD_cons_zero, List.getD_cons_succ] at b18 b19
    have h13 := fun x => w13 (t := x) hsQ
    have h13L := fun x => w13 (t := x) hs
    simp only [i5, i6, h13, List.getD_cons_zero, List.getD_cons_succ] at b23 b24 b28 b29
    simp only [i3, i4, h13L, List.getD_cons_zero, List.getD_cons_succ] at b25 b26
    have b2 : ρ.b 2 = false := by rw [b2, i7]; rfl
    have b11 : ρ.b 11 = false := by rw [b11, b9, b10, i11, i10]; rfl
    have b15 : ρ.b 15 = false := by rw [b15, b11, b14, b13]; rfl
    have b21 : ρ.b 21 = false := by
      rw [b21, b17, i12, b20, b19]
      cases hc : (List.range' 0 L.length).any (badC L) with
      | true => rfl
      | false =>
        have e : Q' = L := hQ.uniq (Tid.self (Tdy.ofC hc))
        rw [e, allR_refl rR_refl]
        rfl
    have b22 : ρ.b 22 = false := by rw [b22, b15, b21]; rfl
    have b27 : ρ.b 27 = true := by
      rw [b27, b24, b26, i13, i14, any_plc (hQ.plc _)]
      simp
    have b29 : ρ.b 29 = false := by
      rw [b29, ← Bool.not_eq_true, ← plc_any]
      intro h
      have := Tdy.le hQ.tdy h
      omega
    have b34 : ρ.b 34 = true := by rw [b34, b31, b27, b30, b29, b33]; rfl
    have b36 : ρ.b 36 = true := by rw [b36, b35, b22, b34]; rfl
    have b37 : ρ.b 37 = true := by rw [b37, b2]; rfl
    have b38 : ρ.b 38 = true := b38.trans ((if_pos b37).trans b36)
    simp [b0, b1, b2, b4, b7, b8, b11, b12, b15, b16, b18, b22, b23, b25, b28, b32, b38]
end Go.Proofs.Ytgbgibbonhklgaa.Ce
