/-
  DmcBounds answers true. No condition.
-/
import Derived.Test.YtoempcgniokpiaaDoorDnP
set_option linter.unusedVariables false
set_option linter.unusedSimpArgs false
namespace Go.Proofs.YtoempcgniokpiaaDoor.Dn
open Go Go.Proofs.YtoempcgniokpiaaDoor.Sx

/-- How far a level is, on its way up, or down. -/
def way (up : Bool) (i lvl : Int) : Prop := i ≤ 4 ∨ if up then 126 ≤ lvl ∨ 2 * (i - 4) ≤ lvl else lvl ≤ 1 ∨ lvl ≤ 127 - 2 * (i - 4)
def InvB (lev v : Int) (up : Bool) (is : List Int) (bs : List Bool) : Prop :=
  ∃ i lvl sh bits cnt si, is = [lev, v, if up then 255 else 0, i, 15, lvl, 49152, 1, 49152, 0, 0, sh, bits, cnt] ∧ bs = [false, false, false, false, si] ∧
    0 ≤ i ∧ i ≤ 80 ∧ 0 ≤ lvl ∧ lvl ≤ 127 ∧ lvl % 2 = lev % 2 ∧ 1 ≤ bits ∧ bits ≤ 8 ∧ way up i lvl
theorem shr_le {k : IntKind} {x y : Int} (hx : 0 ≤ x) : 0 ≤ arI .shr k x y ∧ arI .shr k x y ≤ x := by
  show 0 ≤ x.fdiv _ ∧ x.fdiv _ ≤ x
  have hp : (0 : Int) < 2 ^ (min y.toNat k.bits) := Int.pow_pos (by decide)
  rw [Int.fdiv_eq_ediv_of_nonneg _ (by omega)]
  exact ⟨Int.ediv_nonneg hx (by omega), Int.ediv_le_self _ hx⟩
theorem f25 {Φ : Funs} (h : Φ 25 = F25) : Φ 25 = F25 := h

set_option maxRecDepth 10000 in
theorem stepB (lev v : Int) (up : Bool) (hl : 0 ≤ lev) (hl' : lev ≤ 255) (hv : 0 ≤ v) (hv' : v ≤ 255) (is : List Int) (bs : List Bool) (h : InvB lev v up is bs) :
    ∃ c rb, (L100700.S.run (tabF T10) true is bs).2 = true :: c :: rb ∧
      (c = false → ∃ lvl sh bits cnt si, ((L100700.S.run (tabF T10) true is bs).1.drop 14, rb.drop 5) = ([15, lvl, 49152, 1, 49152, 0, 0, sh, bits, cnt], [false, true, false, false, false, false, si]) ∧ 0 ≤ lvl ∧ lvl ≤ 127 ∧ lvl % 2 = lev % 2 ∧ way up 80 lvl) ∧
      (c = true → InvB lev v up ((L100700.S.run (tabF T10) true is bs).1.take 14) (rb.take 5) ∧ (80 - (((L100700.S.run (tabF T10) true is bs).1.take 14).getD 3 0)).toNat < (80 - is.getD 3 0).toNat) := by
  obtain ⟨i, lvl, sh, bits, cnt, si, rfl, rfl, h1, h2, h3, h4, h5, h6, h7, h8⟩ := h
  obtain ⟨ρ, e1, e2, e3, e4⟩ := Smry.run_specT (Φ := tabF T10) (S := L100700.S) (is := [lev, v, if up then 255 else 0, i, 15, lvl, 49152, 1, 49152, 0, 0, sh, bits, cnt]) (bs := [false, false, false, false, si]) rfl
  rw [e1, obAll_eq]
  clear e1
  simp only [L100700, obs, Gd.d_cons, Gd.d_nil, eqns, Em.eqn, headsI, headsB, RI.d, RB.d, A.d, B.d, cm_eql, cm_neq, cm_lss, cm_leq, cm_gtr, cm_geq, List.map_cons, List.map_nil, and_true, Nat.zero_add, Nat.reduceAdd, ltn, upto, lt1, lt0, true_and, Nat.add_zero, and8_1, add64] at e2 e3 e4 ⊢
  simp only [e2, e3] at e4 ⊢
  have hs := shr_le (k := .u8) (x := v) (y := i) hv
  have hsh : 0 ≤ ρ.i 15 ∧ ρ.i 15 ≤ 255 := by
    cases up <;> grind
  rw [show tabF T10 25 = F25 by rfl, tick _ _ _ _ _ _ _ _ _ _ _ _ _ _ _ (by simp [may]; omega) (by omega) (by omega) hsh.1 hsh.2 (by omega)] at e4
  simp only [Int.lt_irrefl, if_false, List.getD_cons_zero, List.getD_cons_succ] at e4
  rw [wrap_i64_in (by omega) (by omega)] at e4
  have hlv : 0 ≤ lv lvl (ρ.i 15) false ∧ lv lvl (ρ.i 15) false ≤ 127 ∧ lv lvl (ρ.i 15) false % 2 = lev % 2 := by
    simp only [lv, Bool.false_eq_true, if_false]; split <;> split <;> omega
  have hw : i < 80 → way up (i + 1) (lv lvl (ρ.i 15) false) := by
    intro hi
    unfold way at h8 ⊢
    by_cases h4i : i < 4
    · exact .inl (by omega)
    · have hd : ρ.i 15 = if up then 255 else 0 := by
        obtain ⟨_, e46, _, _, e415, _⟩ := e4
        rw [e415, e46, decide_eq_false h4i]
        simp
      rw [hd]
      right
      simp only [lv, Bool.false_eq_true, if_false]
      cases up
      · simp only [Bool.false_eq_true, if_false] at h8 ⊢
        split <;> (try split) <;> omega
      · simp only [if_true] at h8 ⊢
        split <;> (try split) <;> omega
  generalize lv lvl (ρ.i 15) false = l' at *
  have hcnt : 0 ≤ per' 15 - 1 := by decide
  have hno : ρ.b 16 = false := by grind
  have h5b : ρ.b 5 = decide (i < 80) := e4.1
  have h19 : ρ.b 19 = decide (i < 80) := by grind
  refine ⟨_, _, List.cons_eq_cons.2 ⟨?_, rfl⟩, fun hc => ?_, fun hc => ?_⟩
  · grind
  · rw [h19] at hc
    have hi : i = 80 := by simp at hc; omega
    refine ⟨lvl, sh, bits, cnt, si, ?_, h3, h4, h5, by rw [← hi]; exact h8⟩
    have : ρ.b 20 = false := by grind
    have : ρ.b 21 = true := by grind
    simp [*]
  · rw [h19] at hc
    have hi : i < 80 := by simpa using hc
    refine ⟨⟨i + 1, l', ρ.i 23, ρ.i 24, ρ.i 25, ρ.b 13, ?_, ?_, by omega, by omega, hlv.1, hlv.2.1, hlv.2.2, ?_, ?_, hw hi⟩, ?_⟩
    · obtain ⟨_, _, _, _, _, ⟨⟨q1, q2, q3, q4, q5, q6, q7, q8, q9, q10⟩, _⟩, _, _, _, _, _, q11, _⟩ := e4
      simp only [List.take_succ_cons, List.take_zero, q1, q2, q3, q4, q5, q6, q7, q11]
    · obtain ⟨_, _, _, _, _, ⟨_, _, q1, q2, q3, q4, q5⟩, _⟩ := e4
      simp only [List.take_succ_cons, List.take_zero, q1, q2, q3, q4, q5, ite_self]
    · grind
    · grind
    · have : ρ.i 28 = i + 1 := by grind
      simp [this]
      omega

theorem new27 : F27 [] [] = ([0, 0, 49152, 1, 49152, 0, 0, 0, 8, 0], [false, false, false, false, true]) := by kernel_rfl
theorem awake28 : F28 [] [] = ([], [true, true]) := by kernel_rfl
theorem lp7 : lpF (l7.map (·.2)) (tabF T10) 100700 = loopF (L100700.S.run (tabF T10) true) 14 5 := rfl
theorem bounds (i0 i1 : Int) (b0 : Bool) (h0 : 0 ≤ i0) (h0' : i0 ≤ 255) (h1 : 0 ≤ i1) (h1' : i1 ≤ 255) : F7 [i0, i1] [b0] = ([], [true, true]) := by
  unfold F7
  obtain ⟨ρ, e1, e2, e3, e4⟩ := Smry.run_specT (Φ := lpF (l7.map (·.2)) (tabF T10)) (S := S7) (is := [i0, i1]) (bs := [b0]) rfl
  rw [e1, obAll_eq]
  clear e1
  simp only [S7, obs, Gd.d_cons, Gd.d_nil, eqns, Em.eqn, headsI, headsB, RI.d, RB.d, A.d, B.d, cm_eql, cm_neq, cm_lss, cm_leq, cm_gtr, cm_geq, List.map_cons, List.map_nil, and_true, Nat.zero_add, Nat.reduceAdd, ltn, upto, lt1, lt0, true_and, Nat.add_zero, and8_1, and8_127, add8] at e2 e3 e4 ⊢
  simp only [e2, e3] at e4 ⊢
  rw [show lpF (l7.map (·.2)) (tabF T10) 27 = F27 by rfl, show lpF (l7.map (·.2)) (tabF T10) 28 = F28 by rfl, new27, awake28, lp7] at e4
  simp only [List.getD_cons_zero, List.getD_cons_succ] at e4
  obtain ⟨⟨⟨c2, c3, c4, c5, c6, c7, c8, c9, c10, c11⟩, d1, d2, d3, d4, d5⟩, e12, e13, hl, e24, e25, e26, g14, g15, g17, g18⟩ := e4
  simp only [c4, c5, c6, c7, c8, c9, c10, c11, d1, d2, d3, d4, e12, e13] at hl
  obtain ⟨o, ho, lvl, sh, bits, cnt, si, hp, p1, p2, p3, p4⟩ := loop_rule (F := L100700.S.run (tabF T10) true) (nI := 14) (nB := 5) (InvB i0 i1 b0) (fun is _ => (80 - is.getD 3 0).toNat)
    (fun q => ∃ lvl sh bits cnt si, q = ([15, lvl, 49152, 1, 49152, 0, 0, sh, bits, cnt], [false, true, false, false, false, false, si]) ∧ 0 ≤ lvl ∧ lvl ≤ 127 ∧ lvl % 2 = i0 % 2 ∧ way b0 80 lvl) (stepB i0 i1 b0 h0 h0' h1 h1')
    [i0, i1, if b0 then 255 else 0, 0, 15, i0 % 256 % 128, 49152, 1, 49152, 0, 0, 0, 8, 0] [false, false, false, false, false]
    ⟨0, _, 0, 8, 0, false, rfl, rfl, by omega, by omega, by omega, by omega, by omega, by omega, by omega, .inl (by omega)⟩
  subst hp
  rw [ho] at hl
  simp only [List.getD_cons_zero, List.getD_cons_succ] at hl
  have hend : lvl = ρ.i 26 := by
    unfold way at p4
    cases b0
    · simp only [Bool.false_eq_true, if_false] at p4 e26
      omega
    · simp only [if_true] at p4 e26
      omega
  obtain ⟨⟨q1, q2, _⟩, r1, r2, r3, _⟩ := hl
  have : ρ.b 14 = true := by rw [g14, q2, hend]; simp
  simp [*]
end Go.Proofs.YtoempcgniokpiaaDoor.Dn
