/-
  DmcPlays answers true. No condition.
-/
import Derived.Test.YtoempcgniokpiaaDoorDnC
set_option linter.unusedVariables false
set_option linter.unusedSimpArgs false
namespace Go.Proofs.YtoempcgniokpiaaDoor.Dn
open Go Go.Proofs.YtoempcgniokpiaaDoor.Sx

/-- Within a period: how far it is counted. -/
def InvI (rt p w n0 v sh bits : Int) (is : List Int) (bs : List Bool) : Prop :=
  ∃ k cnt lvl sh' bits' si, is = [p, w, n0 + k, k, rt, lvl, 49152, 1, 49152, 0, v, sh', bits', cnt] ∧ bs = [false, false, false, false, si] ∧ 0 ≤ k ∧
    ((k < p ∧ cnt = p - 1 - k ∧ lvl = w ∧ sh' = sh ∧ bits' = bits ∧ si = false) ∨ (k = p ∧ cnt = p - 1 ∧ lvl = lv w sh false ∧ sh' = sh / 2 ∧ bits' = (if bits = 1 then 8 else bits - 1) ∧ si = decide (bits = 1)))
set_option maxRecDepth 10000 in
theorem stepI (rt p w n0 v sh bits : Int) (hrt : 0 ≤ rt) (hrt' : rt < 16) (hp : p = per' rt) (hw : 0 ≤ w) (hw' : w ≤ 127) (hn : 0 ≤ n0) (hn' : n0 ≤ 10000) (hsh : 0 ≤ sh) (hsh' : sh ≤ 255) (hb : 1 ≤ bits) (hb' : bits ≤ 8)
    (is : List Int) (bs : List Bool) (h : InvI rt p w n0 v sh bits is bs) :
    ∃ c rb, (L100601.S.run (tabF T12) true is bs).2 = true :: c :: rb ∧
      (c = false → ((L100601.S.run (tabF T12) true is bs).1.drop 14, rb.drop 5) =
        ([n0 + p, p, rt, lv w sh false, 49152, 1, 49152, 0, v, sh / 2, if bits = 1 then 8 else bits - 1, p - 1], [false, true, false, false, false, false, decide (bits = 1)])) ∧
      (c = true → InvI rt p w n0 v sh bits ((L100601.S.run (tabF T12) true is bs).1.take 14) (rb.take 5) ∧ (p - (((L100601.S.run (tabF T12) true is bs).1.take 14).getD 3 0)).toNat < (p - is.getD 3 0).toNat) := by
  obtain ⟨k, cnt, lvl, sh', bits', si, rfl, rfl, h1, h2⟩ := h
  have hp2 := tab_le hrt' hrt
  change 54 ≤ per' rt ∧ per' rt ≤ 428 at hp2
  rw [← hp] at hp2
  obtain ⟨ρ, e1, e2, e3, e4⟩ := Smry.run_specT (Φ := tabF T12) (S := L100601.S) (is := [p, w, n0 + k, k, rt, lvl, 49152, 1, 49152, 0, v, sh', bits', cnt]) (bs := [false, false, false, false, si]) rfl
  rw [e1, obAll_eq]
  clear e1
  simp only [L100601, obs, Gd.d_cons, Gd.d_nil, eqns, Em.eqn, headsI, headsB, RI.d, RB.d, A.d, B.d, cm_eql, cm_neq, cm_lss, cm_leq, cm_gtr, cm_geq, List.map_cons, List.map_nil, and_true, Nat.zero_add, Nat.reduceAdd, ltn, upto, true_and, Nat.add_zero, add64] at e2 e3 e4 ⊢
  simp only [e2, e3] at e4 ⊢
  rw [show tabF T12 25 = F25 by rfl] at e4
  by_cases hk : k < p
  · obtain ⟨rfl, rfl, rfl, rfl, rfl⟩ : cnt = p - 1 - k ∧ lvl = w ∧ sh' = sh ∧ bits' = bits ∧ si = false := by
      rcases h2 with h2 | h2
      · exact h2.2
      · omega
    rw [tick _ _ _ _ _ _ _ _ _ _ _ _ _ _ _ (by simp [may]; omega) hrt (by omega) (by omega) (by omega) (by omega)] at e4
    rw [wrap_i64_in (n := n0 + k + 1) (by omega) (by omega), wrap_i64_in (n := k + 1) (by omega) (by omega), wrap_i64_in (n := lvl) (by omega) (by omega)] at e4
    by_cases hl : 0 < p - 1 - k
    · rw [if_pos hl] at e4
      simp only [List.getD_cons_zero, List.getD_cons_succ] at e4
      obtain ⟨g5, g14, g6, ⟨⟨q0, q1, q2, q3, q4, q5, q6, q7, q8, q9⟩, r0, r1, r2, r3, r4, r5⟩, g25, g13, g26, g14b, g15, g16, g17, g18⟩ := e4
      have h16 : ρ.b 16 = true := by grind
      refine ⟨_, _, List.cons_eq_cons.2 ⟨?_, rfl⟩, fun hc => ?_, fun _ => ⟨⟨k + 1, p - 1 - k - 1, lvl, sh', bits', false, ?_, ?_, by omega, .inl ⟨by omega, by omega, rfl, rfl, rfl, rfl⟩⟩, ?_⟩⟩
      · grind
      · rw [h16] at hc; cases hc
      · simp only [List.take_succ_cons, List.take_zero, q0, q1, q2, q3, q4, q5, q6, q7, q8, q9, g25, g26]
        rw [show n0 + k + 1 = n0 + (k + 1) by omega]
      · simp only [List.take_succ_cons, List.take_zero, r1, r2, r3, r4, r5]
      · simp [g26]
        omega
    · rw [if_neg hl] at e4
      simp only [List.getD_cons_zero, List.getD_cons_succ] at e4
      obtain ⟨g5, g14, g6, ⟨⟨q0, q1, q2, q3, q4, q5, q6, q7, q8, q9⟩, r0, r1, r2, r3, r4, r5⟩, g25, g13, g26, g14b, g15, g16, g17, g18⟩ := e4
      have h16 : ρ.b 16 = true := by grind
      refine ⟨_, _, List.cons_eq_cons.2 ⟨?_, rfl⟩, fun hc => ?_, fun _ => ⟨⟨k + 1, p - 1, lv lvl sh' false, sh' / 2, if bits' = 1 then 8 else bits' - 1, decide (bits' = 1), ?_, ?_, by omega, .inr ⟨by omega, rfl, rfl, rfl, rfl, rfl⟩⟩, ?_⟩⟩
      · grind
      · rw [h16] at hc; cases hc
      · simp only [List.take_succ_cons, List.take_zero, q0, q1, q2, q3, q4, q5, q6, q7, q8, q9, g25, g26, ← hp]
        rw [show n0 + k + 1 = n0 + (k + 1) by omega]
        simp
      · simp only [List.take_succ_cons, List.take_zero, r1, r2, r3, r4, r5]
        by_cases h1 : bits' = 1 <;> simp [h1]
      · simp [g26]
        omega
  · obtain ⟨rfl, rfl, rfl, rfl, rfl, rfl⟩ : k = p ∧ cnt = p - 1 ∧ lvl = lv w sh false ∧ sh' = sh / 2 ∧ bits' = (if bits = 1 then 8 else bits - 1) ∧ si = decide (bits = 1) := by
      rcases h2 with h2 | h2
      · omega
      · exact h2
    obtain ⟨g5, g14, g6, hc25, g25, g13, g26, g14b, g15, g16, g17, g18⟩ := e4
    have h5 : ρ.b 5 = false := by rw [g5]; simp
    have h16 : ρ.b 16 = false := by rw [g16, h5]; rfl
    have h17 : ρ.b 17 = false := by rw [g17, h5]; rfl
    have h18 : ρ.b 18 = true := by rw [g18, h5]; rfl
    refine ⟨_, _, List.cons_eq_cons.2 ⟨?_, rfl⟩, fun hc => ?_, fun hc => ?_⟩
    · simp [h5]
    · simp [h17, h18]
    · rw [h16] at hc; cases hc

theorem shr8_step (v i : Int) (hv : 0 ≤ v) (h0 : 0 ≤ i) (h7 : i ≤ 7) : arI .shr .u8 v (i + 1) = arI .shr .u8 v i / 2 := by
  have : i = 0 ∨ i = 1 ∨ i = 2 ∨ i = 3 ∨ i = 4 ∨ i = 5 ∨ i = 6 ∨ i = 7 := by omega
  have key : ∀ n m : Nat, (2 : Int) ^ m = 2 ^ n * 2 → v.fdiv (2 ^ m) = v.fdiv (2 ^ n) / 2 := by
    intro n m h
    have h1 : (0 : Int) < 2 ^ n := Int.pow_pos (by decide)
    have h2 : (0 : Int) < 2 ^ m := Int.pow_pos (by decide)
    rw [Int.fdiv_eq_ediv_of_nonneg _ (by omega), Int.fdiv_eq_ediv_of_nonneg _ (by omega), h, Int.ediv_ediv_of_nonneg (by omega)]
  rcases this with rfl | rfl | rfl | rfl | rfl | rfl | rfl | rfl <;> exact key _ _ (by decide)
theorem shr8_0 (v : Int) (hv : 0 ≤ v) : arI .shr .u8 v 0 = v := by
  show v.fdiv (2 ^ min (Int.toNat 0) 8) = v
  rw [show ((2 : Int) ^ min (Int.toNat 0) 8) = 1 by decide]
  simp
/-- Between bits. -/
def InvO (rt p v : Int) (is : List Int) (bs : List Bool) : Prop :=
  ∃ i w, is = [v, p, w, p * i, i, rt, w, 49152, 1, 49152, 0, v, arI .shr .u8 v i, if i = 8 then 8 else 8 - i, p - 1] ∧ bs = [false, false, false, false, decide (i = 8)] ∧ 0 ≤ i ∧ i ≤ 8 ∧ 32 - 2 * i ≤ w ∧ w ≤ 95 + 2 * i
set_option maxRecDepth 10000 in
theorem stepO (rt p v : Int) (hrt : 0 ≤ rt) (hrt' : rt < 16) (hp : p = per' rt) (hv : 0 ≤ v) (hv' : v ≤ 255) (is : List Int) (bs : List Bool) (h : InvO rt p v is bs) :
    ∃ c rb, (L100600.S.run (lpF [L100601] (tabF T12)) true is bs).2 = true :: c :: rb ∧
      (c = false → ∃ w, ((L100600.S.run (lpF [L100601] (tabF T12)) true is bs).1.drop 15, rb.drop 5) = ([w, p * 8, 8, rt, w, 49152, 1, 49152, 0, v, arI .shr .u8 v 8, 8, p - 1], [false, true, false, false, false, false, true])) ∧
      (c = true → InvO rt p v ((L100600.S.run (lpF [L100601] (tabF T12)) true is bs).1.take 15) (rb.take 5) ∧ (8 - (((L100600.S.run (lpF [L100601] (tabF T12)) true is bs).1.take 15).getD 4 0)).toNat < (8 - is.getD 4 0).toNat) := by
  obtain ⟨i, w, rfl, rfl, h1, h2, h3, h4⟩ := h
  have hp2 := tab_le hrt' hrt
  change 54 ≤ per' rt ∧ per' rt ≤ 428 at hp2
  rw [← hp] at hp2
  have hsr := shr_le (k := .u8) (x := v) (y := i) hv
  obtain ⟨ρ, e1, e2, e3, e4⟩ := Smry.run_specT (Φ := lpF [L100601] (tabF T12)) (S := L100600.S) (is := [v, p, w, p * i, i, rt, w, 49152, 1, 49152, 0, v, arI .shr .u8 v i, if i = 8 then 8 else 8 - i, p - 1]) (bs := [false, false, false, false, decide (i = 8)]) rfl
  rw [e1, obAll_eq]
  clear e1
  simp only [L100600, obs, Gd.d_cons, Gd.d_nil, eqns, Em.eqn, headsI, headsB, RI.d, RB.d, A.d, B.d, cm_eql, cm_neq, cm_lss, cm_leq, cm_gtr, cm_geq, List.map_cons, List.map_nil, and_true, Nat.zero_add, Nat.reduceAdd, ltn, upto, true_and, Nat.add_zero, add64, sub64, and8_1] at e2 e3 e4 ⊢
  simp only [e2, e3] at e4 ⊢
  rw [show lpF [L100601] (tabF T12) 100601 = loopF (L100601.S.run (tabF T12) true) 14 5 by rfl] at e4
  by_cases hi : i < 8
  · have hn8 : ¬ i = 8 := by omega
    have hpi : 0 ≤ p * i ∧ p * i ≤ 3424 := by
      constructor
      · exact Int.mul_nonneg (by omega) h1
      · have : p * i ≤ 428 * 8 := Int.mul_le_mul (by omega) (by omega) h1 (by omega)
        omega
    simp only [if_neg hn8, decide_eq_false hn8] at e4 ⊢
    obtain ⟨o, ho, hpost⟩ := loop_rule (F := L100601.S.run (tabF T12) true) (nI := 14) (nB := 5) (InvI rt p w (p * i) v (arI .shr .u8 v i) (8 - i)) (fun is _ => (p - is.getD 3 0).toNat)
      (fun q => q = ([p * i + p, p, rt, lv w (arI .shr .u8 v i) false, 49152, 1, 49152, 0, v, arI .shr .u8 v i / 2, if 8 - i = 1 then 8 else 8 - i - 1, p - 1], [false, true, false, false, false, false, decide (8 - i = 1)]))
      (stepI rt p w (p * i) v (arI .shr .u8 v i) (8 - i) hrt hrt' hp (by omega) (by omega) (by omega) (by omega) (by omega) (by omega) (by omega) (by omega))
      [p, w, p * i, 0, rt, w, 49152, 1, 49152, 0, v, arI .shr .u8 v i, 8 - i, p - 1] [false, false, false, false, false]
      ⟨0, p - 1, w, arI .shr .u8 v i, 8 - i, false, by simp, rfl, by omega, .inl ⟨by omega, by omega, rfl, rfl, rfl, rfl⟩⟩
    subst hpost
    rw [ho] at e4
    simp only [List.getD_cons_zero, List.getD_cons_succ] at e4
    obtain ⟨g5, ⟨⟨q15, q16, q17, q18, q19, q20, q21, q22, q23, q24, q25, q26⟩, r6, r7, r8, r9, r10, r11, r12, r13⟩, g14, g27, g28, g15, g29, g30, g31, g32, g16, g17, g33, g18, g19, g20, g21, g22, g23, g24⟩ := e4
    rw [wrap_i64_in (by omega) (by omega)] at g29 g30 g33
    have hlv : lv w (arI .shr .u8 v i) false = ρ.i 31 ∧ ρ.i 31 = if arI .shr .u8 v i % 2 = 1 then w + 2 else w - 2 := by
      simp only [lv, Bool.false_eq_true, if_false]
      grind
    have h32 : ρ.i 32 = ρ.i 31 := by
      rw [g32, q18, hlv.1, wrap_i64_in] <;> (rw [hlv.2]; split <;> omega)
    have h22 : ρ.b 22 = true := by grind
    refine ⟨_, _, List.cons_eq_cons.2 ⟨?_, rfl⟩, fun hc => ?_, fun _ => ⟨⟨i + 1, ρ.i 31, ?_, ?_, by omega, by omega, ?_, ?_⟩, ?_⟩⟩
    · grind
    · rw [h22] at hc; cases hc
    · simp only [List.take_succ_cons, List.take_zero, q15, q17, q18, q19, q20, q21, q22, q23, q24, q25, q26, hlv.1, g33]
      rw [shr8_step v i hv h1 (by omega), Int.mul_add, Int.mul_one]
      by_cases h7 : i = 7
      · subst h7; rfl
      · rw [if_neg (by omega), if_neg (by omega)]
        simp
        omega
    · simp only [List.take_succ_cons, List.take_zero, r9, r10, r11, r12, r13]
      rw [show decide (8 - i = 1) = decide (i + 1 = 8) from decide_eq_decide.2 (by omega)]
    · rw [hlv.2]; split <;> omega
    · rw [hlv.2]; split <;> omega
    · simp [g33]
      omega
  · have hi8 : i = 8 := by omega
    subst hi8
    obtain ⟨g5, hc, g14, g27, g28, g15, g29, g30, g31, g32, g16, g17, g33, g18, g19, g20, g21, g22, g23, g24⟩ := e4
    have h5 : ρ.b 5 = false := by rw [g5]; rfl
    have h22 : ρ.b 22 = false := by rw [g22, h5]; rfl
    have h23 : ρ.b 23 = false := by rw [g23, h5]; rfl
    have h24 : ρ.b 24 = true := by rw [g24, h5]; rfl
    refine ⟨_, _, List.cons_eq_cons.2 ⟨?_, rfl⟩, fun hc => ⟨w, ?_⟩, fun hc => ?_⟩
    · simp [h5]
    · simp [h23, h24]
    · rw [h22] at hc; cases hc
theorem plays (i0 i1 i2 : Int) (h0 : 0 ≤ i0) (h0' : i0 ≤ 255) (h1 : 0 ≤ i1) (h1' : i1 ≤ 255) (h2 : 0 ≤ i2) (h2' : i2 ≤ 255) : F6 [i0, i1, i2] [] = ([], [true, true]) := by
  unfold F6
  obtain ⟨ρ, e1, e2, e3, e4⟩ := Smry.run_specT (Φ := lpF (l6.map (·.2)) (tabF T12)) (S := S6) (is := [i0, i1, i2]) (bs := []) rfl
  rw [e1, obAll_eq]
  clear e1
  simp only [S6, obs, Gd.d_cons, Gd.d_nil, eqns, Em.eqn, headsI, headsB, RI.d, RB.d, A.d, B.d, cm_eql, cm_neq, cm_lss, cm_leq, cm_gtr, cm_geq, List.map_cons, List.map_nil, and_true, Nat.zero_add, Nat.reduceAdd, ltn, upto, true_and, Nat.add_zero, add8, mul64] at e2 e3 e4 ⊢
  simp only [e2, e3] at e4 ⊢
  rw [show lpF (l6.map (·.2)) (tabF T12) 25 = F25 by rfl, show lpF (l6.map (·.2)) (tabF T12) 28 = F28 by rfl, show lpF (l6.map (·.2)) (tabF T12) 100600 = loopF (L100600.S.run (lpF [L100601] (tabF T12)) true) 15 5 by rfl, awake28] at e4
  obtain ⟨g3, g4, g5, g6, ht, e4⟩ := e4
  rw [rem_nn h0] at g3
  rw [rem_nn h2] at g4
  rw [tick _ _ _ _ _ _ _ _ _ _ _ _ _ _ _ (by simp [may]; omega) (by omega) (by omega) (by omega) (by omega) (by omega)] at ht
  simp only [Int.lt_irrefl, if_false, if_true, Bool.not_true, lv, List.getD_cons_zero, List.getD_cons_succ] at ht
  obtain ⟨⟨c7, c8, c9, c10, c11, c12, c13, c14, c15, c16⟩, d0, d1, d2, d3, d4, d5⟩ := ht
  rw [rem_nn h0] at e4
  obtain ⟨a6, a7, a8, a17, a9, a10, a18, a11, a12, a19, hl, a33, a21, a22, a23, a24, ha, a27, a28, a29, a30⟩ := e4
  have hp : ρ.i 19 = per' (i0 % 16) := by rw [a19, a18]; rfl
  have hp2 := tab_le (r := i0 % 16) (by omega) (by omega)
  change 54 ≤ per' (i0 % 16) ∧ per' (i0 % 16) ≤ 428 at hp2
  have h56 : ρ.i 5 = 32 + i2 % 64 := by rw [g5, g4]; omega
  have h6 : ρ.i 6 = 32 + i2 % 64 := by rw [g6, h56, wrap_i64_in (by omega) (by omega)]
  have h17 : ρ.i 17 = 32 + i2 % 64 := by rw [a17, c8, h56, wrap_i64_in (by omega) (by omega)]
  simp only [c7, c8, c9, c10, c11, c12, c13, c14, c15, c16, d1, d2, d3, d4, d5, g3, h56, h6, hp] at hl
  obtain ⟨o, ho, w, hpost⟩ := loop_rule (F := L100600.S.run (lpF [L100601] (tabF T12)) true) (nI := 15) (nB := 5) (InvO (i0 % 16) (per' (i0 % 16)) i1) (fun is _ => (8 - is.getD 4 0).toNat)
    (fun q => ∃ w, q = ([w, per' (i0 % 16) * 8, 8, i0 % 16, w, 49152, 1, 49152, 0, i1, arI .shr .u8 i1 8, 8, per' (i0 % 16) - 1], [false, true, false, false, false, false, true]))
    (stepO (i0 % 16) (per' (i0 % 16)) i1 (by omega) (by omega) rfl h1 h1')
    [i1, per' (i0 % 16), 32 + i2 % 64, 0, 0, i0 % 16, 32 + i2 % 64, 49152, 1, 49152, 0, i1, i1, 8, per' (i0 % 16) - 1] [false, false, false, false, false]
    ⟨0, 32 + i2 % 64, by rw [shr8_0 i1 h1]; simp, by rfl, by omega, by omega, by omega, by omega⟩
  subst hpost
  rw [ho] at hl
  simp only [List.getD_cons_zero, List.getD_cons_succ] at hl ha
  obtain ⟨⟨l0, l1, l2, l3, l4, l5', l6, l7, l8, l9, l10, l11, l12⟩, o0, o1, o2, o3, o4, o5, o6, o7⟩ := hl
  have h33 : ρ.i 33 = per' (i0 % 16) * 8 := by rw [a33, hp, wrap_i64_in (by omega) (by omega)]; omega
  have hA10 : ρ.b 10 = false := by grind
  grind
end Go.Proofs.YtoempcgniokpiaaDoor.Dn
