/-
  tone: ToneLasts's loop: one pulse counts down, the halted one keeps. WRITTEN BY PROGRAM (wip/gen/ta11.py). No condition.
-/
import Derived.Test.YtoempcgniokpiaaDoorTaW
set_option linter.unusedVariables false
set_option linter.unusedSimpArgs false
namespace Go.Proofs.YtoempcgniokpiaaDoor.Ta
open Go Go.Proofs.YtoempcgniokpiaaDoor.Sx

/-- A pulse that may be, its length 'c', halted or not. -/
def Pls (c : Int) (h : Bool) (is : List Int) (bs : List Bool) : Prop :=
  ∃ (a0 a1 a2 a4 a5 a6 a7 a8 a9 a10 : Int) (x0 x1 x2 x3 x5 x6 x7 x8 : Bool), is = [a0, a1, a2, c, a4, a5, a6, a7, a8, a9, a10] ∧ bs = [x0, x1, x2, x3, h, x5, x6, x7, x8] ∧ (0 ≤ a0 ∧ 0 ≤ a1 ∧ 0 ≤ a2 ∧ 0 ≤ a4 ∧ 0 ≤ a5 ∧ 0 ≤ a6 ∧ 0 ≤ a7 ∧ 0 ≤ a8 ∧ 0 ≤ a9 ∧ 0 ≤ a10) ∧ okP a0 a1 a2 a4 a5 a6 a7 a8 a9 a10 = true
def InvL (n : Int) (is : List Int) (bs : List Bool) : Prop :=
  ∃ k A a B b, Pls (n - k) false A a ∧ Pls n true B b ∧ is = n :: k :: (A ++ B) ∧ bs = a ++ b ∧ 0 ≤ k ∧ k ≤ n
def PostL (n : Int) (q : Fl) : Prop := ∃ A a B b, Pls 0 false A a ∧ Pls n true B b ∧ q = (A ++ B, false :: true :: (a ++ b))
set_option maxRecDepth 10000 in
theorem stepL (n : Int) (hn : 0 ≤ n ∧ n ≤ 255) : ∀ is bs, InvL n is bs → ∃ c rb, (L100800.S.run (tabF T50) true is bs).2 = true :: c :: rb ∧ (c = false → PostL n ((L100800.S.run (tabF T50) true is bs).1.drop 24, rb.drop 18)) ∧
      (c = true → InvL n ((L100800.S.run (tabF T50) true is bs).1.take 24) (rb.take 18) ∧ (fun is (_ : List Bool) => (n - is.getD 1 0).toNat) ((L100800.S.run (tabF T50) true is bs).1.take 24) (rb.take 18) < (fun is (_ : List Bool) => (n - is.getD 1 0).toNat) is bs) := by
  rintro _ _ ⟨k, _, _, _, _, ⟨a0, a1, a2, a4, a5, a6, a7, a8, a9, a10, x0, x1, x2, x3, x5, x6, x7, x8, rfl, rfl, ha, oka⟩, ⟨d0, d1, d2, d4, d5, d6, d7, d8, d9, d10, y0, y1, y2, y3, y5, y6, y7, y8, rfl, rfl, hd, okd⟩, rfl, rfl, hk0, hkn⟩
  simp only [List.cons_append, List.nil_append]
  obtain ⟨ρ, e1, e2, e3, e4⟩ := Smry.run_specT (Φ := tabF T50) (S := L100800.S) (is := [n, k, a0, a1, a2, (n - k), a4, a5, a6, a7, a8, a9, a10, d0, d1, d2, n, d4, d5, d6, d7, d8, d9, d10]) (bs := [x0, x1, x2, x3, false, x5, x6, x7, x8, y0, y1, y2, y3, true, y5, y6, y7, y8]) rfl
  rw [e1, obAll_eq]
  clear e1
  simp only [L100800, obs, Gd.d_cons, Gd.d_nil, eqns, Em.eqn, headsI, headsB, RI.d, RB.d, A.d, B.d, cm_eql, cm_neq, cm_lss, cm_leq, cm_gtr, cm_geq, List.map_cons, List.map_nil, and_true, Nat.zero_add, Nat.reduceAdd, ltn, upto, true_and, Nat.add_zero, List.getD_cons_zero, List.getD_cons_succ, add8, sub8, add16, sub16, mul16, wrap_u8, wrap_u16, and8_1, and8_7, and8_8, and8_15, and8_16, and8_31, and8_32, and8_64, and8_127, and8_128, and16_1, and16_255, and16_1792, shr8_1, shr8_3, shr8_4, shr8_6, shr16_1, shr16_6, shr16_8, shl16_8, shl16_14] at e2 e3 e4 ⊢
  simp only [e2, e3] at e4 ⊢
  obtain ⟨p, r, b, hF, hp, hr, hok⟩ := st64 a0 a1 a2 (n - k) a4 a5 a6 a7 a8 a9 a10 x0 x1 x2 x3 false x5 x6 x7 x8 (by omega) (by omega) (by omega) (by omega) (by omega) (by omega) (by omega) (by omega) (by omega) (by omega) (by omega) oka
  obtain ⟨p', r', b', hF', hp', hr', hok'⟩ := st64 d0 d1 d2 n d4 d5 d6 d7 d8 d9 d10 y0 y1 y2 y3 true y5 y6 y7 y8 (by omega) (by omega) (by omega) (by omega) (by omega) (by omega) (by omega) (by omega) (by omega) (by omega) (by omega) okd
  rw [show tabF T50 35 = F35 by rfl, q35 _ _ _ _ _ _ _ _ _ _ _ _ _ _ _ _ _ _ _ _ (by omega) (by omega) (by omega) (by omega) (by omega) (by omega) (by omega) (by omega) (by omega) (by omega) (by omega), hF, q35 _ _ _ _ _ _ _ _ _ _ _ _ _ _ _ _ _ _ _ _ (by omega) (by omega) (by omega) (by omega) (by omega) (by omega) (by omega) (by omega) (by omega) (by omega) (by omega), hF'] at e4
  simp only [List.getD_cons_zero, List.getD_cons_succ] at e4
  have gb18 := e4.1
  have r0 := e4.2
  clear e4
  have gi24 := r0.1
  have r1 := r0.2
  clear r0
  have gi25 := r1.1
  have r2 := r1.2
  clear r1
  have gb19 := r2.1
  have r3 := r2.2
  clear r2
  have gi26 := r3.1
  have r4 := r3.2
  clear r3
  have gb20 := r4.1
  have r5 := r4.2
  clear r4
  have gb21 := r5.1
  have r6 := r5.2
  clear r5
  have gi27 := r6.1.1.1
  have gi28 := r6.1.1.2.1
  have gi29 := r6.1.1.2.2.1
  have gi30 := r6.1.1.2.2.2.1
  have gi31 := r6.1.1.2.2.2.2.1
  have gi32 := r6.1.1.2.2.2.2.2.1
  have gi33 := r6.1.1.2.2.2.2.2.2.1
  have gi34 := r6.1.1.2.2.2.2.2.2.2.1
  have gi35 := r6.1.1.2.2.2.2.2.2.2.2.1
  have gi36 := r6.1.1.2.2.2.2.2.2.2.2.2.1
  have gi37 := r6.1.1.2.2.2.2.2.2.2.2.2.2
  have gb22 := r6.1.2.1
  have gb23 := r6.1.2.2.1
  have gb24 := r6.1.2.2.2.1
  have gb25 := r6.1.2.2.2.2.1
  have gb26 := r6.1.2.2.2.2.2.1
  have gb27 := r6.1.2.2.2.2.2.2.1
  have gb28 := r6.1.2.2.2.2.2.2.2.1
  have gb29 := r6.1.2.2.2.2.2.2.2.2.1
  have gb30 := r6.1.2.2.2.2.2.2.2.2.2.1
  have gb31 := r6.1.2.2.2.2.2.2.2.2.2.2
  have r7 := r6.2
  clear r6
  have gi38 := r7.1.1.1
  have gi39 := r7.1.1.2.1
  have gi40 := r7.1.1.2.2.1
  have gi41 := r7.1.1.2.2.2.1
  have gi42 := r7.1.1.2.2.2.2.1
  have gi43 := r7.1.1.2.2.2.2.2.1
  have gi44 := r7.1.1.2.2.2.2.2.2.1
  have gi45 := r7.1.1.2.2.2.2.2.2.2.1
  have gi46 := r7.1.1.2.2.2.2.2.2.2.2.1
  have gi47 := r7.1.1.2.2.2.2.2.2.2.2.2.1
  have gi48 := r7.1.1.2.2.2.2.2.2.2.2.2.2
  have gb32 := r7.1.2.1
  have gb33 := r7.1.2.2.1
  have gb34 := r7.1.2.2.2.1
  have gb35 := r7.1.2.2.2.2.1
  have gb36 := r7.1.2.2.2.2.2.1
  have gb37 := r7.1.2.2.2.2.2.2.1
  have gb38 := r7.1.2.2.2.2.2.2.2.1
  have gb39 := r7.1.2.2.2.2.2.2.2.2.1
  have gb40 := r7.1.2.2.2.2.2.2.2.2.2.1
  have gb41 := r7.1.2.2.2.2.2.2.2.2.2.2
  have r8 := r7.2
  clear r7
  have gb42 := r8.1
  have r9 := r8.2
  clear r8
  have gi49 := r9.1
  have r10 := r9.2
  clear r9
  have gb43 := r10.1
  have r11 := r10.2
  clear r10
  have gb44 := r11.1
  have r12 := r11.2
  clear r11
  have gb45 := r12.1
  have r13 := r12.2
  clear r12
  have gb46 := r13.1
  have r14 := r13.2
  clear r13
  have gb47 := r14
  have w1 : ρ.i 24 = n - k := by rw [gi24]; exact wrap_sm _ (by omega)
  have w2 : ρ.i 25 = n - k := by rw [gi25]; exact wrap_sm _ (by omega)
  have w3 : ρ.i 26 = n := by rw [gi26]; exact wrap_sm _ (by omega)
  have w4 : ρ.i 49 = k + 1 := by rw [gi49]; exact wrap_sm _ (by omega)
  have t19 : ρ.b 19 = false := by rw [gb19, w1, w2]; simp
  have t20 : ρ.b 20 = false := by rw [gb20, w3]; simp
  have t21 : ρ.b 21 = false := by rw [gb21, t19, t20]; rfl
  refine ⟨ρ.b 45, _, by simp [gb22, gb32]; rfl, fun hc => ?_, fun hc => ?_⟩
  · have t18 : ρ.b 18 = false := by rw [gb45, gb44, t21] at hc; simpa using hc
    have hkk : n - k = 0 := by rw [gb18] at t18; simp only [decide_eq_false_iff_not] at t18; omega
    rw [hkk] at *
    refine ⟨_, _, _, _, ⟨a0, a1, a2, a4, a5, a6, a7, a8, a9, a10, x0, x1, x2, x3, x5, x6, x7, x8, rfl, rfl, ha, oka⟩, ⟨d0, d1, d2, d4, d5, d6, d7, d8, d9, d10, y0, y1, y2, y3, y5, y6, y7, y8, rfl, rfl, hd, okd⟩, ?_⟩
    simp [gb46, gb47, t18, t21]
  · have t18 : ρ.b 18 = true := by rw [gb45, gb44, t21] at hc; simpa using hc
    have hkk : k < n := by rw [gb18] at t18; simpa using t18
    have hcc : (if (!false && (n - k) != 0) = true then (n - k - 1) % 256 else n - k) = n - (k + 1) := by
      rw [if_pos (by simp; omega)]; omega
    refine ⟨⟨k + 1, [a0, a1, a2, n - (k + 1), a4, a5, p, a7, a8, a9, r], [x0, x1, x2, x3, false, x5, x6, x7, b], [d0, d1, d2, n, d4, d5, p', d7, d8, d9, r'], [y0, y1, y2, y3, true, y5, y6, y7, b'],
      ⟨a0, a1, a2, a4, a5, p, a7, a8, a9, r, x0, x1, x2, x3, x5, x6, x7, b, rfl, rfl, by omega, hok⟩, ⟨d0, d1, d2, d4, d5, p', d7, d8, d9, r', y0, y1, y2, y3, y5, y6, y7, b', rfl, rfl, by omega, hok'⟩, ?_, ?_, by omega, by omega⟩, ?_⟩
    · rw [hcc] at gi30
      simp [w4, gi27, gi28, gi29, gi30, gi31, gi32, gi33, gi34, gi35, gi36, gi37, gi38, gi39, gi40, gi41, gi42, gi43, gi44, gi45, gi46, gi47, gi48]
    · simp [gb23, gb24, gb25, gb26, gb27, gb28, gb29, gb30, gb31, gb33, gb34, gb35, gb36, gb37, gb38, gb39, gb40, gb41]
    · simp only [List.take, List.getD_cons_zero, List.getD_cons_succ, w4]
      omega
end Go.Proofs.YtoempcgniokpiaaDoor.Ta
