/-
  tone: the sweep's target, the mute, the wave. WRITTEN BY PROGRAM (wip/gen/ta6.py). No condition.
-/
import Derived.Test.YtoempcgniokpiaaDoorTaM
set_option linter.unusedVariables false
set_option linter.unusedSimpArgs false
namespace Go.Proofs.YtoempcgniokpiaaDoor.Ta
open Go Go.Proofs.YtoempcgniokpiaaDoor.Sx

theorem wrap_sm (n : Int) (h : -100000 < n ∧ n < 100000) : IntKind.wrap .i64 n = n := by
  rw [wrap_i64_if, if_pos (by omega)]
theorem shr16_pow (x y : Int) (hy : 0 ≤ y ∧ y < 8) : arI .shr .u16 x y = x / ((2 ^ y.toNat : Nat) : Int) := by
  obtain ⟨n, rfl⟩ := Int.eq_ofNat_of_zero_le hy.1
  rw [shrC .u16 x n (2 ^ min n 16) rfl, Nat.min_eq_left (by omega), Int.toNat_natCast]
theorem pow_div (x : Int) (n : Nat) (hx : 0 ≤ x) : 0 ≤ x / ((2 ^ n : Nat) : Int) ∧ x / ((2 ^ n : Nat) : Int) ≤ x :=
  ⟨Int.ediv_nonneg hx (Int.natCast_nonneg _), Int.ediv_le_self _ hx⟩
theorem pow_half (x : Int) (n : Nat) : x / ((2 ^ n : Nat) : Int) / 2 = x / ((2 ^ (n + 1) : Nat) : Int) := by
  rw [Int.ediv_ediv_of_nonneg (Int.natCast_nonneg _), Nat.pow_succ, Int.natCast_mul]
  rfl
/-- The target of a sweep: the period 'p', its part 'c'. -/
def tgt (p c : Int) (neg snd : Bool) : Int := if neg then max 0 (p - (if snd then c else c + 1)) else p + c
theorem tg75 (i0 i1 i2 i3 i4 i5 i6 i7 i8 i9 i10 : Int) (b0 b1 b2 b3 b4 b5 b6 b7 b8 : Bool) (h6 : 0 ≤ i6 ∧ i6 < 2048) (h9 : 0 ≤ i9 ∧ i9 < 8) : F75 [i0, i1, i2, i3, i4, i5, i6, i7, i8, i9, i10] [b0, b1, b2, b3, b4, b5, b6, b7, b8] = ([tgt i6 (i6 / ((2 ^ i9.toNat : Nat) : Int)) b7 b0], [true]) := by
  unfold F75
  obtain ⟨ρ, e1, e2, e3, e4⟩ := Smry.run_specT (Φ := tabF T21) (S := S75) (is := [i0, i1, i2, i3, i4, i5, i6, i7, i8, i9, i10]) (bs := [b0, b1, b2, b3, b4, b5, b6, b7, b8]) rfl
  rw [e1, obAll_eq]
  clear e1
  simp only [S75, obs, Gd.d_cons, Gd.d_nil, eqns, Em.eqn, headsI, headsB, RI.d, RB.d, A.d, B.d, cm_eql, cm_neq, cm_lss, cm_leq, cm_gtr, cm_geq, List.map_cons, List.map_nil, and_true, Nat.zero_add, Nat.reduceAdd, ltn, upto, true_and, Nat.add_zero, List.getD_cons_zero, List.getD_cons_succ, add8, sub8, add16, sub16, mul16, wrap_u8, wrap_u16, and8_1, and8_7, and8_8, and8_15, and8_16, and8_31, and8_32, and8_64, and8_127, and8_128, and16_1, and16_255, and16_1792, shr8_1, shr8_3, shr8_4, shr8_6, shr16_1, shr16_6, shr16_8, shl16_8, shl16_14] at e2 e3 e4 ⊢
  simp only [e2, e3] at e4 ⊢
  rw [shr16_pow _ _ h9] at e4
  have hc := pow_div i6 i9.toNat h6.1
  generalize i6 / ((2 ^ i9.toNat : Nat) : Int) = c at *
  unfold tgt
  grind

def InvT (n p : Int) (is : List Int) (bs : List Bool) : Prop := ∃ k : Nat, is = [n, p / ((2 ^ k : Nat) : Int), (k : Int)] ∧ bs = [] ∧ (k : Int) ≤ n
theorem stepT (n p : Int) (hn : n < 8) (hp : 0 ≤ p ∧ p < 2048) : ∀ is bs, InvT n p is bs → ∃ c rb, (L108400.S.run (tabF T43) true is bs).2 = true :: c :: rb ∧ (c = false → (fun q => q = ([p / ((2 ^ n.toNat : Nat) : Int), n], [true])) ((L108400.S.run (tabF T43) true is bs).1.drop 3, rb.drop 0)) ∧
      (c = true → InvT n p ((L108400.S.run (tabF T43) true is bs).1.take 3) (rb.take 0) ∧ (fun is (_ : List Bool) => (8 - is.getD 2 0).toNat) ((L108400.S.run (tabF T43) true is bs).1.take 3) (rb.take 0) < (fun is (_ : List Bool) => (8 - is.getD 2 0).toNat) is bs) := by
  rintro _ _ ⟨k, rfl, rfl, hk⟩
  obtain ⟨ρ, e1, e2, e3, e4⟩ := Smry.run_specT (Φ := tabF T43) (S := L108400.S) (is := [n, p / ((2 ^ k : Nat) : Int), (k : Int)]) (bs := []) rfl
  rw [e1, obAll_eq]
  clear e1
  simp only [L108400, obs, Gd.d_cons, Gd.d_nil, eqns, Em.eqn, headsI, headsB, RI.d, RB.d, A.d, B.d, cm_eql, cm_neq, cm_lss, cm_leq, cm_gtr, cm_geq, List.map_cons, List.map_nil, and_true, Nat.zero_add, Nat.reduceAdd, ltn, upto, true_and, Nat.add_zero, List.getD_cons_zero, List.getD_cons_succ, add8, sub8, add16, sub16, mul16, wrap_u8, wrap_u16, and8_1, and8_7, and8_8, and8_15, and8_16, and8_31, and8_32, and8_64, and8_127, and8_128, and16_1, and16_255, and16_1792, shr8_1, shr8_3, shr8_4, shr8_6, shr16_1, shr16_6, shr16_8, shl16_8, shl16_14] at e2 e3 e4 ⊢
  obtain ⟨r0, r1, r2⟩ := e2
  simp only [r0, r1, r2] at e4 ⊢
  obtain ⟨g0, g3, g4, g1⟩ := e4
  have hd := pow_div p k hp.1
  have g3' : ρ.i 3 = p / ((2 ^ (k + 1) : Nat) : Int) := by
    rw [g3, ← pow_half]
    have h2 : ∀ z : Int, 0 ≤ z → z < 2048 → arI .quo .i64 z 2 = z / 2 := fun z h0 h1 => by
      show IntKind.wrap .i64 (z.tdiv 2) = z / 2
      rw [Int.tdiv_eq_ediv_of_nonneg h0]
      exact wrap_sm _ (by omega)
    exact h2 _ (by omega) (by omega)
  refine ⟨_, _, rfl, fun hc => ?_, fun hc => ?_⟩
  · rw [g0] at hc
    have hkn : (k : Int) = n := by simp only [decide_eq_false_iff_not] at hc; omega
    have : n.toNat = k := by omega
    simp [g1, g0, this, hkn]
  · rw [g0] at hc
    simp only [decide_eq_true_eq] at hc
    have h4 : ρ.i 4 = ((k + 1 : Nat) : Int) := by rw [g4]; omega
    refine ⟨⟨k + 1, by simp [g3', h4], rfl, by omega⟩, ?_⟩
    simp only [List.take, List.getD_cons_zero, List.getD_cons_succ, h4]
    omega
theorem tg84 (i0 i1 i2 i3 i4 i5 i6 i7 i8 i9 i10 : Int) (b0 b1 b2 b3 b4 b5 b6 b7 b8 : Bool) (h6 : 0 ≤ i6 ∧ i6 < 2048) (h9 : 0 ≤ i9 ∧ i9 < 8) : F84 [i0, i1, i2, i3, i4, i5, i6, i7, i8, i9, i10] [b0, b1, b2, b3, b4, b5, b6, b7, b8] = ([tgt i6 (i6 / ((2 ^ i9.toNat : Nat) : Int)) b7 b0], [true]) := by
  unfold F84
  obtain ⟨ρ, e1, e2, e3, e4⟩ := Smry.run_specT (Φ := lpF (l84.map (·.2)) (tabF T43)) (S := S84) (is := [i0, i1, i2, i3, i4, i5, i6, i7, i8, i9, i10]) (bs := [b0, b1, b2, b3, b4, b5, b6, b7, b8]) rfl
  rw [e1, obAll_eq]
  clear e1
  simp only [S84, obs, Gd.d_cons, Gd.d_nil, eqns, Em.eqn, headsI, headsB, RI.d, RB.d, A.d, B.d, cm_eql, cm_neq, cm_lss, cm_leq, cm_gtr, cm_geq, List.map_cons, List.map_nil, and_true, Nat.zero_add, Nat.reduceAdd, ltn, upto, true_and, Nat.add_zero, List.getD_cons_zero, List.getD_cons_succ, add8, sub8, add16, sub16, mul16, wrap_u8, wrap_u16, and8_1, and8_7, and8_8, and8_15, and8_16, and8_31, and8_32, and8_64, and8_127, and8_128, and16_1, and16_255, and16_1792, shr8_1, shr8_3, shr8_4, shr8_6, shr16_1, shr16_6, shr16_8, shl16_8, shl16_14] at e2 e3 e4 ⊢
  simp only [e2, e3] at e4 ⊢
  obtain ⟨o, ho, hpost⟩ := loop_rule (F := L108400.S.run (tabF T43) true) (nI := 3) (nB := 0) (InvT i9 i6) (fun is _ => (8 - is.getD 2 0).toNat) (fun q => q = ([i6 / ((2 ^ i9.toNat : Nat) : Int), i9], [true])) (stepT i9 i6 h9.2 h6)
      [i9, i6, 0] [] ⟨0, by simp, rfl, h9.1⟩
  subst hpost
  have h11 : ρ.i 11 = i6 := by
    rw [e4.1]
    exact wrap_sm _ (by omega)
  rw [show lpF (l84.map (·.2)) (tabF T43) 108400 = loopF (L108400.S.run (tabF T43) true) 3 0 by rfl, h11, ho] at e4
  simp only [List.getD_cons_zero, List.getD_cons_succ] at e4
  have hc := pow_div i6 i9.toNat h6.1
  generalize i6 / ((2 ^ i9.toNat : Nat) : Int) = c at *
  have ha : ∀ x y : Int, -9000 < x → x < 9000 → -9000 < y → y < 9000 → arI .add .i64 x y = x + y := fun x y _ _ _ _ =>
    wrap_sm _ (by omega)
  have hs : ∀ x y : Int, -9000 < x → x < 9000 → -9000 < y → y < 9000 → arI .sub .i64 x y = x - y := fun x y _ _ _ _ =>
    wrap_sm _ (by omega)
  unfold tgt
  grind
theorem mu74 (i0 i1 i2 i3 i4 i5 i6 i7 i8 i9 i10 : Int) (b0 b1 b2 b3 b4 b5 b6 b7 b8 : Bool) (h6 : 0 ≤ i6 ∧ i6 < 2048) (h9 : 0 ≤ i9 ∧ i9 < 8) : F74 [i0, i1, i2, i3, i4, i5, i6, i7, i8, i9, i10] [b0, b1, b2, b3, b4, b5, b6, b7, b8] = ([], [true, decide (i6 < 8) || decide (2047 < tgt i6 (i6 / ((2 ^ i9.toNat : Nat) : Int)) b7 b0)]) := by
  unfold F74
  obtain ⟨ρ, e1, e2, e3, e4⟩ := Smry.run_specT (Φ := tabF T22) (S := S74) (is := [i0, i1, i2, i3, i4, i5, i6, i7, i8, i9, i10]) (bs := [b0, b1, b2, b3, b4, b5, b6, b7, b8]) rfl
  rw [e1, obAll_eq]
  clear e1
  simp only [S74, obs, Gd.d_cons, Gd.d_nil, eqns, Em.eqn, headsI, headsB, RI.d, RB.d, A.d, B.d, cm_eql, cm_neq, cm_lss, cm_leq, cm_gtr, cm_geq, List.map_cons, List.map_nil, and_true, Nat.zero_add, Nat.reduceAdd, ltn, upto, true_and, Nat.add_zero, List.getD_cons_zero, List.getD_cons_succ, add8, sub8, add16, sub16, mul16, wrap_u8, wrap_u16, and8_1, and8_7, and8_8, and8_15, and8_16, and8_31, and8_32, and8_64, and8_127, and8_128, and16_1, and16_255, and16_1792, shr8_1, shr8_3, shr8_4, shr8_6, shr16_1, shr16_6, shr16_8, shl16_8, shl16_14] at e2 e3 e4 ⊢
  simp only [e2, e3] at e4 ⊢
  rw [show tabF T22 75 = F75 by rfl, tg75 (h6 := h6) (h9 := h9)] at e4
  simp only [List.getD_cons_zero] at e4
  generalize tgt i6 (i6 / ((2 ^ i9.toNat : Nat) : Int)) b7 b0 = t at *
  grind
theorem mu83 (i0 i1 i2 i3 i4 i5 i6 i7 i8 i9 i10 : Int) (b0 b1 b2 b3 b4 b5 b6 b7 b8 : Bool) (h6 : 0 ≤ i6 ∧ i6 < 2048) (h9 : 0 ≤ i9 ∧ i9 < 8) : F83 [i0, i1, i2, i3, i4, i5, i6, i7, i8, i9, i10] [b0, b1, b2, b3, b4, b5, b6, b7, b8] = ([], [true, decide (i6 < 8) || decide (2047 < tgt i6 (i6 / ((2 ^ i9.toNat : Nat) : Int)) b7 b0)]) := by
  unfold F83
  obtain ⟨ρ, e1, e2, e3, e4⟩ := Smry.run_specT (Φ := tabF T44) (S := S83) (is := [i0, i1, i2, i3, i4, i5, i6, i7, i8, i9, i10]) (bs := [b0, b1, b2, b3, b4, b5, b6, b7, b8]) rfl
  rw [e1, obAll_eq]
  clear e1
  simp only [S83, obs, Gd.d_cons, Gd.d_nil, eqns, Em.eqn, headsI, headsB, RI.d, RB.d, A.d, B.d, cm_eql, cm_neq, cm_lss, cm_leq, cm_gtr, cm_geq, List.map_cons, List.map_nil, and_true, Nat.zero_add, Nat.reduceAdd, ltn, upto, true_and, Nat.add_zero, List.getD_cons_zero, List.getD_cons_succ, add8, sub8, add16, sub16, mul16, wrap_u8, wrap_u16, and8_1, and8_7, and8_8, and8_15, and8_16, and8_31, and8_32, and8_64, and8_127, and8_128, and16_1, and16_255, and16_1792, shr8_1, shr8_3, shr8_4, shr8_6, shr16_1, shr16_6, shr16_8, shl16_8, shl16_14] at e2 e3 e4 ⊢
  simp only [e2, e3] at e4 ⊢
  rw [show tabF T44 84 = F84 by rfl, tg84 (h6 := h6) (h9 := h9)] at e4
  simp only [List.getD_cons_zero] at e4
  generalize tgt i6 (i6 / ((2 ^ i9.toNat : Nat) : Int)) b7 b0 = t at *
  grind
end Go.Proofs.YtoempcgniokpiaaDoor.Ta
