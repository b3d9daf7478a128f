/-
  dmc: program and document agree, function by function. WRITTEN BY PROGRAM (wip/gen/dmcp.py). No condition.
-/
import Derived.Test.YtoempcgniokpiaaDoorDmS
set_option linter.unusedVariables false
set_option linter.unusedSimpArgs false
namespace Go.Proofs.YtoempcgniokpiaaDoor.Dm
open Go Go.Proofs.YtoempcgniokpiaaDoor.Sx

def may (rate level from_ size at_ left bits count : Int) : Bool := decide (rate < 16) && decide (level < 128) && decide (from_ ≥ 32768) && decide (at_ ≥ 32768) && decide (size ≤ 4081) && decide (left ≤ 4081) && decide (bits ≥ 1) && decide (bits ≤ 8) && decide (count < 428)
theorem v17 (i0 i1 i2 i3 i4 i5 i6 i7 i8 i9 : Int) (b0 b1 b2 b3 b4 : Bool) : F17 [i0,i1,i2,i3,i4,i5,i6,i7,i8,i9] [b0,b1,b2,b3,b4] = ([if may i0 i1 i2 i3 i4 i5 i8 i9 then 0 else 1], []) := by
  simp only [F17, Smry.run, S17, evEm, envOf, RI.d, RB.d, A.d, B.d, cmB, arI, List.getD_cons_zero, List.getD_cons_succ, List.cons_append, List.nil_append, List.map_cons, List.map_nil, may]
  simp
  grind
theorem v18 (i0 i1 i2 i3 i4 i5 i6 i7 i8 i9 : Int) (b0 b1 b2 b3 b4 : Bool) : F18 [i0,i1,i2,i3,i4,i5,i6,i7,i8,i9] [b0,b1,b2,b3,b4] = ([], [may i0 i1 i2 i3 i4 i5 i8 i9]) := by
  simp only [F18, Smry.run, S18, evEm, envOf, RI.d, RB.d, A.d, B.d, cmB, arI, List.getD_cons_zero, List.getD_cons_succ, List.cons_append, List.nil_append, List.map_cons, List.map_nil, may]
  simp

theorem phi17 : Φ 17 = F17 := rfl
theorem phi18 : Φ 18 = F18 := rfl
theorem phi15 : Φ 15 = F15 := rfl
theorem phi16 : Φ 16 = F16 := rfl
theorem phi017 : tabF T6 17 = F17 := rfl
theorem phi018 : tabF T6 18 = F18 := rfl

theorem v15 (i0 i1 i2 i3 i4 i5 i6 i7 i8 i9 : Int) (b0 b1 b2 b3 b4 : Bool) : F15 [i0,i1,i2,i3,i4,i5,i6,i7,i8,i9] [b0,b1,b2,b3,b4] = ([if may i0 i1 i2 i3 i4 i5 i8 i9 && !b3 && (i5 != 0) then i4 else 0], [may i0 i1 i2 i3 i4 i5 i8 i9 && !b3 && (i5 != 0)]) := by
  simp only [F15, Smry.run, S15, evEm, envOf, RI.d, RB.d, A.d, B.d, cmB, arI, List.getD_cons_zero, List.getD_cons_succ, List.cons_append, List.nil_append, List.map_cons, List.map_nil, phi017, v17, padTo]
  generalize may i0 i1 i2 i3 i4 i5 i8 i9 = m
  by_cases h : i5 = 0
  · subst h; cases m <;> cases b3 <;> simp
  · have h' : (i5 == 0) = false := by simpa using h
    have h'' : (i5 != 0) = true := by simp [h]
    cases m <;> cases b3 <;> simp [h', h'']
theorem v16 (i0 i1 i2 i3 i4 i5 i6 i7 i8 i9 : Int) (b0 b1 b2 b3 b4 : Bool) (h5 : 0 ≤ i5) : F16 [i0,i1,i2,i3,i4,i5,i6,i7,i8,i9] [b0,b1,b2,b3,b4] = ([if may i0 i1 i2 i3 i4 i5 i8 i9 && !b3 && (i5 != 0) then i4 else 0], [may i0 i1 i2 i3 i4 i5 i8 i9 && !b3 && (i5 != 0)]) := by
  simp only [F16, Smry.run, S16, evEm, envOf, RI.d, RB.d, A.d, B.d, cmB, arI, List.getD_cons_zero, List.getD_cons_succ, List.cons_append, List.nil_append, List.map_cons, List.map_nil, phi018, v18, padTo]
  generalize may i0 i1 i2 i3 i4 i5 i8 i9 = m
  by_cases h : i5 = 0
  · subst h; cases m <;> cases b3 <;> simp
  · have : i5 > 0 := by omega
    cases m <;> cases b3 <;> simp [h, this]
theorem q21 (i0 i1 i2 i3 i4 i5 i6 i7 i8 i9 : Int) (b0 b1 b2 b3 b4 b5 : Bool) (h0 : 0 ≤ i0) (h5 : 0 ≤ i5) (h9 : 0 ≤ i9)  : S21.run Φ false [i0,i1,i2,i3,i4,i5,i6,i7,i8,i9] [b0,b1,b2,b3,b4,b5] = S22.run Φ false [i0,i1,i2,i3,i4,i5,i6,i7,i8,i9] [b0,b1,b2,b3,b4,b5] := by
  obtain ⟨ρ, e1, e2, e3, e4⟩ := Smry.run_spec (Φ := Φ) (S := S21) (is := [i0,i1,i2,i3,i4,i5,i6,i7,i8,i9]) (bs := [b0,b1,b2,b3,b4,b5]) rfl
  obtain ⟨σ, f1, f2, f3, f4⟩ := Smry.run_spec (Φ := Φ) (S := S22) (is := [i0,i1,i2,i3,i4,i5,i6,i7,i8,i9]) (bs := [b0,b1,b2,b3,b4,b5]) rfl
  rw [e1, f1]
  clear e1 f1
  simp only [S21, S22, eqns, Em.eqn, headsI, headsB, RI.d, RB.d, A.d, B.d, cmB, List.map_cons, List.map_nil, and_true, Nat.zero_add, Nat.reduceAdd, lt1, lt0, true_and, Nat.add_zero, List.getD_cons_zero, List.getD_cons_succ, and8_1, and8_15, and8_127, and8_128, and8_64, or16_top, shr8_1, add8, sub8, add16, sub16, mul16, add64, sub64, mul64, wrap_u8, wrap_u16, wrap_i64, phi15, phi16, phi17, phi18, v15, v16, v17, v18] at e2 e3 e4 f2 f3 f4 ⊢
  simp only [e2, e3, f2, f3] at e4 f4 ⊢
  obtain ⟨m, hm⟩ : ∃ m, m = may i0 i1 i2 i3 i4 i5 i8 i9 := ⟨_, rfl⟩
  simp only [← hm] at e4 f4 ⊢
  cases m
  · try simp only [if_true, if_false, Bool.false_eq_true] at e4 f4
    grind
  · try simp only [if_true, if_false, Bool.false_eq_true] at e4 f4
    simp only [may, @eq_comm Bool true, Bool.and_eq_true, decide_eq_true_eq] at hm
    grind


theorem q23 (i0 i1 i2 i3 i4 i5 i6 i7 i8 i9 i10 : Int) (b0 b1 b2 b3 b4 : Bool) (h0 : 0 ≤ i0) (h5 : 0 ≤ i5) (h9 : 0 ≤ i9) (h4 : 0 ≤ i4) (h4' : i4 ≤ 65535) (h5' : i5 ≤ 65535) : S23.run Φ false [i0,i1,i2,i3,i4,i5,i6,i7,i8,i9,i10] [b0,b1,b2,b3,b4] = S24.run Φ false [i0,i1,i2,i3,i4,i5,i6,i7,i8,i9,i10] [b0,b1,b2,b3,b4] := by
  obtain ⟨ρ, e1, e2, e3, e4⟩ := Smry.run_spec (Φ := Φ) (S := S23) (is := [i0,i1,i2,i3,i4,i5,i6,i7,i8,i9,i10]) (bs := [b0,b1,b2,b3,b4]) rfl
  obtain ⟨σ, f1, f2, f3, f4⟩ := Smry.run_spec (Φ := Φ) (S := S24) (is := [i0,i1,i2,i3,i4,i5,i6,i7,i8,i9,i10]) (bs := [b0,b1,b2,b3,b4]) rfl
  rw [e1, f1]
  clear e1 f1
  simp only [S23, S24, eqns, Em.eqn, headsI, headsB, RI.d, RB.d, A.d, B.d, cmB, List.map_cons, List.map_nil, and_true, Nat.zero_add, Nat.reduceAdd, lt1, lt0, true_and, Nat.add_zero, List.getD_cons_zero, List.getD_cons_succ, and8_1, and8_15, and8_127, and8_128, and8_64, or16_top, shr8_1, add8, sub8, add16, sub16, mul16, add64, sub64, mul64, wrap_u8, wrap_u16, wrap_i64, phi15, phi16, phi17, phi18, v15, v16, v17, v18] at e2 e3 e4 f2 f3 f4 ⊢
  simp only [e2, e3, f2, f3] at e4 f4 ⊢
  obtain ⟨m, hm⟩ : ∃ m, m = may i0 i1 i2 i3 i4 i5 i8 i9 := ⟨_, rfl⟩
  simp only [← hm] at e4 f4 ⊢
  cases m
  · try simp only [if_true, if_false, Bool.false_eq_true] at e4 f4
    grind
  · try simp only [if_true, if_false, Bool.false_eq_true] at e4 f4
    simp only [may, @eq_comm Bool true, Bool.and_eq_true, decide_eq_true_eq] at hm
    grind


theorem tab_le (n : Nat) : 0 ≤ [428, 380, 340, 320, 286, 254, 226, 214, 190, 160, 142, 128, 106, 84, 72, 54].getD n (0 : Int) ∧ [428, 380, 340, 320, 286, 254, 226, 214, 190, 160, 142, 128, 106, 84, 72, 54].getD n (0 : Int) ≤ 428 := by
  by_cases h : n < 16
  · have : ∀ n, n < 16 → 0 ≤ [428, 380, 340, 320, 286, 254, 226, 214, 190, 160, 142, 128, 106, 84, 72, 54].getD n (0 : Int) ∧ [428, 380, 340, 320, 286, 254, 226, 214, 190, 160, 142, 128, 106, 84, 72, 54].getD n (0 : Int) ≤ 428 := by decide
    exact this n h
  · rw [List.getD_eq_getElem?_getD, List.getElem?_eq_none (by simp; omega)]
    decide
theorem q25 (i0 i1 i2 i3 i4 i5 i6 i7 i8 i9 : Int) (b0 b1 b2 b3 b4 : Bool) (h0 : 0 ≤ i0) (h5 : 0 ≤ i5) (h9 : 0 ≤ i9) (h7 : 0 ≤ i7) (h7' : i7 ≤ 255) (h1 : 0 ≤ i1) (h1' : i1 ≤ 255) (h8 : 0 ≤ i8) (h8' : i8 ≤ 255) (h9' : i9 ≤ 65535) : S25.run Φ false [i0,i1,i2,i3,i4,i5,i6,i7,i8,i9] [b0,b1,b2,b3,b4] = S26.run Φ false [i0,i1,i2,i3,i4,i5,i6,i7,i8,i9] [b0,b1,b2,b3,b4] := by
  obtain ⟨ρ, e1, e2, e3, e4⟩ := Smry.run_spec (Φ := Φ) (S := S25) (is := [i0,i1,i2,i3,i4,i5,i6,i7,i8,i9]) (bs := [b0,b1,b2,b3,b4]) rfl
  obtain ⟨σ, f1, f2, f3, f4⟩ := Smry.run_spec (Φ := Φ) (S := S26) (is := [i0,i1,i2,i3,i4,i5,i6,i7,i8,i9]) (bs := [b0,b1,b2,b3,b4]) rfl
  rw [e1, f1]
  clear e1 f1
  simp only [S25, S26, eqns, Em.eqn, headsI, headsB, RI.d, RB.d, A.d, B.d, cmB, List.map_cons, List.map_nil, and_true, Nat.zero_add, Nat.reduceAdd, lt1, lt0, true_and, Nat.add_zero, List.getD_cons_zero, List.getD_cons_succ, and8_1, and8_15, and8_127, and8_128, and8_64, or16_top, shr8_1, add8, sub8, add16, sub16, mul16, add64, sub64, mul64, wrap_u8, wrap_u16, wrap_i64, phi15, phi16, phi17, phi18, v15, v16, v17, v18, rem_eq, quo8_eq] at e2 e3 e4 f2 f3 f4 ⊢
  simp only [e2, e3, f2, f3] at e4 f4 ⊢
  obtain ⟨m, hm⟩ : ∃ m, m = may i0 i1 i2 i3 i4 i5 i8 i9 := ⟨_, rfl⟩
  simp only [← hm] at e4 f4 ⊢
  cases m
  · try simp only [if_true, if_false, Bool.false_eq_true] at e4 f4
    grind
  · try simp only [if_true, if_false, Bool.false_eq_true] at e4 f4
    simp only [may, @eq_comm Bool true, Bool.and_eq_true, decide_eq_true_eq] at hm
    have ht := tab_le i0.toNat
    generalize [428, 380, 340, 320, 286, 254, 226, 214, 190, 160, 142, 128, 106, 84, 72, 54].getD i0.toNat (0 : Int) = t at e4 f4 ht
    by_cases h : i9 = 0
    · subst h
      simp only [bne_self_eq_false, decide_false, Int.lt_irrefl, gt_iff_lt] at e4 f4
      cases b4 <;> cases b3 <;> by_cases h8 : i8 = 1 <;> grind
    · grind


theorem q19 (i0 i1 i2 i3 i4 i5 i6 i7 i8 i9 i10 i11 : Int) (b0 b1 b2 b3 b4 : Bool) (h0 : 0 ≤ i0) (h5 : 0 ≤ i5) (h9 : 0 ≤ i9) (h11 : 0 ≤ i11) (h11' : i11 ≤ 255) : S19.run Φ false [i0,i1,i2,i3,i4,i5,i6,i7,i8,i9,i10,i11] [b0,b1,b2,b3,b4] = S20.run Φ false [i0,i1,i2,i3,i4,i5,i6,i7,i8,i9,i10,i11] [b0,b1,b2,b3,b4] := by
  obtain ⟨ρ, e1, e2, e3, e4⟩ := Smry.run_spec (Φ := Φ) (S := S19) (is := [i0,i1,i2,i3,i4,i5,i6,i7,i8,i9,i10,i11]) (bs := [b0,b1,b2,b3,b4]) rfl
  obtain ⟨σ, f1, f2, f3, f4⟩ := Smry.run_spec (Φ := Φ) (S := S20) (is := [i0,i1,i2,i3,i4,i5,i6,i7,i8,i9,i10,i11]) (bs := [b0,b1,b2,b3,b4]) rfl
  rw [e1, f1]
  clear e1 f1
  simp only [S19, S20, eqns, Em.eqn, headsI, headsB, RI.d, RB.d, A.d, B.d, cmB, List.map_cons, List.map_nil, and_true, Nat.zero_add, Nat.reduceAdd, lt1, lt0, true_and, Nat.add_zero, List.getD_cons_zero, List.getD_cons_succ, and8_1, and8_15, and8_127, and8_128, and8_64, or16_top, shr8_1, add8, sub8, add16, sub16, mul16, add64, sub64, mul64, wrap_u8, wrap_u16, phi15, phi16, phi17, phi18, v15, v16, v17, v18, rem_eq, quo8_eq] at e2 e3 e4 f2 f3 f4 ⊢
  simp only [e2, e3, f2, f3] at e4 f4 ⊢
  obtain ⟨m, hm⟩ : ∃ m, m = may i0 i1 i2 i3 i4 i5 i8 i9 := ⟨_, rfl⟩
  simp only [← hm] at e4 f4 ⊢
  cases m
  · try simp only [if_true, if_false, Bool.false_eq_true] at e4 f4
    grind
  · try simp only [if_true, if_false, Bool.false_eq_true] at e4 f4
    simp only [may, @eq_comm Bool true, Bool.and_eq_true, decide_eq_true_eq] at hm
    have w1 := wrap_i64_in (n := i11) (by omega) (by omega)
    have w2 := wrap_i64_in (n := 64 * i11) (by omega) (by omega)
    have w3 := wrap_i64_in (n := 49152 + 64 * i11) (by omega) (by omega)
    have w4 := wrap_i64_in (n := 16 * i11) (by omega) (by omega)
    have w5 := wrap_i64_in (n := 1 + 16 * i11) (by omega) (by omega)
    have a0 : i11 % 256 = i11 := by omega
    have a1 : decide (128 * (i11 / 128) > 0) = decide (i11 ≥ 128) := by rw [decide_eq_decide]; omega
    have a2 : decide (64 * (i11 / 64 % 2) > 0) = (i11 / 64 % 256 % 2 == 1) := by rw [Bool.eq_iff_iff]; simp; omega
    have a3 : i11 / 64 % 256 ≥ 0 := by omega
    simp only [if_pos h11, a0] at e4 f4
    by_cases h0 : i10 = 0
    · subst h0
      simp only [beq_self_eq_true, if_true] at e4 f4
      obtain ⟨_, _, _, _, _, _, _⟩ := e4
      grind
    · by_cases h1 : i10 = 1
      · subst h1
        simp at e4 f4
        grind
      · by_cases h2 : i10 = 2
        · subst h2
          simp at e4 f4
          grind
        · by_cases h3 : i10 = 3
          · subst h3
            simp at e4 f4
            grind
          · simp [h0, h1, h2, h3] at e4 f4
            grind



end Go.Proofs.YtoempcgniokpiaaDoor.Dm
