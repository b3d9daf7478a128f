/-
  DmcFeeds answers true. No condition.
-/
import Derived.Test.YtoempcgniokpiaaDoorDnB
set_option linter.unusedVariables false
set_option linter.unusedSimpArgs false
namespace Go.Proofs.YtoempcgniokpiaaDoor.Dn
open Go Go.Proofs.YtoempcgniokpiaaDoor.Sx

theorem v15 (i0 i1 i2 i3 i4 i5 i6 i7 i8 i9 : Int) (b0 b1 b2 b3 b4 : Bool) : F15 [i0,i1,i2,i3,i4,i5,i6,i7,i8,i9] [b0,b1,b2,b3,b4] = ([if may i0 i1 i2 i3 i4 i5 i8 i9 && !b3 && (i5 != 0) then i4 else 0], [may i0 i1 i2 i3 i4 i5 i8 i9 && !b3 && (i5 != 0)]) := by
  unfold F15
  obtain ⟨ρ, e1, e2, e3, e4⟩ := Smry.run_spec (S := S15) (is := [i0,i1,i2,i3,i4,i5,i6,i7,i8,i9]) (bs := [b0,b1,b2,b3,b4]) rfl
  rw [e1]
  simp only [S15, eqns, Em.eqn, headsI, headsB, RI.d, RB.d, A.d, B.d, cm_eql, cm_neq, cm_lss, cm_leq, cm_gtr, cm_geq, List.map_cons, List.map_nil, and_true, Nat.zero_add, Nat.reduceAdd, ltn, upto, true_and, Nat.add_zero, List.getD_cons_zero, List.getD_cons_succ] at e2 e3 e4 ⊢
  simp only [e2, e3] at e4 ⊢
  rw [f17 (Φ := tabF T7) rfl] at e4
  simp only [List.getD_cons_zero] at e4
  generalize may i0 i1 i2 i3 i4 i5 i8 i9 = m at e4 ⊢
  grind
theorem feed (i0 i1 i2 i3 i4 i5 i6 i7 i8 i9 v : Int) (b0 b1 b2 b4 : Bool) (hm : may i0 i1 i2 i3 i4 i5 i8 i9 = true) (h4 : i4 ≤ 65535) (h5 : 0 < i5) :
    F23 [i0,i1,i2,i3,i4,i5,i6,i7,i8,i9,v] [b0,b1,b2,false,b4] =
      if 1 < i5 then ([i0,i1,i2,i3,if i4 = 65535 then 32768 else i4 + 1,i5-1,v,i7,i8,i9], [b0,b1,b2,true,b4])
      else if b1 then ([i0,i1,i2,i3,i2,i3,v,i7,i8,i9], [b0,b1,b2,true,b4])
      else ([i0,i1,i2,i3,if i4 = 65535 then 32768 else i4 + 1,0,v,i7,i8,i9], [b0,b1,b2 || b0,true,b4]) := by
  unfold F23
  obtain ⟨ρ, e1, e2, e3, e4⟩ := Smry.run_spec (Φ := tabF T8) (S := S23) (is := [i0,i1,i2,i3,i4,i5,i6,i7,i8,i9,v]) (bs := [b0,b1,b2,false,b4]) rfl
  rw [e1]
  simp only [S23, eqns, Em.eqn, headsI, headsB, RI.d, RB.d, A.d, B.d, cm_eql, cm_neq, cm_lss, cm_leq, cm_gtr, cm_geq, List.map_cons, List.map_nil, and_true, Nat.zero_add, Nat.reduceAdd, ltn, upto, true_and, Nat.add_zero, or16_top, add16, sub16] at e2 e3 e4 ⊢
  simp only [e2, e3] at e4 ⊢
  rw [show tabF T8 15 = F15 by rfl, v15, hm] at e4
  simp only [may, Bool.and_eq_true, decide_eq_true_eq] at hm
  simp only [List.getD_cons_zero] at e4
  grind
/-- How far a sample is read. -/
def InvF (f n : Int) (asks loop : Bool) (is : List Int) (bs : List Bool) : Prop :=
  ∃ i want at_ left buf irq, is = [n, want, i, 0, 0, f, n, at_, left, buf, 0, 8, 0] ∧ bs = [asks, loop, irq, false, true] ∧ 0 ≤ i ∧ 32768 ≤ at_ ∧ at_ ≤ 65535 ∧
    ((i < n ∧ want = at_ ∧ left = n - i ∧ irq = false) ∨ (i = n ∧ (if loop then at_ = f ∧ left = n ∧ irq = false else left = 0 ∧ irq = asks)))
set_option maxRecDepth 10000 in
theorem stepF (f n : Int) (asks loop : Bool) (hf : 49152 ≤ f) (hf' : f ≤ 65535) (hn : 1 ≤ n) (hn' : n ≤ 241) (is : List Int) (bs : List Bool) (h : InvF f n asks loop is bs) :
    ∃ c rb, (L100500.S.run (tabF T13) true is bs).2 = true :: c :: rb ∧
      (c = false → ∃ at_ left buf irq, ((L100500.S.run (tabF T13) true is bs).1.drop 13, rb.drop 5) = ([0, 0, f, n, at_, left, buf, 0, 8, 0], [false, true, asks, loop, irq, false, true]) ∧ 32768 ≤ at_ ∧ (if loop then at_ = f ∧ left = n ∧ irq = false else left = 0 ∧ irq = asks)) ∧
      (c = true → InvF f n asks loop ((L100500.S.run (tabF T13) true is bs).1.take 13) (rb.take 5) ∧ (n - (((L100500.S.run (tabF T13) true is bs).1.take 13).getD 2 0)).toNat < (n - is.getD 2 0).toNat) := by
  obtain ⟨i, want, at_, left, buf, irq, rfl, rfl, h1, h2, h2', h3⟩ := h
  obtain ⟨ρ, e1, e2, e3, e4⟩ := Smry.run_specT (Φ := tabF T13) (S := L100500.S) (is := [n, want, i, 0, 0, f, n, at_, left, buf, 0, 8, 0]) (bs := [asks, loop, irq, false, true]) rfl
  rw [e1, obAll_eq]
  clear e1
  simp only [L100500, obs, Gd.d_cons, Gd.d_nil, eqns, Em.eqn, headsI, headsB, RI.d, RB.d, A.d, B.d, cm_eql, cm_neq, cm_lss, cm_leq, cm_gtr, cm_geq, List.map_cons, List.map_nil, and_true, Nat.zero_add, Nat.reduceAdd, ltn, upto, true_and, Nat.add_zero, add64, wrap_u8] at e2 e3 e4 ⊢
  simp only [e2, e3] at e4 ⊢
  rw [show tabF T13 15 = F15 by rfl, show tabF T13 23 = F23 by rfl, v15] at e4
  by_cases hi : i < n
  · obtain ⟨rfl, rfl, rfl⟩ : want = at_ ∧ left = n - i ∧ irq = false := by grind
    have hmay : may 0 0 f n want (n - i) 8 0 = true := by simp [may]; omega
    have hne : (n - i != 0) = true := by simp; omega
    rw [feed _ _ _ _ _ _ _ _ _ _ _ _ _ _ _ hmay (by omega) (by omega)] at e4
    simp only [hmay, hne, Bool.not_false, Bool.and_true, if_true, List.getD_cons_zero] at e4
    obtain ⟨g5, ⟨g13, g6⟩, g7, g14, g8, g9, g10, g15, g11, g16, g17, hfeed, hrest⟩ := e4
    have hw14 : ρ.i 14 = want := by rw [g14, g13, wrap_i64_in (by omega) (by omega)]
    have hw15 : ρ.i 15 = want + 1 := by rw [g15, wrap_i64_in (by omega) (by omega)]
    obtain ⟨⟨g28, g17b⟩, hrest⟩ := hrest
    have hfull : ρ.b 15 = true := by
      split at hfeed
      · simp only [List.getD_cons_zero, List.getD_cons_succ] at hfeed; exact hfeed.2.2.2.2.1
      · split at hfeed <;> (simp only [List.getD_cons_zero, List.getD_cons_succ] at hfeed; exact hfeed.2.2.2.2.1)
    rw [v15, hfull] at g28 g17b
    simp only [Bool.not_true, Bool.and_false, Bool.false_and, Bool.false_eq_true, if_false, List.getD_cons_zero] at g28 g17b
    by_cases hl1 : 1 < n - i
    · simp only [if_pos hl1, List.getD_cons_zero, List.getD_cons_succ] at hfeed
      obtain ⟨⟨q18, q19, q20, q21, q22, q23, q24, q25, q26, q27⟩, r12, r13, r14, r15, r16⟩ := hfeed
      have h16' : ρ.i 16 = if want = 65535 then 32768 else want + 1 := by grind
      have h29 : ρ.i 29 = i + 1 := by
        have : ρ.i 29 = IntKind.wrap .i64 (i + 1) := by grind
        rw [this, wrap_i64_in (by omega) (by omega)]
      have h10 : ρ.b 10 = false := by grind
      have h27 : ρ.b 27 = true := by grind
      refine ⟨_, _, List.cons_eq_cons.2 ⟨?_, rfl⟩, fun hc => ?_, fun _ => ⟨⟨i + 1, ρ.i 16, ρ.i 22, ρ.i 23, ρ.i 24, ρ.b 14, ?_, ?_, by omega, ?_, ?_, ?_⟩, ?_⟩⟩
      · grind
      · rw [h27] at hc; cases hc
      · simp only [List.take_succ_cons, List.take_zero, q18, q19, q20, q21, q25, q26, q27, h29]
      · simp only [List.take_succ_cons, List.take_zero, r12, r13, r16]
      · grind
      · grind
      · grind
      · simp [h29]
        omega
    · cases loop
      · simp only [if_neg hl1, Bool.false_eq_true, if_false, List.getD_cons_zero, List.getD_cons_succ] at hfeed
        obtain ⟨⟨q18, q19, q20, q21, q22, q23, q24, q25, q26, q27⟩, r12, r13, r14, r15, r16⟩ := hfeed
        have h16' : ρ.i 16 = if want = 65535 then 32768 else want + 1 := by grind
        have h29 : ρ.i 29 = i + 1 := by
          have : ρ.i 29 = IntKind.wrap .i64 (i + 1) := by grind
          rw [this, wrap_i64_in (by omega) (by omega)]
        have h10 : ρ.b 10 = false := by grind
        have h27 : ρ.b 27 = true := by grind
        refine ⟨_, _, List.cons_eq_cons.2 ⟨?_, rfl⟩, fun hc => ?_, fun _ => ⟨⟨i + 1, ρ.i 16, ρ.i 22, ρ.i 23, ρ.i 24, ρ.b 14, ?_, ?_, by omega, ?_, ?_, ?_⟩, ?_⟩⟩
        · grind
        · rw [h27] at hc; cases hc
        · simp only [List.take_succ_cons, List.take_zero, q18, q19, q20, q21, q25, q26, q27, h29]
        · simp only [List.take_succ_cons, List.take_zero, r12, r13, r16]
        · grind
        · grind
        · grind
        · simp [h29]
          omega
      · simp only [if_neg hl1, if_true, List.getD_cons_zero, List.getD_cons_succ] at hfeed
        obtain ⟨⟨q18, q19, q20, q21, q22, q23, q24, q25, q26, q27⟩, r12, r13, r14, r15, r16⟩ := hfeed
        have h16' : ρ.i 16 = if want = 65535 then 32768 else want + 1 := by grind
        have h29 : ρ.i 29 = i + 1 := by
          have : ρ.i 29 = IntKind.wrap .i64 (i + 1) := by grind
          rw [this, wrap_i64_in (by omega) (by omega)]
        have h10 : ρ.b 10 = false := by grind
        have h27 : ρ.b 27 = true := by grind
        refine ⟨_, _, List.cons_eq_cons.2 ⟨?_, rfl⟩, fun hc => ?_, fun _ => ⟨⟨i + 1, ρ.i 16, ρ.i 22, ρ.i 23, ρ.i 24, ρ.b 14, ?_, ?_, by omega, ?_, ?_, ?_⟩, ?_⟩⟩
        · grind
        · rw [h27] at hc; cases hc
        · simp only [List.take_succ_cons, List.take_zero, q18, q19, q20, q21, q25, q26, q27, h29]
        · simp only [List.take_succ_cons, List.take_zero, r12, r13, r16]
        · grind
        · grind
        · grind
        · simp [h29]
          omega
  · have hin : i = n := by grind
    have h5 : ρ.b 5 = false := by grind
    have h27 : ρ.b 27 = false := by grind
    have h28 : ρ.b 28 = false := by grind
    have h29 : ρ.b 29 = true := by grind
    refine ⟨_, _, List.cons_eq_cons.2 ⟨?_, rfl⟩, fun hc => ⟨at_, left, buf, irq, ?_, h2, ?_⟩, fun hc => ?_⟩
    · grind
    · simp [h28, h29]
    · grind
    · rw [h27] at hc; cases hc

theorem write (i0 i1 i2 i3 i4 i5 i6 i7 i8 i9 reg v : Int) (b0 b1 b2 b3 b4 : Bool) (hm : may i0 i1 i2 i3 i4 i5 i8 i9 = true) (hv : 0 ≤ v) (hv' : v ≤ 255) :
    F19 [i0,i1,i2,i3,i4,i5,i6,i7,i8,i9,reg,v] [b0,b1,b2,b3,b4] =
      if reg = 0 then ([v % 16,i1,i2,i3,i4,i5,i6,i7,i8,i9], [decide (128 ≤ v), decide (v / 64 % 2 = 1), b2 && decide (128 ≤ v), b3, b4])
      else if reg = 1 then ([i0,v % 128,i2,i3,i4,i5,i6,i7,i8,i9], [b0,b1,b2,b3,b4])
      else if reg = 2 then ([i0,i1,49152 + 64 * v,i3,i4,i5,i6,i7,i8,i9], [b0,b1,b2,b3,b4])
      else if reg = 3 then ([i0,i1,i2,16 * v + 1,i4,i5,i6,i7,i8,i9], [b0,b1,b2,b3,b4])
      else ([i0,i1,i2,i3,i4,i5,i6,i7,i8,i9], [b0,b1,b2,b3,b4]) := by
  unfold F19
  obtain ⟨ρ, e1, e2, e3, e4⟩ := Smry.run_spec (Φ := tabF T4) (S := S19) (is := [i0,i1,i2,i3,i4,i5,i6,i7,i8,i9,reg,v]) (bs := [b0,b1,b2,b3,b4]) rfl
  rw [e1]
  simp only [S19, eqns, Em.eqn, headsI, headsB, RI.d, RB.d, A.d, B.d, cm_eql, cm_neq, cm_lss, cm_leq, cm_gtr, cm_geq, List.map_cons, List.map_nil, and_true, Nat.zero_add, Nat.reduceAdd, ltn, upto, true_and, Nat.add_zero, and8_15, and8_127, and8_128, and8_64, wrap_u16, mul16, add16] at e2 e3 e4 ⊢
  simp only [e2, e3] at e4 ⊢
  rw [f17 (Φ := tabF T4) rfl, hm] at e4
  simp only [List.getD_cons_zero, if_true] at e4
  have q7 : ρ.b 7 = decide (128 ≤ v) := by
    obtain ⟨_, _, _, h13, h7, _⟩ := e4
    rw [h7, h13]
    exact decide_eq_decide.2 (by omega)
  have q8 : ρ.b 8 = decide (v / 64 % 2 = 1) := by
    obtain ⟨_, _, _, _, _, h14, h8, _⟩ := e4
    rw [h8, h14]
    exact decide_eq_decide.2 (by omega)
  generalize decide (128 ≤ v) = p1 at q7 ⊢
  generalize decide (v / 64 % 2 = 1) = p2 at q8 ⊢
  clear e1
  by_cases h0 : reg = 0
  · subst h0; simp only [if_true]; grind
  · by_cases h1 : reg = 1
    · subst h1; grind
    · by_cases h2 : reg = 2
      · subst h2; grind
      · by_cases h3 : reg = 3
        · subst h3; grind
        · simp only [h0, h1, h2, h3, if_false]; grind
theorem turnOn (i0 i1 i2 i3 i4 i5 i6 i7 i8 i9 : Int) (b0 b1 b2 b3 b4 on : Bool) (hm : may i0 i1 i2 i3 i4 i5 i8 i9 = true) :
    F21 [i0,i1,i2,i3,i4,i5,i6,i7,i8,i9] [b0,b1,b2,b3,b4,on] = ([i0,i1,i2,i3,if on && i5 == 0 then i2 else i4,if on then (if i5 = 0 then i3 else i5) else 0,i6,i7,i8,i9], [b0,b1,false,b3,b4]) := by
  unfold F21
  obtain ⟨ρ, e1, e2, e3, e4⟩ := Smry.run_spec (Φ := tabF T6) (S := S21) (is := [i0,i1,i2,i3,i4,i5,i6,i7,i8,i9]) (bs := [b0,b1,b2,b3,b4,on]) rfl
  rw [e1]
  simp only [S21, eqns, Em.eqn, headsI, headsB, RI.d, RB.d, A.d, B.d, cm_eql, cm_neq, cm_lss, cm_leq, cm_gtr, cm_geq, List.map_cons, List.map_nil, and_true, Nat.zero_add, Nat.reduceAdd, ltn, upto, true_and, Nat.add_zero] at e2 e3 e4 ⊢
  simp only [e2, e3] at e4 ⊢
  rw [f17 (Φ := tabF T6) rfl, hm] at e4
  simp only [List.getD_cons_zero, if_true] at e4
  grind
theorem feeds (f s : Int) (asks loop : Bool) (h0 : 0 ≤ f) (h0' : f ≤ 255) (h1 : 0 ≤ s) (h1' : s ≤ 255) : F5 [f, s] [asks, loop] = ([], [true, true]) := by
  unfold F5
  obtain ⟨ρ, e1, e2, e3, e4⟩ := Smry.run_specT (Φ := lpF (l5.map (·.2)) (tabF T13)) (S := S5) (is := [f, s]) (bs := [asks, loop]) rfl
  rw [e1, obAll_eq]
  clear e1
  simp only [S5, obs, Gd.d_cons, Gd.d_nil, eqns, Em.eqn, headsI, headsB, RI.d, RB.d, A.d, B.d, cm_eql, cm_neq, cm_lss, cm_leq, cm_gtr, cm_geq, List.map_cons, List.map_nil, and_true, Nat.zero_add, Nat.reduceAdd, ltn, upto, true_and, Nat.add_zero, and8_15, add8] at e2 e3 e4 ⊢
  simp only [e2, e3] at e4 ⊢
  rw [show lpF (l5.map (·.2)) (tabF T13) 27 = F27 by rfl, show lpF (l5.map (·.2)) (tabF T13) 28 = F28 by rfl, show lpF (l5.map (·.2)) (tabF T13) 19 = F19 by rfl, show lpF (l5.map (·.2)) (tabF T13) 21 = F21 by rfl,
    show lpF (l5.map (·.2)) (tabF T13) 15 = F15 by rfl, show lpF (l5.map (·.2)) (tabF T13) 100500 = loopF (L100500.S.run (tabF T13) true) 13 5 by rfl, new27, awake28] at e4
  simp only [List.getD_cons_zero, List.getD_cons_succ] at e4
  obtain ⟨g2, g3, g4, ⟨⟨c5, c6, c7, c8, c9, c10, c11, c12, c13, c14⟩, d2, d3, d4, d5, d6⟩, hw0, e4⟩ := e4
  have hr4 : 0 ≤ ρ.i 4 ∧ ρ.i 4 ≤ 255 ∧ ρ.i 4 % 16 = 0 ∧ (128 ≤ ρ.i 4 ↔ asks = true) ∧ (ρ.i 4 / 64 % 2 = 1 ↔ loop = true) := by
    cases asks <;> cases loop <;> simp_all
  obtain ⟨r1, r2, r3, r4, r5⟩ := hr4
  simp only [c5, c6, c7, c8, c9, c10, c11, c12, c13, c14, d2, d3, d4, d5, d6] at hw0
  rw [write _ _ _ _ _ _ _ _ _ _ _ _ _ _ _ _ _ (by decide) r1 r2] at hw0
  simp only [if_true, List.getD_cons_zero, List.getD_cons_succ, r3, r4, r5, Bool.false_and, Bool.decide_eq_true] at hw0
  obtain ⟨⟨x0, x1, x2, x3, x4, x5, x6, x7, x8, x9⟩, y0, y1, y2, y3, y4⟩ := hw0
  obtain ⟨hw2, e4⟩ := e4
  simp only [x0, x1, x2, x3, x4, x5, x6, x7, x8, x9, y0, y1, y2, y3, y4] at hw2
  rw [write _ _ _ _ _ _ _ _ _ _ _ _ _ _ _ _ _ (by decide) h0 h0'] at hw2
  simp only [show ¬ ((2 : Int) = 0) by decide, show ¬ ((2 : Int) = 1) by decide, if_false, if_true, List.getD_cons_zero, List.getD_cons_succ] at hw2
  obtain ⟨⟨z0, z1, z2, z3, z4, z5, z6, z7, z8, z9⟩, w0, w1, w2, w3, w4⟩ := hw2
  obtain ⟨g35, hw3, e4⟩ := e4
  simp only [z0, z1, z2, z3, z4, z5, z6, z7, z8, z9, w0, w1, w2, w3, w4, g35] at hw3
  rw [write _ _ _ _ _ _ _ _ _ _ _ _ _ _ _ _ _ (by simp [may]; omega) (by omega) (by omega)] at hw3
  simp only [show ¬ ((3 : Int) = 0) by decide, show ¬ ((3 : Int) = 1) by decide, show ¬ ((3 : Int) = 2) by decide, if_false, if_true, List.getD_cons_zero, List.getD_cons_succ] at hw3
  obtain ⟨⟨m0, m1, m2, m3, m4, m5, m6, m7, m8, m9⟩, n0, n1, n2, n3, n4⟩ := hw3
  obtain ⟨hon, e4⟩ := e4
  simp only [m0, m1, m2, m3, m4, m5, m6, m7, m8, m9, n0, n1, n2, n3, n4] at hon
  rw [turnOn _ _ _ _ _ _ _ _ _ _ _ _ _ _ _ _ (by simp [may]; omega)] at hon
  simp only [Bool.true_and, beq_self_eq_true, if_true, List.getD_cons_zero, List.getD_cons_succ] at hon
  obtain ⟨⟨a0, a1, a2, a3, a4, a5, a6, a7, a8, a9⟩, k0, k1, k2, k3, k4⟩ := hon
  obtain ⟨g56, g57, g58, g59, g60, g61, g62, hl, e4⟩ := e4
  have hf58 : ρ.i 58 = 49152 + 64 * f := by
    rw [g58, g57, g56, wrap_i64_in (n := f) (by omega) (by omega)]
    show IntKind.wrap .i64 (_ + IntKind.wrap .i64 _) = _
    rw [wrap_i64_in (n := 64 * f) (by omega) (by omega), wrap_i64_in (by omega) (by omega)]
  have hn62 : ρ.i 62 = 16 * (s % 256 % 16) + 1 := by
    rw [g62, g61, g60, g59, wrap_i64_in (n := s % 256 % 16) (by omega) (by omega)]
    show IntKind.wrap .i64 (IntKind.wrap .i64 _ + _) = _
    rw [wrap_i64_in (n := 16 * (s % 256 % 16)) (by omega) (by omega), wrap_i64_in (by omega) (by omega)]
  simp only [a0, a1, a2, a3, a4, a5, a6, a7, a8, a9, k0, k1, k2, k3, k4, hf58, hn62] at hl
  obtain ⟨o, ho, at_, left, buf, irq, hp, p1, p2⟩ := loop_rule (F := L100500.S.run (tabF T13) true) (nI := 13) (nB := 5) (InvF (49152 + 64 * f) (16 * (s % 256 % 16) + 1) asks loop) (fun is _ => (16 * (s % 256 % 16) + 1 - is.getD 2 0).toNat)
    (fun q => ∃ at_ left buf irq, q = ([0, 0, 49152 + 64 * f, 16 * (s % 256 % 16) + 1, at_, left, buf, 0, 8, 0], [false, true, asks, loop, irq, false, true]) ∧ 32768 ≤ at_ ∧ (if loop then at_ = 49152 + 64 * f ∧ left = 16 * (s % 256 % 16) + 1 ∧ irq = false else left = 0 ∧ irq = asks))
    (stepF (49152 + 64 * f) (16 * (s % 256 % 16) + 1) asks loop (by omega) (by omega) (by omega) (by omega))
    [16 * (s % 256 % 16) + 1, 49152 + 64 * f, 0, 0, 0, 49152 + 64 * f, 16 * (s % 256 % 16) + 1, 49152 + 64 * f, 16 * (s % 256 % 16) + 1, 0, 0, 8, 0] [asks, loop, false, false, true]
    ⟨0, _, _, _, 0, false, rfl, rfl, by omega, by omega, by omega, .inl ⟨by omega, rfl, by omega, rfl⟩⟩
  subst hp
  rw [ho] at hl
  simp only [List.getD_cons_zero, List.getD_cons_succ] at hl
  obtain ⟨⟨l0, l1, l2, l3, l4, l5', l6, l7, l8, l9⟩, o0, o1, o2, o3, o4, o5, o6, o7⟩ := hl
  obtain ⟨⟨g73, g35b⟩, e4⟩ := e4
  rw [v15] at g73 g35b
  simp only [l0, l1, l2, l3, l4, l5', l6, l7, l8, l9, o0, o1, o2, o3, o4, o5, o6, o7, List.getD_cons_zero] at g73 g35b
  have g77 : IntKind.wrap .i64 (49152 + IntKind.wrap .i64 (64 * IntKind.wrap .i64 f)) = 49152 + 64 * f := by
    rw [wrap_i64_in (n := f) (by omega) (by omega), wrap_i64_in (n := 64 * f) (by omega) (by omega), wrap_i64_in (by omega) (by omega)]
  simp only [add64, mul64] at e4
  obtain ⟨h36, h37, h38, h39, h40, h41, h74, h75, h76, h77, h42, h43, h44, h45, h47, h48⟩ := e4
  rw [h75] at h76
  rw [h76, g77] at h77
  cases loop
  · simp only [Bool.false_eq_true, if_false] at p2
    obtain ⟨rfl, rfl⟩ := p2
    simp only [bne_self_eq_false, Bool.and_false, Bool.false_eq_true, if_false] at g73 g35b
    grind
  · simp only [if_true] at p2
    obtain ⟨rfl, rfl, rfl⟩ := p2
    have hmay : may 0 0 (49152 + 64 * f) (16 * (s % 256 % 16) + 1) (49152 + 64 * f) (16 * (s % 256 % 16) + 1) 8 0 = true := by simp [may]; omega
    have hne : (16 * (s % 256 % 16) + 1 != 0) = true := by simp; omega
    simp only [hmay, hne, Bool.not_false, Bool.and_true, if_true] at g73 g35b
    have g74 : ρ.i 74 = 49152 + 64 * f := by rw [h74, g73, wrap_i64_in (by omega) (by omega)]
    grind
end Go.Proofs.YtoempcgniokpiaaDoor.Dn
