/-
  dmc: indices are within their tables; the ticks' contracts; all functions together; the examples. WRITTEN BY PROGRAM (wip/gen/dmcq.py). No condition.
-/
import Derived.Test.YtoempcgniokpiaaDoorDmP
set_option linter.unusedVariables false
set_option linter.unusedSimpArgs false
namespace Go.Proofs.YtoempcgniokpiaaDoor.Dm
open Go Go.Proofs.YtoempcgniokpiaaDoor.Sx

theorem args1 {vs : List Value} {w : World} {is : List Int} {bs : List Bool} {ps : List Rg} (h : flatArgs [aD] vs w = some (is, bs, ps)) : ∃ i0 i1 i2 i3 i4 i5 i6 i7 i8 i9 b0 b1 b2 b3 b4, is = [i0, i1, i2, i3, i4, i5, i6, i7, i8, i9] ∧ bs = [b0, b1, b2, b3, b4] := by
  obtain ⟨h1, h2, _, _⟩ := flatArgs_len h
  replace h1 : is.length = 10 := h1
  replace h2 : bs.length = 5 := h2
  obtain ⟨i0, ti0, rfl, gi0⟩ := len_cons h1
  obtain ⟨i1, ti1, rfl, gi1⟩ := len_cons gi0
  obtain ⟨i2, ti2, rfl, gi2⟩ := len_cons gi1
  obtain ⟨i3, ti3, rfl, gi3⟩ := len_cons gi2
  obtain ⟨i4, ti4, rfl, gi4⟩ := len_cons gi3
  obtain ⟨i5, ti5, rfl, gi5⟩ := len_cons gi4
  obtain ⟨i6, ti6, rfl, gi6⟩ := len_cons gi5
  obtain ⟨i7, ti7, rfl, gi7⟩ := len_cons gi6
  obtain ⟨i8, ti8, rfl, gi8⟩ := len_cons gi7
  obtain ⟨i9, ti9, rfl, gi9⟩ := len_cons gi8
  obtain rfl := len_nil gi9
  obtain ⟨b0, tb0, rfl, gb0⟩ := len_cons h2
  obtain ⟨b1, tb1, rfl, gb1⟩ := len_cons gb0
  obtain ⟨b2, tb2, rfl, gb2⟩ := len_cons gb1
  obtain ⟨b3, tb3, rfl, gb3⟩ := len_cons gb2
  obtain ⟨b4, tb4, rfl, gb4⟩ := len_cons gb3
  obtain rfl := len_nil gb4
  exact ⟨i0, i1, i2, i3, i4, i5, i6, i7, i8, i9, b0, b1, b2, b3, b4, rfl, rfl⟩
theorem args3 {vs : List Value} {w : World} {is : List Int} {bs : List Bool} {ps : List Rg} (h : flatArgs [aD, aI .i64, aI .u8] vs w = some (is, bs, ps)) : ∃ i0 i1 i2 i3 i4 i5 i6 i7 i8 i9 i10 i11 b0 b1 b2 b3 b4, is = [i0, i1, i2, i3, i4, i5, i6, i7, i8, i9, i10, i11] ∧ bs = [b0, b1, b2, b3, b4] := by
  obtain ⟨h1, h2, _, _⟩ := flatArgs_len h
  replace h1 : is.length = 12 := h1
  replace h2 : bs.length = 5 := h2
  obtain ⟨i0, ti0, rfl, gi0⟩ := len_cons h1
  obtain ⟨i1, ti1, rfl, gi1⟩ := len_cons gi0
  obtain ⟨i2, ti2, rfl, gi2⟩ := len_cons gi1
  obtain ⟨i3, ti3, rfl, gi3⟩ := len_cons gi2
  obtain ⟨i4, ti4, rfl, gi4⟩ := len_cons gi3
  obtain ⟨i5, ti5, rfl, gi5⟩ := len_cons gi4
  obtain ⟨i6, ti6, rfl, gi6⟩ := len_cons gi5
  obtain ⟨i7, ti7, rfl, gi7⟩ := len_cons gi6
  obtain ⟨i8, ti8, rfl, gi8⟩ := len_cons gi7
  obtain ⟨i9, ti9, rfl, gi9⟩ := len_cons gi8
  obtain ⟨i10, ti10, rfl, gi10⟩ := len_cons gi9
  obtain ⟨i11, ti11, rfl, gi11⟩ := len_cons gi10
  obtain rfl := len_nil gi11
  obtain ⟨b0, tb0, rfl, gb0⟩ := len_cons h2
  obtain ⟨b1, tb1, rfl, gb1⟩ := len_cons gb0
  obtain ⟨b2, tb2, rfl, gb2⟩ := len_cons gb1
  obtain ⟨b3, tb3, rfl, gb3⟩ := len_cons gb2
  obtain ⟨b4, tb4, rfl, gb4⟩ := len_cons gb3
  obtain rfl := len_nil gb4
  exact ⟨i0, i1, i2, i3, i4, i5, i6, i7, i8, i9, i10, i11, b0, b1, b2, b3, b4, rfl, rfl⟩
theorem ob25 (vs : List Value) (w : World) (is : List Int) (bs : List Bool) (ps : List Rg) (h : flatArgs s25.args vs w = some (is, bs, ps)) (_ : s25.pre = true → (S25.run (tabF T8) s25.pre is bs).2.headD false = true) :
    obAll (envOf (evEm (tabF T8) S25.em is bs).1 (evEm (tabF T8) S25.em is bs).2) S25.em = true := by
  obtain ⟨i0, i1, i2, i3, i4, i5, i6, i7, i8, i9, b0, b1, b2, b3, b4, rfl, rfl⟩ := args1 h
  have hr := flatArgs_rng h
  simp only [s25, sm, aD, dmc, argCK, List.cons_append, List.nil_append, rngC, IntKind.min, IntKind.max, IntKind.signed, IntKind.bits, Bool.false_eq_true, if_false] at hr
  refine Smry.ob_spec rfl fun ρ e2 e3 e4 => ?_
  rw [show tabF T8 = Φ from rfl] at e4
  simp only [S25, eqns, Em.eqn, headsI, headsB, RI.d, RB.d, A.d, B.d, cmB, List.map_cons, List.map_nil, and_true, Nat.zero_add, Nat.reduceAdd, lt1, lt0, true_and, Nat.add_zero, List.getD_cons_zero, List.getD_cons_succ, phi17, phi18, v17, v18] at e2 e3 e4
  simp only [e2, e3] at e4
  obtain ⟨m, hm⟩ : ∃ m, m = may i0 i1 i2 i3 i4 i5 i8 i9 := ⟨_, rfl⟩
  simp only [← hm] at e4
  simp only [S25, obAll, List.all_cons, List.all_nil, Gd.d_cons, Gd.d_nil, B.d, Bool.and_true, Bool.true_and]
  have h0 : 0 ≤ i0 := by have := hr.1; omega
  clear hr
  cases m
  · try simp only [if_true, if_false, Bool.false_eq_true] at e4
    grind
  · try simp only [if_true, if_false, Bool.false_eq_true] at e4
    simp only [may, @eq_comm Bool true, Bool.and_eq_true, decide_eq_true_eq] at hm
    grind
theorem c25 : Contract Tryd.prog gl 25 s25 (S25.run (tabF T8) false) := contract_gen A8 Tryd.func25 k25 rfl rfl ob25
theorem ob26 (vs : List Value) (w : World) (is : List Int) (bs : List Bool) (ps : List Rg) (h : flatArgs s26.args vs w = some (is, bs, ps)) (_ : s26.pre = true → (S26.run (tabF T8) s26.pre is bs).2.headD false = true) :
    obAll (envOf (evEm (tabF T8) S26.em is bs).1 (evEm (tabF T8) S26.em is bs).2) S26.em = true := by
  obtain ⟨i0, i1, i2, i3, i4, i5, i6, i7, i8, i9, b0, b1, b2, b3, b4, rfl, rfl⟩ := args1 h
  have hr := flatArgs_rng h
  simp only [s26, sm, aD, dmc, argCK, List.cons_append, List.nil_append, rngC, IntKind.min, IntKind.max, IntKind.signed, IntKind.bits, Bool.false_eq_true, if_false] at hr
  refine Smry.ob_spec rfl fun ρ e2 e3 e4 => ?_
  rw [show tabF T8 = Φ from rfl] at e4
  simp only [S26, eqns, Em.eqn, headsI, headsB, RI.d, RB.d, A.d, B.d, cmB, List.map_cons, List.map_nil, and_true, Nat.zero_add, Nat.reduceAdd, lt1, lt0, true_and, Nat.add_zero, List.getD_cons_zero, List.getD_cons_succ, phi17, phi18, v17, v18] at e2 e3 e4
  simp only [e2, e3] at e4
  obtain ⟨m, hm⟩ : ∃ m, m = may i0 i1 i2 i3 i4 i5 i8 i9 := ⟨_, rfl⟩
  simp only [← hm] at e4
  simp only [S26, obAll, List.all_cons, List.all_nil, Gd.d_cons, Gd.d_nil, B.d, Bool.and_true, Bool.true_and]
  have h0 : 0 ≤ i0 := by have := hr.1; omega
  clear hr
  cases m
  · try simp only [if_true, if_false, Bool.false_eq_true] at e4
    grind
  · try simp only [if_true, if_false, Bool.false_eq_true] at e4
    simp only [may, @eq_comm Bool true, Bool.and_eq_true, decide_eq_true_eq] at hm
    grind
theorem c26 : Contract Tryd.prog gl 26 s26 (S26.run (tabF T8) false) := contract_gen A8 Tryd.func26 k26 rfl rfl ob26
def e19 : Nat × Sum × Fun := (19, s19, F19)
def T9 : List (Nat × Sum × Fun) := e19 :: T8
theorem A9 : AllOk Tryd.prog (tabF T9) gl (tabS T9) := AllOk.cons (s := e19.2.1) c19 call19 (fun S h => by cases h) A8
def e20 : Nat × Sum × Fun := (20, s20, F20)
def T10 : List (Nat × Sum × Fun) := e20 :: T9
theorem A10 : AllOk Tryd.prog (tabF T10) gl (tabS T10) := AllOk.cons (s := e20.2.1) c20 call20 (fun S h => by cases h) A9
def e21 : Nat × Sum × Fun := (21, s21, F21)
def T11 : List (Nat × Sum × Fun) := e21 :: T10
theorem A11 : AllOk Tryd.prog (tabF T11) gl (tabS T11) := AllOk.cons (s := e21.2.1) c21 call21 (fun S h => by cases h) A10
def e22 : Nat × Sum × Fun := (22, s22, F22)
def T12 : List (Nat × Sum × Fun) := e22 :: T11
theorem A12 : AllOk Tryd.prog (tabF T12) gl (tabS T12) := AllOk.cons (s := e22.2.1) c22 call22 (fun S h => by cases h) A11
def e23 : Nat × Sum × Fun := (23, s23, F23)
def T13 : List (Nat × Sum × Fun) := e23 :: T12
theorem A13 : AllOk Tryd.prog (tabF T13) gl (tabS T13) := AllOk.cons (s := e23.2.1) c23 call23 (fun S h => by cases h) A12
def e24 : Nat × Sum × Fun := (24, s24, F24)
def T14 : List (Nat × Sum × Fun) := e24 :: T13
theorem A14 : AllOk Tryd.prog (tabF T14) gl (tabS T14) := AllOk.cons (s := e24.2.1) c24 call24 (fun S h => by cases h) A13
def e25 : Nat × Sum × Fun := (25, s25, F25)
def T15 : List (Nat × Sum × Fun) := e25 :: T14
theorem A15 : AllOk Tryd.prog (tabF T15) gl (tabS T15) := AllOk.cons (s := e25.2.1) c25 call25 (fun S h => by cases h) A14
def e26 : Nat × Sum × Fun := (26, s26, F26)
def T16 : List (Nat × Sum × Fun) := e26 :: T15
theorem A16 : AllOk Tryd.prog (tabF T16) gl (tabS T16) := AllOk.cons (s := e26.2.1) c26 call26 (fun S h => by cases h) A15
def s28 : Sum := sm [] [rB]
def S28 : Smry := (.mk [(.call 19 [(.c 0), (.c 0), (.c 49152), (.c 1), (.c 49152), (.c 0), (.c 0), (.c 0), (.c 8), (.c 0), (.c 2), (.c 1)] [(.c false), (.c false), (.c false), (.c false), (.c true)] 0 10 0 5), (.call 21 [(.v 0), (.v 1), (.v 2), (.v 3), (.v 4), (.v 5), (.v 6), (.v 7), (.v 8), (.v 9)] [(.v 0), (.v 1), (.v 2), (.v 3), (.v 4), (.c true)] 10 10 5 5), (.call 15 [(.v 10), (.v 11), (.v 12), (.v 13), (.v 14), (.v 15), (.v 16), (.v 17), (.v 18), (.v 19)] [(.v 5), (.v 6), (.v 7), (.v 8), (.v 9)] 20 1 10 1), (.call 23 [(.v 10), (.v 11), (.v 12), (.v 13), (.v 14), (.v 15), (.v 16), (.v 17), (.v 18), (.v 19), (.c 5)] [(.v 5), (.v 6), (.v 7), (.v 8), (.v 9)] 21 10 11 5), (.call 15 [(.v 21), (.v 22), (.v 23), (.v 24), (.v 25), (.v 26), (.v 27), (.v 28), (.v 29), (.v 30)] [(.v 11), (.v 12), (.v 13), (.v 14), (.v 15)] 31 1 16 1), (.db 17 (.cm .eql (.v 20) (.c 49216))), (.db 18 (.and (.v 17) (.v 10))), (.db 19 (.not (.v 16))), (.db 20 (.and (.v 18) (.v 19))), (.call 25 [(.c 0), (.c 127), (.c 32768), (.c 0), (.c 32768), (.c 0), (.c 0), (.c 1), (.c 8), (.c 0)] [(.c false), (.c false), (.c false), (.c false), (.c false)] 32 10 21 5), (.db 26 (.cm .eql (.v 33) (.c 127))), (.db 27 (.and (.v 20) (.v 26))), (.call 17 [(.c 0), (.c 0), (.c 49152), (.c 1), (.c 49152), (.c 0), (.c 0), (.c 0), (.c 8), (.c 0)] [(.c false), (.c false), (.c false), (.c false), (.c true)] 42 1 28 0), (.db 28 (.cm .eql (.v 42) (.c 0))), (.db 29 (.and (.v 27) (.v 28)))] [] [(.v 29)])
theorem k28 : fnX Tryd.prog (tabS T16) gl (ctlOf Tryd.f28 gl s28) Tryd.f28 s28 = some S28 := by kernel_rfl
theorem c28 : Contract Tryd.prog gl 28 s28 (S28.run (tabF T16) false) := contract_of A16 Tryd.func28 k28 rfl
def F28 : Fun := S28.run (tabF T16) false
theorem call28 : ∀ args w, (callFunc 28 args).run Tryd.prog w = .ok (.enter 28 args) w := callable_of Tryd.func28 (by kernel_rfl) (by kernel_rfl)
/-- The chapter's examples hold. -/
theorem awake : F28 [] [] = ([], [true]) := by kernel_rfl
def e28 : Nat × Sum × Fun := (28, s28, F28)
def T17 : List (Nat × Sum × Fun) := e28 :: T16
theorem A17 : AllOk Tryd.prog (tabF T17) gl (tabS T17) := AllOk.cons (s := e28.2.1) c28 call28 (fun S h => by cases h) A16
end Go.Proofs.YtoempcgniokpiaaDoor.Dm
