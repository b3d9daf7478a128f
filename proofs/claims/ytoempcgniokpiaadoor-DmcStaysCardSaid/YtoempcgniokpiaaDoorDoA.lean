/-
  DmcStays answers true. No condition.
-/
import Derived.Test.YtoempcgniokpiaaDoorDoP
set_option linter.unusedVariables false
set_option linter.unusedSimpArgs false
namespace Go.Proofs.YtoempcgniokpiaaDoor.Do
open Go Go.Proofs.YtoempcgniokpiaaDoor.Sx

theorem and16_3 (x : Int) : arI .and .u16 x 3 = x % 65536 % 4 := by
  show IntKind.wrap .u16 ↑(BitVec.ofInt 16 x &&& BitVec.ofInt 16 3).toNat = _
  rw [wrap_u16, BitVec.toNat_and]
  have h1 : (BitVec.ofInt 16 x).toNat = (x % 65536).toNat := by simp [BitVec.toNat_ofInt]
  have h2 : (BitVec.ofInt 16 (3 : Int)).toNat = 3 := by decide
  rw [h1, h2, show (3 : Nat) = 2 ^ 2 - 1 by decide, Nat.and_two_pow_sub_one_eq_mod]
  omega
def InvS (q n : Int) (is : List Int) (bs : List Bool) : Prop :=
  ∃ i i0 i1 i2 i3 i4 i5 i6 i7 i8 i9 b0 b1 b2 b3 b4, is = [q, n, i, i0, i1, i2, i3, i4, i5, i6, i7, i8, i9] ∧ bs = [b0, b1, b2, b3, b4] ∧ 0 ≤ i ∧ i ≤ 100 ∧ Ok i0 i1 i2 i3 i4 i5 i6 i7 i8 i9
theorem slGet {q n : Int} (h : slRng [.int .u16] q n) (i : Int) (h0 : 0 ≤ i) : 0 ≤ (dec q).getD (i.toNat * 1 + 0) 0 ∧ (dec q).getD (i.toNat * 1 + 0) 0 ≤ 65535 := by
  obtain ⟨_, _, l, rfl, _, hl⟩ := h
  rw [dec_enc, List.getD_eq_getElem?_getD]
  cases hg : l[i.toNat * 1 + 0]? with
  | none => simp
  | some m =>
    obtain ⟨ck, h1, h2⟩ := hl _ m hg
    simp only [List.length_singleton, Nat.mod_one, List.getElem?_cons_zero, Option.some.injEq] at h1
    subst h1
    simpa [inCK, InR, IntKind.min, IntKind.max, IntKind.signed, IntKind.bits] using h2
set_option maxRecDepth 10000 in
theorem stepS (q n : Int) (hq : slRng [.int .u16] q n) (is : List Int) (bs : List Bool) (h : InvS q n is bs) :
    ∃ c rb, (L100400.S.run (tabF T10) true is bs).2 = true :: c :: rb ∧
      (c = false → ((L100400.S.run (tabF T10) true is bs).1.drop 13, rb.drop 5) = ([], [false, true])) ∧
      (c = true → InvS q n ((L100400.S.run (tabF T10) true is bs).1.take 13) (rb.take 5) ∧ (100 - (((L100400.S.run (tabF T10) true is bs).1.take 13).getD 2 0)).toNat < (100 - is.getD 2 0).toNat) := by
  obtain ⟨i, i0, i1, i2, i3, i4, i5, i6, i7, i8, i9, b0, b1, b2, b3, b4, rfl, rfl, h1, h2, hok⟩ := h
  obtain ⟨ρ, e1, e2, e3, e4⟩ := Smry.run_specT (Φ := tabF T10) (S := L100400.S) (is := [q, n, i, i0, i1, i2, i3, i4, i5, i6, i7, i8, i9]) (bs := [b0, b1, b2, b3, b4]) rfl
  rw [e1, obAll_eq]
  clear e1
  simp only [L100400, obs, Gd.d_cons, Gd.d_nil, eqns, Em.eqn, headsI, headsB, RI.d, RB.d, A.d, B.d, cm_eql, cm_neq, cm_lss, cm_leq, cm_gtr, cm_geq, List.map_cons, List.map_nil, and_true, Nat.zero_add, Nat.reduceAdd, ltn, upto, true_and, Nat.add_zero, add64, add8, and8_1, and16_3, wrap_u8] at e2 e3 e4 ⊢
  simp only [e2, e3] at e4 ⊢
  obtain ⟨hb5, hb6, hb7, hb8, hb9, hi13, hi14, hb10, hb11, hi15, hi16, hi17, hi18, ⟨⟨hi19, hi20, hi21, hi22, hi23, hi24, hi25, hi26, hi27, hi28⟩, hb12, hb13, hb14, hb15, hb16⟩, hi29, hb17, ⟨⟨hi30, hi31, hi32, hi33, hi34, hi35, hi36, hi37, hi38, hi39⟩, hb18, hb19, hb20, hb21, hb22⟩, ⟨⟨hi40, hi41, hi42, hi43, hi44, hi45, hi46, hi47, hi48, hi49⟩, hb23, hb24, hb25, hb26, hb27⟩, ⟨⟨hi50, hi51, hi52, hi53, hi54, hi55, hi56, hi57, hi58, hi59⟩, hb28, hb29, hb30, hb31, hb32, hb33⟩, hi60, hb34, hi61, hb35, hb36, hi62, hb37, hb38, hi63, hb39, hb40, hi64, hb41, hb42, hi65, hb43, hb44, hb45, hb46, hi66, hi67, hi68, hb47, hb48, hb49, hb50, hb51, hb52, hb53, hi69, hi70, hi71, hi72, hi73, hi74, hi75, hb54, hi76, hi77, hb55, hi78, hb56, hb57, hb58, hi79, hi80, hi81, hi82, hi83, hi84, hi85, hb59, hi86, hi87, hb60, hi88, hb61, hb62, hb63, hi89, hi90, hi91, hi92, hi93, hi94, hi95, hb64, hi96, hi97, hb65, hi98, hb66, hb67, hb68, hi99, hi100, hi101, hi102, hi103, hi104, hi105, hb69, hi106, hi107, hb70, hi108, hb71, hi109, hb72, hb73, hb74, hb75, hb76⟩ := e4
  have hx := slGet hq i h1
  simp only [Nat.mul_one, Nat.add_zero] at hx
  rw [show tabF T10 17 = F17 by rfl] at hi60 hi61 hi62 hi63
  obtain ⟨j0, j1, j2, j3, j4, j5, j6, j7, j8, j9, c0, c1, c2, c3, c4, hw, kw⟩ := write_ok hok b0 b1 b2 b3 b4 (ρ.i 18) (ρ.i 14) (by omega) (by omega)
  simp only [show tabF T10 19 = F19 by rfl, hw, List.getD_cons_zero, List.getD_cons_succ] at hi19 hi20 hi21 hi22 hi23 hi24 hi25 hi26 hi27 hi28 hb12 hb13 hb14 hb15 hb16
  obtain ⟨k0, k1, k2, k3, k4, k5, k6, k7, k8, k9, d0, d1, d2, d3, d4, ho, ko⟩ := on_ok hok b0 b1 b2 b3 b4 (ρ.b 17)
  simp only [show tabF T10 21 = F21 by rfl, ho, List.getD_cons_zero, List.getD_cons_succ] at hi30 hi31 hi32 hi33 hi34 hi35 hi36 hi37 hi38 hi39 hb18 hb19 hb20 hb21 hb22
  obtain ⟨l0, l1, l2, l3, l4, l5, l6, l7, l8, l9, f0, f1, f2, f3, f4, hf, kf⟩ := feed_ok hok b0 b1 b2 b3 b4 (ρ.i 14) (by omega) (by omega)
  simp only [show tabF T10 23 = F23 by rfl, hf, List.getD_cons_zero, List.getD_cons_succ] at hi40 hi41 hi42 hi43 hi44 hi45 hi46 hi47 hi48 hi49 hb23 hb24 hb25 hb26 hb27
  obtain ⟨t0, t1, t2, t3, t4, t5, t6, t7, t8, t9, g0, g1, g2, g3, g4, ht, kt, kt1, kt2⟩ := tick_ok hok b0 b1 b2 b3 b4
  simp only [show tabF T10 25 = F25 by rfl, ht, List.getD_cons_zero, List.getD_cons_succ] at hb28 hi50 hi51 hi52 hi53 hi54 hi55 hi56 hi57 hi58 hi59 hb29 hb30 hb31 hb32 hb33
  simp only [hi19, hi20, hi21, hi22, hi23, hi24, hi25, hi26, hi27, hi28, hb12, hb13, hb14, hb15, hb16, v17, kw.may, if_true, List.getD_cons_zero] at hi60
  simp only [hi30, hi31, hi32, hi33, hi34, hi35, hi36, hi37, hi38, hi39, hb18, hb19, hb20, hb21, hb22, v17, ko.may, if_true, List.getD_cons_zero] at hi61
  simp only [hi40, hi41, hi42, hi43, hi44, hi45, hi46, hi47, hi48, hi49, hb23, hb24, hb25, hb26, hb27, v17, kf.may, if_true, List.getD_cons_zero] at hi62
  simp only [hi50, hi51, hi52, hi53, hi54, hi55, hi56, hi57, hi58, hi59, hb29, hb30, hb31, hb32, hb33, v17, kt.may, if_true, List.getD_cons_zero] at hi63
  have kt' := kt
  have hok' := hok
  unfold Ok at kt' hok'
  have h44 : ρ.b 44 = false := by
    have e34 : ρ.b 34 = false := by rw [hb34, hi60]; rfl
    have e35 : ρ.b 35 = false := by rw [hb35, hi61]; rfl
    have e37 : ρ.b 37 = false := by rw [hb37, hi62]; rfl
    have e39 : ρ.b 39 = false := by rw [hb39, hi63]; rfl
    have e41 : ρ.b 41 = false := by rw [hb41, hi51, hi64]; exact decide_eq_false (by omega)
    have e43 : ρ.b 43 = false := by rw [hb43, hi65, hi51]; exact decide_eq_false (by omega)
    rw [hb44, hb42, hb40, hb38, hb36, e34, e35, e37, e39, e41, e43]; rfl
  have hfin : Ok (ρ.i 99) (ρ.i 100) (ρ.i 101) (ρ.i 102) (ρ.i 103) (ρ.i 104) (ρ.i 105) (ρ.i 106) (ρ.i 107) (ρ.i 108) := by
    clear hb47 hb48 hb49 hb50 hb5 hb6 hb7 hb8 hb9 hb10 hb11
    cases h47 : ρ.b 47
    · simp only [h47, Bool.false_eq_true, if_false] at hi99 hi100 hi101 hi102 hi103 hi104 hi105 hi106 hi107 hi108
      cases h48 : ρ.b 48
      · simp only [h48, Bool.false_eq_true, if_false] at hi89 hi90 hi91 hi92 hi93 hi94 hi95 hi96 hi97 hi98
        cases h49 : ρ.b 49
        · simp only [h49, Bool.false_eq_true, if_false] at hi79 hi80 hi81 hi82 hi83 hi84 hi85 hi86 hi87 hi88
          cases h50 : ρ.b 50
          · simp only [h50, Bool.false_eq_true, if_false] at hi69 hi70 hi71 hi72 hi73 hi74 hi75 hi76 hi77 hi78
            simp only [hi99, hi100, hi101, hi102, hi103, hi104, hi105, hi106, hi107, hi108, hi89, hi90, hi91, hi92, hi93, hi94, hi95, hi96, hi97, hi98, hi79, hi80, hi81, hi82, hi83, hi84, hi85, hi86, hi87, hi88, hi69, hi70, hi71, hi72, hi73, hi74, hi75, hi76, hi77, hi78]
            exact hok
          · simp only [h50, if_true] at hi69 hi70 hi71 hi72 hi73 hi74 hi75 hi76 hi77 hi78
            simp only [hi99, hi100, hi101, hi102, hi103, hi104, hi105, hi106, hi107, hi108, hi89, hi90, hi91, hi92, hi93, hi94, hi95, hi96, hi97, hi98, hi79, hi80, hi81, hi82, hi83, hi84, hi85, hi86, hi87, hi88, hi69, hi70, hi71, hi72, hi73, hi74, hi75, hi76, hi77, hi78, hi50, hi51, hi52, hi53, hi54, hi55, hi56, hi57, hi58, hi59]
            exact kt
        · simp only [h49, if_true] at hi79 hi80 hi81 hi82 hi83 hi84 hi85 hi86 hi87 hi88
          simp only [hi99, hi100, hi101, hi102, hi103, hi104, hi105, hi106, hi107, hi108, hi89, hi90, hi91, hi92, hi93, hi94, hi95, hi96, hi97, hi98, hi79, hi80, hi81, hi82, hi83, hi84, hi85, hi86, hi87, hi88, hi40, hi41, hi42, hi43, hi44, hi45, hi46, hi47, hi48, hi49]
          exact kf
      · simp only [h48, if_true] at hi89 hi90 hi91 hi92 hi93 hi94 hi95 hi96 hi97 hi98
        simp only [hi99, hi100, hi101, hi102, hi103, hi104, hi105, hi106, hi107, hi108, hi89, hi90, hi91, hi92, hi93, hi94, hi95, hi96, hi97, hi98, hi30, hi31, hi32, hi33, hi34, hi35, hi36, hi37, hi38, hi39]
        exact ko
    · simp only [h47, if_true] at hi99 hi100 hi101 hi102 hi103 hi104 hi105 hi106 hi107 hi108
      simp only [hi99, hi100, hi101, hi102, hi103, hi104, hi105, hi106, hi107, hi108, hi19, hi20, hi21, hi22, hi23, hi24, hi25, hi26, hi27, hi28]
      exact kw
  have h109 : ρ.i 109 = i + 1 := by rw [hi109, wrap_i64_in (by omega) (by omega)]
  have h73 : ρ.b 73 = true := by rw [hb73, h44]; rfl
  have h74 : ρ.b 74 = ρ.b 7 := by rw [hb74, h73, Bool.and_true]
  have h75 : ρ.b 75 = false := by rw [hb75, h44, Bool.and_false]
  refine ⟨_, _, List.cons_eq_cons.2 ⟨?_, rfl⟩, fun hc => ?_, fun hc => ⟨⟨i + 1, ρ.i 99, ρ.i 100, ρ.i 101, ρ.i 102, ρ.i 103, ρ.i 104, ρ.i 105, ρ.i 106, ρ.i 107, ρ.i 108, ρ.b 66, ρ.b 67, ρ.b 68, ρ.b 69, ρ.b 70, ?_, ?_, by omega, ?_, hfin⟩, ?_⟩⟩
  · have q8 : ρ.b 8 = true := by rw [hb8]; exact decide_eq_true h1
    have q10 : ρ.b 10 = true := by rw [hb10]; exact decide_eq_true h1
    have q45 : ρ.b 45 = true := by rw [hb45]; exact decide_eq_true h1
    cases h7 : ρ.b 7
    · simp
    · have h5 : ρ.b 5 = true := by
        rw [hb7] at h7
        simp only [Bool.and_eq_true] at h7
        exact h7.1
      have q9 : ρ.b 9 = true := by rw [hb9, ← hb5]; exact h5
      have q11 : ρ.b 11 = true := by rw [hb11, ← hb5]; exact h5
      have q46 : ρ.b 46 = true := by rw [hb46, ← hb5]; exact h5
      simp [q8, q9, q10, q11, q45, q46, hb28]
  · rw [h74] at hc
    have h76 : ρ.b 76 = true := by rw [hb76, hc]; rfl
    simp [h75, h76]
  · simp only [List.take_succ_cons, List.take_zero, h109]
  · simp only [List.take_succ_cons, List.take_zero]
  · rw [h74, hb7] at hc
    simp only [Bool.and_eq_true] at hc
    have := hc.2
    rw [hb6] at this
    simp only [decide_eq_true_eq] at this
    omega
  · rw [h74, hb7] at hc
    simp only [Bool.and_eq_true] at hc
    have := hc.2
    rw [hb6] at this
    simp only [decide_eq_true_eq] at this
    simp [h109]
    omega
theorem stays (q n i0 i1 i2 i3 i4 i5 i6 i7 i8 i9 : Int) (b0 b1 b2 b3 b4 : Bool) (hq : slRng [.int .u16] q n) (h0 : 0 ≤ i0) (h1 : 0 ≤ i1) (h2 : i2 ≤ 65535) (h3 : 0 ≤ i3) (h4 : i4 ≤ 65535) (h5 : 0 ≤ i5) (h6 : 0 ≤ i6) (h6' : i6 ≤ 255) (h7 : 0 ≤ i7) (h7' : i7 ≤ 255) (h9 : 0 ≤ i9) :
    F4 [i0, i1, i2, i3, i4, i5, i6, i7, i8, i9, q, n] [b0, b1, b2, b3, b4] = ([], [true, true]) := by
  unfold F4
  obtain ⟨ρ, e1, e2, e3, e4⟩ := Smry.run_specT (Φ := lpF (l4.map (·.2)) (tabF T10)) (S := S4) (is := [i0, i1, i2, i3, i4, i5, i6, i7, i8, i9, q, n]) (bs := [b0, b1, b2, b3, b4]) rfl
  rw [e1, obAll_eq]
  clear e1
  simp only [S4, obs, Gd.d_cons, Gd.d_nil, eqns, Em.eqn, headsI, headsB, RI.d, RB.d, A.d, B.d, cm_eql, cm_neq, cm_lss, cm_leq, cm_gtr, cm_geq, List.map_cons, List.map_nil, and_true, Nat.zero_add, Nat.reduceAdd, ltn, upto, true_and, Nat.add_zero] at e2 e3 e4 ⊢
  simp only [e2, e3] at e4 ⊢
  obtain ⟨hi12, hb5, ⟨hb6, hb7⟩, ⟨hb8, hb9, hb10⟩, ⟨hb11, hb12⟩, hb13, hb14, hb15⟩ := e4
  rw [show lpF (l4.map (·.2)) (tabF T10) 17 = F17 by rfl, v17] at hi12
  rw [show lpF (l4.map (·.2)) (tabF T10) 28 = F28 by rfl, awake28] at hb6 hb7 hb11 hb12
  rw [show lpF (l4.map (·.2)) (tabF T10) 100400 = loopF (L100400.S.run (tabF T10) true) 13 5 by rfl] at hb8 hb9 hb10
  simp only [List.getD_cons_zero, List.getD_cons_succ] at hi12 hb6 hb7 hb11 hb12
  cases hm : may i0 i1 i2 i3 i4 i5 i8 i9
  · simp only [hm, Bool.false_eq_true, if_false] at hi12
    have h5b : ρ.b 5 = true := by rw [hb5, hi12]; rfl
    have h14 : ρ.b 14 = false := by rw [hb14, h5b]; rfl
    simp [h5b, hb6, hb7, hb15, h14]
  · simp only [hm, if_true] at hi12
    have h5b : ρ.b 5 = false := by rw [hb5, hi12]; rfl
    have h14 : ρ.b 14 = true := by rw [hb14, h5b]; rfl
    simp only [may, Bool.and_eq_true, decide_eq_true_eq] at hm
    obtain ⟨o, ho, hpost⟩ := loop_rule (F := L100400.S.run (tabF T10) true) (nI := 13) (nB := 5) (InvS q n) (fun is _ => (100 - is.getD 2 0).toNat) (fun p => p = ([], [false, true])) (stepS q n hq)
      [q, n, 0, i0, i1, i2, i3, i4, i5, i6, i7, i8, i9] [b0, b1, b2, b3, b4]
      ⟨0, i0, i1, i2, i3, i4, i5, i6, i7, i8, i9, b0, b1, b2, b3, b4, rfl, rfl, by omega, by omega, by unfold Ok; omega⟩
    subst hpost
    rw [ho] at hb8 hb9 hb10
    simp only [List.getD_cons_zero, List.getD_cons_succ] at hb8 hb9 hb10
    simp [h5b, hb8, hb10, hb11, hb12, hb15, h14, hb13]
end Go.Proofs.YtoempcgniokpiaaDoor.Do
