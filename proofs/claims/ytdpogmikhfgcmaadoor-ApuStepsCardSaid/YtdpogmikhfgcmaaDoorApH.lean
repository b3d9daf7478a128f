/-
  ApuSteps: one tick, and what it counts. WRITTEN BY PROGRAM (wip/gen/ap15.py). No condition.
-/
import Derived.Test.YtdpogmikhfgcmaaDoorApG
set_option linter.unusedVariables false
set_option linter.unusedSimpArgs false
namespace Go.Proofs.YtdpogmikhfgcmaaDoor.Ap
open Go Go.Proofs.YtdpogmikhfgcmaaDoor.Sx

def Tr (i3 i28 i29 i30 i31 : Int) (b4 b23 b24 : Bool) : Prop := i28 = 0 ∧ i29 = 0 ∧ 0 < i30 ∧ (0 < i3 ∧ i3 < 256) ∧ (0 < i31 ∧ i31 < 256) ∧ b4 = false ∧ b23 = false ∧ b24 = false
/-- What one tick leaves: 'dq' clocks of the envelopes, 'dh' of the lengths. -/
def Sp (i3 i30 i31 c3 c28 c29 c30 c31 dq dh : Int) (x4 x23 x24 : Bool) : Prop := c3 = i3 - dh ∧ c28 = 0 ∧ c29 = 0 ∧ c30 = i30 - dq ∧ c31 = i31 - dh ∧ x4 = false ∧ x23 = false ∧ x24 = false
theorem at_in (a : Int) (f : Bool) (h : 0 ≤ a) : 0 ≤ (a + 1) % (if f then 37282 else 29830) ∧ (a + 1) % (if f then 37282 else 29830) < (if f then 37282 else 29830) := by
  cases f <;> simp <;> omega
theorem at_lt {a : Int} {f : Bool} (h : a < (if f then 37282 else 29830)) : a < 40000 := by
  cases f <;> simp at h <;> omega
set_option maxHeartbeats 2000000 in
theorem tickT (i0 i1 i2 i3 i4 i5 i6 i7 i8 i9 i10 i11 i12 i13 i14 i15 i16 i17 i18 i19 i20 i21 i22 i23 i24 i25 i26 i27 i28 i29 i30 i31 i32 i33 i34 i35 i36 i37 i38 i39 i40 i41 i42 i43 i44 i45 : Int) (b0 b1 b2 b3 b4 b5 b6 b7 b8 b9 b10 b11 b12 b13 b14 b15 b16 b17 b18 b19 b20 b21 b22 b23 b24 b25 b26 b27 b28 b29 b30 b31 b32 b33 b34 b35 : Bool) (hA : Ak i0 i1 i2 i3 i4 i5 i6 i7 i8 i9 i10 i11 i12 i13 i14 i15 i16 i17 i18 i19 i20 i21 i22 i23 i24 i25 i26 i27 i28 i29 i30 i31 i32 i33 i34 i35 i36 i37 i38 i39 i40 i41 i42 i43 i44 i45 b32) (hTr : Tr i3 i28 i29 i30 i31 b4 b23 b24) :
    ∃ (c : Nat → Int) (x : Nat → Bool), F9 [i0, i1, i2, i3, i4, i5, i6, i7, i8, i9, i10, i11, i12, i13, i14, i15, i16, i17, i18, i19, i20, i21, i22, i23, i24, i25, i26, i27, i28, i29, i30, i31, i32, i33, i34, i35, i36, i37, i38, i39, i40, i41, i42, i43, i44, i45] [b0, b1, b2, b3, b4, b5, b6, b7, b8, b9, b10, b11, b12, b13, b14, b15, b16, b17, b18, b19, b20, b21, b22, b23, b24, b25, b26, b27, b28, b29, b30, b31, b32, b33, b34, b35] = ([(c 0), (c 1), (c 2), (c 3), (c 4), (c 5), (c 6), (c 7), (c 8), (c 9), (c 10), (c 11), (c 12), (c 13), (c 14), (c 15), (c 16), (c 17), (c 18), (c 19), (c 20), (c 21), (c 22), (c 23), (c 24), (c 25), (c 26), (c 27), (c 28), (c 29), (c 30), (c 31), (c 32), (c 33), (c 34), (c 35), (c 36), (c 37), (c 38), (c 39), (c 40), (c 41), (c 42), (c 43), (c 44), (c 45), 0], [true, (x 0), (x 1), (x 2), (x 3), (x 4), (x 5), (x 6), (x 7), (x 8), (x 9), (x 10), (x 11), (x 12), (x 13), (x 14), (x 15), (x 16), (x 17), (x 18), (x 19), (x 20), (x 21), (x 22), (x 23), (x 24), (x 25), (x 26), (x 27), (x 28), (x 29), (x 30), (x 31), (x 32), (x 33), (x 34), (x 35)]) ∧ Ak (c 0) (c 1) (c 2) (c 3) (c 4) (c 5) (c 6) (c 7) (c 8) (c 9) (c 10) (c 11) (c 12) (c 13) (c 14) (c 15) (c 16) (c 17) (c 18) (c 19) (c 20) (c 21) (c 22) (c 23) (c 24) (c 25) (c 26) (c 27) (c 28) (c 29) (c 30) (c 31) (c 32) (c 33) (c 34) (c 35) (c 36) (c 37) (c 38) (c 39) (c 40) (c 41) (c 42) (c 43) (c 44) (c 45) (x 32) ∧ c 45 = ((i45 + 1) % (if b32 then 37282 else 29830)) ∧ x 32 = b32 ∧ x 33 = b33 ∧
      (((i45 + 1 == 7457 || i45 + 1 == 22371) = false ∧ (i45 + 1 == 14913 || i45 + 1 == 37281) = false ∧ (i45 + 1 == 29829 && !b32) = false ∧ x 34 = b34 ∧ Sp i3 i30 i31 (c 3) (c 28) (c 29) (c 30) (c 31) 0 0 (x 4) (x 23) (x 24)) ∨
       ((i45 + 1 == 7457 || i45 + 1 == 22371) = true ∧ x 34 = b34 ∧ Sp i3 i30 i31 (c 3) (c 28) (c 29) (c 30) (c 31) 1 0 (x 4) (x 23) (x 24)) ∨
       ((i45 + 1 == 7457 || i45 + 1 == 22371) = false ∧ (i45 + 1 == 14913 || i45 + 1 == 37281) = true ∧ x 34 = b34 ∧ Sp i3 i30 i31 (c 3) (c 28) (c 29) (c 30) (c 31) 1 1 (x 4) (x 23) (x 24)) ∨
       ((i45 + 1 == 7457 || i45 + 1 == 22371) = false ∧ (i45 + 1 == 14913 || i45 + 1 == 37281) = false ∧ (i45 + 1 == 29829 && !b32) = true ∧ x 34 = (b34 || (!b33)) ∧ Sp i3 i30 i31 (c 3) (c 28) (c 29) (c 30) (c 31) 1 1 (x 4) (x 23) (x 24))) := by
  have h11 := hA.c11 (b0 := b0) (b1 := b1) (b2 := b2) (b3 := b3) (b4 := b4) (b5 := b5) (b6 := b6) (b7 := b7) (b8 := b8) (b9 := b9) (b10 := b10) (b11 := b11) (b12 := b12) (b13 := b13) (b14 := b14) (b15 := b15) (b16 := b16) (b17 := b17) (b18 := b18) (b19 := b19) (b20 := b20) (b21 := b21) (b22 := b22) (b23 := b23) (b24 := b24) (b25 := b25) (b26 := b26) (b27 := b27) (b28 := b28) (b29 := b29) (b30 := b30) (b31 := b31) (b32 := b32) (b33 := b33) (b34 := b34) (b35 := b35)
  obtain ⟨h1, h2, h3, h4, h5, h6, h7⟩ := hA
  obtain ⟨r28, r29, r30, r3, r31, v4, v23, v24⟩ := hTr
  obtain ⟨_, _, hT, k3⟩ := k_24 i22 i23 i24 i25 i26 i27 b18 b19 b20  (Tk_nn h3).1 (Tk_nn h3).2.1 (Tk_nn h3).2.2.1 (Tk_nn h3).2.2.2.1 (Tk_nn h3).2.2.2.2.1 (Tk_nn h3).2.2.2.2.2  (Tk_ok h3)
  obtain ⟨t0, t1, t2, t3, t4, t5, tu0, tu1, tu2, rfl, rfl, l3⟩ := Tk_of k3
  obtain ⟨_, _, hN, k4⟩ := k_25 i28 i29 i30 i31 i32 i33 i34 b21 b22 b23 b24 b25 b26  (Nk_nn h4).1 (Nk_nn h4).2.1 (Nk_nn h4).2.2.1 (Nk_nn h4).2.2.2.1 (Nk_nn h4).2.2.2.2.1 (Nk_nn h4).2.2.2.2.2.1 (Nk_nn h4).2.2.2.2.2.2  (Nk_ok h4)
  obtain ⟨n0, n1, n2, n3, n4, n5, n6, nu0, nu1, nu2, nu3, nu4, nu5, rfl, rfl, l4⟩ := Nk_of k4
  have y4 := m_25 i28 i29 i30 i31 i32 i33 i34 b21 b22 b23 b24 b25 b26 (Nk_nn h4).1 (Nk_nn h4).2.1 (Nk_nn h4).2.2.1 (Nk_nn h4).2.2.2.1 (Nk_nn h4).2.2.2.2.1 (Nk_nn h4).2.2.2.2.2.1 (Nk_nn h4).2.2.2.2.2.2 (Nk_ok h4)
  rw [hN] at y4
  have a28 : n0 = 0 := y4.1.trans r28
  have a29 : n1 = 0 := y4.2.1.trans r29
  have a30 : n2 = i30 := y4.2.2.1
  have a31 : n3 = i31 := y4.2.2.2.1
  have z23 : nu2 = false := y4.2.2.2.2.1.trans v23
  have z24 : nu3 = false := y4.2.2.2.2.2.trans v24
  obtain ⟨d0, d1, d2, d3, d4, d5, d6, d7, d8, d9, du0, du1, du2, du3, du4, hD, k5, _, _⟩ := tick_ok h5 b27 b28 b29 b30 b31
  obtain ⟨_, _, hP, k1⟩ := k_27 i0 i1 i2 i3 i4 i5 i6 i7 i8 i9 i10 b0 b1 b2 b3 b4 b5 b6 b7 b8  (Pk_nn h1).1 (Pk_nn h1).2.1 (Pk_nn h1).2.2.1 (Pk_nn h1).2.2.2.1 (Pk_nn h1).2.2.2.2.1 (Pk_nn h1).2.2.2.2.2.1 (Pk_nn h1).2.2.2.2.2.2.1 (Pk_nn h1).2.2.2.2.2.2.2.1 (Pk_nn h1).2.2.2.2.2.2.2.2.1 (Pk_nn h1).2.2.2.2.2.2.2.2.2.1 (Pk_nn h1).2.2.2.2.2.2.2.2.2.2  (Pk_ok h1)
  obtain ⟨p0, p1, p2, p3, p4, p5, p6, p7, p8, p9, p10, pu0, pu1, pu2, pu3, pu4, pu5, pu6, pu7, pu8, rfl, rfl, l1⟩ := Pk_of k1
  have y1 := m_27 i0 i1 i2 i3 i4 i5 i6 i7 i8 i9 i10 b0 b1 b2 b3 b4 b5 b6 b7 b8 (Pk_nn h1).1 (Pk_nn h1).2.1 (Pk_nn h1).2.2.1 (Pk_nn h1).2.2.2.1 (Pk_nn h1).2.2.2.2.1 (Pk_nn h1).2.2.2.2.2.1 (Pk_nn h1).2.2.2.2.2.2.1 (Pk_nn h1).2.2.2.2.2.2.2.1 (Pk_nn h1).2.2.2.2.2.2.2.2.1 (Pk_nn h1).2.2.2.2.2.2.2.2.2.1 (Pk_nn h1).2.2.2.2.2.2.2.2.2.2 (Pk_ok h1)
  rw [hP] at y1
  have a3 : p3 = i3 := y1.1
  have z4 : pu4 = b4 := y1.2
  obtain ⟨_, _, hQ, k2⟩ := k_27 i11 i12 i13 i14 i15 i16 i17 i18 i19 i20 i21 b9 b10 b11 b12 b13 b14 b15 b16 b17  (Pk_nn h2).1 (Pk_nn h2).2.1 (Pk_nn h2).2.2.1 (Pk_nn h2).2.2.2.1 (Pk_nn h2).2.2.2.2.1 (Pk_nn h2).2.2.2.2.2.1 (Pk_nn h2).2.2.2.2.2.2.1 (Pk_nn h2).2.2.2.2.2.2.2.1 (Pk_nn h2).2.2.2.2.2.2.2.2.1 (Pk_nn h2).2.2.2.2.2.2.2.2.2.1 (Pk_nn h2).2.2.2.2.2.2.2.2.2.2  (Pk_ok h2)
  obtain ⟨q0, q1, q2, q3, q4, q5, q6, q7, q8, q9, q10, qu0, qu1, qu2, qu3, qu4, qu5, qu6, qu7, qu8, rfl, rfl, l2⟩ := Pk_of k2
  obtain ⟨m, n, e1, e0, wN, wQ, wH, wF⟩ := w9 i0 i1 i2 i3 i4 i5 i6 i7 i8 i9 i10 i11 i12 i13 i14 i15 i16 i17 i18 i19 i20 i21 i22 i23 i24 i25 i26 i27 i28 i29 i30 i31 i32 i33 i34 i35 i36 i37 i38 i39 i40 i41 i42 i43 i44 i45 b0 b1 b2 b3 b4 b5 b6 b7 b8 b9 b10 b11 b12 b13 b14 b15 b16 b17 b18 b19 b20 b21 b22 b23 b24 b25 b26 b27 b28 b29 b30 b31 b32 b33 b34 b35 _ _ _ _ _ _ _ _ _ _ _ _ _ _ _ _ _ _ _ _ _ _ _ _ _ _ _ _ _ _ _ _ _ _ _ _ _ _ _ _ _ _ _ _ _ _ _ _ _ _ _ _ _ _ _ _ _ _ _ _ _ _ _ _ _ _ _ _ _ _ _ _ _ _ _ _ _ h11 ⟨h6, at_lt h7⟩ hT hN hD hP hQ
  have hM : (Pk (m 0) (m 1) (m 2) (m 3) (m 4) (m 5) (m 6) (m 7) (m 8) (m 9) (m 10) ∧ Pk (m 11) (m 12) (m 13) (m 14) (m 15) (m 16) (m 17) (m 18) (m 19) (m 20) (m 21)) ∧ m 3 = i3 ∧ n 4 = false := by
    clear wN wQ wH wF
    cases hE : b35
    · have e := e0 hE
      obtain ⟨e, e'⟩ := e
      simp only [List.cons.injEq, and_true] at e e'
      obtain ⟨s0, s1, s2, s3, s4, s5, s6, s7, s8, s9, s10, s11, s12, s13, s14, s15, s16, s17, s18, s19, s20, s21⟩ := e
      refine ⟨?_, s3, e'.2.2.2.2.1.trans v4⟩
      rw [s0, s1, s2, s3, s4, s5, s6, s7, s8, s9, s10, s11, s12, s13, s14, s15, s16, s17, s18, s19, s20, s21]
      exact ⟨h1, h2⟩
    · have e := e1 hE
      obtain ⟨e, e'⟩ := e
      simp only [List.cons.injEq, and_true] at e e'
      obtain ⟨s0, s1, s2, s3, s4, s5, s6, s7, s8, s9, s10, s11, s12, s13, s14, s15, s16, s17, s18, s19, s20, s21⟩ := e
      refine ⟨?_, s3.trans a3, e'.2.2.2.2.1.trans (z4.trans v4)⟩
      rw [s0, s1, s2, s3, s4, s5, s6, s7, s8, s9, s10, s11, s12, s13, s14, s15, s16, s17, s18, s19, s20, s21]
      exact ⟨l1, l2⟩
  have ha := at_in i45 b32 h6
  obtain ⟨hM, m3, hn4⟩ := hM
  have hC : Ck (m 0) (m 1) (m 2) (m 3) (m 4) (m 5) (m 6) (m 7) (m 8) (m 9) (m 10) (m 11) (m 12) (m 13) (m 14) (m 15) (m 16) (m 17) (m 18) (m 19) (m 20) (m 21) t0 t1 t2 t3 t4 t5 n0 n1 n2 n3 n4 n5 n6 := ⟨hM.1, hM.2, l3, l4⟩
  clear e1 e0
  cases hq : (i45 + 1 == 7457 || i45 + 1 == 22371)
  · cases hh : (i45 + 1 == 14913 || i45 + 1 == 37281)
    · cases hr : (i45 + 1 == 29829 && !b32)
      · exact ⟨(fun zz => List.getD [(m 0), (m 1), (m 2), (m 3), (m 4), (m 5), (m 6), (m 7), (m 8), (m 9), (m 10), (m 11), (m 12), (m 13), (m 14), (m 15), (m 16), (m 17), (m 18), (m 19), (m 20), (m 21), t0, t1, t2, t3, t4, t5, n0, n1, n2, n3, n4, n5, n6, d0, d1, d2, d3, d4, d5, d6, d7, d8, d9, ((i45 + 1) % (if b32 then 37282 else 29830))] zz 0), (fun zz => List.getD [(n 0), (n 1), (n 2), (n 3), (n 4), (n 5), (n 6), (n 7), (n 8), (n 9), (n 10), (n 11), (n 12), (n 13), (n 14), (n 15), (n 16), (n 17), tu0, tu1, tu2, nu0, nu1, nu2, nu3, nu4, nu5, du0, du1, du2, du3, du4, b32, b33, b34, (!b35)] zz false), wN hq hh hr, ⟨hM.1, hM.2, l3, l4, k5, ha⟩, rfl, rfl, rfl, .inl ⟨rfl, rfl, rfl, rfl, m3.trans (Int.sub_zero _).symm, a28, a29, a30.trans (Int.sub_zero _).symm, a31.trans (Int.sub_zero _).symm, hn4, z23, z24⟩⟩
      · obtain ⟨c, x, hF, kc⟩ := kp23F (m 0) (m 1) (m 2) (m 3) (m 4) (m 5) (m 6) (m 7) (m 8) (m 9) (m 10) (m 11) (m 12) (m 13) (m 14) (m 15) (m 16) (m 17) (m 18) (m 19) (m 20) (m 21) t0 t1 t2 t3 t4 t5 n0 n1 n2 n3 n4 n5 n6 d0 d1 d2 d3 d4 d5 d6 d7 d8 d9 (i45 + 1) (n 0) (n 1) (n 2) (n 3) (n 4) (n 5) (n 6) (n 7) (n 8) (n 9) (n 10) (n 11) (n 12) (n 13) (n 14) (n 15) (n 16) (n 17) tu0 tu1 tu2 nu0 nu1 nu2 nu3 nu4 nu5 du0 du1 du2 du3 du4 b32 b33 b34 (!b35) hC
        have e := H23 (m 0) (m 1) (m 2) (m 3) (m 4) (m 5) (m 6) (m 7) (m 8) (m 9) (m 10) (m 11) (m 12) (m 13) (m 14) (m 15) (m 16) (m 17) (m 18) (m 19) (m 20) (m 21) t0 t1 t2 t3 t4 t5 n0 n1 n2 n3 n4 n5 n6 d0 d1 d2 d3 d4 d5 d6 d7 d8 d9 (i45 + 1) (n 0) (n 1) (n 2) (n 3) (n 4) (n 5) (n 6) (n 7) (n 8) (n 9) (n 10) (n 11) (n 12) (n 13) (n 14) (n 15) (n 16) (n 17) tu0 tu1 tu2 nu0 nu1 nu2 nu3 nu4 nu5 du0 du1 du2 du3 du4 b32 b33 b34 (!b35) hC a28 a29 (by rw [a30]; exact r30) z23 (by rw [m3]; exact r3) (by rw [a31]; exact r31) hn4 z24
        rw [hF] at e
        obtain ⟨f3, f28, f29, f30, f31, g4, g23, g24⟩ := e
        exact ⟨(fun zz => List.getD [(c 0), (c 1), (c 2), (c 3), (c 4), (c 5), (c 6), (c 7), (c 8), (c 9), (c 10), (c 11), (c 12), (c 13), (c 14), (c 15), (c 16), (c 17), (c 18), (c 19), (c 20), (c 21), (c 22), (c 23), (c 24), (c 25), (c 26), (c 27), (c 28), (c 29), (c 30), (c 31), (c 32), (c 33), (c 34), d0, d1, d2, d3, d4, d5, d6, d7, d8, d9, ((i45 + 1) % (if b32 then 37282 else 29830))] zz 0), (fun zz => List.getD [(x 0), (x 1), (x 2), (x 3), (x 4), (x 5), (x 6), (x 7), (x 8), (x 9), (x 10), (x 11), (x 12), (x 13), (x 14), (x 15), (x 16), (x 17), (x 18), (x 19), (x 20), (x 21), (x 22), (x 23), (x 24), (x 25), (x 26), du0, du1, du2, du3, du4, b32, b33, (b34 || (!b33)), (!b35)] zz false), wF _ _ _ _ _ _ _ _ _ _ _ _ _ _ _ _ _ _ _ _ _ _ _ _ _ _ _ _ _ _ _ _ _ _ _ _ _ _ _ _ _ _ _ _ _ _ _ _ _ _ _ _ _ _ _ _ _ _ _ _ _ _ hq hh hr hF, ⟨kc.1, kc.2.1, kc.2.2.1, kc.2.2.2, k5, ha⟩, rfl, rfl, rfl, .inr (.inr (.inr ⟨rfl, rfl, rfl, rfl, f3.trans (by rw [m3]), f28, f29, f30.trans (by rw [a30]), f31.trans (by rw [a31]), g4, g23, g24⟩))⟩
    · obtain ⟨c, x, hF, kc⟩ := kp23F (m 0) (m 1) (m 2) (m 3) (m 4) (m 5) (m 6) (m 7) (m 8) (m 9) (m 10) (m 11) (m 12) (m 13) (m 14) (m 15) (m 16) (m 17) (m 18) (m 19) (m 20) (m 21) t0 t1 t2 t3 t4 t5 n0 n1 n2 n3 n4 n5 n6 d0 d1 d2 d3 d4 d5 d6 d7 d8 d9 (i45 + 1) (n 0) (n 1) (n 2) (n 3) (n 4) (n 5) (n 6) (n 7) (n 8) (n 9) (n 10) (n 11) (n 12) (n 13) (n 14) (n 15) (n 16) (n 17) tu0 tu1 tu2 nu0 nu1 nu2 nu3 nu4 nu5 du0 du1 du2 du3 du4 b32 b33 b34 (!b35) hC
      have e := H23 (m 0) (m 1) (m 2) (m 3) (m 4) (m 5) (m 6) (m 7) (m 8) (m 9) (m 10) (m 11) (m 12) (m 13) (m 14) (m 15) (m 16) (m 17) (m 18) (m 19) (m 20) (m 21) t0 t1 t2 t3 t4 t5 n0 n1 n2 n3 n4 n5 n6 d0 d1 d2 d3 d4 d5 d6 d7 d8 d9 (i45 + 1) (n 0) (n 1) (n 2) (n 3) (n 4) (n 5) (n 6) (n 7) (n 8) (n 9) (n 10) (n 11) (n 12) (n 13) (n 14) (n 15) (n 16) (n 17) tu0 tu1 tu2 nu0 nu1 nu2 nu3 nu4 nu5 du0 du1 du2 du3 du4 b32 b33 b34 (!b35) hC a28 a29 (by rw [a30]; exact r30) z23 (by rw [m3]; exact r3) (by rw [a31]; exact r31) hn4 z24
      rw [hF] at e
      obtain ⟨f3, f28, f29, f30, f31, g4, g23, g24⟩ := e
      exact ⟨(fun zz => List.getD [(c 0), (c 1), (c 2), (c 3), (c 4), (c 5), (c 6), (c 7), (c 8), (c 9), (c 10), (c 11), (c 12), (c 13), (c 14), (c 15), (c 16), (c 17), (c 18), (c 19), (c 20), (c 21), (c 22), (c 23), (c 24), (c 25), (c 26), (c 27), (c 28), (c 29), (c 30), (c 31), (c 32), (c 33), (c 34), d0, d1, d2, d3, d4, d5, d6, d7, d8, d9, ((i45 + 1) % (if b32 then 37282 else 29830))] zz 0), (fun zz => List.getD [(x 0), (x 1), (x 2), (x 3), (x 4), (x 5), (x 6), (x 7), (x 8), (x 9), (x 10), (x 11), (x 12), (x 13), (x 14), (x 15), (x 16), (x 17), (x 18), (x 19), (x 20), (x 21), (x 22), (x 23), (x 24), (x 25), (x 26), du0, du1, du2, du3, du4, b32, b33, b34, (!b35)] zz false), wH _ _ _ _ _ _ _ _ _ _ _ _ _ _ _ _ _ _ _ _ _ _ _ _ _ _ _ _ _ _ _ _ _ _ _ _ _ _ _ _ _ _ _ _ _ _ _ _ _ _ _ _ _ _ _ _ _ _ _ _ _ _ hq hh hF, ⟨kc.1, kc.2.1, kc.2.2.1, kc.2.2.2, k5, ha⟩, rfl, rfl, rfl, .inr (.inr (.inl ⟨rfl, rfl, rfl, f3.trans (by rw [m3]), f28, f29, f30.trans (by rw [a30]), f31.trans (by rw [a31]), g4, g23, g24⟩))⟩
  · obtain ⟨c, x, hF, kc⟩ := kp28F (m 0) (m 1) (m 2) (m 3) (m 4) (m 5) (m 6) (m 7) (m 8) (m 9) (m 10) (m 11) (m 12) (m 13) (m 14) (m 15) (m 16) (m 17) (m 18) (m 19) (m 20) (m 21) t0 t1 t2 t3 t4 t5 n0 n1 n2 n3 n4 n5 n6 d0 d1 d2 d3 d4 d5 d6 d7 d8 d9 (i45 + 1) (n 0) (n 1) (n 2) (n 3) (n 4) (n 5) (n 6) (n 7) (n 8) (n 9) (n 10) (n 11) (n 12) (n 13) (n 14) (n 15) (n 16) (n 17) tu0 tu1 tu2 nu0 nu1 nu2 nu3 nu4 nu5 du0 du1 du2 du3 du4 b32 b33 b34 (!b35) hC
    have e := Q28 (m 0) (m 1) (m 2) (m 3) (m 4) (m 5) (m 6) (m 7) (m 8) (m 9) (m 10) (m 11) (m 12) (m 13) (m 14) (m 15) (m 16) (m 17) (m 18) (m 19) (m 20) (m 21) t0 t1 t2 t3 t4 t5 n0 n1 n2 n3 n4 n5 n6 d0 d1 d2 d3 d4 d5 d6 d7 d8 d9 (i45 + 1) (n 0) (n 1) (n 2) (n 3) (n 4) (n 5) (n 6) (n 7) (n 8) (n 9) (n 10) (n 11) (n 12) (n 13) (n 14) (n 15) (n 16) (n 17) tu0 tu1 tu2 nu0 nu1 nu2 nu3 nu4 nu5 du0 du1 du2 du3 du4 b32 b33 b34 (!b35) hC a28 a29 (by rw [a30]; exact r30) z23
    rw [hF] at e
    obtain ⟨f3, f28, f29, f30, f31, g4, g23, g24⟩ := e
    exact ⟨(fun zz => List.getD [(c 0), (c 1), (c 2), (c 3), (c 4), (c 5), (c 6), (c 7), (c 8), (c 9), (c 10), (c 11), (c 12), (c 13), (c 14), (c 15), (c 16), (c 17), (c 18), (c 19), (c 20), (c 21), (c 22), (c 23), (c 24), (c 25), (c 26), (c 27), (c 28), (c 29), (c 30), (c 31), (c 32), (c 33), (c 34), d0, d1, d2, d3, d4, d5, d6, d7, d8, d9, ((i45 + 1) % (if b32 then 37282 else 29830))] zz 0), (fun zz => List.getD [(x 0), (x 1), (x 2), (x 3), (x 4), (x 5), (x 6), (x 7), (x 8), (x 9), (x 10), (x 11), (x 12), (x 13), (x 14), (x 15), (x 16), (x 17), (x 18), (x 19), (x 20), (x 21), (x 22), (x 23), (x 24), (x 25), (x 26), du0, du1, du2, du3, du4, b32, b33, b34, (!b35)] zz false), wQ _ _ _ _ _ _ _ _ _ _ _ _ _ _ _ _ _ _ _ _ _ _ _ _ _ _ _ _ _ _ _ _ _ _ _ _ _ _ _ _ _ _ _ _ _ _ _ _ _ _ _ _ _ _ _ _ _ _ _ _ _ _ hq hF, ⟨kc.1, kc.2.1, kc.2.2.1, kc.2.2.2, k5, ha⟩, rfl, rfl, rfl, .inr (.inl ⟨rfl, rfl, f3.trans (m3.trans (Int.sub_zero _).symm), f28, f29, f30.trans (by rw [a30]), f31.trans (a31.trans (Int.sub_zero _).symm), g4.trans hn4, g23, g24.trans z24⟩)⟩
end Go.Proofs.YtdpogmikhfgcmaaDoor.Ap
