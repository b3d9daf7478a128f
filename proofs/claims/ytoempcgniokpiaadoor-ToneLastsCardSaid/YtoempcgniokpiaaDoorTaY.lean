/-
  ToneLasts answers true. WRITTEN BY PROGRAM (wip/gen/ta12.py). No condition.
-/
import Derived.Test.YtoempcgniokpiaaDoorTaX
set_option linter.unusedVariables false
set_option linter.unusedSimpArgs false
namespace Go.Proofs.YtoempcgniokpiaaDoor.Ta
open Go Go.Proofs.YtoempcgniokpiaaDoor.Sx

theorem l33 (i0 : Int) (b0 b1 : Bool) : F33 [i0] [b0, b1, false] = ([0], [b0, false]) := by
  unfold F33
  obtain ⟨ρ, e1, e2, e3, e4⟩ := Smry.run_spec (Φ := tabF T13) (S := S33) (is := [i0]) (bs := [b0, b1, false]) rfl
  rw [e1]
  clear e1
  simp only [S33, eqns, Em.eqn, headsI, headsB, RI.d, RB.d, A.d, B.d, cm_eql, cm_neq, cm_lss, cm_leq, cm_gtr, cm_geq, List.map_cons, List.map_nil, and_true, Nat.zero_add, Nat.reduceAdd, ltn, upto, true_and, Nat.add_zero, List.getD_cons_zero, List.getD_cons_succ, add8, sub8, add16, sub16, mul16, wrap_u8, wrap_u16, and8_1, and8_7, and8_8, and8_15, and8_16, and8_31, and8_32, and8_64, and8_127, and8_128, and16_1, and16_255, and16_1792, shr8_1, shr8_3, shr8_4, shr8_6, shr16_1, shr16_6, shr16_8, shl16_8, shl16_14] at e2 e3 e4 ⊢
  simp only [e2, e3] at e4 ⊢
  simp [e4.1, e4.2]
set_option maxHeartbeats 1000000 in
set_option maxRecDepth 10000 in
theorem lasts (i0 i1 i2 i3 i4 i5 i6 i7 i8 i9 i10 i11 i12 i13 i14 i15 i16 i17 i18 i19 i20 i21 i22 i23 i24 i25 i26 : Int) (b0 b1 b2 b3 b4 b5 b6 b7 b8 b9 b10 b11 b12 b13 b14 b15 b16 b17 : Bool) (h0 : 0 ≤ i0 ∧ i0 ≤ 255) (h1 : 0 ≤ i1) (h2 : 0 ≤ i2) (h3 : 0 ≤ i3) (h5 : 0 ≤ i5) (h6 : 0 ≤ i6) (h7 : 0 ≤ i7) (h8 : 0 ≤ i8) (h9 : 0 ≤ i9) (h10 : 0 ≤ i10) (h11 : 0 ≤ i11) (h24 : 0 ≤ i24) : F8 [i0, i1, i2, i3, i4, i5, i6, i7, i8, i9, i10, i11, i12, i13, i14, i15, i16, i17, i18, i19, i20, i21, i22, i23, i24, i25, i26] [b0, b1, b2, b3, b4, b5, b6, b7, b8, b9, b10, b11, b12, b13, b14, b15, b16, b17] = ([], [true, true]) := by
  unfold F8
  obtain ⟨ρ, e1, e2, e3, e4⟩ := Smry.run_specT (Φ := lpF (l8.map (·.2)) (tabF T50)) (S := S8) (is := [i0, i1, i2, i3, i4, i5, i6, i7, i8, i9, i10, i11, i12, i13, i14, i15, i16, i17, i18, i19, i20, i21, i22, i23, i24, i25, i26]) (bs := [b0, b1, b2, b3, b4, b5, b6, b7, b8, b9, b10, b11, b12, b13, b14, b15, b16, b17]) rfl
  rw [e1, obAll_eq]
  clear e1
  simp only [S8, obs, Gd.d_cons, Gd.d_nil, eqns, Em.eqn, headsI, headsB, RI.d, RB.d, A.d, B.d, cm_eql, cm_neq, cm_lss, cm_leq, cm_gtr, cm_geq, List.map_cons, List.map_nil, and_true, Nat.zero_add, Nat.reduceAdd, ltn, upto, true_and, Nat.add_zero, List.getD_cons_zero, List.getD_cons_succ, add8, sub8, add16, sub16, mul16, wrap_u8, wrap_u16, and8_1, and8_7, and8_8, and8_15, and8_16, and8_31, and8_32, and8_64, and8_127, and8_128, and16_1, and16_255, and16_1792, shr8_1, shr8_3, shr8_4, shr8_6, shr16_1, shr16_6, shr16_8, shl16_8, shl16_14] at e2 e3 e4 ⊢
  simp only [e2, e3] at e4 ⊢
  rw [show lpF (l8.map (·.2)) (tabF T50) 30 = F30 by rfl, show lpF (l8.map (·.2)) (tabF T50) 31 = F31 by rfl, show lpF (l8.map (·.2)) (tabF T50) 32 = F32 by rfl, show lpF (l8.map (·.2)) (tabF T50) 33 = F33 by rfl, show lpF (l8.map (·.2)) (tabF T50) 35 = F35 by rfl, show lpF (l8.map (·.2)) (tabF T50) 36 = F36 by rfl,
    show lpF (l8.map (·.2)) (tabF T50) 100800 = loopF (L100800.S.run (tabF T50) true) 24 18 by rfl, v30 (h23 := h24), awake31] at e4
  rw [show [10, 254, 20, 2, 40, 4, 80, 6, 160, 8, 60, 10, 14, 12, 26, 14, 12, 16, 24, 18, 48, 20, 96, 22, 192, 24, 72, 26, 16, 28, 32, 30] = longTab by rfl] at e4
  simp only [List.getD_cons_zero, List.getD_cons_succ] at e4
  have hi27 := e4.1
  have r0 := e4.2
  clear e4
  have hb18 := r0.1
  have r1 := r0.2
  clear r0
  have hb19 := r1.1.1
  have hb20 := r1.1.2
  have r2 := r1.2
  clear r1
  have hi28 := r2.1.1.1
  have hi29 := r2.1.1.2.1
  have hi30 := r2.1.1.2.2.1
  have hi31 := r2.1.1.2.2.2.1
  have hi32 := r2.1.1.2.2.2.2.1
  have hi33 := r2.1.1.2.2.2.2.2.1
  have hi34 := r2.1.1.2.2.2.2.2.2.1
  have hi35 := r2.1.1.2.2.2.2.2.2.2.1
  have hi36 := r2.1.1.2.2.2.2.2.2.2.2.1
  have hi37 := r2.1.1.2.2.2.2.2.2.2.2.2.1
  have hi38 := r2.1.1.2.2.2.2.2.2.2.2.2.2
  have hb21 := r2.1.2.1
  have hb22 := r2.1.2.2.1
  have hb23 := r2.1.2.2.2.1
  have hb24 := r2.1.2.2.2.2.1
  have hb25 := r2.1.2.2.2.2.2.1
  have hb26 := r2.1.2.2.2.2.2.2.1
  have hb27 := r2.1.2.2.2.2.2.2.2.1
  have hb28 := r2.1.2.2.2.2.2.2.2.2.1
  have hb29 := r2.1.2.2.2.2.2.2.2.2.2.1
  have hb30 := r2.1.2.2.2.2.2.2.2.2.2.2
  have r3 := r2.2
  clear r2
  have hi39 := r3.1
  have r4 := r3.2
  clear r3
  have hi40 := r4.1.1
  have hb31 := r4.1.2.1
  have hb32 := r4.1.2.2
  have r5 := r4.2
  clear r4
  have hi41 := r5.1
  have r6 := r5.2
  clear r5
  have hb33 := r6.1
  have r7 := r6.2
  clear r6
  have hb34 := r7.1
  have r8 := r7.2
  clear r7
  have hi42 := r8.1
  have r9 := r8.2
  clear r8
  have hb35 := r9.1
  have r10 := r9.2
  clear r9
  have hi43 := r10.1.1.1
  have hi44 := r10.1.1.2.1
  have hi45 := r10.1.1.2.2.1
  have hi46 := r10.1.1.2.2.2.1
  have hi47 := r10.1.1.2.2.2.2.1
  have hi48 := r10.1.1.2.2.2.2.2.1
  have hi49 := r10.1.1.2.2.2.2.2.2.1
  have hi50 := r10.1.1.2.2.2.2.2.2.2.1
  have hi51 := r10.1.1.2.2.2.2.2.2.2.2.1
  have hi52 := r10.1.1.2.2.2.2.2.2.2.2.2.1
  have hi53 := r10.1.1.2.2.2.2.2.2.2.2.2.2
  have hb36 := r10.1.2.1
  have hb37 := r10.1.2.2.1
  have hb38 := r10.1.2.2.2.1
  have hb39 := r10.1.2.2.2.2.1
  have hb40 := r10.1.2.2.2.2.2.1
  have hb41 := r10.1.2.2.2.2.2.2.1
  have hb42 := r10.1.2.2.2.2.2.2.2.1
  have hb43 := r10.1.2.2.2.2.2.2.2.2.1
  have hb44 := r10.1.2.2.2.2.2.2.2.2.2.1
  have hb45 := r10.1.2.2.2.2.2.2.2.2.2.2
  have r11 := r10.2
  clear r10
  have hb46 := r11.1
  have r12 := r11.2
  clear r11
  have hb47 := r12.1
  have r13 := r12.2
  clear r12
  have hi54 := r13.1.1.1
  have hi55 := r13.1.1.2.1
  have hi56 := r13.1.1.2.2.1
  have hi57 := r13.1.1.2.2.2.1
  have hi58 := r13.1.1.2.2.2.2.1
  have hi59 := r13.1.1.2.2.2.2.2.1
  have hi60 := r13.1.1.2.2.2.2.2.2.1
  have hi61 := r13.1.1.2.2.2.2.2.2.2.1
  have hi62 := r13.1.1.2.2.2.2.2.2.2.2.1
  have hi63 := r13.1.1.2.2.2.2.2.2.2.2.2.1
  have hi64 := r13.1.1.2.2.2.2.2.2.2.2.2.2.1
  have hi65 := r13.1.1.2.2.2.2.2.2.2.2.2.2.2.1
  have hi66 := r13.1.1.2.2.2.2.2.2.2.2.2.2.2.2.1
  have hi67 := r13.1.1.2.2.2.2.2.2.2.2.2.2.2.2.2.1
  have hi68 := r13.1.1.2.2.2.2.2.2.2.2.2.2.2.2.2.2.1
  have hi69 := r13.1.1.2.2.2.2.2.2.2.2.2.2.2.2.2.2.2.1
  have hi70 := r13.1.1.2.2.2.2.2.2.2.2.2.2.2.2.2.2.2.2.1
  have hi71 := r13.1.1.2.2.2.2.2.2.2.2.2.2.2.2.2.2.2.2.2.1
  have hi72 := r13.1.1.2.2.2.2.2.2.2.2.2.2.2.2.2.2.2.2.2.2.1
  have hi73 := r13.1.1.2.2.2.2.2.2.2.2.2.2.2.2.2.2.2.2.2.2.2.1
  have hi74 := r13.1.1.2.2.2.2.2.2.2.2.2.2.2.2.2.2.2.2.2.2.2.2.1
  have hi75 := r13.1.1.2.2.2.2.2.2.2.2.2.2.2.2.2.2.2.2.2.2.2.2.2
  have hb48 := r13.1.2.1
  have hb49 := r13.1.2.2.1
  have hb50 := r13.1.2.2.2.1
  have hb51 := r13.1.2.2.2.2.1
  have hb52 := r13.1.2.2.2.2.2.1
  have hb53 := r13.1.2.2.2.2.2.2.1
  have hb54 := r13.1.2.2.2.2.2.2.2.1
  have hb55 := r13.1.2.2.2.2.2.2.2.2.1
  have hb56 := r13.1.2.2.2.2.2.2.2.2.2.1
  have hb57 := r13.1.2.2.2.2.2.2.2.2.2.2.1
  have hb58 := r13.1.2.2.2.2.2.2.2.2.2.2.2.1
  have hb59 := r13.1.2.2.2.2.2.2.2.2.2.2.2.2.1
  have hb60 := r13.1.2.2.2.2.2.2.2.2.2.2.2.2.2.1
  have hb61 := r13.1.2.2.2.2.2.2.2.2.2.2.2.2.2.2.1
  have hb62 := r13.1.2.2.2.2.2.2.2.2.2.2.2.2.2.2.2.1
  have hb63 := r13.1.2.2.2.2.2.2.2.2.2.2.2.2.2.2.2.2.1
  have hb64 := r13.1.2.2.2.2.2.2.2.2.2.2.2.2.2.2.2.2.2.1
  have hb65 := r13.1.2.2.2.2.2.2.2.2.2.2.2.2.2.2.2.2.2.2.1
  have hb66 := r13.1.2.2.2.2.2.2.2.2.2.2.2.2.2.2.2.2.2.2.2.1
  have hb67 := r13.1.2.2.2.2.2.2.2.2.2.2.2.2.2.2.2.2.2.2.2.2.1
  have hb68 := r13.1.2.2.2.2.2.2.2.2.2.2.2.2.2.2.2.2.2.2.2.2.2
  have r14 := r13.2
  clear r13
  have hb69 := r14.1
  have r15 := r14.2
  clear r14
  have hi76 := r15.1.1
  have hb70 := r15.1.2
  have r16 := r15.2
  clear r15
  have hb71 := r16.1
  have r17 := r16.2
  clear r16
  have hb72 := r17.1
  have r18 := r17.2
  clear r17
  have hi77 := r18.1.1.1
  have hi78 := r18.1.1.2.1
  have hi79 := r18.1.1.2.2.1
  have hi80 := r18.1.1.2.2.2.1
  have hi81 := r18.1.1.2.2.2.2.1
  have hi82 := r18.1.1.2.2.2.2.2.1
  have hi83 := r18.1.1.2.2.2.2.2.2.1
  have hi84 := r18.1.1.2.2.2.2.2.2.2.1
  have hi85 := r18.1.1.2.2.2.2.2.2.2.2.1
  have hi86 := r18.1.1.2.2.2.2.2.2.2.2.2.1
  have hi87 := r18.1.1.2.2.2.2.2.2.2.2.2.2
  have hb73 := r18.1.2.1
  have hb74 := r18.1.2.2.1
  have hb75 := r18.1.2.2.2.1
  have hb76 := r18.1.2.2.2.2.1
  have hb77 := r18.1.2.2.2.2.2.1
  have hb78 := r18.1.2.2.2.2.2.2.1
  have hb79 := r18.1.2.2.2.2.2.2.2.1
  have hb80 := r18.1.2.2.2.2.2.2.2.2.1
  have hb81 := r18.1.2.2.2.2.2.2.2.2.2.1
  have hb82 := r18.1.2.2.2.2.2.2.2.2.2.2
  have r19 := r18.2
  clear r18
  have hb83 := r19.1
  have r20 := r19.2
  clear r19
  have hb84 := r20.1
  have r21 := r20.2
  clear r20
  have hb85 := r21.1.1
  have hb86 := r21.1.2
  have r22 := r21.2
  clear r21
  have hb87 := r22.1
  have r23 := r22.2
  clear r22
  have hb88 := r23.1
  have r24 := r23.2
  clear r23
  have hb89 := r24.1
  have r25 := r24.2
  clear r24
  have hb90 := r25.1
  have r26 := r25.2
  clear r25
  have hb91 := r26.1
  have r27 := r26.2
  clear r26
  have hb92 := r27
  cases hm : (okP i1 i2 i3 i5 i6 i7 i8 i9 i10 i11 && okT i13 i14 i15 i16 i17 && okN i18 i19 i20 i22 i23 i24)
  · have t27 : ρ.i 27 = 1 := by rw [hi27, hm]; rfl
    have t18 : ρ.b 18 = true := by rw [hb18, t27]; rfl
    have t91 : ρ.b 91 = false := by rw [hb91, t18]; rfl
    simp [hb92, t91, hb20, hb19, t18]
  · have t27 : ρ.i 27 = 0 := by rw [hi27, hm]; rfl
    have t18 : ρ.b 18 = false := by rw [hb18, t27]; rfl
    simp only [Bool.and_eq_true] at hm
    obtain ⟨p, hF, hp, hok⟩ := wr61 i1 i2 i3 0 i5 i6 i7 i8 i9 i10 i11 i0 b0 b1 b2 b3 false true b6 b7 b8 h1 h2 h3 (Int.le_refl 0) h5 h6 h7 h8 h9 h10 h11 h0 hm.1.1
    obtain ⟨p', hF', hp', hok'⟩ := wr61 i1 i2 i3 0 i5 i6 i7 i8 i9 i10 i11 i0 b0 b1 b2 b3 false false b6 b7 b8 h1 h2 h3 (Int.le_refl 0) h5 h6 h7 h8 h9 h10 h11 h0 hm.1.1
    rw [q32 (h0 := h1) (h1 := h2) (h2 := h3) (h3 := Int.le_refl 0) (h4 := h5) (h5 := h6) (h6 := h7) (h7 := h8) (h8 := h9) (h9 := h10) (h10 := h11) (h12 := h0), hF] at hi28 hi29 hi30 hi31 hi32 hi33 hi34 hi35 hi36 hi37 hi38 hb21 hb22 hb23 hb24 hb25 hb26 hb27 hb28 hb29 hb30
    simp only [List.getD_cons_zero, List.getD_cons_succ, if_true] at hi28 hi29 hi30 hi31 hi32 hi33 hi34 hi35 hi36 hi37 hi38 hb21 hb22 hb23 hb24 hb25 hb26 hb27 hb28 hb29 hb30
    have ht := longs_byte (i0 / 8).toNat
    have t41 : ρ.i 41 = i0 / 8 := hi41
    rw [t41] at hi42
    generalize longTab.getD (i0 / 8).toNat 0 = tb at *
    have t39 : ρ.i 39 = tb := by rw [hi39, hi31]; exact wrap_sm _ (by omega)
    have t35 : ρ.b 35 = false := by rw [hb35, t39, hi42]; simp
    rw [l33] at hi40 hb31 hb32
    simp only [List.getD_cons_zero, List.getD_cons_succ] at hi40 hb31 hb32
    rw [hi40, hb31, hb32, hb26, q32 (h0 := h1) (h1 := h2) (h2 := h3) (h3 := Int.le_refl 0) (h4 := h5) (h5 := h6) (h6 := h7) (h7 := h8) (h8 := h9) (h9 := h10) (h10 := h11) (h12 := h0), hF'] at hi46
    simp only [List.getD_cons_zero, List.getD_cons_succ] at hi46
    have t46 : ρ.b 46 = false := by rw [hb46, hi46]; rfl
    have t47 : ρ.b 47 = false := by rw [hb47, t35, t46]; rfl
    obtain ⟨q, hq, A, a, B, b, ⟨a0, a1, a2, a4, a5, a6, a7, a8, a9, a10, x0, x1, x2, x3, x5, x6, x7, x8, rfl, rfl, ⟨n0, n1, n2, n4, n5, n6, n7, n8, n9, n10⟩, oka⟩, ⟨d0, d1, d2, d4, d5, d6, d7, d8, d9, d10, y0, y1, y2, y3, y5, y6, y7, y8, rfl, rfl, hd, okd⟩, rfl⟩ := loop_rule (F := L100800.S.run (tabF T50) true) (nI := 24) (nB := 18) (InvL tb) (fun is _ => (tb - is.getD 1 0).toNat) (PostL tb) (stepL tb (by omega))
      [tb, 0, i1, i2, i3, tb, i5, 0, p, i8, i9, i10, i11, i1, i2, i3, tb, i5, 0, p, i8, i9, i10, i11] [b0, b1, b2, true, false, true, b6, b7, b8, b0, b1, b2, true, true, true, b6, b7, b8]
      ⟨0, _, _, _, _, ⟨i1, i2, i3, i5, 0, p, i8, i9, i10, i11, b0, b1, b2, true, true, b6, b7, b8, rfl, rfl, by omega, hok⟩, ⟨i1, i2, i3, i5, 0, p, i8, i9, i10, i11, b0, b1, b2, true, true, b6, b7, b8, rfl, rfl, by omega, hok⟩, by simp, rfl, by omega, by omega⟩
    simp only [t39, hi28, hi29, hi30, hi31, hi32, hi33, hi34, hi35, hi36, hi37, hi38, hb22, hb23, hb24, hb25, hb26, hb27, hb28, hb29, hb30, hq] at hi54 hi55 hi56 hi57 hi58 hi59 hi60 hi61 hi62 hi63 hi64 hb48 hb49 hb50 hb51 hb52 hb53 hb54 hb55 hb56 hb57 hb58 hb59
    simp only [List.cons_append, List.nil_append, List.getD_cons_zero, List.getD_cons_succ] at hi54 hi55 hi56 hi57 hi58 hi59 hi60 hi61 hi62 hi63 hi64 hb48 hb49 hb50 hb51 hb52 hb53 hb54 hb55 hb56 hb57 hb58 hb59
    simp only [hi54, hi55, hi56, hi57, hi58, hi59, hi60, hi61, hi62, hi63, hi64, hb51, hb52, hb53, hb54, hb55, hb56, hb57, hb58, hb59] at hi76 hb70 hb73 hi80
    obtain ⟨p2, r2, c2, hG, _, _, _⟩ := st64 a0 a1 a2 0 a4 a5 a6 a7 a8 a9 a10 x0 x1 x2 x3 false x5 x6 x7 x8 n0 n1 n2 (Int.le_refl 0) n4 n5 n6 n7 n8 n9 n10 oka
    rw [q36 _ _ _ _ _ _ _ _ _ _ _ _ _ _ _ _ _ _ _ _ n0 n1 n2 (Int.le_refl 0) n4 n5 n6 n7 n8 n9 n10, snd0] at hi76 hb70
    rw [q35 _ _ _ _ _ _ _ _ _ _ _ _ _ _ _ _ _ _ _ _ n0 n1 n2 (Int.le_refl 0) n4 n5 n6 n7 n8 n9 n10, hG] at hi80 hb73
    simp only [List.getD_cons_zero, List.getD_cons_succ] at hi76 hb70 hi80 hb73
    have t69 : ρ.b 69 = true := by rw [hb69, hi57]; rfl
    have t71 : ρ.b 71 = true := by rw [hb71, hi76]; rfl
    have t80 : ρ.i 80 = 0 := by rw [hi80]; simp
    have t83 : ρ.b 83 = true := by rw [hb83, t80]; rfl
    have t33 : ρ.b 33 = true := by rw [hb33, t41]; simp; omega
    have t34 : ρ.b 34 = true := by rw [hb34, t41]; simp; omega
    have t36 : ρ.b 36 = true := by
      rw [hb36, hi40, hb31, hb32, hb26, q32 (h0 := h1) (h1 := h2) (h2 := h3) (h3 := Int.le_refl 0) (h4 := h5) (h5 := h6) (h6 := h7) (h7 := h8) (h8 := h9) (h9 := h10) (h10 := h11) (h12 := h0), hF']; rfl
    simp [hb92, hb91, hb90, hb89, hb88, hb87, hb86, hb85, hb84, hb72, t18, t47, t69, t71, t83, t33, t34, t36, hb21, hb48, hb50, hb70, hb73]
end Go.Proofs.YtoempcgniokpiaaDoor.Ta
