/-
  ToneAgain: its first loop. WRITTEN BY PROGRAM (wip/gen/td4.py). No condition.
-/
import Derived.Test.YtoempcgniokpiaaDoorTdL
set_option linter.unusedVariables false
set_option linter.unusedSimpArgs false
namespace Go.Proofs.YtoempcgniokpiaaDoor.Td
open Go Go.Proofs.YtoempcgniokpiaaDoor.Sx

/-- How often a sound was heard in so many ticks from a step on. -/
def mt (t j : Int) : Nat → Int
  | 0 => 0
  | k + 1 => mt t j k + (if ot ((t + k) % 32) = j then 1 else 0)
theorem mt_in (t j : Int) : ∀ k, 0 ≤ mt t j k ∧ mt t j k ≤ k
  | 0 => ⟨Int.le_refl 0, Int.le_refl 0⟩
  | k + 1 => by
    have := mt_in t j k
    unfold mt
    split <;> omega
theorem mt_all : ∀ (t : Fin 32) (j : Fin 16), mt (t.val : Int) (j.val : Int) 32 = 2 := by decide +kernel
theorem mt_end (t j : Int) (ht : 0 ≤ t ∧ t < 32) (hj : 0 ≤ j ∧ j < 16) : mt t j 32 = 2 := by
  have := mt_all ⟨t.toNat, by omega⟩ ⟨j.toNat, by omega⟩
  rwa [show ((t.toNat : Nat) : Int) = t by omega, show ((j.toNat : Nat) : Int) = j by omega] at this
theorem ot_in (s : Int) (h : 0 ≤ s ∧ s < 32) : 0 ≤ ot s ∧ ot s < 16 := by unfold ot; split <;> omega
def Inv1 (s t a0 a1 a2 a3 a4 a8 a9 a10 b2 : Int) (y0 y1 y2 y3 y4 y5 y6 y7 y8 y9 y10 y11 : Bool) (is : List Int) (bs : List Bool) : Prop := ∃ i : Int, is = [s, i, a0, a1, a2, a3, a4, ((s - i) % 8), 0, 0, a8, a9, a10, 1, 1, b2, ((t + i) % 32), 0, 0, (mt t 0 i.toNat), (mt t 1 i.toNat), (mt t 2 i.toNat), (mt t 3 i.toNat), (mt t 4 i.toNat), (mt t 5 i.toNat), (mt t 6 i.toNat), (mt t 7 i.toNat), (mt t 8 i.toNat), (mt t 9 i.toNat), (mt t 10 i.toNat), (mt t 11 i.toNat), (mt t 12 i.toNat), (mt t 13 i.toNat), (mt t 14 i.toNat), (mt t 15 i.toNat)] ∧ bs = [y0, y1, y2, y3, y4, y5, y6, y7, y8, y9, y10, y11] ∧ 0 ≤ i ∧ i ≤ 32
set_option maxRecDepth 20000 in
set_option maxHeartbeats 4000000 in
theorem step1 (s t a0 a1 a2 a3 a4 a8 a9 a10 b2 : Int) (y0 y1 y2 y3 y4 y5 y6 y7 y8 y9 y10 y11 : Bool) (hs : 0 ≤ s ∧ s < 8) (ht : 0 ≤ t ∧ t < 32) (hp : okP a0 a1 a2 a4 s 0 0 a8 a9 a10 = true) (hT : b2 < 128) (is : List Int) (bs : List Bool) (h : Inv1 s t a0 a1 a2 a3 a4 a8 a9 a10 b2 y0 y1 y2 y3 y4 y5 y6 y7 y8 y9 y10 y11 is bs) :
    ∃ c rb, (L101200.S.run (lpF [L101201, L101202] (tabF T18)) true is bs).2 = true :: c :: rb ∧
      (c = false → (fun p : Fl => p = ([32, a0, a1, a2, a3, a4, s, 0, 0, a8, a9, a10, 1, 1, b2, t, 0, 0, 2, 2, 2, 2, 2, 2, 2, 2, 2, 2, 2, 2, 2, 2, 2, 2], [false, true, false, y0, y1, y2, y3, y4, y5, y6, y7, y8, y9, y10, y11])) ((L101200.S.run (lpF [L101201, L101202] (tabF T18)) true is bs).1.drop 35, rb.drop 12)) ∧
      (c = true → Inv1 s t a0 a1 a2 a3 a4 a8 a9 a10 b2 y0 y1 y2 y3 y4 y5 y6 y7 y8 y9 y10 y11 ((L101200.S.run (lpF [L101201, L101202] (tabF T18)) true is bs).1.take 35) (rb.take 12) ∧ (32 - (((L101200.S.run (lpF [L101201, L101202] (tabF T18)) true is bs).1.take 35).getD 1 0)).toNat < (32 - is.getD 1 0).toNat) := by
  obtain ⟨i, rfl, rfl, i1, i2⟩ := h
  have kp : okP a0 a1 a2 a4 ((s - i) % 8) 0 0 a8 a9 a10 = true := by
    simp only [okP, okE, Bool.and_eq_true, decide_eq_true_eq] at hp ⊢
    omega
  have kt : okT 1 b2 ((t + i) % 32) 0 0 = true := by
    simp only [okT, Bool.and_eq_true, decide_eq_true_eq]
    omega
  have d1 := tk60 a0 a1 a2 a3 a4 ((s - i) % 8) a8 a9 a10 y0 y1 y2 y3 y4 y5 y6 y7 y8 (by omega) kp
  have d2 := tk54 b2 ((t + i) % 32) y9 y10 y11 (by omega) kt
  have d3 := sd58 b2 ((t + i) % 32) y9 y10 y11 (by omega) kt
  have hoi := ot_in ((t + i) % 32) (by omega)
  rw [show ((s - i) % 8 - 1) % 8 = (s - (i + 1)) % 8 by omega] at d1
  rw [show ((t + i) % 32 + 1) % 32 = (t + (i + 1)) % 32 by omega] at d2
  have hm : ∀ j, 0 ≤ mt t j i.toNat ∧ mt t j i.toNat ≤ 32 := fun j => by have := mt_in t j i.toNat; omega
  have hs1 : ∀ j, mt t j (i + 1).toNat = mt t j i.toNat + (if ot ((t + i) % 32) = j then 1 else 0) := fun j => by
    rw [show (i + 1).toNat = i.toNat + 1 by omega]
    show mt t j i.toNat + (if ot ((t + (i.toNat : Int)) % 32) = j then 1 else 0) = _
    rw [show (i.toNat : Int) = i by omega]
  obtain ⟨ρ, e1, e2, e3, e4⟩ := Smry.run_specT (Φ := lpF [L101201, L101202] (tabF T18)) (S := L101200.S) (is := [s, i, a0, a1, a2, a3, a4, ((s - i) % 8), 0, 0, a8, a9, a10, 1, 1, b2, ((t + i) % 32), 0, 0, (mt t 0 i.toNat), (mt t 1 i.toNat), (mt t 2 i.toNat), (mt t 3 i.toNat), (mt t 4 i.toNat), (mt t 5 i.toNat), (mt t 6 i.toNat), (mt t 7 i.toNat), (mt t 8 i.toNat), (mt t 9 i.toNat), (mt t 10 i.toNat), (mt t 11 i.toNat), (mt t 12 i.toNat), (mt t 13 i.toNat), (mt t 14 i.toNat), (mt t 15 i.toNat)]) (bs := [y0, y1, y2, y3, y4, y5, y6, y7, y8, y9, y10, y11]) rfl
  rw [e1, obAll_eq]
  clear e1
  simp only [L101200, obs, Gd.d_cons, Gd.d_nil, eqns, Em.eqn, headsI, headsB, RI.d, RB.d, A.d, B.d, cm_eql, cm_neq, cm_lss, cm_leq, cm_gtr, cm_geq, List.map_cons, List.map_nil, and_true, Nat.zero_add, Nat.reduceAdd, ltn, upto, true_and, Nat.add_zero, List.getD_cons_zero, List.getD_cons_succ, add8, sub8, add16, sub16, mul16, wrap_u8, wrap_u16, and8_1, and8_7, and8_8, and8_15, and8_16, and8_31, and8_32, and8_64, and8_127, and8_128, and16_1, and16_255, and16_1792, shr8_1, shr8_3, shr8_4, shr8_6, shr16_1, shr16_6, shr16_8, shl16_8, shl16_14, add64] at e2 e3 e4 ⊢
  simp only [e2, e3] at e4 ⊢
  clear e2 e3
  have hb12 := e4.1
  have r0 := e4.2
  clear e4
  have hi35 := r0.1
  have r1 := r0.2
  clear r0
  have hi36 := r1.1
  have r2 := r1.2
  clear r1
  have hb13 := r2.1
  have r3 := r2.2
  clear r2
  have hb14 := r3.1
  have r4 := r3.2
  clear r3
  have hb15 := r4.1
  have r5 := r4.2
  clear r4
  have hb16 := r5.1
  have r6 := r5.2
  clear r5
  have hb17 := r6.1
  have r7 := r6.2
  clear r6
  have hb18 := r7.1
  have r8 := r7.2
  clear r7
  have hb19 := r8.1
  have r9 := r8.2
  clear r8
  have hb20 := r9.1
  have r10 := r9.2
  clear r9
  have hb21 := r10.1
  have r11 := r10.2
  clear r10
  have hb22 := r11.1
  have r12 := r11.2
  clear r11
  have hb23 := r12.1
  have r13 := r12.2
  clear r12
  have hb24 := r13.1
  have r14 := r13.2
  clear r13
  have hb25 := r14.1
  have r15 := r14.2
  clear r14
  have hb26 := r15.1
  have r16 := r15.2
  clear r15
  have hb27 := r16.1
  have r17 := r16.2
  clear r16
  have hb28 := r17.1
  have r18 := r17.2
  clear r17
  have hb29 := r18.1
  have r19 := r18.2
  clear r18
  have hi37 := r19.1
  have r20 := r19.2
  clear r19
  have hi38 := r20.1
  have r21 := r20.2
  clear r20
  have hi39 := r21.1
  have r22 := r21.2
  clear r21
  have hi40 := r22.1
  have r23 := r22.2
  clear r22
  have hi41 := r23.1
  have r24 := r23.2
  clear r23
  have hi42 := r24.1
  have r25 := r24.2
  clear r24
  have hi43 := r25.1
  have r26 := r25.2
  clear r25
  have hi44 := r26.1
  have r27 := r26.2
  clear r26
  have hi45 := r27.1
  have r28 := r27.2
  clear r27
  have hi46 := r28.1
  have r29 := r28.2
  clear r28
  have hi47 := r29.1
  have r30 := r29.2
  clear r29
  have hi48 := r30.1
  have r31 := r30.2
  clear r30
  have hi49 := r31.1
  have r32 := r31.2
  clear r31
  have hi50 := r32.1
  have r33 := r32.2
  clear r32
  have hi51 := r33.1
  have r34 := r33.2
  clear r33
  have hi52 := r34.1
  have r35 := r34.2
  clear r34
  have hb30 := r35.1
  have r36 := r35.2
  clear r35
  have hb31 := r36.1
  have r37 := r36.2
  clear r36
  have hb32 := r37.1
  have r38 := r37.2
  clear r37
  have hb33 := r38.1
  have r39 := r38.2
  clear r38
  have hb34 := r39.1
  have r40 := r39.2
  clear r39
  have hb35 := r40.1
  have r41 := r40.2
  clear r40
  have hb36 := r41.1
  have r42 := r41.2
  clear r41
  have hb37 := r42.1
  have r43 := r42.2
  clear r42
  have hb38 := r43.1
  have r44 := r43.2
  clear r43
  have hb39 := r44.1
  have r45 := r44.2
  clear r44
  have hb40 := r45.1
  have r46 := r45.2
  clear r45
  have hb41 := r46.1
  have r47 := r46.2
  clear r46
  have hb42 := r47.1
  have r48 := r47.2
  clear r47
  have hb43 := r48.1
  have r49 := r48.2
  clear r48
  have hb44 := r49.1
  have r50 := r49.2
  clear r49
  have hb45 := r50.1
  have r51 := r50.2
  clear r50
  have hb46 := r51.1
  have r52 := r51.2
  clear r51
  have hb47 := r52.1
  have r53 := r52.2
  clear r52
  have hi53 := r53.1
  have r54 := r53.2
  clear r53
  have hb48 := r54.1
  have r55 := r54.2
  clear r54
  have hb49 := r55.1
  have r56 := r55.2
  clear r55
  have hb50 := r56.1
  have r57 := r56.2
  clear r56
  have hi54 := r57.1
  have r58 := r57.2
  clear r57
  have hb51 := r58.1
  have r59 := r58.2
  clear r58
  have hb52 := r59.1
  have r60 := r59.2
  clear r59
  have hb53 := r60.1
  have r61 := r60.2
  clear r60
  have hi55 := r61.1
  have r62 := r61.2
  clear r61
  have hb54 := r62.1
  have r63 := r62.2
  clear r62
  have hb55 := r63.1
  have r64 := r63.2
  clear r63
  have hb56 := r64.1
  have r65 := r64.2
  clear r64
  have hi56 := r65.1
  have r66 := r65.2
  clear r65
  have hb57 := r66.1
  have r67 := r66.2
  clear r66
  have hb58 := r67.1
  have r68 := r67.2
  clear r67
  have hb59 := r68.1
  have r69 := r68.2
  clear r68
  have hi57 := r69.1
  have r70 := r69.2
  clear r69
  have hb60 := r70.1
  have r71 := r70.2
  clear r70
  have hb61 := r71.1
  have r72 := r71.2
  clear r71
  have hb62 := r72.1
  have r73 := r72.2
  clear r72
  have hi58 := r73.1
  have r74 := r73.2
  clear r73
  have hb63 := r74.1
  have r75 := r74.2
  clear r74
  have hb64 := r75.1
  have r76 := r75.2
  clear r75
  have hb65 := r76.1
  have r77 := r76.2
  clear r76
  have hi59 := r77.1
  have r78 := r77.2
  clear r77
  have hb66 := r78.1
  have r79 := r78.2
  clear r78
  have hb67 := r79.1
  have r80 := r79.2
  clear r79
  have hb68 := r80.1
  have r81 := r80.2
  clear r80
  have hi60 := r81.1
  have r82 := r81.2
  clear r81
  have hb69 := r82.1
  have r83 := r82.2
  clear r82
  have hb70 := r83.1
  have r84 := r83.2
  clear r83
  have hb71 := r84.1
  have r85 := r84.2
  clear r84
  have hi61 := r85.1
  have r86 := r85.2
  clear r85
  have hb72 := r86.1
  have r87 := r86.2
  clear r86
  have hb73 := r87.1
  have r88 := r87.2
  clear r87
  have hb74 := r88.1
  have r89 := r88.2
  clear r88
  have hi62 := r89.1
  have r90 := r89.2
  clear r89
  have hb75 := r90.1
  have r91 := r90.2
  clear r90
  have hb76 := r91.1
  have r92 := r91.2
  clear r91
  have hb77 := r92.1
  have r93 := r92.2
  clear r92
  have hi63 := r93.1
  have r94 := r93.2
  clear r93
  have hb78 := r94.1
  have r95 := r94.2
  clear r94
  have hb79 := r95.1
  have r96 := r95.2
  clear r95
  have hb80 := r96.1
  have r97 := r96.2
  clear r96
  have hi64 := r97.1
  have r98 := r97.2
  clear r97
  have hb81 := r98.1
  have r99 := r98.2
  clear r98
  have hb82 := r99.1
  have r100 := r99.2
  clear r99
  have hb83 := r100.1
  have r101 := r100.2
  clear r100
  have hi65 := r101.1
  have r102 := r101.2
  clear r101
  have hb84 := r102.1
  have r103 := r102.2
  clear r102
  have hb85 := r103.1
  have r104 := r103.2
  clear r103
  have hb86 := r104.1
  have r105 := r104.2
  clear r104
  have hi66 := r105.1
  have r106 := r105.2
  clear r105
  have hb87 := r106.1
  have r107 := r106.2
  clear r106
  have hb88 := r107.1
  have r108 := r107.2
  clear r107
  have hb89 := r108.1
  have r109 := r108.2
  clear r108
  have hi67 := r109.1
  have r110 := r109.2
  clear r109
  have hi68 := r110.1
  have r111 := r110.2
  clear r110
  have hi69 := r111.1.1.1
  have hi70 := r111.1.1.2.1
  have hi71 := r111.1.1.2.2.1
  have hi72 := r111.1.1.2.2.2.1
  have hi73 := r111.1.1.2.2.2.2.1
  have hi74 := r111.1.1.2.2.2.2.2.1
  have hi75 := r111.1.1.2.2.2.2.2.2.1
  have hi76 := r111.1.1.2.2.2.2.2.2.2.1
  have hi77 := r111.1.1.2.2.2.2.2.2.2.2.1
  have hi78 := r111.1.1.2.2.2.2.2.2.2.2.2.1
  have hi79 := r111.1.1.2.2.2.2.2.2.2.2.2.2
  have hb90 := r111.1.2.1
  have hb91 := r111.1.2.2.1
  have hb92 := r111.1.2.2.2.1
  have hb93 := r111.1.2.2.2.2.1
  have hb94 := r111.1.2.2.2.2.2.1
  have hb95 := r111.1.2.2.2.2.2.2.1
  have hb96 := r111.1.2.2.2.2.2.2.2.1
  have hb97 := r111.1.2.2.2.2.2.2.2.2.1
  have hb98 := r111.1.2.2.2.2.2.2.2.2.2
  have r112 := r111.2
  clear r111
  have hi80 := r112.1.1.1
  have hi81 := r112.1.1.2.1
  have hi82 := r112.1.1.2.2.1
  have hi83 := r112.1.1.2.2.2.1
  have hi84 := r112.1.1.2.2.2.2.1
  have hi85 := r112.1.1.2.2.2.2.2
  have hb99 := r112.1.2.1
  have hb100 := r112.1.2.2.1
  have hb101 := r112.1.2.2.2
  have r113 := r112.2
  clear r112
  have hb102 := r113.1
  have r114 := r113.2
  clear r113
  have hi86 := r114.1
  have r115 := r114.2
  clear r114
  have hb103 := r115.1
  have r116 := r115.2
  clear r115
  have hb104 := r116.1
  have r117 := r116.2
  clear r116
  have hb105 := r117.1
  have r118 := r117.2
  clear r117
  have hi87 := r118.1
  have r119 := r118.2
  clear r118
  have hb106 := r119.1
  have r120 := r119.2
  clear r119
  have hb107 := r120.1
  have r121 := r120.2
  clear r120
  have hb108 := r121.1
  have r122 := r121.2
  clear r121
  have hb109 := r122.1
  have r123 := r122.2
  clear r122
  have hb110 := r123
  have q1 : lpF [L101201, L101202] (tabF T18) 60 [a0, a1, a2, a3, a4, ((s - i) % 8), 0, 0, a8, a9, a10] [y0, y1, y2, y3, y4, y5, y6, y7, y8] = _ := d1
  have q2 : lpF [L101201, L101202] (tabF T18) 54 [1, 1, b2, ((t + i) % 32), 0, 0] [y9, y10, y11] = _ := d2
  have q3 : lpF [L101201, L101202] (tabF T18) 58 [1, 1, b2, ((t + i) % 32), 0, 0] [y9, y10, y11] = _ := d3
  clear kp kt d1 d2 d3
  have w35 : ρ.i 35 = ot ((t + i) % 32) := by rw [hi35, q3]; rfl
  have w36 : ρ.i 36 = ot ((t + i) % 32) := by rw [hi36, w35]; clear hb12 hi35 hi36 hb13 hb14 hb15 hb16 hb17 hb18 hb19 hb20 hb21 hb22 hb23 hb24 hb25 hb26 hb27 hb28 hb29 hi37 hi38 hi39 hi40 hi41 hi42 hi43 hi44 hi45 hi46 hi47 hi48 hi49 hi50 hi51 hi52 hb30 hb31 hb32 hb33 hb34 hb35 hb36 hb37 hb38 hb39 hb40 hb41 hb42 hb43 hb44 hb45 hb46 hb47 hi53 hb48 hb49 hb50 hi54 hb51 hb52 hb53 hi55 hb54 hb55 hb56 hi56 hb57 hb58 hb59 hi57 hb60 hb61 hb62 hi58 hb63 hb64 hb65 hi59 hb66 hb67 hb68 hi60 hb69 hb70 hb71 hi61 hb72 hb73 hb74 hi62 hb75 hb76 hb77 hi63 hb78 hb79 hb80 hi64 hb81 hb82 hb83 hi65 hb84 hb85 hb86 hi66 hb87 hb88 hb89 hi67 hi68 hi69 hi70 hi71 hi72 hi73 hi74 hi75 hi76 hi77 hi78 hi79 hb90 hb91 hb92 hb93 hb94 hb95 hb96 hb97 hb98 hi80 hi81 hi82 hi83 hi84 hi85 hb99 hb100 hb101 hb102 hi86 hb103 hb104 hb105 hi87 hb106 hb107 hb108 hb109 hb110 q1 q2 q3 w35; omega
  have z13 : ρ.b 13 = true := by rw [hb13, w36]; exact decide_eq_true hoi.1
  have z14 : ρ.b 14 = true := by rw [hb14, w36]; exact decide_eq_true hoi.2
  have z30 : ρ.b 30 = true := by rw [hb30, w36]; exact decide_eq_true hoi.1
  have z31 : ρ.b 31 = true := by rw [hb31, w36]; exact decide_eq_true hoi.2
  have p0 : ρ.i 69 = a0 := by rw [hi69, q1]; rfl
  have p1 : ρ.i 70 = a1 := by rw [hi70, q1]; rfl
  have p2 : ρ.i 71 = a2 := by rw [hi71, q1]; rfl
  have p3 : ρ.i 72 = a3 := by rw [hi72, q1]; rfl
  have p4 : ρ.i 73 = a4 := by rw [hi73, q1]; rfl
  have p5 : ρ.i 74 = (s - (i + 1)) % 8 := by rw [hi74, q1]; rfl
  have p6 : ρ.i 75 = 0 := by rw [hi75, q1]; rfl
  have p7 : ρ.i 76 = 0 := by rw [hi76, q1]; rfl
  have p8 : ρ.i 77 = a8 := by rw [hi77, q1]; rfl
  have p9 : ρ.i 78 = a9 := by rw [hi78, q1]; rfl
  have p10 : ρ.i 79 = a10 := by rw [hi79, q1]; rfl
  have r0_ : ρ.i 80 = 1 := by rw [hi80, q2]; rfl
  have r1_ : ρ.i 81 = 1 := by rw [hi81, q2]; rfl
  have r2_ : ρ.i 82 = b2 := by rw [hi82, q2]; rfl
  have r3_ : ρ.i 83 = (t + (i + 1)) % 32 := by rw [hi83, q2]; rfl
  have r4_ : ρ.i 84 = 0 := by rw [hi84, q2]; rfl
  have r5_ : ρ.i 85 = 0 := by rw [hi85, q2]; rfl
  have u0 : ρ.b 90 = y0 := by rw [hb90, q1]; rfl
  have u1 : ρ.b 91 = y1 := by rw [hb91, q1]; rfl
  have u2 : ρ.b 92 = y2 := by rw [hb92, q1]; rfl
  have u3 : ρ.b 93 = y3 := by rw [hb93, q1]; rfl
  have u4 : ρ.b 94 = y4 := by rw [hb94, q1]; rfl
  have u5 : ρ.b 95 = y5 := by rw [hb95, q1]; rfl
  have u6 : ρ.b 96 = y6 := by rw [hb96, q1]; rfl
  have u7 : ρ.b 97 = y7 := by rw [hb97, q1]; rfl
  have u8 : ρ.b 98 = y8 := by rw [hb98, q1]; rfl
  have u9 : ρ.b 99 = y9 := by rw [hb99, q2]; rfl
  have u10 : ρ.b 100 = y10 := by rw [hb100, q2]; rfl
  have u11 : ρ.b 101 = y11 := by rw [hb101, q2]; rfl
  have w102 : ρ.b 102 = ρ.b 103 := by
    rw [hb102, hb103, p5, hi86]
    rw [rem_eq, if_pos i1]
    rw [Bool.eq_iff_iff]
    simp only [beq_iff_eq]
    clear hb12 hi35 hi36 hb13 hb14 hb15 hb16 hb17 hb18 hb19 hb20 hb21 hb22 hb23 hb24 hb25 hb26 hb27 hb28 hb29 hi37 hi38 hi39 hi40 hi41 hi42 hi43 hi44 hi45 hi46 hi47 hi48 hi49 hi50 hi51 hi52 hb30 hb31 hb32 hb33 hb34 hb35 hb36 hb37 hb38 hb39 hb40 hb41 hb42 hb43 hb44 hb45 hb46 hb47 hi53 hb48 hb49 hb50 hi54 hb51 hb52 hb53 hi55 hb54 hb55 hb56 hi56 hb57 hb58 hb59 hi57 hb60 hb61 hb62 hi58 hb63 hb64 hb65 hi59 hb66 hb67 hb68 hi60 hb69 hb70 hb71 hi61 hb72 hb73 hb74 hi62 hb75 hb76 hb77 hi63 hb78 hb79 hb80 hi64 hb81 hb82 hb83 hi65 hb84 hb85 hb86 hi66 hb87 hb88 hb89 hi67 hi68 hi69 hi70 hi71 hi72 hi73 hi74 hi75 hi76 hi77 hi78 hi79 hb90 hb91 hb92 hb93 hb94 hb95 hb96 hb97 hb98 hi80 hi81 hi82 hi83 hi84 hi85 hb99 hb100 hb101 hb102 hi86 hb103 hb104 hb105 hi87 hb106 hb107 hb108 hb109 hb110 q1 q2 q3 w35 w36 hs1 hm
    omega
  have w104 : ρ.b 104 = true := by rw [hb104, w102]; exact beq_self_eq_true _
  have w105 : ρ.b 105 = false := by rw [hb105, w104]; rfl
  have w107 : ρ.b 107 = true := by rw [hb107, w105]; rfl
  have w108 : ρ.b 108 = ρ.b 12 := by rw [hb108, w107, Bool.and_true]
  have w109 : ρ.b 109 = false := by rw [hb109, w105, Bool.and_false]
  have w87 : ρ.i 87 = i + 1 := by rw [hi87]; exact wrap_i64_in (by clear hb12 hi35 hi36 hb13 hb14 hb15 hb16 hb17 hb18 hb19 hb20 hb21 hb22 hb23 hb24 hb25 hb26 hb27 hb28 hb29 hi37 hi38 hi39 hi40 hi41 hi42 hi43 hi44 hi45 hi46 hi47 hi48 hi49 hi50 hi51 hi52 hb30 hb31 hb32 hb33 hb34 hb35 hb36 hb37 hb38 hb39 hb40 hb41 hb42 hb43 hb44 hb45 hb46 hb47 hi53 hb48 hb49 hb50 hi54 hb51 hb52 hb53 hi55 hb54 hb55 hb56 hi56 hb57 hb58 hb59 hi57 hb60 hb61 hb62 hi58 hb63 hb64 hb65 hi59 hb66 hb67 hb68 hi60 hb69 hb70 hb71 hi61 hb72 hb73 hb74 hi62 hb75 hb76 hb77 hi63 hb78 hb79 hb80 hi64 hb81 hb82 hb83 hi65 hb84 hb85 hb86 hi66 hb87 hb88 hb89 hi67 hi68 hi69 hi70 hi71 hi72 hi73 hi74 hi75 hi76 hi77 hi78 hi79 hb90 hb91 hb92 hb93 hb94 hb95 hb96 hb97 hb98 hi80 hi81 hi82 hi83 hi84 hi85 hb99 hb100 hb101 hb102 hi86 hb103 hb104 hb105 hi87 hb106 hb107 hb108 hb109 hb110 q1 q2 q3; omega) (by clear hb12 hi35 hi36 hb13 hb14 hb15 hb16 hb17 hb18 hb19 hb20 hb21 hb22 hb23 hb24 hb25 hb26 hb27 hb28 hb29 hi37 hi38 hi39 hi40 hi41 hi42 hi43 hi44 hi45 hi46 hi47 hi48 hi49 hi50 hi51 hi52 hb30 hb31 hb32 hb33 hb34 hb35 hb36 hb37 hb38 hb39 hb40 hb41 hb42 hb43 hb44 hb45 hb46 hb47 hi53 hb48 hb49 hb50 hi54 hb51 hb52 hb53 hi55 hb54 hb55 hb56 hi56 hb57 hb58 hb59 hi57 hb60 hb61 hb62 hi58 hb63 hb64 hb65 hi59 hb66 hb67 hb68 hi60 hb69 hb70 hb71 hi61 hb72 hb73 hb74 hi62 hb75 hb76 hb77 hi63 hb78 hb79 hb80 hi64 hb81 hb82 hb83 hi65 hb84 hb85 hb86 hi66 hb87 hb88 hb89 hi67 hi68 hi69 hi70 hi71 hi72 hi73 hi74 hi75 hi76 hi77 hi78 hi79 hb90 hb91 hb92 hb93 hb94 hb95 hb96 hb97 hb98 hi80 hi81 hi82 hi83 hi84 hi85 hb99 hb100 hb101 hb102 hi86 hb103 hb104 hb105 hi87 hb106 hb107 hb108 hb109 hb110 q1 q2 q3; omega)
  have hmet : [ρ.i 53, ρ.i 54, ρ.i 55, ρ.i 56, ρ.i 57, ρ.i 58, ρ.i 59, ρ.i 60, ρ.i 61, ρ.i 62, ρ.i 63, ρ.i 64, ρ.i 65, ρ.i 66, ρ.i 67, ρ.i 68] = [mt t 0 (i + 1).toNat, mt t 1 (i + 1).toNat, mt t 2 (i + 1).toNat, mt t 3 (i + 1).toNat, mt t 4 (i + 1).toNat, mt t 5 (i + 1).toNat, mt t 6 (i + 1).toNat, mt t 7 (i + 1).toNat, mt t 8 (i + 1).toNat, mt t 9 (i + 1).toNat, mt t 10 (i + 1).toNat, mt t 11 (i + 1).toNat, mt t 12 (i + 1).toNat, mt t 13 (i + 1).toNat, mt t 14 (i + 1).toNat, mt t 15 (i + 1).toNat] := by
    simp only [hs1]
    generalize ot ((t + i) % 32) = d at *
    clear hs1 q1 q2 q3 p0 p1 p2 p3 p4 p5 p6 p7 p8 p9 p10 r0_ r1_ r2_ r3_ r4_ r5_ u0 u1 u2 u3 u4 u5 u6 u7 u8 u9 u10 u11 w102 w104 w105 w107 w108 w109 w87 z13 z14 z30 z31 hb12 hi35 hi69 hi70 hi71 hi72 hi73 hi74 hi75 hi76 hi77 hi78 hi79 hb90 hb91 hb92 hb93 hb94 hb95 hb96 hb97 hb98 hi80 hi81 hi82 hi83 hi84 hi85 hb99 hb100 hb101 hb102 hi86 hb103 hb104 hb105 hi87 hb106 hb107 hb108 hb109 hb110 hp hT hs ht w35
    rcases (show d = 0 ∨ d = 1 ∨ d = 2 ∨ d = 3 ∨ d = 4 ∨ d = 5 ∨ d = 6 ∨ d = 7 ∨ d = 8 ∨ d = 9 ∨ d = 10 ∨ d = 11 ∨ d = 12 ∨ d = 13 ∨ d = 14 ∨ d = 15 by clear hi36 hb13 hb14 hb15 hb16 hb17 hb18 hb19 hb20 hb21 hb22 hb23 hb24 hb25 hb26 hb27 hb28 hb29 hi37 hi38 hi39 hi40 hi41 hi42 hi43 hi44 hi45 hi46 hi47 hi48 hi49 hi50 hi51 hi52 hb30 hb31 hb32 hb33 hb34 hb35 hb36 hb37 hb38 hb39 hb40 hb41 hb42 hb43 hb44 hb45 hb46 hb47 hi53 hb48 hb49 hb50 hi54 hb51 hb52 hb53 hi55 hb54 hb55 hb56 hi56 hb57 hb58 hb59 hi57 hb60 hb61 hb62 hi58 hb63 hb64 hb65 hi59 hb66 hb67 hb68 hi60 hb69 hb70 hb71 hi61 hb72 hb73 hb74 hi62 hb75 hb76 hb77 hi63 hb78 hb79 hb80 hi64 hb81 hb82 hb83 hi65 hb84 hb85 hb86 hi66 hb87 hb88 hb89 hi67 hi68 hm w36; omega) with rfl | rfl | rfl | rfl | rfl | rfl | rfl | rfl | rfl | rfl | rfl | rfl | rfl | rfl | rfl | rfl
    · have w51 : ρ.i 51 = mt t 0 i.toNat := by simp [hi37, hi38, hi39, hi40, hi41, hi42, hi43, hi44, hi45, hi46, hi47, hi48, hi49, hi50, hi51, hb15, hb16, hb17, hb18, hb19, hb20, hb21, hb22, hb23, hb24, hb25, hb26, hb27, hb28, hb29, w36]
      have w52 : ρ.i 52 = mt t 0 i.toNat + 1 := by
        rw [hi52, w51]
        have := hm 0
        exact wrap_i64_in (by clear hi36 hb13 hb14 hb15 hb16 hb17 hb18 hb19 hb20 hb21 hb22 hb23 hb24 hb25 hb26 hb27 hb28 hb29 hi37 hi38 hi39 hi40 hi41 hi42 hi43 hi44 hi45 hi46 hi47 hi48 hi49 hi50 hi51 hi52 hb30 hb31 hb32 hb33 hb34 hb35 hb36 hb37 hb38 hb39 hb40 hb41 hb42 hb43 hb44 hb45 hb46 hb47 hi53 hb48 hb49 hb50 hi54 hb51 hb52 hb53 hi55 hb54 hb55 hb56 hi56 hb57 hb58 hb59 hi57 hb60 hb61 hb62 hi58 hb63 hb64 hb65 hi59 hb66 hb67 hb68 hi60 hb69 hb70 hb71 hi61 hb72 hb73 hb74 hi62 hb75 hb76 hb77 hi63 hb78 hb79 hb80 hi64 hb81 hb82 hb83 hi65 hb84 hb85 hb86 hi66 hb87 hb88 hb89 hi67 hi68; omega) (by clear hi36 hb13 hb14 hb15 hb16 hb17 hb18 hb19 hb20 hb21 hb22 hb23 hb24 hb25 hb26 hb27 hb28 hb29 hi37 hi38 hi39 hi40 hi41 hi42 hi43 hi44 hi45 hi46 hi47 hi48 hi49 hi50 hi51 hi52 hb30 hb31 hb32 hb33 hb34 hb35 hb36 hb37 hb38 hb39 hb40 hb41 hb42 hb43 hb44 hb45 hb46 hb47 hi53 hb48 hb49 hb50 hi54 hb51 hb52 hb53 hi55 hb54 hb55 hb56 hi56 hb57 hb58 hb59 hi57 hb60 hb61 hb62 hi58 hb63 hb64 hb65 hi59 hb66 hb67 hb68 hi60 hb69 hb70 hb71 hi61 hb72 hb73 hb74 hi62 hb75 hb76 hb77 hi63 hb78 hb79 hb80 hi64 hb81 hb82 hb83 hi65 hb84 hb85 hb86 hi66 hb87 hb88 hb89 hi67 hi68; omega)
      simp [hi53, hi54, hi55, hi56, hi57, hi58, hi59, hi60, hi61, hi62, hi63, hi64, hi65, hi66, hi67, hi68, hb32, hb33, hb34, hb35, hb36, hb37, hb38, hb39, hb40, hb41, hb42, hb43, hb44, hb45, hb46, hb47, hb48, hb49, hb50, hb51, hb52, hb53, hb54, hb55, hb56, hb57, hb58, hb59, hb60, hb61, hb62, hb63, hb64, hb65, hb66, hb67, hb68, hb69, hb70, hb71, hb72, hb73, hb74, hb75, hb76, hb77, hb78, hb79, hb80, hb81, hb82, hb83, hb84, hb85, hb86, hb87, hb88, hb89, w36, w52]
    · have w51 : ρ.i 51 = mt t 1 i.toNat := by simp [hi37, hi38, hi39, hi40, hi41, hi42, hi43, hi44, hi45, hi46, hi47, hi48, hi49, hi50, hi51, hb15, hb16, hb17, hb18, hb19, hb20, hb21, hb22, hb23, hb24, hb25, hb26, hb27, hb28, hb29, w36]
      have w52 : ρ.i 52 = mt t 1 i.toNat + 1 := by
        rw [hi52, w51]
        have := hm 1
        exact wrap_i64_in (by clear hi36 hb13 hb14 hb15 hb16 hb17 hb18 hb19 hb20 hb21 hb22 hb23 hb24 hb25 hb26 hb27 hb28 hb29 hi37 hi38 hi39 hi40 hi41 hi42 hi43 hi44 hi45 hi46 hi47 hi48 hi49 hi50 hi51 hi52 hb30 hb31 hb32 hb33 hb34 hb35 hb36 hb37 hb38 hb39 hb40 hb41 hb42 hb43 hb44 hb45 hb46 hb47 hi53 hb48 hb49 hb50 hi54 hb51 hb52 hb53 hi55 hb54 hb55 hb56 hi56 hb57 hb58 hb59 hi57 hb60 hb61 hb62 hi58 hb63 hb64 hb65 hi59 hb66 hb67 hb68 hi60 hb69 hb70 hb71 hi61 hb72 hb73 hb74 hi62 hb75 hb76 hb77 hi63 hb78 hb79 hb80 hi64 hb81 hb82 hb83 hi65 hb84 hb85 hb86 hi66 hb87 hb88 hb89 hi67 hi68; omega) (by clear hi36 hb13 hb14 hb15 hb16 hb17 hb18 hb19 hb20 hb21 hb22 hb23 hb24 hb25 hb26 hb27 hb28 hb29 hi37 hi38 hi39 hi40 hi41 hi42 hi43 hi44 hi45 hi46 hi47 hi48 hi49 hi50 hi51 hi52 hb30 hb31 hb32 hb33 hb34 hb35 hb36 hb37 hb38 hb39 hb40 hb41 hb42 hb43 hb44 hb45 hb46 hb47 hi53 hb48 hb49 hb50 hi54 hb51 hb52 hb53 hi55 hb54 hb55 hb56 hi56 hb57 hb58 hb59 hi57 hb60 hb61 hb62 hi58 hb63 hb64 hb65 hi59 hb66 hb67 hb68 hi60 hb69 hb70 hb71 hi61 hb72 hb73 hb74 hi62 hb75 hb76 hb77 hi63 hb78 hb79 hb80 hi64 hb81 hb82 hb83 hi65 hb84 hb85 hb86 hi66 hb87 hb88 hb89 hi67 hi68; omega)
      simp [hi53, hi54, hi55, hi56, hi57, hi58, hi59, hi60, hi61, hi62, hi63, hi64, hi65, hi66, hi67, hi68, hb32, hb33, hb34, hb35, hb36, hb37, hb38, hb39, hb40, hb41, hb42, hb43, hb44, hb45, hb46, hb47, hb48, hb49, hb50, hb51, hb52, hb53, hb54, hb55, hb56, hb57, hb58, hb59, hb60, hb61, hb62, hb63, hb64, hb65, hb66, hb67, hb68, hb69, hb70, hb71, hb72, hb73, hb74, hb75, hb76, hb77, hb78, hb79, hb80, hb81, hb82, hb83, hb84, hb85, hb86, hb87, hb88, hb89, w36, w52]
    · have w51 : ρ.i 51 = mt t 2 i.toNat := by simp [hi37, hi38, hi39, hi40, hi41, hi42, hi43, hi44, hi45, hi46, hi47, hi48, hi49, hi50, hi51, hb15, hb16, hb17, hb18, hb19, hb20, hb21, hb22, hb23, hb24, hb25, hb26, hb27, hb28, hb29, w36]
      have w52 : ρ.i 52 = mt t 2 i.toNat + 1 := by
        rw [hi52, w51]
        have := hm 2
        exact wrap_i64_in (by clear hi36 hb13 hb14 hb15 hb16 hb17 hb18 hb19 hb20 hb21 hb22 hb23 hb24 hb25 hb26 hb27 hb28 hb29 hi37 hi38 hi39 hi40 hi41 hi42 hi43 hi44 hi45 hi46 hi47 hi48 hi49 hi50 hi51 hi52 hb30 hb31 hb32 hb33 hb34 hb35 hb36 hb37 hb38 hb39 hb40 hb41 hb42 hb43 hb44 hb45 hb46 hb47 hi53 hb48 hb49 hb50 hi54 hb51 hb52 hb53 hi55 hb54 hb55 hb56 hi56 hb57 hb58 hb59 hi57 hb60 hb61 hb62 hi58 hb63 hb64 hb65 hi59 hb66 hb67 hb68 hi60 hb69 hb70 hb71 hi61 hb72 hb73 hb74 hi62 hb75 hb76 hb77 hi63 hb78 hb79 hb80 hi64 hb81 hb82 hb83 hi65 hb84 hb85 hb86 hi66 hb87 hb88 hb89 hi67 hi68; omega) (by clear hi36 hb13 hb14 hb15 hb16 hb17 hb18 hb19 hb20 hb21 hb22 hb23 hb24 hb25 hb26 hb27 hb28 hb29 hi37 hi38 hi39 hi40 hi41 hi42 hi43 hi44 hi45 hi46 hi47 hi48 hi49 hi50 hi51 hi52 hb30 hb31 hb32 hb33 hb34 hb35 hb36 hb37 hb38 hb39 hb40 hb41 hb42 hb43 hb44 hb45 hb46 hb47 hi53 hb48 hb49 hb50 hi54 hb51 hb52 hb53 hi55 hb54 hb55 hb56 hi56 hb57 hb58 hb59 hi57 hb60 hb61 hb62 hi58 hb63 hb64 hb65 hi59 hb66 hb67 hb68 hi60 hb69 hb70 hb71 hi61 hb72 hb73 hb74 hi62 hb75 hb76 hb77 hi63 hb78 hb79 hb80 hi64 hb81 hb82 hb83 hi65 hb84 hb85 hb86 hi66 hb87 hb88 hb89 hi67 hi68; omega)
      simp [hi53, hi54, hi55, hi56, hi57, hi58, hi59, hi60, hi61, hi62, hi63, hi64, hi65, hi66, hi67, hi68, hb32, hb33, hb34, hb35, hb36, hb37, hb38, hb39, hb40, hb41, hb42, hb43, hb44, hb45, hb46, hb47, hb48, hb49, hb50, hb51, hb52, hb53, hb54, hb55, hb56, hb57, hb58, hb59, hb60, hb61, hb62, hb63, hb64, hb65, hb66, hb67, hb68, hb69, hb70, hb71, hb72, hb73, hb74, hb75, hb76, hb77, hb78, hb79, hb80, hb81, hb82, hb83, hb84, hb85, hb86, hb87, hb88, hb89, w36, w52]
    · have w51 : ρ.i 51 = mt t 3 i.toNat := by simp [hi37, hi38, hi39, hi40, hi41, hi42, hi43, hi44, hi45, hi46, hi47, hi48, hi49, hi50, hi51, hb15, hb16, hb17, hb18, hb19, hb20, hb21, hb22, hb23, hb24, hb25, hb26, hb27, hb28, hb29, w36]
      have w52 : ρ.i 52 = mt t 3 i.toNat + 1 := by
        rw [hi52, w51]
        have := hm 3
        exact wrap_i64_in (by clear hi36 hb13 hb14 hb15 hb16 hb17 hb18 hb19 hb20 hb21 hb22 hb23 hb24 hb25 hb26 hb27 hb28 hb29 hi37 hi38 hi39 hi40 hi41 hi42 hi43 hi44 hi45 hi46 hi47 hi48 hi49 hi50 hi51 hi52 hb30 hb31 hb32 hb33 hb34 hb35 hb36 hb37 hb38 hb39 hb40 hb41 hb42 hb43 hb44 hb45 hb46 hb47 hi53 hb48 hb49 hb50 hi54 hb51 hb52 hb53 hi55 hb54 hb55 hb56 hi56 hb57 hb58 hb59 hi57 hb60 hb61 hb62 hi58 hb63 hb64 hb65 hi59 hb66 hb67 hb68 hi60 hb69 hb70 hb71 hi61 hb72 hb73 hb74 hi62 hb75 hb76 hb77 hi63 hb78 hb79 hb80 hi64 hb81 hb82 hb83 hi65 hb84 hb85 hb86 hi66 hb87 hb88 hb89 hi67 hi68; omega) (by clear hi36 hb13 hb14 hb15 hb16 hb17 hb18 hb19 hb20 hb21 hb22 hb23 hb24 hb25 hb26 hb27 hb28 hb29 hi37 hi38 hi39 hi40 hi41 hi42 hi43 hi44 hi45 hi46 hi47 hi48 hi49 hi50 hi51 hi52 hb30 hb31 hb32 hb33 hb34 hb35 hb36 hb37 hb38 hb39 hb40 hb41 hb42 hb43 hb44 hb45 hb46 hb47 hi53 hb48 hb49 hb50 hi54 hb51 hb52 hb53 hi55 hb54 hb55 hb56 hi56 hb57 hb58 hb59 hi57 hb60 hb61 hb62 hi58 hb63 hb64 hb65 hi59 hb66 hb67 hb68 hi60 hb69 hb70 hb71 hi61 hb72 hb73 hb74 hi62 hb75 hb76 hb77 hi63 hb78 hb79 hb80 hi64 hb81 hb82 hb83 hi65 hb84 hb85 hb86 hi66 hb87 hb88 hb89 hi67 hi68; omega)
      simp [hi53, hi54, hi55, hi56, hi57, hi58, hi59, hi60, hi61, hi62, hi63, hi64, hi65, hi66, hi67, hi68, hb32, hb33, hb34, hb35, hb36, hb37, hb38, hb39, hb40, hb41, hb42, hb43, hb44, hb45, hb46, hb47, hb48, hb49, hb50, hb51, hb52, hb53, hb54, hb55, hb56, hb57, hb58, hb59, hb60, hb61, hb62, hb63, hb64, hb65, hb66, hb67, hb68, hb69, hb70, hb71, hb72, hb73, hb74, hb75, hb76, hb77, hb78, hb79, hb80, hb81, hb82, hb83, hb84, hb85, hb86, hb87, hb88, hb89, w36, w52]
    · have w51 : ρ.i 51 = mt t 4 i.toNat := by simp [hi37, hi38, hi39, hi40, hi41, hi42, hi43, hi44, hi45, hi46, hi47, hi48, hi49, hi50, hi51, hb15, hb16, hb17, hb18, hb19, hb20, hb21, hb22, hb23, hb24, hb25, hb26, hb27, hb28, hb29, w36]
      have w52 : ρ.i 52 = mt t 4 i.toNat + 1 := by
        rw [hi52, w51]
        have := hm 4
        exact wrap_i64_in (by clear hi36 hb13 hb14 hb15 hb16 hb17 hb18 hb19 hb20 hb21 hb22 hb23 hb24 hb25 hb26 hb27 hb28 hb29 hi37 hi38 hi39 hi40 hi41 hi42 hi43 hi44 hi45 hi46 hi47 hi48 hi49 hi50 hi51 hi52 hb30 hb31 hb32 hb33 hb34 hb35 hb36 hb37 hb38 hb39 hb40 hb41 hb42 hb43 hb44 hb45 hb46 hb47 hi53 hb48 hb49 hb50 hi54 hb51 hb52 hb53 hi55 hb54 hb55 hb56 hi56 hb57 hb58 hb59 hi57 hb60 hb61 hb62 hi58 hb63 hb64 hb65 hi59 hb66 hb67 hb68 hi60 hb69 hb70 hb71 hi61 hb72 hb73 hb74 hi62 hb75 hb76 hb77 hi63 hb78 hb79 hb80 hi64 hb81 hb82 hb83 hi65 hb84 hb85 hb86 hi66 hb87 hb88 hb89 hi67 hi68; omega) (by clear hi36 hb13 hb14 hb15 hb16 hb17 hb18 hb19 hb20 hb21 hb22 hb23 hb24 hb25 hb26 hb27 hb28 hb29 hi37 hi38 hi39 hi40 hi41 hi42 hi43 hi44 hi45 hi46 hi47 hi48 hi49 hi50 hi51 hi52 hb30 hb31 hb32 hb33 hb34 hb35 hb36 hb37 hb38 hb39 hb40 hb41 hb42 hb43 hb44 hb45 hb46 hb47 hi53 hb48 hb49 hb50 hi54 hb51 hb52 hb53 hi55 hb54 hb55 hb56 hi56 hb57 hb58 hb59 hi57 hb60 hb61 hb62 hi58 hb63 hb64 hb65 hi59 hb66 hb67 hb68 hi60 hb69 hb70 hb71 hi61 hb72 hb73 hb74 hi62 hb75 hb76 hb77 hi63 hb78 hb79 hb80 hi64 hb81 hb82 hb83 hi65 hb84 hb85 hb86 hi66 hb87 hb88 hb89 hi67 hi68; omega)
      simp [hi53, hi54, hi55, hi56, hi57, hi58, hi59, hi60, hi61, hi62, hi63, hi64, hi65, hi66, hi67, hi68, hb32, hb33, hb34, hb35, hb36, hb37, hb38, hb39, hb40, hb41, hb42, hb43, hb44, hb45, hb46, hb47, hb48, hb49, hb50, hb51, hb52, hb53, hb54, hb55, hb56, hb57, hb58, hb59, hb60, hb61, hb62, hb63, hb64, hb65, hb66, hb67, hb68, hb69, hb70, hb71, hb72, hb73, hb74, hb75, hb76, hb77, hb78, hb79, hb80, hb81, hb82, hb83, hb84, hb85, hb86, hb87, hb88, hb89, w36, w52]
    · have w51 : ρ.i 51 = mt t 5 i.toNat := by simp [hi37, hi38, hi39, hi40, hi41, hi42, hi43, hi44, hi45, hi46, hi47, hi48, hi49, hi50, hi51, hb15, hb16, hb17, hb18, hb19, hb20, hb21, hb22, hb23, hb24, hb25, hb26, hb27, hb28, hb29, w36]
      have w52 : ρ.i 52 = mt t 5 i.toNat + 1 := by
        rw [hi52, w51]
        have := hm 5
        exact wrap_i64_in (by clear hi36 hb13 hb14 hb15 hb16 hb17 hb18 hb19 hb20 hb21 hb22 hb23 hb24 hb25 hb26 hb27 hb28 hb29 hi37 hi38 hi39 hi40 hi41 hi42 hi43 hi44 hi45 hi46 hi47 hi48 hi49 hi50 hi51 hi52 hb30 hb31 hb32 hb33 hb34 hb35 hb36 hb37 hb38 hb39 hb40 hb41 hb42 hb43 hb44 hb45 hb46 hb47 hi53 hb48 hb49 hb50 hi54 hb51 hb52 hb53 hi55 hb54 hb55 hb56 hi56 hb57 hb58 hb59 hi57 hb60 hb61 hb62 hi58 hb63 hb64 hb65 hi59 hb66 hb67 hb68 hi60 hb69 hb70 hb71 hi61 hb72 hb73 hb74 hi62 hb75 hb76 hb77 hi63 hb78 hb79 hb80 hi64 hb81 hb82 hb83 hi65 hb84 hb85 hb86 hi66 hb87 hb88 hb89 hi67 hi68; omega) (by clear hi36 hb13 hb14 hb15 hb16 hb17 hb18 hb19 hb20 hb21 hb22 hb23 hb24 hb25 hb26 hb27 hb28 hb29 hi37 hi38 hi39 hi40 hi41 hi42 hi43 hi44 hi45 hi46 hi47 hi48 hi49 hi50 hi51 hi52 hb30 hb31 hb32 hb33 hb34 hb35 hb36 hb37 hb38 hb39 hb40 hb41 hb42 hb43 hb44 hb45 hb46 hb47 hi53 hb48 hb49 hb50 hi54 hb51 hb52 hb53 hi55 hb54 hb55 hb56 hi56 hb57 hb58 hb59 hi57 hb60 hb61 hb62 hi58 hb63 hb64 hb65 hi59 hb66 hb67 hb68 hi60 hb69 hb70 hb71 hi61 hb72 hb73 hb74 hi62 hb75 hb76 hb77 hi63 hb78 hb79 hb80 hi64 hb81 hb82 hb83 hi65 hb84 hb85 hb86 hi66 hb87 hb88 hb89 hi67 hi68; omega)
      simp [hi53, hi54, hi55, hi56, hi57, hi58, hi59, hi60, hi61, hi62, hi63, hi64, hi65, hi66, hi67, hi68, hb32, hb33, hb34, hb35, hb36, hb37, hb38, hb39, hb40, hb41, hb42, hb43, hb44, hb45, hb46, hb47, hb48, hb49, hb50, hb51, hb52, hb53, hb54, hb55, hb56, hb57, hb58, hb59, hb60, hb61, hb62, hb63, hb64, hb65, hb66, hb67, hb68, hb69, hb70, hb71, hb72, hb73, hb74, hb75, hb76, hb77, hb78, hb79, hb80, hb81, hb82, hb83, hb84, hb85, hb86, hb87, hb88, hb89, w36, w52]
    · have w51 : ρ.i 51 = mt t 6 i.toNat := by simp [hi37, hi38, hi39, hi40, hi41, hi42, hi43, hi44, hi45, hi46, hi47, hi48, hi49, hi50, hi51, hb15, hb16, hb17, hb18, hb19, hb20, hb21, hb22, hb23, hb24, hb25, hb26, hb27, hb28, hb29, w36]
      have w52 : ρ.i 52 = mt t 6 i.toNat + 1 := by
        rw [hi52, w51]
        have := hm 6
        exact wrap_i64_in (by clear hi36 hb13 hb14 hb15 hb16 hb17 hb18 hb19 hb20 hb21 hb22 hb23 hb24 hb25 hb26 hb27 hb28 hb29 hi37 hi38 hi39 hi40 hi41 hi42 hi43 hi44 hi45 hi46 hi47 hi48 hi49 hi50 hi51 hi52 hb30 hb31 hb32 hb33 hb34 hb35 hb36 hb37 hb38 hb39 hb40 hb41 hb42 hb43 hb44 hb45 hb46 hb47 hi53 hb48 hb49 hb50 hi54 hb51 hb52 hb53 hi55 hb54 hb55 hb56 hi56 hb57 hb58 hb59 hi57 hb60 hb61 hb62 hi58 hb63 hb64 hb65 hi59 hb66 hb67 hb68 hi60 hb69 hb70 hb71 hi61 hb72 hb73 hb74 hi62 hb75 hb76 hb77 hi63 hb78 hb79 hb80 hi64 hb81 hb82 hb83 hi65 hb84 hb85 hb86 hi66 hb87 hb88 hb89 hi67 hi68; omega) (by clear hi36 hb13 hb14 hb15 hb16 hb17 hb18 hb19 hb20 hb21 hb22 hb23 hb24 hb25 hb26 hb27 hb28 hb29 hi37 hi38 hi39 hi40 hi41 hi42 hi43 hi44 hi45 hi46 hi47 hi48 hi49 hi50 hi51 hi52 hb30 hb31 hb32 hb33 hb34 hb35 hb36 hb37 hb38 hb39 hb40 hb41 hb42 hb43 hb44 hb45 hb46 hb47 hi53 hb48 hb49 hb50 hi54 hb51 hb52 hb53 hi55 hb54 hb55 hb56 hi56 hb57 hb58 hb59 hi57 hb60 hb61 hb62 hi58 hb63 hb64 hb65 hi59 hb66 hb67 hb68 hi60 hb69 hb70 hb71 hi61 hb72 hb73 hb74 hi62 hb75 hb76 hb77 hi63 hb78 hb79 hb80 hi64 hb81 hb82 hb83 hi65 hb84 hb85 hb86 hi66 hb87 hb88 hb89 hi67 hi68; omega)
      simp [hi53, hi54, hi55, hi56, hi57, hi58, hi59, hi60, hi61, hi62, hi63, hi64, hi65, hi66, hi67, hi68, hb32, hb33, hb34, hb35, hb36, hb37, hb38, hb39, hb40, hb41, hb42, hb43, hb44, hb45, hb46, hb47, hb48, hb49, hb50, hb51, hb52, hb53, hb54, hb55, hb56, hb57, hb58, hb59, hb60, hb61, hb62, hb63, hb64, hb65, hb66, hb67, hb68, hb69, hb70, hb71, hb72, hb73, hb74, hb75, hb76, hb77, hb78, hb79, hb80, hb81, hb82, hb83, hb84, hb85, hb86, hb87, hb88, hb89, w36, w52]
    · have w51 : ρ.i 51 = mt t 7 i.toNat := by simp [hi37, hi38, hi39, hi40, hi41, hi42, hi43, hi44, hi45, hi46, hi47, hi48, hi49, hi50, hi51, hb15, hb16, hb17, hb18, hb19, hb20, hb21, hb22, hb23, hb24, hb25, hb26, hb27, hb28, hb29, w36]
      have w52 : ρ.i 52 = mt t 7 i.toNat + 1 := by
        rw [hi52, w51]
        have := hm 7
        exact wrap_i64_in (by clear hi36 hb13 hb14 hb15 hb16 hb17 hb18 hb19 hb20 hb21 hb22 hb23 hb24 hb25 hb26 hb27 hb28 hb29 hi37 hi38 hi39 hi40 hi41 hi42 hi43 hi44 hi45 hi46 hi47 hi48 hi49 hi50 hi51 hi52 hb30 hb31 hb32 hb33 hb34 hb35 hb36 hb37 hb38 hb39 hb40 hb41 hb42 hb43 hb44 hb45 hb46 hb47 hi53 hb48 hb49 hb50 hi54 hb51 hb52 hb53 hi55 hb54 hb55 hb56 hi56 hb57 hb58 hb59 hi57 hb60 hb61 hb62 hi58 hb63 hb64 hb65 hi59 hb66 hb67 hb68 hi60 hb69 hb70 hb71 hi61 hb72 hb73 hb74 hi62 hb75 hb76 hb77 hi63 hb78 hb79 hb80 hi64 hb81 hb82 hb83 hi65 hb84 hb85 hb86 hi66 hb87 hb88 hb89 hi67 hi68; omega) (by clear hi36 hb13 hb14 hb15 hb16 hb17 hb18 hb19 hb20 hb21 hb22 hb23 hb24 hb25 hb26 hb27 hb28 hb29 hi37 hi38 hi39 hi40 hi41 hi42 hi43 hi44 hi45 hi46 hi47 hi48 hi49 hi50 hi51 hi52 hb30 hb31 hb32 hb33 hb34 hb35 hb36 hb37 hb38 hb39 hb40 hb41 hb42 hb43 hb44 hb45 hb46 hb47 hi53 hb48 hb49 hb50 hi54 hb51 hb52 hb53 hi55 hb54 hb55 hb56 hi56 hb57 hb58 hb59 hi57 hb60 hb61 hb62 hi58 hb63 hb64 hb65 hi59 hb66 hb67 hb68 hi60 hb69 hb70 hb71 hi61 hb72 hb73 hb74 hi62 hb75 hb76 hb77 hi63 hb78 hb79 hb80 hi64 hb81 hb82 hb83 hi65 hb84 hb85 hb86 hi66 hb87 hb88 hb89 hi67 hi68; omega)
      simp [hi53, hi54, hi55, hi56, hi57, hi58, hi59, hi60, hi61, hi62, hi63, hi64, hi65, hi66, hi67, hi68, hb32, hb33, hb34, hb35, hb36, hb37, hb38, hb39, hb40, hb41, hb42, hb43, hb44, hb45, hb46, hb47, hb48, hb49, hb50, hb51, hb52, hb53, hb54, hb55, hb56, hb57, hb58, hb59, hb60, hb61, hb62, hb63, hb64, hb65, hb66, hb67, hb68, hb69, hb70, hb71, hb72, hb73, hb74, hb75, hb76, hb77, hb78, hb79, hb80, hb81, hb82, hb83, hb84, hb85, hb86, hb87, hb88, hb89, w36, w52]
    · have w51 : ρ.i 51 = mt t 8 i.toNat := by simp [hi37, hi38, hi39, hi40, hi41, hi42, hi43, hi44, hi45, hi46, hi47, hi48, hi49, hi50, hi51, hb15, hb16, hb17, hb18, hb19, hb20, hb21, hb22, hb23, hb24, hb25, hb26, hb27, hb28, hb29, w36]
      have w52 : ρ.i 52 = mt t 8 i.toNat + 1 := by
        rw [hi52, w51]
        have := hm 8
        exact wrap_i64_in (by clear hi36 hb13 hb14 hb15 hb16 hb17 hb18 hb19 hb20 hb21 hb22 hb23 hb24 hb25 hb26 hb27 hb28 hb29 hi37 hi38 hi39 hi40 hi41 hi42 hi43 hi44 hi45 hi46 hi47 hi48 hi49 hi50 hi51 hi52 hb30 hb31 hb32 hb33 hb34 hb35 hb36 hb37 hb38 hb39 hb40 hb41 hb42 hb43 hb44 hb45 hb46 hb47 hi53 hb48 hb49 hb50 hi54 hb51 hb52 hb53 hi55 hb54 hb55 hb56 hi56 hb57 hb58 hb59 hi57 hb60 hb61 hb62 hi58 hb63 hb64 hb65 hi59 hb66 hb67 hb68 hi60 hb69 hb70 hb71 hi61 hb72 hb73 hb74 hi62 hb75 hb76 hb77 hi63 hb78 hb79 hb80 hi64 hb81 hb82 hb83 hi65 hb84 hb85 hb86 hi66 hb87 hb88 hb89 hi67 hi68; omega) (by clear hi36 hb13 hb14 hb15 hb16 hb17 hb18 hb19 hb20 hb21 hb22 hb23 hb24 hb25 hb26 hb27 hb28 hb29 hi37 hi38 hi39 hi40 hi41 hi42 hi43 hi44 hi45 hi46 hi47 hi48 hi49 hi50 hi51 hi52 hb30 hb31 hb32 hb33 hb34 hb35 hb36 hb37 hb38 hb39 hb40 hb41 hb42 hb43 hb44 hb45 hb46 hb47 hi53 hb48 hb49 hb50 hi54 hb51 hb52 hb53 hi55 hb54 hb55 hb56 hi56 hb57 hb58 hb59 hi57 hb60 hb61 hb62 hi58 hb63 hb64 hb65 hi59 hb66 hb67 hb68 hi60 hb69 hb70 hb71 hi61 hb72 hb73 hb74 hi62 hb75 hb76 hb77 hi63 hb78 hb79 hb80 hi64 hb81 hb82 hb83 hi65 hb84 hb85 hb86 hi66 hb87 hb88 hb89 hi67 hi68; omega)
      simp [hi53, hi54, hi55, hi56, hi57, hi58, hi59, hi60, hi61, hi62, hi63, hi64, hi65, hi66, hi67, hi68, hb32, hb33, hb34, hb35, hb36, hb37, hb38, hb39, hb40, hb41, hb42, hb43, hb44, hb45, hb46, hb47, hb48, hb49, hb50, hb51, hb52, hb53, hb54, hb55, hb56, hb57, hb58, hb59, hb60, hb61, hb62, hb63, hb64, hb65, hb66, hb67, hb68, hb69, hb70, hb71, hb72, hb73, hb74, hb75, hb76, hb77, hb78, hb79, hb80, hb81, hb82, hb83, hb84, hb85, hb86, hb87, hb88, hb89, w36, w52]
    · have w51 : ρ.i 51 = mt t 9 i.toNat := by simp [hi37, hi38, hi39, hi40, hi41, hi42, hi43, hi44, hi45, hi46, hi47, hi48, hi49, hi50, hi51, hb15, hb16, hb17, hb18, hb19, hb20, hb21, hb22, hb23, hb24, hb25, hb26, hb27, hb28, hb29, w36]
      have w52 : ρ.i 52 = mt t 9 i.toNat + 1 := by
        rw [hi52, w51]
        have := hm 9
        exact wrap_i64_in (by clear hi36 hb13 hb14 hb15 hb16 hb17 hb18 hb19 hb20 hb21 hb22 hb23 hb24 hb25 hb26 hb27 hb28 hb29 hi37 hi38 hi39 hi40 hi41 hi42 hi43 hi44 hi45 hi46 hi47 hi48 hi49 hi50 hi51 hi52 hb30 hb31 hb32 hb33 hb34 hb35 hb36 hb37 hb38 hb39 hb40 hb41 hb42 hb43 hb44 hb45 hb46 hb47 hi53 hb48 hb49 hb50 hi54 hb51 hb52 hb53 hi55 hb54 hb55 hb56 hi56 hb57 hb58 hb59 hi57 hb60 hb61 hb62 hi58 hb63 hb64 hb65 hi59 hb66 hb67 hb68 hi60 hb69 hb70 hb71 hi61 hb72 hb73 hb74 hi62 hb75 hb76 hb77 hi63 hb78 hb79 hb80 hi64 hb81 hb82 hb83 hi65 hb84 hb85 hb86 hi66 hb87 hb88 hb89 hi67 hi68; omega) (by clear hi36 hb13 hb14 hb15 hb16 hb17 hb18 hb19 hb20 hb21 hb22 hb23 hb24 hb25 hb26 hb27 hb28 hb29 hi37 hi38 hi39 hi40 hi41 hi42 hi43 hi44 hi45 hi46 hi47 hi48 hi49 hi50 hi51 hi52 hb30 hb31 hb32 hb33 hb34 hb35 hb36 hb37 hb38 hb39 hb40 hb41 hb42 hb43 hb44 hb45 hb46 hb47 hi53 hb48 hb49 hb50 hi54 hb51 hb52 hb53 hi55 hb54 hb55 hb56 hi56 hb57 hb58 hb59 hi57 hb60 hb61 hb62 hi58 hb63 hb64 hb65 hi59 hb66 hb67 hb68 hi60 hb69 hb70 hb71 hi61 hb72 hb73 hb74 hi62 hb75 hb76 hb77 hi63 hb78 hb79 hb80 hi64 hb81 hb82 hb83 hi65 hb84 hb85 hb86 hi66 hb87 hb88 hb89 hi67 hi68; omega)
      simp [hi53, hi54, hi55, hi56, hi57, hi58, hi59, hi60, hi61, hi62, hi63, hi64, hi65, hi66, hi67, hi68, hb32, hb33, hb34, hb35, hb36, hb37, hb38, hb39, hb40, hb41, hb42, hb43, hb44, hb45, hb46, hb47, hb48, hb49, hb50, hb51, hb52, hb53, hb54, hb55, hb56, hb57, hb58, hb59, hb60, hb61, hb62, hb63, hb64, hb65, hb66, hb67, hb68, hb69, hb70, hb71, hb72, hb73, hb74, hb75, hb76, hb77, hb78, hb79, hb80, hb81, hb82, hb83, hb84, hb85, hb86, hb87, hb88, hb89, w36, w52]
    · have w51 : ρ.i 51 = mt t 10 i.toNat := by simp [hi37, hi38, hi39, hi40, hi41, hi42, hi43, hi44, hi45, hi46, hi47, hi48, hi49, hi50, hi51, hb15, hb16, hb17, hb18, hb19, hb20, hb21, hb22, hb23, hb24, hb25, hb26, hb27, hb28, hb29, w36]
      have w52 : ρ.i 52 = mt t 10 i.toNat + 1 := by
        rw [hi52, w51]
        have := hm 10
        exact wrap_i64_in (by clear hi36 hb13 hb14 hb15 hb16 hb17 hb18 hb19 hb20 hb21 hb22 hb23 hb24 hb25 hb26 hb27 hb28 hb29 hi37 hi38 hi39 hi40 hi41 hi42 hi43 hi44 hi45 hi46 hi47 hi48 hi49 hi50 hi51 hi52 hb30 hb31 hb32 hb33 hb34 hb35 hb36 hb37 hb38 hb39 hb40 hb41 hb42 hb43 hb44 hb45 hb46 hb47 hi53 hb48 hb49 hb50 hi54 hb51 hb52 hb53 hi55 hb54 hb55 hb56 hi56 hb57 hb58 hb59 hi57 hb60 hb61 hb62 hi58 hb63 hb64 hb65 hi59 hb66 hb67 hb68 hi60 hb69 hb70 hb71 hi61 hb72 hb73 hb74 hi62 hb75 hb76 hb77 hi63 hb78 hb79 hb80 hi64 hb81 hb82 hb83 hi65 hb84 hb85 hb86 hi66 hb87 hb88 hb89 hi67 hi68; omega) (by clear hi36 hb13 hb14 hb15 hb16 hb17 hb18 hb19 hb20 hb21 hb22 hb23 hb24 hb25 hb26 hb27 hb28 hb29 hi37 hi38 hi39 hi40 hi41 hi42 hi43 hi44 hi45 hi46 hi47 hi48 hi49 hi50 hi51 hi52 hb30 hb31 hb32 hb33 hb34 hb35 hb36 hb37 hb38 hb39 hb40 hb41 hb42 hb43 hb44 hb45 hb46 hb47 hi53 hb48 hb49 hb50 hi54 hb51 hb52 hb53 hi55 hb54 hb55 hb56 hi56 hb57 hb58 hb59 hi57 hb60 hb61 hb62 hi58 hb63 hb64 hb65 hi59 hb66 hb67 hb68 hi60 hb69 hb70 hb71 hi61 hb72 hb73 hb74 hi62 hb75 hb76 hb77 hi63 hb78 hb79 hb80 hi64 hb81 hb82 hb83 hi65 hb84 hb85 hb86 hi66 hb87 hb88 hb89 hi67 hi68; omega)
      simp [hi53, hi54, hi55, hi56, hi57, hi58, hi59, hi60, hi61, hi62, hi63, hi64, hi65, hi66, hi67, hi68, hb32, hb33, hb34, hb35, hb36, hb37, hb38, hb39, hb40, hb41, hb42, hb43, hb44, hb45, hb46, hb47, hb48, hb49, hb50, hb51, hb52, hb53, hb54, hb55, hb56, hb57, hb58, hb59, hb60, hb61, hb62, hb63, hb64, hb65, hb66, hb67, hb68, hb69, hb70, hb71, hb72, hb73, hb74, hb75, hb76, hb77, hb78, hb79, hb80, hb81, hb82, hb83, hb84, hb85, hb86, hb87, hb88, hb89, w36, w52]
    · have w51 : ρ.i 51 = mt t 11 i.toNat := by simp [hi37, hi38, hi39, hi40, hi41, hi42, hi43, hi44, hi45, hi46, hi47, hi48, hi49, hi50, hi51, hb15, hb16, hb17, hb18, hb19, hb20, hb21, hb22, hb23, hb24, hb25, hb26, hb27, hb28, hb29, w36]
      have w52 : ρ.i 52 = mt t 11 i.toNat + 1 := by
        rw [hi52, w51]
        have := hm 11
        exact wrap_i64_in (by clear hi36 hb13 hb14 hb15 hb16 hb17 hb18 hb19 hb20 hb21 hb22 hb23 hb24 hb25 hb26 hb27 hb28 hb29 hi37 hi38 hi39 hi40 hi41 hi42 hi43 hi44 hi45 hi46 hi47 hi48 hi49 hi50 hi51 hi52 hb30 hb31 hb32 hb33 hb34 hb35 hb36 hb37 hb38 hb39 hb40 hb41 hb42 hb43 hb44 hb45 hb46 hb47 hi53 hb48 hb49 hb50 hi54 hb51 hb52 hb53 hi55 hb54 hb55 hb56 hi56 hb57 hb58 hb59 hi57 hb60 hb61 hb62 hi58 hb63 hb64 hb65 hi59 hb66 hb67 hb68 hi60 hb69 hb70 hb71 hi61 hb72 hb73 hb74 hi62 hb75 hb76 hb77 hi63 hb78 hb79 hb80 hi64 hb81 hb82 hb83 hi65 hb84 hb85 hb86 hi66 hb87 hb88 hb89 hi67 hi68; omega) (by clear hi36 hb13 hb14 hb15 hb16 hb17 hb18 hb19 hb20 hb21 hb22 hb23 hb24 hb25 hb26 hb27 hb28 hb29 hi37 hi38 hi39 hi40 hi41 hi42 hi43 hi44 hi45 hi46 hi47 hi48 hi49 hi50 hi51 hi52 hb30 hb31 hb32 hb33 hb34 hb35 hb36 hb37 hb38 hb39 hb40 hb41 hb42 hb43 hb44 hb45 hb46 hb47 hi53 hb48 hb49 hb50 hi54 hb51 hb52 hb53 hi55 hb54 hb55 hb56 hi56 hb57 hb58 hb59 hi57 hb60 hb61 hb62 hi58 hb63 hb64 hb65 hi59 hb66 hb67 hb68 hi60 hb69 hb70 hb71 hi61 hb72 hb73 hb74 hi62 hb75 hb76 hb77 hi63 hb78 hb79 hb80 hi64 hb81 hb82 hb83 hi65 hb84 hb85 hb86 hi66 hb87 hb88 hb89 hi67 hi68; omega)
      simp [hi53, hi54, hi55, hi56, hi57, hi58, hi59, hi60, hi61, hi62, hi63, hi64, hi65, hi66, hi67, hi68, hb32, hb33, hb34, hb35, hb36, hb37, hb38, hb39, hb40, hb41, hb42, hb43, hb44, hb45, hb46, hb47, hb48, hb49, hb50, hb51, hb52, hb53, hb54, hb55, hb56, hb57, hb58, hb59, hb60, hb61, hb62, hb63, hb64, hb65, hb66, hb67, hb68, hb69, hb70, hb71, hb72, hb73, hb74, hb75, hb76, hb77, hb78, hb79, hb80, hb81, hb82, hb83, hb84, hb85, hb86, hb87, hb88, hb89, w36, w52]
    · have w51 : ρ.i 51 = mt t 12 i.toNat := by simp [hi37, hi38, hi39, hi40, hi41, hi42, hi43, hi44, hi45, hi46, hi47, hi48, hi49, hi50, hi51, hb15, hb16, hb17, hb18, hb19, hb20, hb21, hb22, hb23, hb24, hb25, hb26, hb27, hb28, hb29, w36]
      have w52 : ρ.i 52 = mt t 12 i.toNat + 1 := by
        rw [hi52, w51]
        have := hm 12
        exact wrap_i64_in (by clear hi36 hb13 hb14 hb15 hb16 hb17 hb18 hb19 hb20 hb21 hb22 hb23 hb24 hb25 hb26 hb27 hb28 hb29 hi37 hi38 hi39 hi40 hi41 hi42 hi43 hi44 hi45 hi46 hi47 hi48 hi49 hi50 hi51 hi52 hb30 hb31 hb32 hb33 hb34 hb35 hb36 hb37 hb38 hb39 hb40 hb41 hb42 hb43 hb44 hb45 hb46 hb47 hi53 hb48 hb49 hb50 hi54 hb51 hb52 hb53 hi55 hb54 hb55 hb56 hi56 hb57 hb58 hb59 hi57 hb60 hb61 hb62 hi58 hb63 hb64 hb65 hi59 hb66 hb67 hb68 hi60 hb69 hb70 hb71 hi61 hb72 hb73 hb74 hi62 hb75 hb76 hb77 hi63 hb78 hb79 hb80 hi64 hb81 hb82 hb83 hi65 hb84 hb85 hb86 hi66 hb87 hb88 hb89 hi67 hi68; omega) (by clear hi36 hb13 hb14 hb15 hb16 hb17 hb18 hb19 hb20 hb21 hb22 hb23 hb24 hb25 hb26 hb27 hb28 hb29 hi37 hi38 hi39 hi40 hi41 hi42 hi43 hi44 hi45 hi46 hi47 hi48 hi49 hi50 hi51 hi52 hb30 hb31 hb32 hb33 hb34 hb35 hb36 hb37 hb38 hb39 hb40 hb41 hb42 hb43 hb44 hb45 hb46 hb47 hi53 hb48 hb49 hb50 hi54 hb51 hb52 hb53 hi55 hb54 hb55 hb56 hi56 hb57 hb58 hb59 hi57 hb60 hb61 hb62 hi58 hb63 hb64 hb65 hi59 hb66 hb67 hb68 hi60 hb69 hb70 hb71 hi61 hb72 hb73 hb74 hi62 hb75 hb76 hb77 hi63 hb78 hb79 hb80 hi64 hb81 hb82 hb83 hi65 hb84 hb85 hb86 hi66 hb87 hb88 hb89 hi67 hi68; omega)
      simp [hi53, hi54, hi55, hi56, hi57, hi58, hi59, hi60, hi61, hi62, hi63, hi64, hi65, hi66, hi67, hi68, hb32, hb33, hb34, hb35, hb36, hb37, hb38, hb39, hb40, hb41, hb42, hb43, hb44, hb45, hb46, hb47, hb48, hb49, hb50, hb51, hb52, hb53, hb54, hb55, hb56, hb57, hb58, hb59, hb60, hb61, hb62, hb63, hb64, hb65, hb66, hb67, hb68, hb69, hb70, hb71, hb72, hb73, hb74, hb75, hb76, hb77, hb78, hb79, hb80, hb81, hb82, hb83, hb84, hb85, hb86, hb87, hb88, hb89, w36, w52]
    · have w51 : ρ.i 51 = mt t 13 i.toNat := by simp [hi37, hi38, hi39, hi40, hi41, hi42, hi43, hi44, hi45, hi46, hi47, hi48, hi49, hi50, hi51, hb15, hb16, hb17, hb18, hb19, hb20, hb21, hb22, hb23, hb24, hb25, hb26, hb27, hb28, hb29, w36]
      have w52 : ρ.i 52 = mt t 13 i.toNat + 1 := by
        rw [hi52, w51]
        have := hm 13
        exact wrap_i64_in (by clear hi36 hb13 hb14 hb15 hb16 hb17 hb18 hb19 hb20 hb21 hb22 hb23 hb24 hb25 hb26 hb27 hb28 hb29 hi37 hi38 hi39 hi40 hi41 hi42 hi43 hi44 hi45 hi46 hi47 hi48 hi49 hi50 hi51 hi52 hb30 hb31 hb32 hb33 hb34 hb35 hb36 hb37 hb38 hb39 hb40 hb41 hb42 hb43 hb44 hb45 hb46 hb47 hi53 hb48 hb49 hb50 hi54 hb51 hb52 hb53 hi55 hb54 hb55 hb56 hi56 hb57 hb58 hb59 hi57 hb60 hb61 hb62 hi58 hb63 hb64 hb65 hi59 hb66 hb67 hb68 hi60 hb69 hb70 hb71 hi61 hb72 hb73 hb74 hi62 hb75 hb76 hb77 hi63 hb78 hb79 hb80 hi64 hb81 hb82 hb83 hi65 hb84 hb85 hb86 hi66 hb87 hb88 hb89 hi67 hi68; omega) (by clear hi36 hb13 hb14 hb15 hb16 hb17 hb18 hb19 hb20 hb21 hb22 hb23 hb24 hb25 hb26 hb27 hb28 hb29 hi37 hi38 hi39 hi40 hi41 hi42 hi43 hi44 hi45 hi46 hi47 hi48 hi49 hi50 hi51 hi52 hb30 hb31 hb32 hb33 hb34 hb35 hb36 hb37 hb38 hb39 hb40 hb41 hb42 hb43 hb44 hb45 hb46 hb47 hi53 hb48 hb49 hb50 hi54 hb51 hb52 hb53 hi55 hb54 hb55 hb56 hi56 hb57 hb58 hb59 hi57 hb60 hb61 hb62 hi58 hb63 hb64 hb65 hi59 hb66 hb67 hb68 hi60 hb69 hb70 hb71 hi61 hb72 hb73 hb74 hi62 hb75 hb76 hb77 hi63 hb78 hb79 hb80 hi64 hb81 hb82 hb83 hi65 hb84 hb85 hb86 hi66 hb87 hb88 hb89 hi67 hi68; omega)
      simp [hi53, hi54, hi55, hi56, hi57, hi58, hi59, hi60, hi61, hi62, hi63, hi64, hi65, hi66, hi67, hi68, hb32, hb33, hb34, hb35, hb36, hb37, hb38, hb39, hb40, hb41, hb42, hb43, hb44, hb45, hb46, hb47, hb48, hb49, hb50, hb51, hb52, hb53, hb54, hb55, hb56, hb57, hb58, hb59, hb60, hb61, hb62, hb63, hb64, hb65, hb66, hb67, hb68, hb69, hb70, hb71, hb72, hb73, hb74, hb75, hb76, hb77, hb78, hb79, hb80, hb81, hb82, hb83, hb84, hb85, hb86, hb87, hb88, hb89, w36, w52]
    · have w51 : ρ.i 51 = mt t 14 i.toNat := by simp [hi37, hi38, hi39, hi40, hi41, hi42, hi43, hi44, hi45, hi46, hi47, hi48, hi49, hi50, hi51, hb15, hb16, hb17, hb18, hb19, hb20, hb21, hb22, hb23, hb24, hb25, hb26, hb27, hb28, hb29, w36]
      have w52 : ρ.i 52 = mt t 14 i.toNat + 1 := by
        rw [hi52, w51]
        have := hm 14
        exact wrap_i64_in (by clear hi36 hb13 hb14 hb15 hb16 hb17 hb18 hb19 hb20 hb21 hb22 hb23 hb24 hb25 hb26 hb27 hb28 hb29 hi37 hi38 hi39 hi40 hi41 hi42 hi43 hi44 hi45 hi46 hi47 hi48 hi49 hi50 hi51 hi52 hb30 hb31 hb32 hb33 hb34 hb35 hb36 hb37 hb38 hb39 hb40 hb41 hb42 hb43 hb44 hb45 hb46 hb47 hi53 hb48 hb49 hb50 hi54 hb51 hb52 hb53 hi55 hb54 hb55 hb56 hi56 hb57 hb58 hb59 hi57 hb60 hb61 hb62 hi58 hb63 hb64 hb65 hi59 hb66 hb67 hb68 hi60 hb69 hb70 hb71 hi61 hb72 hb73 hb74 hi62 hb75 hb76 hb77 hi63 hb78 hb79 hb80 hi64 hb81 hb82 hb83 hi65 hb84 hb85 hb86 hi66 hb87 hb88 hb89 hi67 hi68; omega) (by clear hi36 hb13 hb14 hb15 hb16 hb17 hb18 hb19 hb20 hb21 hb22 hb23 hb24 hb25 hb26 hb27 hb28 hb29 hi37 hi38 hi39 hi40 hi41 hi42 hi43 hi44 hi45 hi46 hi47 hi48 hi49 hi50 hi51 hi52 hb30 hb31 hb32 hb33 hb34 hb35 hb36 hb37 hb38 hb39 hb40 hb41 hb42 hb43 hb44 hb45 hb46 hb47 hi53 hb48 hb49 hb50 hi54 hb51 hb52 hb53 hi55 hb54 hb55 hb56 hi56 hb57 hb58 hb59 hi57 hb60 hb61 hb62 hi58 hb63 hb64 hb65 hi59 hb66 hb67 hb68 hi60 hb69 hb70 hb71 hi61 hb72 hb73 hb74 hi62 hb75 hb76 hb77 hi63 hb78 hb79 hb80 hi64 hb81 hb82 hb83 hi65 hb84 hb85 hb86 hi66 hb87 hb88 hb89 hi67 hi68; omega)
      simp [hi53, hi54, hi55, hi56, hi57, hi58, hi59, hi60, hi61, hi62, hi63, hi64, hi65, hi66, hi67, hi68, hb32, hb33, hb34, hb35, hb36, hb37, hb38, hb39, hb40, hb41, hb42, hb43, hb44, hb45, hb46, hb47, hb48, hb49, hb50, hb51, hb52, hb53, hb54, hb55, hb56, hb57, hb58, hb59, hb60, hb61, hb62, hb63, hb64, hb65, hb66, hb67, hb68, hb69, hb70, hb71, hb72, hb73, hb74, hb75, hb76, hb77, hb78, hb79, hb80, hb81, hb82, hb83, hb84, hb85, hb86, hb87, hb88, hb89, w36, w52]
    · have w51 : ρ.i 51 = mt t 15 i.toNat := by simp [hi37, hi38, hi39, hi40, hi41, hi42, hi43, hi44, hi45, hi46, hi47, hi48, hi49, hi50, hi51, hb15, hb16, hb17, hb18, hb19, hb20, hb21, hb22, hb23, hb24, hb25, hb26, hb27, hb28, hb29, w36]
      have w52 : ρ.i 52 = mt t 15 i.toNat + 1 := by
        rw [hi52, w51]
        have := hm 15
        exact wrap_i64_in (by clear hi36 hb13 hb14 hb15 hb16 hb17 hb18 hb19 hb20 hb21 hb22 hb23 hb24 hb25 hb26 hb27 hb28 hb29 hi37 hi38 hi39 hi40 hi41 hi42 hi43 hi44 hi45 hi46 hi47 hi48 hi49 hi50 hi51 hi52 hb30 hb31 hb32 hb33 hb34 hb35 hb36 hb37 hb38 hb39 hb40 hb41 hb42 hb43 hb44 hb45 hb46 hb47 hi53 hb48 hb49 hb50 hi54 hb51 hb52 hb53 hi55 hb54 hb55 hb56 hi56 hb57 hb58 hb59 hi57 hb60 hb61 hb62 hi58 hb63 hb64 hb65 hi59 hb66 hb67 hb68 hi60 hb69 hb70 hb71 hi61 hb72 hb73 hb74 hi62 hb75 hb76 hb77 hi63 hb78 hb79 hb80 hi64 hb81 hb82 hb83 hi65 hb84 hb85 hb86 hi66 hb87 hb88 hb89 hi67 hi68; omega) (by clear hi36 hb13 hb14 hb15 hb16 hb17 hb18 hb19 hb20 hb21 hb22 hb23 hb24 hb25 hb26 hb27 hb28 hb29 hi37 hi38 hi39 hi40 hi41 hi42 hi43 hi44 hi45 hi46 hi47 hi48 hi49 hi50 hi51 hi52 hb30 hb31 hb32 hb33 hb34 hb35 hb36 hb37 hb38 hb39 hb40 hb41 hb42 hb43 hb44 hb45 hb46 hb47 hi53 hb48 hb49 hb50 hi54 hb51 hb52 hb53 hi55 hb54 hb55 hb56 hi56 hb57 hb58 hb59 hi57 hb60 hb61 hb62 hi58 hb63 hb64 hb65 hi59 hb66 hb67 hb68 hi60 hb69 hb70 hb71 hi61 hb72 hb73 hb74 hi62 hb75 hb76 hb77 hi63 hb78 hb79 hb80 hi64 hb81 hb82 hb83 hi65 hb84 hb85 hb86 hi66 hb87 hb88 hb89 hi67 hi68; omega)
      simp [hi53, hi54, hi55, hi56, hi57, hi58, hi59, hi60, hi61, hi62, hi63, hi64, hi65, hi66, hi67, hi68, hb32, hb33, hb34, hb35, hb36, hb37, hb38, hb39, hb40, hb41, hb42, hb43, hb44, hb45, hb46, hb47, hb48, hb49, hb50, hb51, hb52, hb53, hb54, hb55, hb56, hb57, hb58, hb59, hb60, hb61, hb62, hb63, hb64, hb65, hb66, hb67, hb68, hb69, hb70, hb71, hb72, hb73, hb74, hb75, hb76, hb77, hb78, hb79, hb80, hb81, hb82, hb83, hb84, hb85, hb86, hb87, hb88, hb89, w36, w52]
  refine ⟨ρ.b 108, _, List.cons_eq_cons.2 ⟨?_, rfl⟩, fun hc => ?_, fun hc => ?_⟩
  · simp only [z13, z14, z30, z31, List.getD_cons_zero]
    cases ρ.b 12 <;> rfl
  · rw [w108] at hc
    have hc' := hc
    rw [hb12] at hc'
    simp only [decide_eq_false_iff_not] at hc'
    have hi : i = 32 := by clear hb12 hi35 hi36 hb13 hb14 hb15 hb16 hb17 hb18 hb19 hb20 hb21 hb22 hb23 hb24 hb25 hb26 hb27 hb28 hb29 hi37 hi38 hi39 hi40 hi41 hi42 hi43 hi44 hi45 hi46 hi47 hi48 hi49 hi50 hi51 hi52 hb30 hb31 hb32 hb33 hb34 hb35 hb36 hb37 hb38 hb39 hb40 hb41 hb42 hb43 hb44 hb45 hb46 hb47 hi53 hb48 hb49 hb50 hi54 hb51 hb52 hb53 hi55 hb54 hb55 hb56 hi56 hb57 hb58 hb59 hi57 hb60 hb61 hb62 hi58 hb63 hb64 hb65 hi59 hb66 hb67 hb68 hi60 hb69 hb70 hb71 hi61 hb72 hb73 hb74 hi62 hb75 hb76 hb77 hi63 hb78 hb79 hb80 hi64 hb81 hb82 hb83 hi65 hb84 hb85 hb86 hi66 hb87 hb88 hb89 hi67 hi68 hi69 hi70 hi71 hi72 hi73 hi74 hi75 hi76 hi77 hi78 hi79 hb90 hb91 hb92 hb93 hb94 hb95 hb96 hb97 hb98 hi80 hi81 hi82 hi83 hi84 hi85 hb99 hb100 hb101 hb102 hi86 hb103 hb104 hb105 hi87 hb106 hb107 hb108 hb109 hb110 q1 q2 q3 hmet; omega
    have w110 : ρ.b 110 = true := by rw [hb110, hc]; rfl
    subst hi
    refine Prod.ext ?_ ?_
    · show [32, a0, a1, a2, a3, a4, ((s - 32) % 8), 0, 0, a8, a9, a10, 1, 1, b2, ((t + 32) % 32), 0, 0, (mt t 0 32), (mt t 1 32), (mt t 2 32), (mt t 3 32), (mt t 4 32), (mt t 5 32), (mt t 6 32), (mt t 7 32), (mt t 8 32), (mt t 9 32), (mt t 10 32), (mt t 11 32), (mt t 12 32), (mt t 13 32), (mt t 14 32), (mt t 15 32)] = [32, a0, a1, a2, a3, a4, s, 0, 0, a8, a9, a10, 1, 1, b2, t, 0, 0, 2, 2, 2, 2, 2, 2, 2, 2, 2, 2, 2, 2, 2, 2, 2, 2]
      rw [show (s - 32) % 8 = s by clear hb12 hi35 hi36 hb13 hb14 hb15 hb16 hb17 hb18 hb19 hb20 hb21 hb22 hb23 hb24 hb25 hb26 hb27 hb28 hb29 hi37 hi38 hi39 hi40 hi41 hi42 hi43 hi44 hi45 hi46 hi47 hi48 hi49 hi50 hi51 hi52 hb30 hb31 hb32 hb33 hb34 hb35 hb36 hb37 hb38 hb39 hb40 hb41 hb42 hb43 hb44 hb45 hb46 hb47 hi53 hb48 hb49 hb50 hi54 hb51 hb52 hb53 hi55 hb54 hb55 hb56 hi56 hb57 hb58 hb59 hi57 hb60 hb61 hb62 hi58 hb63 hb64 hb65 hi59 hb66 hb67 hb68 hi60 hb69 hb70 hb71 hi61 hb72 hb73 hb74 hi62 hb75 hb76 hb77 hi63 hb78 hb79 hb80 hi64 hb81 hb82 hb83 hi65 hb84 hb85 hb86 hi66 hb87 hb88 hb89 hi67 hi68 hi69 hi70 hi71 hi72 hi73 hi74 hi75 hi76 hi77 hi78 hi79 hb90 hb91 hb92 hb93 hb94 hb95 hb96 hb97 hb98 hi80 hi81 hi82 hi83 hi84 hi85 hb99 hb100 hb101 hb102 hi86 hb103 hb104 hb105 hi87 hb106 hb107 hb108 hb109 hb110 q1 q2 q3 hmet; omega, show (t + 32) % 32 = t by clear hb12 hi35 hi36 hb13 hb14 hb15 hb16 hb17 hb18 hb19 hb20 hb21 hb22 hb23 hb24 hb25 hb26 hb27 hb28 hb29 hi37 hi38 hi39 hi40 hi41 hi42 hi43 hi44 hi45 hi46 hi47 hi48 hi49 hi50 hi51 hi52 hb30 hb31 hb32 hb33 hb34 hb35 hb36 hb37 hb38 hb39 hb40 hb41 hb42 hb43 hb44 hb45 hb46 hb47 hi53 hb48 hb49 hb50 hi54 hb51 hb52 hb53 hi55 hb54 hb55 hb56 hi56 hb57 hb58 hb59 hi57 hb60 hb61 hb62 hi58 hb63 hb64 hb65 hi59 hb66 hb67 hb68 hi60 hb69 hb70 hb71 hi61 hb72 hb73 hb74 hi62 hb75 hb76 hb77 hi63 hb78 hb79 hb80 hi64 hb81 hb82 hb83 hi65 hb84 hb85 hb86 hi66 hb87 hb88 hb89 hi67 hi68 hi69 hi70 hi71 hi72 hi73 hi74 hi75 hi76 hi77 hi78 hi79 hb90 hb91 hb92 hb93 hb94 hb95 hb96 hb97 hb98 hi80 hi81 hi82 hi83 hi84 hi85 hb99 hb100 hb101 hb102 hi86 hb103 hb104 hb105 hi87 hb106 hb107 hb108 hb109 hb110 q1 q2 q3 hmet; omega, mt_end t 0 ht (by decide), mt_end t 1 ht (by decide), mt_end t 2 ht (by decide), mt_end t 3 ht (by decide), mt_end t 4 ht (by decide), mt_end t 5 ht (by decide), mt_end t 6 ht (by decide), mt_end t 7 ht (by decide), mt_end t 8 ht (by decide), mt_end t 9 ht (by decide), mt_end t 10 ht (by decide), mt_end t 11 ht (by decide), mt_end t 12 ht (by decide), mt_end t 13 ht (by decide), mt_end t 14 ht (by decide), mt_end t 15 ht (by decide)]
    · show [ρ.b 109, ρ.b 110, ρ.b 12, y0, y1, y2, y3, y4, y5, y6, y7, y8, y9, y10, y11] = [false, true, false, y0, y1, y2, y3, y4, y5, y6, y7, y8, y9, y10, y11]
      rw [w109, w110, hc]
  · rw [w108, hb12] at hc
    simp only [decide_eq_true_eq] at hc
    refine ⟨⟨i + 1, ?_, ?_, by clear hb12 hi35 hi36 hb13 hb14 hb15 hb16 hb17 hb18 hb19 hb20 hb21 hb22 hb23 hb24 hb25 hb26 hb27 hb28 hb29 hi37 hi38 hi39 hi40 hi41 hi42 hi43 hi44 hi45 hi46 hi47 hi48 hi49 hi50 hi51 hi52 hb30 hb31 hb32 hb33 hb34 hb35 hb36 hb37 hb38 hb39 hb40 hb41 hb42 hb43 hb44 hb45 hb46 hb47 hi53 hb48 hb49 hb50 hi54 hb51 hb52 hb53 hi55 hb54 hb55 hb56 hi56 hb57 hb58 hb59 hi57 hb60 hb61 hb62 hi58 hb63 hb64 hb65 hi59 hb66 hb67 hb68 hi60 hb69 hb70 hb71 hi61 hb72 hb73 hb74 hi62 hb75 hb76 hb77 hi63 hb78 hb79 hb80 hi64 hb81 hb82 hb83 hi65 hb84 hb85 hb86 hi66 hb87 hb88 hb89 hi67 hi68 hi69 hi70 hi71 hi72 hi73 hi74 hi75 hi76 hi77 hi78 hi79 hb90 hb91 hb92 hb93 hb94 hb95 hb96 hb97 hb98 hi80 hi81 hi82 hi83 hi84 hi85 hb99 hb100 hb101 hb102 hi86 hb103 hb104 hb105 hi87 hb106 hb107 hb108 hb109 hb110 q1 q2 q3 hmet; omega, by clear hb12 hi35 hi36 hb13 hb14 hb15 hb16 hb17 hb18 hb19 hb20 hb21 hb22 hb23 hb24 hb25 hb26 hb27 hb28 hb29 hi37 hi38 hi39 hi40 hi41 hi42 hi43 hi44 hi45 hi46 hi47 hi48 hi49 hi50 hi51 hi52 hb30 hb31 hb32 hb33 hb34 hb35 hb36 hb37 hb38 hb39 hb40 hb41 hb42 hb43 hb44 hb45 hb46 hb47 hi53 hb48 hb49 hb50 hi54 hb51 hb52 hb53 hi55 hb54 hb55 hb56 hi56 hb57 hb58 hb59 hi57 hb60 hb61 hb62 hi58 hb63 hb64 hb65 hi59 hb66 hb67 hb68 hi60 hb69 hb70 hb71 hi61 hb72 hb73 hb74 hi62 hb75 hb76 hb77 hi63 hb78 hb79 hb80 hi64 hb81 hb82 hb83 hi65 hb84 hb85 hb86 hi66 hb87 hb88 hb89 hi67 hi68 hi69 hi70 hi71 hi72 hi73 hi74 hi75 hi76 hi77 hi78 hi79 hb90 hb91 hb92 hb93 hb94 hb95 hb96 hb97 hb98 hi80 hi81 hi82 hi83 hi84 hi85 hb99 hb100 hb101 hb102 hi86 hb103 hb104 hb105 hi87 hb106 hb107 hb108 hb109 hb110 q1 q2 q3 hmet; omega⟩, ?_⟩
    · simp only [List.cons.injEq, and_true] at hmet
      obtain ⟨k0, k1, k2, k3, k4, k5, k6, k7, k8, k9, k10, k11, k12, k13, k14, k15⟩ := hmet
      simp only [List.take_succ_cons, List.take_zero, w87, p0, p1, p2, p3, p4, p5, p6, p7, p8, p9, p10, r0_, r1_, r2_, r3_, r4_, r5_, k0, k1, k2, k3, k4, k5, k6, k7, k8, k9, k10, k11, k12, k13, k14, k15]
    · simp only [List.take_succ_cons, List.take_zero, u0, u1, u2, u3, u4, u5, u6, u7, u8, u9, u10, u11]
    · simp only [List.take_succ_cons, List.take_zero, List.getD_cons_zero, List.getD_cons_succ, w87]
      clear hb12 hi35 hi36 hb13 hb14 hb15 hb16 hb17 hb18 hb19 hb20 hb21 hb22 hb23 hb24 hb25 hb26 hb27 hb28 hb29 hi37 hi38 hi39 hi40 hi41 hi42 hi43 hi44 hi45 hi46 hi47 hi48 hi49 hi50 hi51 hi52 hb30 hb31 hb32 hb33 hb34 hb35 hb36 hb37 hb38 hb39 hb40 hb41 hb42 hb43 hb44 hb45 hb46 hb47 hi53 hb48 hb49 hb50 hi54 hb51 hb52 hb53 hi55 hb54 hb55 hb56 hi56 hb57 hb58 hb59 hi57 hb60 hb61 hb62 hi58 hb63 hb64 hb65 hi59 hb66 hb67 hb68 hi60 hb69 hb70 hb71 hi61 hb72 hb73 hb74 hi62 hb75 hb76 hb77 hi63 hb78 hb79 hb80 hi64 hb81 hb82 hb83 hi65 hb84 hb85 hb86 hi66 hb87 hb88 hb89 hi67 hi68 hi69 hi70 hi71 hi72 hi73 hi74 hi75 hi76 hi77 hi78 hi79 hb90 hb91 hb92 hb93 hb94 hb95 hb96 hb97 hb98 hi80 hi81 hi82 hi83 hi84 hi85 hb99 hb100 hb101 hb102 hi86 hb103 hb104 hb105 hi87 hb106 hb107 hb108 hb109 hb110 q1 q2 q3 hmet
      omega
end Go.Proofs.YtoempcgniokpiaaDoor.Td
