/-
  TonePulse answers true. WRITTEN BY PROGRAM (wip/gen/ta8.py). No condition.
-/
import Derived.Test.YtoempcgniokpiaaDoorTaO
import Derived.Test.YtoempcgniokpiaaDoorTaQ
set_option linter.unusedVariables false
set_option linter.unusedSimpArgs false
namespace Go.Proofs.YtoempcgniokpiaaDoor.Ta
open Go Go.Proofs.YtoempcgniokpiaaDoor.Sx

set_option maxRecDepth 10000 in
theorem pulse (i0 i1 i2 i3 i4 i5 i6 i7 i8 i9 i10 i11 i12 i13 i14 i15 i16 i17 i18 i19 i20 i21 i22 i23 i24 i25 : Int) (b0 b1 b2 b3 b4 b5 b6 b7 b8 b9 b10 b11 b12 b13 b14 b15 b16 b17 : Bool) (h0 : 0 ≤ i0) (h1 : 0 ≤ i1) (h2 : 0 ≤ i2) (h3 : 0 ≤ i3) (h4 : 0 ≤ i4) (h5 : 0 ≤ i5) (h6 : 0 ≤ i6) (h7 : 0 ≤ i7) (h8 : 0 ≤ i8) (h9 : 0 ≤ i9) (h10 : 0 ≤ i10) (h25 : 0 ≤ i25 ∧ i25 ≤ 255) : F13 [i0, i1, i2, i3, i4, i5, i6, i7, i8, i9, i10, i11, i12, i13, i14, i15, i16, i17, i18, i19, i20, i21, i22, i23, i24, i25] [b0, b1, b2, b3, b4, b5, b6, b7, b8, b9, b10, b11, b12, b13, b14, b15, b16, b17] = ([], [true, true]) := by
  unfold F13
  obtain ⟨ρ, e1, e2, e3, e4⟩ := Smry.run_specT (Φ := tabF T49) (S := S13) (is := [i0, i1, i2, i3, i4, i5, i6, i7, i8, i9, i10, i11, i12, i13, i14, i15, i16, i17, i18, i19, i20, i21, i22, i23, i24, i25]) (bs := [b0, b1, b2, b3, b4, b5, b6, b7, b8, b9, b10, b11, b12, b13, b14, b15, b16, b17]) rfl
  rw [e1, obAll_eq]
  clear e1
  simp only [S13, obs, Gd.d_cons, Gd.d_nil, eqns, Em.eqn, headsI, headsB, RI.d, RB.d, A.d, B.d, cm_eql, cm_neq, cm_lss, cm_leq, cm_gtr, cm_geq, List.map_cons, List.map_nil, and_true, Nat.zero_add, Nat.reduceAdd, ltn, upto, true_and, Nat.add_zero, List.getD_cons_zero, List.getD_cons_succ, add8, sub8, add16, sub16, mul16, wrap_u8, wrap_u16, and8_1, and8_7, and8_8, and8_15, and8_16, and8_31, and8_32, and8_64, and8_127, and8_128, and16_1, and16_255, and16_1792, shr8_1, shr8_3, shr8_4, shr8_6, shr16_1, shr16_6, shr16_8, shl16_8, shl16_14] at e2 e3 e4 ⊢
  simp only [e2, e3] at e4 ⊢
  rw [show tabF T49 31 = F31 by rfl] at e4
  rw [show tabF T49 32 = F32 by rfl] at e4
  rw [show tabF T49 35 = F35 by rfl] at e4
  rw [show tabF T49 36 = F36 by rfl] at e4
  rw [show tabF T49 37 = F37 by rfl] at e4
  rw [show tabF T49 41 = F41 by rfl] at e4
  rw [show tabF T49 60 = F60 by rfl] at e4
  rw [show tabF T49 61 = F61 by rfl] at e4
  rw [show tabF T49 62 = F62 by rfl] at e4
  rw [show tabF T49 63 = F63 by rfl] at e4
  rw [show tabF T49 64 = F64 by rfl] at e4
  rw [show tabF T49 65 = F65 by rfl] at e4
  rw [v37, q32 (h0 := h0) (h1 := h1) (h2 := h2) (h3 := h3) (h4 := h4) (h5 := h5) (h6 := h6) (h7 := h7) (h8 := h8) (h9 := h9) (h10 := h10) (h12 := h25), q60 (h0 := h0) (h1 := h1) (h2 := h2) (h3 := h3) (h4 := h4) (h5 := h5) (h6 := h6) (h7 := h7) (h8 := h8) (h9 := h9) (h10 := h10), p63 (h0 := h0) (h1 := h1) (h2 := h2), q35 (h0 := h0) (h1 := h1) (h2 := h2) (h3 := h3) (h4 := h4) (h5 := h5) (h6 := h6) (h7 := h7) (h8 := h8) (h9 := h9) (h10 := h10), q36 (h0 := h0) (h1 := h1) (h2 := h2) (h3 := h3) (h4 := h4) (h5 := h5) (h6 := h6) (h7 := h7) (h8 := h8) (h9 := h9) (h10 := h10), awake31, o61 (h12 := h25), o64 (h6 := h6) (h9 := h9), o65 (h6 := h6) (h9 := h9)] at e4
  simp only [List.getD_cons_zero, List.getD_cons_succ] at e4
  generalize okP i0 i1 i2 i4 i5 i6 i7 i8 i9 i10 = x at e4
  have hi26 := e4.1.1.1
  have hi27 := e4.1.1.2.1
  have hi28 := e4.1.1.2.2
  have hb18 := e4.1.2.1
  have hb19 := e4.1.2.2.1
  have hb20 := e4.1.2.2.2
  have r0 := e4.2
  clear e4
  have hb21 := r0.1
  have r1 := r0.2
  clear r0
  have hb22 := r1.1
  have r2 := r1.2
  clear r1
  have hb23 := r2.1
  have r3 := r2.2
  clear r2
  have hb24 := r3.1
  have r4 := r3.2
  clear r3
  have hb25 := r4.1
  have r5 := r4.2
  clear r4
  have hi29 := r5.1
  have r6 := r5.2
  clear r5
  have hi30 := r6.1
  have r7 := r6.2
  clear r6
  have hi31 := r7.1
  have r8 := r7.2
  clear r7
  have hi32 := r8.1.1.1
  have hi33 := r8.1.1.2.1
  have hi34 := r8.1.1.2.2.1
  have hi35 := r8.1.1.2.2.2.1
  have hi36 := r8.1.1.2.2.2.2.1
  have hi37 := r8.1.1.2.2.2.2.2.1
  have hi38 := r8.1.1.2.2.2.2.2.2.1
  have hi39 := r8.1.1.2.2.2.2.2.2.2.1
  have hi40 := r8.1.1.2.2.2.2.2.2.2.2.1
  have hi41 := r8.1.1.2.2.2.2.2.2.2.2.2.1
  have hi42 := r8.1.1.2.2.2.2.2.2.2.2.2.2
  have hb26 := r8.1.2.1
  have hb27 := r8.1.2.2.1
  have hb28 := r8.1.2.2.2.1
  have hb29 := r8.1.2.2.2.2.1
  have hb30 := r8.1.2.2.2.2.2.1
  have hb31 := r8.1.2.2.2.2.2.2.1
  have hb32 := r8.1.2.2.2.2.2.2.2.1
  have hb33 := r8.1.2.2.2.2.2.2.2.2.1
  have hb34 := r8.1.2.2.2.2.2.2.2.2.2.1
  have hb35 := r8.1.2.2.2.2.2.2.2.2.2.2
  have r9 := r8.2
  clear r8
  have hi43 := r9.1.1.1
  have hi44 := r9.1.1.2.1
  have hi45 := r9.1.1.2.2.1
  have hi46 := r9.1.1.2.2.2.1
  have hi47 := r9.1.1.2.2.2.2.1
  have hi48 := r9.1.1.2.2.2.2.2.1
  have hi49 := r9.1.1.2.2.2.2.2.2.1
  have hi50 := r9.1.1.2.2.2.2.2.2.2.1
  have hi51 := r9.1.1.2.2.2.2.2.2.2.2.1
  have hi52 := r9.1.1.2.2.2.2.2.2.2.2.2.1
  have hi53 := r9.1.1.2.2.2.2.2.2.2.2.2.2
  have hb36 := r9.1.2.1
  have hb37 := r9.1.2.2.1
  have hb38 := r9.1.2.2.2.1
  have hb39 := r9.1.2.2.2.2.1
  have hb40 := r9.1.2.2.2.2.2.1
  have hb41 := r9.1.2.2.2.2.2.2.1
  have hb42 := r9.1.2.2.2.2.2.2.2.1
  have hb43 := r9.1.2.2.2.2.2.2.2.2.1
  have hb44 := r9.1.2.2.2.2.2.2.2.2.2.1
  have hb45 := r9.1.2.2.2.2.2.2.2.2.2.2
  have r10 := r9.2
  clear r9
  have hb46 := r10.1
  have r11 := r10.2
  clear r10
  have hb47 := r11.1
  have r12 := r11.2
  clear r11
  have hb48 := r12.1
  have r13 := r12.2
  clear r12
  have hb49 := r13.1
  have r14 := r13.2
  clear r13
  have hb50 := r14.1
  have r15 := r14.2
  clear r14
  have hb51 := r15.1
  have r16 := r15.2
  clear r15
  have hb52 := r16.1
  have r17 := r16.2
  clear r16
  have hb53 := r17.1
  have r18 := r17.2
  clear r17
  have hb54 := r18.1
  have r19 := r18.2
  clear r18
  have hb55 := r19.1
  have r20 := r19.2
  clear r19
  have hb56 := r20.1
  have r21 := r20.2
  clear r20
  have hb57 := r21.1
  have r22 := r21.2
  clear r21
  have hb58 := r22.1
  have r23 := r22.2
  clear r22
  have hb59 := r23.1
  have r24 := r23.2
  clear r23
  have hb60 := r24.1
  have r25 := r24.2
  clear r24
  have hb61 := r25.1
  have r26 := r25.2
  clear r25
  have hb62 := r26.1
  have r27 := r26.2
  clear r26
  have hb63 := r27.1
  have r28 := r27.2
  clear r27
  have hb64 := r28.1
  have r29 := r28.2
  clear r28
  have hb65 := r29.1
  have r30 := r29.2
  clear r29
  have hb66 := r30.1
  have r31 := r30.2
  clear r30
  have hb67 := r31.1
  have r32 := r31.2
  clear r31
  have hb68 := r32.1
  have r33 := r32.2
  clear r32
  have hb69 := r33.1
  have r34 := r33.2
  clear r33
  have hb70 := r34.1
  have r35 := r34.2
  clear r34
  have hb71 := r35.1
  have r36 := r35.2
  clear r35
  have hb72 := r36.1
  have r37 := r36.2
  clear r36
  have hb73 := r37.1
  have r38 := r37.2
  clear r37
  have hb74 := r38.1
  have r39 := r38.2
  clear r38
  have hb75 := r39.1
  have r40 := r39.2
  clear r39
  have hb76 := r40.1
  have r41 := r40.2
  clear r40
  have hb77 := r41.1
  have r42 := r41.2
  clear r41
  have hb78 := r42.1
  have r43 := r42.2
  clear r42
  have hb79 := r43.1
  have r44 := r43.2
  clear r43
  have hb80 := r44.1
  have r45 := r44.2
  clear r44
  have hb81 := r45.1
  have r46 := r45.2
  clear r45
  have hb82 := r46.1
  have r47 := r46.2
  clear r46
  have hb83 := r47.1
  have r48 := r47.2
  clear r47
  have hb84 := r48.1
  have r49 := r48.2
  clear r48
  have hi54 := r49.1.1.1
  have hi55 := r49.1.1.2.1
  have hi56 := r49.1.1.2.2.1
  have hi57 := r49.1.1.2.2.2.1
  have hi58 := r49.1.1.2.2.2.2.1
  have hi59 := r49.1.1.2.2.2.2.2.1
  have hi60 := r49.1.1.2.2.2.2.2.2.1
  have hi61 := r49.1.1.2.2.2.2.2.2.2.1
  have hi62 := r49.1.1.2.2.2.2.2.2.2.2.1
  have hi63 := r49.1.1.2.2.2.2.2.2.2.2.2.1
  have hi64 := r49.1.1.2.2.2.2.2.2.2.2.2.2
  have hb85 := r49.1.2.1
  have hb86 := r49.1.2.2.1
  have hb87 := r49.1.2.2.2.1
  have hb88 := r49.1.2.2.2.2.1
  have hb89 := r49.1.2.2.2.2.2.1
  have hb90 := r49.1.2.2.2.2.2.2.1
  have hb91 := r49.1.2.2.2.2.2.2.2.1
  have hb92 := r49.1.2.2.2.2.2.2.2.2.1
  have hb93 := r49.1.2.2.2.2.2.2.2.2.2
  have r50 := r49.2
  clear r49
  have hi65 := r50.1.1.1
  have hi66 := r50.1.1.2.1
  have hi67 := r50.1.1.2.2.1
  have hi68 := r50.1.1.2.2.2.1
  have hi69 := r50.1.1.2.2.2.2.1
  have hi70 := r50.1.1.2.2.2.2.2.1
  have hi71 := r50.1.1.2.2.2.2.2.2.1
  have hi72 := r50.1.1.2.2.2.2.2.2.2.1
  have hi73 := r50.1.1.2.2.2.2.2.2.2.2.1
  have hi74 := r50.1.1.2.2.2.2.2.2.2.2.2.1
  have hi75 := r50.1.1.2.2.2.2.2.2.2.2.2.2
  have hb94 := r50.1.2.1
  have hb95 := r50.1.2.2.1
  have hb96 := r50.1.2.2.2.1
  have hb97 := r50.1.2.2.2.2.1
  have hb98 := r50.1.2.2.2.2.2.1
  have hb99 := r50.1.2.2.2.2.2.2.1
  have hb100 := r50.1.2.2.2.2.2.2.2.1
  have hb101 := r50.1.2.2.2.2.2.2.2.2.1
  have hb102 := r50.1.2.2.2.2.2.2.2.2.2
  have r51 := r50.2
  clear r50
  have hb103 := r51.1
  have r52 := r51.2
  clear r51
  have hb104 := r52.1
  have r53 := r52.2
  clear r52
  have hb105 := r53.1
  have r54 := r53.2
  clear r53
  have hb106 := r54.1
  have r55 := r54.2
  clear r54
  have hb107 := r55.1
  have r56 := r55.2
  clear r55
  have hb108 := r56.1
  have r57 := r56.2
  clear r56
  have hb109 := r57.1
  have r58 := r57.2
  clear r57
  have hb110 := r58.1
  have r59 := r58.2
  clear r58
  have hb111 := r59.1
  have r60 := r59.2
  clear r59
  have hb112 := r60.1
  have r61 := r60.2
  clear r60
  have hb113 := r61.1
  have r62 := r61.2
  clear r61
  have hb114 := r62.1
  have r63 := r62.2
  clear r62
  have hb115 := r63.1
  have r64 := r63.2
  clear r63
  have hb116 := r64.1
  have r65 := r64.2
  clear r64
  have hb117 := r65.1
  have r66 := r65.2
  clear r65
  have hb118 := r66.1
  have r67 := r66.2
  clear r66
  have hb119 := r67.1
  have r68 := r67.2
  clear r67
  have hb120 := r68.1
  have r69 := r68.2
  clear r68
  have hb121 := r69.1
  have r70 := r69.2
  clear r69
  have hb122 := r70.1
  have r71 := r70.2
  clear r70
  have hb123 := r71.1
  have r72 := r71.2
  clear r71
  have hb124 := r72.1
  have r73 := r72.2
  clear r72
  have hb125 := r73.1
  have r74 := r73.2
  clear r73
  have hb126 := r74.1
  have r75 := r74.2
  clear r74
  have hb127 := r75.1
  have r76 := r75.2
  clear r75
  have hb128 := r76.1
  have r77 := r76.2
  clear r76
  have hb129 := r77.1
  have r78 := r77.2
  clear r77
  have hb130 := r78.1
  have r79 := r78.2
  clear r78
  have hb131 := r79.1
  have r80 := r79.2
  clear r79
  have hb132 := r80.1
  have r81 := r80.2
  clear r80
  have hb133 := r81.1
  have r82 := r81.2
  clear r81
  have hb134 := r82.1
  have r83 := r82.2
  clear r82
  have hb135 := r83.1
  have r84 := r83.2
  clear r83
  have hb136 := r84.1
  have r85 := r84.2
  clear r84
  have hb137 := r85.1
  have r86 := r85.2
  clear r85
  have hb138 := r86.1
  have r87 := r86.2
  clear r86
  have hb139 := r87.1
  have r88 := r87.2
  clear r87
  have hb140 := r88.1
  have r89 := r88.2
  clear r88
  have hb141 := r89.1
  have r90 := r89.2
  clear r89
  have hb142 := r90.1
  have r91 := r90.2
  clear r90
  have hi76 := r91.1.1.1
  have hi77 := r91.1.1.2.1
  have hi78 := r91.1.1.2.2.1
  have hi79 := r91.1.1.2.2.2.1
  have hi80 := r91.1.1.2.2.2.2.1
  have hi81 := r91.1.1.2.2.2.2.2.1
  have hi82 := r91.1.1.2.2.2.2.2.2.1
  have hi83 := r91.1.1.2.2.2.2.2.2.2.1
  have hi84 := r91.1.1.2.2.2.2.2.2.2.2.1
  have hi85 := r91.1.1.2.2.2.2.2.2.2.2.2.1
  have hi86 := r91.1.1.2.2.2.2.2.2.2.2.2.2
  have hb143 := r91.1.2.1
  have hb144 := r91.1.2.2.1
  have hb145 := r91.1.2.2.2.1
  have hb146 := r91.1.2.2.2.2.1
  have hb147 := r91.1.2.2.2.2.2.1
  have hb148 := r91.1.2.2.2.2.2.2.1
  have hb149 := r91.1.2.2.2.2.2.2.2.1
  have hb150 := r91.1.2.2.2.2.2.2.2.2.1
  have hb151 := r91.1.2.2.2.2.2.2.2.2.2
  have r92 := r91.2
  clear r91
  have hb152 := r92.1
  have r93 := r92.2
  clear r92
  have hb153 := r93.1
  have r94 := r93.2
  clear r93
  have hb154 := r94.1
  have r95 := r94.2
  clear r94
  have hb155 := r95.1
  have r96 := r95.2
  clear r95
  have hb156 := r96.1
  have r97 := r96.2
  clear r96
  have hb157 := r97.1
  have r98 := r97.2
  clear r97
  have hb158 := r98.1
  have r99 := r98.2
  clear r98
  have hb159 := r99.1
  have r100 := r99.2
  clear r99
  have hb160 := r100.1
  have r101 := r100.2
  clear r100
  have hb161 := r101.1
  have r102 := r101.2
  clear r101
  have hb162 := r102.1
  have r103 := r102.2
  clear r102
  have hb163 := r103.1
  have r104 := r103.2
  clear r103
  have hb164 := r104.1
  have r105 := r104.2
  clear r104
  have hb165 := r105.1
  have r106 := r105.2
  clear r105
  have hb166 := r106.1
  have r107 := r106.2
  clear r106
  have hb167 := r107.1
  have r108 := r107.2
  clear r107
  have hb168 := r108.1
  have r109 := r108.2
  clear r108
  have hb169 := r109.1
  have r110 := r109.2
  clear r109
  have hb170 := r110.1
  have r111 := r110.2
  clear r110
  have hb171 := r111.1
  have r112 := r111.2
  clear r111
  have hb172 := r112.1
  have r113 := r112.2
  clear r112
  have hb173 := r113.1
  have r114 := r113.2
  clear r113
  have hb174 := r114.1
  have r115 := r114.2
  clear r114
  have hb175 := r115.1
  have r116 := r115.2
  clear r115
  have hb176 := r116.1
  have r117 := r116.2
  clear r116
  have hb177 := r117.1
  have r118 := r117.2
  clear r117
  have hb178 := r118.1
  have r119 := r118.2
  clear r118
  have hb179 := r119.1
  have r120 := r119.2
  clear r119
  have hb180 := r120.1
  have r121 := r120.2
  clear r120
  have hb181 := r121.1
  have r122 := r121.2
  clear r121
  have hb182 := r122.1
  have r123 := r122.2
  clear r122
  have hb183 := r123.1
  have r124 := r123.2
  clear r123
  have hb184 := r124.1
  have r125 := r124.2
  clear r124
  have hb185 := r125.1
  have r126 := r125.2
  clear r125
  have hb186 := r126.1
  have r127 := r126.2
  clear r126
  have hb187 := r127.1
  have r128 := r127.2
  clear r127
  have hb188 := r128.1
  have r129 := r128.2
  clear r128
  have hb189 := r129.1
  have r130 := r129.2
  clear r129
  have hb190 := r130.1
  have r131 := r130.2
  clear r130
  have hb191 := r131.1
  have r132 := r131.2
  clear r131
  have hi87 := r132.1.1.1
  have hi88 := r132.1.1.2.1
  have hi89 := r132.1.1.2.2.1
  have hi90 := r132.1.1.2.2.2.1
  have hi91 := r132.1.1.2.2.2.2.1
  have hi92 := r132.1.1.2.2.2.2.2.1
  have hi93 := r132.1.1.2.2.2.2.2.2.1
  have hi94 := r132.1.1.2.2.2.2.2.2.2.1
  have hi95 := r132.1.1.2.2.2.2.2.2.2.2.1
  have hi96 := r132.1.1.2.2.2.2.2.2.2.2.2.1
  have hi97 := r132.1.1.2.2.2.2.2.2.2.2.2.2
  have hb192 := r132.1.2.1
  have hb193 := r132.1.2.2.1
  have hb194 := r132.1.2.2.2.1
  have hb195 := r132.1.2.2.2.2.1
  have hb196 := r132.1.2.2.2.2.2.1
  have hb197 := r132.1.2.2.2.2.2.2.1
  have hb198 := r132.1.2.2.2.2.2.2.2.1
  have hb199 := r132.1.2.2.2.2.2.2.2.2.1
  have hb200 := r132.1.2.2.2.2.2.2.2.2.2.1
  have hb201 := r132.1.2.2.2.2.2.2.2.2.2.2
  have r133 := r132.2
  clear r132
  have hi98 := r133.1.1.1
  have hi99 := r133.1.1.2.1
  have hi100 := r133.1.1.2.2.1
  have hi101 := r133.1.1.2.2.2.1
  have hi102 := r133.1.1.2.2.2.2.1
  have hi103 := r133.1.1.2.2.2.2.2.1
  have hi104 := r133.1.1.2.2.2.2.2.2.1
  have hi105 := r133.1.1.2.2.2.2.2.2.2.1
  have hi106 := r133.1.1.2.2.2.2.2.2.2.2.1
  have hi107 := r133.1.1.2.2.2.2.2.2.2.2.2.1
  have hi108 := r133.1.1.2.2.2.2.2.2.2.2.2.2
  have hb202 := r133.1.2.1
  have hb203 := r133.1.2.2.1
  have hb204 := r133.1.2.2.2.1
  have hb205 := r133.1.2.2.2.2.1
  have hb206 := r133.1.2.2.2.2.2.1
  have hb207 := r133.1.2.2.2.2.2.2.1
  have hb208 := r133.1.2.2.2.2.2.2.2.1
  have hb209 := r133.1.2.2.2.2.2.2.2.2.1
  have hb210 := r133.1.2.2.2.2.2.2.2.2.2.1
  have hb211 := r133.1.2.2.2.2.2.2.2.2.2.2
  have r134 := r133.2
  clear r133
  have hb212 := r134.1
  have r135 := r134.2
  clear r134
  have hb213 := r135.1
  have r136 := r135.2
  clear r135
  have hb214 := r136.1
  have r137 := r136.2
  clear r136
  have hb215 := r137.1
  have r138 := r137.2
  clear r137
  have hb216 := r138.1
  have r139 := r138.2
  clear r138
  have hb217 := r139.1
  have r140 := r139.2
  clear r139
  have hb218 := r140.1
  have r141 := r140.2
  clear r140
  have hb219 := r141.1
  have r142 := r141.2
  clear r141
  have hb220 := r142.1
  have r143 := r142.2
  clear r142
  have hb221 := r143.1
  have r144 := r143.2
  clear r143
  have hb222 := r144.1
  have r145 := r144.2
  clear r144
  have hb223 := r145.1
  have r146 := r145.2
  clear r145
  have hb224 := r146.1
  have r147 := r146.2
  clear r146
  have hb225 := r147.1
  have r148 := r147.2
  clear r147
  have hb226 := r148.1
  have r149 := r148.2
  clear r148
  have hb227 := r149.1
  have r150 := r149.2
  clear r149
  have hb228 := r150.1
  have r151 := r150.2
  clear r150
  have hb229 := r151.1
  have r152 := r151.2
  clear r151
  have hb230 := r152.1
  have r153 := r152.2
  clear r152
  have hb231 := r153.1
  have r154 := r153.2
  clear r153
  have hb232 := r154.1
  have r155 := r154.2
  clear r154
  have hb233 := r155.1
  have r156 := r155.2
  clear r155
  have hb234 := r156.1
  have r157 := r156.2
  clear r156
  have hb235 := r157.1
  have r158 := r157.2
  clear r157
  have hb236 := r158.1
  have r159 := r158.2
  clear r158
  have hb237 := r159.1
  have r160 := r159.2
  clear r159
  have hb238 := r160.1
  have r161 := r160.2
  clear r160
  have hb239 := r161.1
  have r162 := r161.2
  clear r161
  have hb240 := r162.1
  have r163 := r162.2
  clear r162
  have hb241 := r163.1
  have r164 := r163.2
  clear r163
  have hb242 := r164.1
  have r165 := r164.2
  clear r164
  have hb243 := r165.1
  have r166 := r165.2
  clear r165
  have hb244 := r166.1
  have r167 := r166.2
  clear r166
  have hb245 := r167.1
  have r168 := r167.2
  clear r167
  have hb246 := r168.1
  have r169 := r168.2
  clear r168
  have hb247 := r169.1
  have r170 := r169.2
  clear r169
  have hb248 := r170.1
  have r171 := r170.2
  clear r170
  have hb249 := r171.1
  have r172 := r171.2
  clear r171
  have hb250 := r172.1
  have r173 := r172.2
  clear r172
  have hb251 := r173.1
  have r174 := r173.2
  clear r173
  have hi109 := r174.1.1
  have hb252 := r174.1.2
  have r175 := r174.2
  clear r174
  have hi110 := r175.1.1
  have hb253 := r175.1.2
  have r176 := r175.2
  clear r175
  have hb254 := r176.1
  have r177 := r176.2
  clear r176
  have hb255 := r177.1
  have r178 := r177.2
  clear r177
  have hb256 := r178.1.1
  have hb257 := r178.1.2
  have r179 := r178.2
  clear r178
  have hb258 := r179
  have t46 : ρ.b 46 = true := by
    rw [hb46, hb27, hb37]
    first | exact beq_self_eq_true _ | (simp only [hb23, hb24, hb25, hi29, hi30, hi31, hb22, hb21, hb18, hb19, hb20, hi26, hi27, hi28]; cases x <;> simp)
  have t47 : ρ.b 47 = true := by
    rw [hb47, hb28, hb38]
    first | exact beq_self_eq_true _ | (simp only [hb23, hb24, hb25, hi29, hi30, hi31, hb22, hb21, hb18, hb19, hb20, hi26, hi27, hi28]; cases x <;> simp)
  have t48 : ρ.b 48 = true := by
    rw [hb48, hb29, hb39]
    first | exact beq_self_eq_true _ | (simp only [hb23, hb24, hb25, hi29, hi30, hi31, hb22, hb21, hb18, hb19, hb20, hi26, hi27, hi28]; cases x <;> simp)
  have t49 : ρ.b 49 = true := by
    rw [hb49, hb30, hb40]
    first | exact beq_self_eq_true _ | (simp only [hb23, hb24, hb25, hi29, hi30, hi31, hb22, hb21, hb18, hb19, hb20, hi26, hi27, hi28]; cases x <;> simp)
  have t50 : ρ.b 50 = true := by
    rw [hb50, hi32, hi43]
    first | exact beq_self_eq_true _ | (simp only [hb23, hb24, hb25, hi29, hi30, hi31, hb22, hb21, hb18, hb19, hb20, hi26, hi27, hi28]; cases x <;> simp)
  have t51 : ρ.b 51 = true := by
    rw [hb51, hi33, hi44]
    first | exact beq_self_eq_true _ | (simp only [hb23, hb24, hb25, hi29, hi30, hi31, hb22, hb21, hb18, hb19, hb20, hi26, hi27, hi28]; cases x <;> simp)
  have t52 : ρ.b 52 = true := by
    rw [hb52, hi34, hi45]
    first | exact beq_self_eq_true _ | (simp only [hb23, hb24, hb25, hi29, hi30, hi31, hb22, hb21, hb18, hb19, hb20, hi26, hi27, hi28]; cases x <;> simp)
  have t53 : ρ.b 53 = true := by rw [hb53, t51, t52]; rfl
  have t54 : ρ.b 54 = true := by rw [hb54, t50, t53]; rfl
  have t55 : ρ.b 55 = true := by rw [hb55, t49, t54]; rfl
  have t56 : ρ.b 56 = true := by rw [hb56, t48, t55]; rfl
  have t57 : ρ.b 57 = true := by rw [hb57, t47, t56]; rfl
  have t58 : ρ.b 58 = true := by
    rw [hb58, hb31, hb41]
    first | exact beq_self_eq_true _ | (simp only [hb23, hb24, hb25, hi29, hi30, hi31, hb22, hb21, hb18, hb19, hb20, hi26, hi27, hi28]; cases x <;> simp)
  have t59 : ρ.b 59 = true := by
    rw [hb59, hb32, hb42]
    first | exact beq_self_eq_true _ | (simp only [hb23, hb24, hb25, hi29, hi30, hi31, hb22, hb21, hb18, hb19, hb20, hi26, hi27, hi28]; cases x <;> simp)
  have t60 : ρ.b 60 = true := by
    rw [hb60, hi35, hi46]
    first | exact beq_self_eq_true _ | (simp only [hb23, hb24, hb25, hi29, hi30, hi31, hb22, hb21, hb18, hb19, hb20, hi26, hi27, hi28]; cases x <;> simp)
  have t61 : ρ.b 61 = true := by rw [hb61, t59, t60]; rfl
  have t62 : ρ.b 62 = true := by rw [hb62, t58, t61]; rfl
  have t63 : ρ.b 63 = true := by
    rw [hb63, hi36, hi47]
    first | exact beq_self_eq_true _ | (simp only [hb23, hb24, hb25, hi29, hi30, hi31, hb22, hb21, hb18, hb19, hb20, hi26, hi27, hi28]; cases x <;> simp)
  have t64 : ρ.b 64 = true := by
    rw [hb64, hi37, hi48]
    first | exact beq_self_eq_true _ | (simp only [hb23, hb24, hb25, hi29, hi30, hi31, hb22, hb21, hb18, hb19, hb20, hi26, hi27, hi28]; cases x <;> simp)
  have t65 : ρ.b 65 = true := by
    rw [hb65, hi38, hi49]
    first | exact beq_self_eq_true _ | (simp only [hb23, hb24, hb25, hi29, hi30, hi31, hb22, hb21, hb18, hb19, hb20, hi26, hi27, hi28]; cases x <;> simp)
  have t66 : ρ.b 66 = true := by
    rw [hb66, hi39, hi50]
    first | exact beq_self_eq_true _ | (simp only [hb23, hb24, hb25, hi29, hi30, hi31, hb22, hb21, hb18, hb19, hb20, hi26, hi27, hi28]; cases x <;> simp)
  have t67 : ρ.b 67 = true := by
    rw [hb67, hb33, hb43]
    first | exact beq_self_eq_true _ | (simp only [hb23, hb24, hb25, hi29, hi30, hi31, hb22, hb21, hb18, hb19, hb20, hi26, hi27, hi28]; cases x <;> simp)
  have t68 : ρ.b 68 = true := by
    rw [hb68, hb34, hb44]
    first | exact beq_self_eq_true _ | (simp only [hb23, hb24, hb25, hi29, hi30, hi31, hb22, hb21, hb18, hb19, hb20, hi26, hi27, hi28]; cases x <;> simp)
  have t69 : ρ.b 69 = true := by
    rw [hb69, hb35, hb45]
    first | exact beq_self_eq_true _ | (simp only [hb23, hb24, hb25, hi29, hi30, hi31, hb22, hb21, hb18, hb19, hb20, hi26, hi27, hi28]; cases x <;> simp)
  have t70 : ρ.b 70 = true := by
    rw [hb70, hi40, hi51]
    first | exact beq_self_eq_true _ | (simp only [hb23, hb24, hb25, hi29, hi30, hi31, hb22, hb21, hb18, hb19, hb20, hi26, hi27, hi28]; cases x <;> simp)
  have t71 : ρ.b 71 = true := by
    rw [hb71, hi41, hi52]
    first | exact beq_self_eq_true _ | (simp only [hb23, hb24, hb25, hi29, hi30, hi31, hb22, hb21, hb18, hb19, hb20, hi26, hi27, hi28]; cases x <;> simp)
  have t72 : ρ.b 72 = true := by
    rw [hb72, hi42, hi53]
    first | exact beq_self_eq_true _ | (simp only [hb23, hb24, hb25, hi29, hi30, hi31, hb22, hb21, hb18, hb19, hb20, hi26, hi27, hi28]; cases x <;> simp)
  have t73 : ρ.b 73 = true := by rw [hb73, t71, t72]; rfl
  have t74 : ρ.b 74 = true := by rw [hb74, t70, t73]; rfl
  have t75 : ρ.b 75 = true := by rw [hb75, t69, t74]; rfl
  have t76 : ρ.b 76 = true := by rw [hb76, t68, t75]; rfl
  have t77 : ρ.b 77 = true := by rw [hb77, t67, t76]; rfl
  have t78 : ρ.b 78 = true := by rw [hb78, t66, t77]; rfl
  have t79 : ρ.b 79 = true := by rw [hb79, t65, t78]; rfl
  have t80 : ρ.b 80 = true := by rw [hb80, t64, t79]; rfl
  have t81 : ρ.b 81 = true := by rw [hb81, t63, t80]; rfl
  have t82 : ρ.b 82 = true := by rw [hb82, t62, t81]; rfl
  have t83 : ρ.b 83 = true := by rw [hb83, t57, t82]; rfl
  have t84 : ρ.b 84 = true := by rw [hb84, t46, t83]; rfl
  have t103 : ρ.b 103 = true := by
    rw [hb103, hb85, hb94]
    first | exact beq_self_eq_true _ | (simp only [hb23, hb24, hb25, hi29, hi30, hi31, hb22, hb21, hb18, hb19, hb20, hi26, hi27, hi28]; cases x <;> simp)
  have t104 : ρ.b 104 = true := by
    rw [hb104, hb86, hb95]
    first | exact beq_self_eq_true _ | (simp only [hb23, hb24, hb25, hi29, hi30, hi31, hb22, hb21, hb18, hb19, hb20, hi26, hi27, hi28]; cases x <;> simp)
  have t105 : ρ.b 105 = true := by
    rw [hb105, hb87, hb96]
    first | exact beq_self_eq_true _ | (simp only [hb23, hb24, hb25, hi29, hi30, hi31, hb22, hb21, hb18, hb19, hb20, hi26, hi27, hi28]; cases x <;> simp)
  have t106 : ρ.b 106 = true := by
    rw [hb106, hb88, hb97]
    first | exact beq_self_eq_true _ | (simp only [hb23, hb24, hb25, hi29, hi30, hi31, hb22, hb21, hb18, hb19, hb20, hi26, hi27, hi28]; cases x <;> simp)
  have t107 : ρ.b 107 = true := by
    rw [hb107, hi54, hi65]
    first | exact beq_self_eq_true _ | (simp only [hb23, hb24, hb25, hi29, hi30, hi31, hb22, hb21, hb18, hb19, hb20, hi26, hi27, hi28]; cases x <;> simp)
  have t108 : ρ.b 108 = true := by
    rw [hb108, hi55, hi66]
    first | exact beq_self_eq_true _ | (simp only [hb23, hb24, hb25, hi29, hi30, hi31, hb22, hb21, hb18, hb19, hb20, hi26, hi27, hi28]; cases x <;> simp)
  have t109 : ρ.b 109 = true := by
    rw [hb109, hi56, hi67]
    first | exact beq_self_eq_true _ | (simp only [hb23, hb24, hb25, hi29, hi30, hi31, hb22, hb21, hb18, hb19, hb20, hi26, hi27, hi28]; cases x <;> simp)
  have t110 : ρ.b 110 = true := by rw [hb110, t108, t109]; rfl
  have t111 : ρ.b 111 = true := by rw [hb111, t107, t110]; rfl
  have t112 : ρ.b 112 = true := by rw [hb112, t106, t111]; rfl
  have t113 : ρ.b 113 = true := by rw [hb113, t105, t112]; rfl
  have t114 : ρ.b 114 = true := by rw [hb114, t104, t113]; rfl
  have t115 : ρ.b 115 = true := by
    rw [hb115, hb89, hb98]
    first | exact beq_self_eq_true _ | (simp only [hb23, hb24, hb25, hi29, hi30, hi31, hb22, hb21, hb18, hb19, hb20, hi26, hi27, hi28]; cases x <;> simp)
  have t116 : ρ.b 116 = true := by
    rw [hb116, hb90, hb99]
    first | exact beq_self_eq_true _ | (simp only [hb23, hb24, hb25, hi29, hi30, hi31, hb22, hb21, hb18, hb19, hb20, hi26, hi27, hi28]; cases x <;> simp)
  have t117 : ρ.b 117 = true := by
    rw [hb117, hi57, hi68]
    first | exact beq_self_eq_true _ | (simp only [hb23, hb24, hb25, hi29, hi30, hi31, hb22, hb21, hb18, hb19, hb20, hi26, hi27, hi28]; cases x <;> simp)
  have t118 : ρ.b 118 = true := by rw [hb118, t116, t117]; rfl
  have t119 : ρ.b 119 = true := by rw [hb119, t115, t118]; rfl
  have t120 : ρ.b 120 = true := by
    rw [hb120, hi58, hi69]
    first | exact beq_self_eq_true _ | (simp only [hb23, hb24, hb25, hi29, hi30, hi31, hb22, hb21, hb18, hb19, hb20, hi26, hi27, hi28]; cases x <;> simp)
  have t121 : ρ.b 121 = true := by
    rw [hb121, hi59, hi70]
    first | exact beq_self_eq_true _ | (simp only [hb23, hb24, hb25, hi29, hi30, hi31, hb22, hb21, hb18, hb19, hb20, hi26, hi27, hi28]; cases x <;> simp)
  have t122 : ρ.b 122 = true := by
    rw [hb122, hi60, hi71]
    first | exact beq_self_eq_true _ | (simp only [hb23, hb24, hb25, hi29, hi30, hi31, hb22, hb21, hb18, hb19, hb20, hi26, hi27, hi28]; cases x <;> simp)
  have t123 : ρ.b 123 = true := by
    rw [hb123, hi61, hi72]
    first | exact beq_self_eq_true _ | (simp only [hb23, hb24, hb25, hi29, hi30, hi31, hb22, hb21, hb18, hb19, hb20, hi26, hi27, hi28]; cases x <;> simp)
  have t124 : ρ.b 124 = true := by
    rw [hb124, hb91, hb100]
    first | exact beq_self_eq_true _ | (simp only [hb23, hb24, hb25, hi29, hi30, hi31, hb22, hb21, hb18, hb19, hb20, hi26, hi27, hi28]; cases x <;> simp)
  have t125 : ρ.b 125 = true := by
    rw [hb125, hb92, hb101]
    first | exact beq_self_eq_true _ | (simp only [hb23, hb24, hb25, hi29, hi30, hi31, hb22, hb21, hb18, hb19, hb20, hi26, hi27, hi28]; cases x <;> simp)
  have t126 : ρ.b 126 = true := by
    rw [hb126, hb93, hb102]
    first | exact beq_self_eq_true _ | (simp only [hb23, hb24, hb25, hi29, hi30, hi31, hb22, hb21, hb18, hb19, hb20, hi26, hi27, hi28]; cases x <;> simp)
  have t127 : ρ.b 127 = true := by
    rw [hb127, hi62, hi73]
    first | exact beq_self_eq_true _ | (simp only [hb23, hb24, hb25, hi29, hi30, hi31, hb22, hb21, hb18, hb19, hb20, hi26, hi27, hi28]; cases x <;> simp)
  have t128 : ρ.b 128 = true := by
    rw [hb128, hi63, hi74]
    first | exact beq_self_eq_true _ | (simp only [hb23, hb24, hb25, hi29, hi30, hi31, hb22, hb21, hb18, hb19, hb20, hi26, hi27, hi28]; cases x <;> simp)
  have t129 : ρ.b 129 = true := by
    rw [hb129, hi64, hi75]
    first | exact beq_self_eq_true _ | (simp only [hb23, hb24, hb25, hi29, hi30, hi31, hb22, hb21, hb18, hb19, hb20, hi26, hi27, hi28]; cases x <;> simp)
  have t130 : ρ.b 130 = true := by rw [hb130, t128, t129]; rfl
  have t131 : ρ.b 131 = true := by rw [hb131, t127, t130]; rfl
  have t132 : ρ.b 132 = true := by rw [hb132, t126, t131]; rfl
  have t133 : ρ.b 133 = true := by rw [hb133, t125, t132]; rfl
  have t134 : ρ.b 134 = true := by rw [hb134, t124, t133]; rfl
  have t135 : ρ.b 135 = true := by rw [hb135, t123, t134]; rfl
  have t136 : ρ.b 136 = true := by rw [hb136, t122, t135]; rfl
  have t137 : ρ.b 137 = true := by rw [hb137, t121, t136]; rfl
  have t138 : ρ.b 138 = true := by rw [hb138, t120, t137]; rfl
  have t139 : ρ.b 139 = true := by rw [hb139, t119, t138]; rfl
  have t140 : ρ.b 140 = true := by rw [hb140, t114, t139]; rfl
  have t141 : ρ.b 141 = true := by rw [hb141, t103, t140]; rfl
  have t142 : ρ.b 142 = true := by rw [hb142, t84, t141]; rfl
  have t152 : ρ.b 152 = true := by
    rw [hb152, hb143]
    first | exact beq_self_eq_true _ | (simp only [hb23, hb24, hb25, hi29, hi30, hi31, hb22, hb21, hb18, hb19, hb20, hi26, hi27, hi28]; cases x <;> simp)
  have t153 : ρ.b 153 = true := by
    rw [hb153, hb144, hb23]
    first | exact beq_self_eq_true _ | (simp only [hb23, hb24, hb25, hi29, hi30, hi31, hb22, hb21, hb18, hb19, hb20, hi26, hi27, hi28]; cases x <;> simp)
  have t154 : ρ.b 154 = true := by
    rw [hb154, hb145, hb24]
    first | exact beq_self_eq_true _ | (simp only [hb23, hb24, hb25, hi29, hi30, hi31, hb22, hb21, hb18, hb19, hb20, hi26, hi27, hi28]; cases x <;> simp)
  have t155 : ρ.b 155 = true := by
    rw [hb155, hb146, hb25]
    first | exact beq_self_eq_true _ | (simp only [hb23, hb24, hb25, hi29, hi30, hi31, hb22, hb21, hb18, hb19, hb20, hi26, hi27, hi28]; cases x <;> simp)
  have t156 : ρ.b 156 = true := by
    rw [hb156, hi76, hi29]
    first | exact beq_self_eq_true _ | (simp only [hb23, hb24, hb25, hi29, hi30, hi31, hb22, hb21, hb18, hb19, hb20, hi26, hi27, hi28]; cases x <;> simp)
  have t157 : ρ.b 157 = true := by
    rw [hb157, hi77, hi30]
    first | exact beq_self_eq_true _ | (simp only [hb23, hb24, hb25, hi29, hi30, hi31, hb22, hb21, hb18, hb19, hb20, hi26, hi27, hi28]; cases x <;> simp)
  have t158 : ρ.b 158 = true := by
    rw [hb158, hi78, hi31]
    first | exact beq_self_eq_true _ | (simp only [hb23, hb24, hb25, hi29, hi30, hi31, hb22, hb21, hb18, hb19, hb20, hi26, hi27, hi28]; cases x <;> simp)
  have t159 : ρ.b 159 = true := by rw [hb159, t157, t158]; rfl
  have t160 : ρ.b 160 = true := by rw [hb160, t156, t159]; rfl
  have t161 : ρ.b 161 = true := by rw [hb161, t155, t160]; rfl
  have t162 : ρ.b 162 = true := by rw [hb162, t154, t161]; rfl
  have t163 : ρ.b 163 = true := by rw [hb163, t153, t162]; rfl
  have t164 : ρ.b 164 = true := by
    rw [hb164, hb147]
    first | exact beq_self_eq_true _ | (simp only [hb23, hb24, hb25, hi29, hi30, hi31, hb22, hb21, hb18, hb19, hb20, hi26, hi27, hi28]; cases x <;> simp)
  have t165 : ρ.b 165 = true := by
    rw [hb165, hb148]
    first | exact beq_self_eq_true _ | (simp only [hb23, hb24, hb25, hi29, hi30, hi31, hb22, hb21, hb18, hb19, hb20, hi26, hi27, hi28]; cases x <;> simp)
  have t166 : ρ.b 166 = true := by
    rw [hb166, hi79]
    first | exact beq_self_eq_true _ | (simp only [hb23, hb24, hb25, hi29, hi30, hi31, hb22, hb21, hb18, hb19, hb20, hi26, hi27, hi28]; cases x <;> simp)
  have t167 : ρ.b 167 = true := by rw [hb167, t165, t166]; rfl
  have t168 : ρ.b 168 = true := by rw [hb168, t164, t167]; rfl
  have t169 : ρ.b 169 = true := by
    rw [hb169, hi80]
    first | exact beq_self_eq_true _ | (simp only [hb23, hb24, hb25, hi29, hi30, hi31, hb22, hb21, hb18, hb19, hb20, hi26, hi27, hi28]; cases x <;> simp)
  have t170 : ρ.b 170 = true := by
    rw [hb170, hi81]
    first | exact beq_self_eq_true _ | (simp only [hb23, hb24, hb25, hi29, hi30, hi31, hb22, hb21, hb18, hb19, hb20, hi26, hi27, hi28]; cases x <;> simp)
  have t171 : ρ.b 171 = true := by
    rw [hb171, hi82]
    first | exact beq_self_eq_true _ | (simp only [hb23, hb24, hb25, hi29, hi30, hi31, hb22, hb21, hb18, hb19, hb20, hi26, hi27, hi28]; cases x <;> simp)
  have t172 : ρ.b 172 = true := by
    rw [hb172, hi83]
    first | exact beq_self_eq_true _ | (simp only [hb23, hb24, hb25, hi29, hi30, hi31, hb22, hb21, hb18, hb19, hb20, hi26, hi27, hi28]; cases x <;> simp)
  have t173 : ρ.b 173 = true := by
    rw [hb173, hb149]
    first | exact beq_self_eq_true _ | (simp only [hb23, hb24, hb25, hi29, hi30, hi31, hb22, hb21, hb18, hb19, hb20, hi26, hi27, hi28]; cases x <;> simp)
  have t174 : ρ.b 174 = true := by
    rw [hb174, hb150]
    first | exact beq_self_eq_true _ | (simp only [hb23, hb24, hb25, hi29, hi30, hi31, hb22, hb21, hb18, hb19, hb20, hi26, hi27, hi28]; cases x <;> simp)
  have t175 : ρ.b 175 = true := by
    rw [hb175, hb151]
    first | exact beq_self_eq_true _ | (simp only [hb23, hb24, hb25, hi29, hi30, hi31, hb22, hb21, hb18, hb19, hb20, hi26, hi27, hi28]; cases x <;> simp)
  have t176 : ρ.b 176 = true := by
    rw [hb176, hi84]
    first | exact beq_self_eq_true _ | (simp only [hb23, hb24, hb25, hi29, hi30, hi31, hb22, hb21, hb18, hb19, hb20, hi26, hi27, hi28]; cases x <;> simp)
  have t177 : ρ.b 177 = true := by
    rw [hb177, hi85]
    first | exact beq_self_eq_true _ | (simp only [hb23, hb24, hb25, hi29, hi30, hi31, hb22, hb21, hb18, hb19, hb20, hi26, hi27, hi28]; cases x <;> simp)
  have t178 : ρ.b 178 = true := by
    rw [hb178, hi86]
    first | exact beq_self_eq_true _ | (simp only [hb23, hb24, hb25, hi29, hi30, hi31, hb22, hb21, hb18, hb19, hb20, hi26, hi27, hi28]; cases x <;> simp)
  have t179 : ρ.b 179 = true := by rw [hb179, t177, t178]; rfl
  have t180 : ρ.b 180 = true := by rw [hb180, t176, t179]; rfl
  have t181 : ρ.b 181 = true := by rw [hb181, t175, t180]; rfl
  have t182 : ρ.b 182 = true := by rw [hb182, t174, t181]; rfl
  have t183 : ρ.b 183 = true := by rw [hb183, t173, t182]; rfl
  have t184 : ρ.b 184 = true := by rw [hb184, t172, t183]; rfl
  have t185 : ρ.b 185 = true := by rw [hb185, t171, t184]; rfl
  have t186 : ρ.b 186 = true := by rw [hb186, t170, t185]; rfl
  have t187 : ρ.b 187 = true := by rw [hb187, t169, t186]; rfl
  have t188 : ρ.b 188 = true := by rw [hb188, t168, t187]; rfl
  have t189 : ρ.b 189 = true := by rw [hb189, t163, t188]; rfl
  have t190 : ρ.b 190 = true := by rw [hb190, t152, t189]; rfl
  have t191 : ρ.b 191 = true := by rw [hb191, t142, t190]; rfl
  have t212 : ρ.b 212 = true := by
    rw [hb212, hb193, hb203]
    first | exact beq_self_eq_true _ | (simp only [hb23, hb24, hb25, hi29, hi30, hi31, hb22, hb21, hb18, hb19, hb20, hi26, hi27, hi28]; cases x <;> simp)
  have t213 : ρ.b 213 = true := by
    rw [hb213, hb194, hb204]
    first | exact beq_self_eq_true _ | (simp only [hb23, hb24, hb25, hi29, hi30, hi31, hb22, hb21, hb18, hb19, hb20, hi26, hi27, hi28]; cases x <;> simp)
  have t214 : ρ.b 214 = true := by
    rw [hb214, hb195, hb205]
    first | exact beq_self_eq_true _ | (simp only [hb23, hb24, hb25, hi29, hi30, hi31, hb22, hb21, hb18, hb19, hb20, hi26, hi27, hi28]; cases x <;> simp)
  have t215 : ρ.b 215 = true := by
    rw [hb215, hb196, hb206]
    first | exact beq_self_eq_true _ | (simp only [hb23, hb24, hb25, hi29, hi30, hi31, hb22, hb21, hb18, hb19, hb20, hi26, hi27, hi28]; cases x <;> simp)
  have t216 : ρ.b 216 = true := by
    rw [hb216, hi87, hi98]
    first | exact beq_self_eq_true _ | (simp only [hb23, hb24, hb25, hi29, hi30, hi31, hb22, hb21, hb18, hb19, hb20, hi26, hi27, hi28]; cases x <;> simp)
  have t217 : ρ.b 217 = true := by
    rw [hb217, hi88, hi99]
    first | exact beq_self_eq_true _ | (simp only [hb23, hb24, hb25, hi29, hi30, hi31, hb22, hb21, hb18, hb19, hb20, hi26, hi27, hi28]; cases x <;> simp)
  have t218 : ρ.b 218 = true := by
    rw [hb218, hi89, hi100]
    first | exact beq_self_eq_true _ | (simp only [hb23, hb24, hb25, hi29, hi30, hi31, hb22, hb21, hb18, hb19, hb20, hi26, hi27, hi28]; cases x <;> simp)
  have t219 : ρ.b 219 = true := by rw [hb219, t217, t218]; rfl
  have t220 : ρ.b 220 = true := by rw [hb220, t216, t219]; rfl
  have t221 : ρ.b 221 = true := by rw [hb221, t215, t220]; rfl
  have t222 : ρ.b 222 = true := by rw [hb222, t214, t221]; rfl
  have t223 : ρ.b 223 = true := by rw [hb223, t213, t222]; rfl
  have t224 : ρ.b 224 = true := by
    rw [hb224, hb197, hb207]
    first | exact beq_self_eq_true _ | (simp only [hb23, hb24, hb25, hi29, hi30, hi31, hb22, hb21, hb18, hb19, hb20, hi26, hi27, hi28]; cases x <;> simp)
  have t225 : ρ.b 225 = true := by
    rw [hb225, hb198, hb208]
    first | exact beq_self_eq_true _ | (simp only [hb23, hb24, hb25, hi29, hi30, hi31, hb22, hb21, hb18, hb19, hb20, hi26, hi27, hi28]; cases x <;> simp)
  have t226 : ρ.b 226 = true := by
    rw [hb226, hi90, hi101]
    first | exact beq_self_eq_true _ | (simp only [hb23, hb24, hb25, hi29, hi30, hi31, hb22, hb21, hb18, hb19, hb20, hi26, hi27, hi28]; cases x <;> simp)
  have t227 : ρ.b 227 = true := by rw [hb227, t225, t226]; rfl
  have t228 : ρ.b 228 = true := by rw [hb228, t224, t227]; rfl
  have t229 : ρ.b 229 = true := by
    rw [hb229, hi91, hi102]
    first | exact beq_self_eq_true _ | (simp only [hb23, hb24, hb25, hi29, hi30, hi31, hb22, hb21, hb18, hb19, hb20, hi26, hi27, hi28]; cases x <;> simp)
  have t230 : ρ.b 230 = true := by
    rw [hb230, hi92, hi103]
    first | exact beq_self_eq_true _ | (simp only [hb23, hb24, hb25, hi29, hi30, hi31, hb22, hb21, hb18, hb19, hb20, hi26, hi27, hi28]; cases x <;> simp)
  have t231 : ρ.b 231 = true := by
    rw [hb231, hi93, hi104]
    first | exact beq_self_eq_true _ | (simp only [hb23, hb24, hb25, hi29, hi30, hi31, hb22, hb21, hb18, hb19, hb20, hi26, hi27, hi28]; cases x <;> simp)
  have t232 : ρ.b 232 = true := by
    rw [hb232, hi94, hi105]
    first | exact beq_self_eq_true _ | (simp only [hb23, hb24, hb25, hi29, hi30, hi31, hb22, hb21, hb18, hb19, hb20, hi26, hi27, hi28]; cases x <;> simp)
  have t233 : ρ.b 233 = true := by
    rw [hb233, hb199, hb209]
    first | exact beq_self_eq_true _ | (simp only [hb23, hb24, hb25, hi29, hi30, hi31, hb22, hb21, hb18, hb19, hb20, hi26, hi27, hi28]; cases x <;> simp)
  have t234 : ρ.b 234 = true := by
    rw [hb234, hb200, hb210]
    first | exact beq_self_eq_true _ | (simp only [hb23, hb24, hb25, hi29, hi30, hi31, hb22, hb21, hb18, hb19, hb20, hi26, hi27, hi28]; cases x <;> simp)
  have t235 : ρ.b 235 = true := by
    rw [hb235, hb201, hb211]
    first | exact beq_self_eq_true _ | (simp only [hb23, hb24, hb25, hi29, hi30, hi31, hb22, hb21, hb18, hb19, hb20, hi26, hi27, hi28]; cases x <;> simp)
  have t236 : ρ.b 236 = true := by
    rw [hb236, hi95, hi106]
    first | exact beq_self_eq_true _ | (simp only [hb23, hb24, hb25, hi29, hi30, hi31, hb22, hb21, hb18, hb19, hb20, hi26, hi27, hi28]; cases x <;> simp)
  have t237 : ρ.b 237 = true := by
    rw [hb237, hi96, hi107]
    first | exact beq_self_eq_true _ | (simp only [hb23, hb24, hb25, hi29, hi30, hi31, hb22, hb21, hb18, hb19, hb20, hi26, hi27, hi28]; cases x <;> simp)
  have t238 : ρ.b 238 = true := by
    rw [hb238, hi97, hi108]
    first | exact beq_self_eq_true _ | (simp only [hb23, hb24, hb25, hi29, hi30, hi31, hb22, hb21, hb18, hb19, hb20, hi26, hi27, hi28]; cases x <;> simp)
  have t239 : ρ.b 239 = true := by rw [hb239, t237, t238]; rfl
  have t240 : ρ.b 240 = true := by rw [hb240, t236, t239]; rfl
  have t241 : ρ.b 241 = true := by rw [hb241, t235, t240]; rfl
  have t242 : ρ.b 242 = true := by rw [hb242, t234, t241]; rfl
  have t243 : ρ.b 243 = true := by rw [hb243, t233, t242]; rfl
  have t244 : ρ.b 244 = true := by rw [hb244, t232, t243]; rfl
  have t245 : ρ.b 245 = true := by rw [hb245, t231, t244]; rfl
  have t246 : ρ.b 246 = true := by rw [hb246, t230, t245]; rfl
  have t247 : ρ.b 247 = true := by rw [hb247, t229, t246]; rfl
  have t248 : ρ.b 248 = true := by rw [hb248, t228, t247]; rfl
  have t249 : ρ.b 249 = true := by rw [hb249, t223, t248]; rfl
  have t250 : ρ.b 250 = true := by rw [hb250, t212, t249]; rfl
  have t251 : ρ.b 251 = true := by rw [hb251, t191, t250]; rfl
  have t254 : ρ.b 254 = true := by
    rw [hb254, hi109, hi110]
    first | exact beq_self_eq_true _ | (simp only [hb23, hb24, hb25, hi29, hi30, hi31, hb22, hb21, hb18, hb19, hb20, hi26, hi27, hi28]; cases x <;> simp)
  have t255 : ρ.b 255 = true := by rw [hb255, t251, t254]; rfl
  have t258 : ρ.b 258 = true := by rw [hb258, t255, hb257]; rfl
  simp [hb26, hb36, hb192, hb202, hb252, hb253, hb256, t258]
end Go.Proofs.YtoempcgniokpiaaDoor.Ta
