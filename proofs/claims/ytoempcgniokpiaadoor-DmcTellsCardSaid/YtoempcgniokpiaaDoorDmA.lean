/-
  The law DmcTells: its contract; it answers true. WRITTEN BY PROGRAM (wip/gen/dmctells.py). No condition.
-/
import Derived.Test.YtoempcgniokpiaaDoorDmQ
set_option linter.unusedVariables false
set_option linter.unusedSimpArgs false
namespace Go.Proofs.YtoempcgniokpiaaDoor.Dm
open Go Go.Proofs.YtoempcgniokpiaaDoor.Sx

def s3 : Sum := sm [aD, aI .i64, aI .u8] [rB]
def S3 : Smry := (.mk [(.call 15 [(.v 0), (.v 1), (.v 2), (.v 3), (.v 4), (.v 5), (.v 6), (.v 7), (.v 8), (.v 9)] [(.v 0), (.v 1), (.v 2), (.v 3), (.v 4)] 12 1 5 1), (.call 16 [(.v 0), (.v 1), (.v 2), (.v 3), (.v 4), (.v 5), (.v 6), (.v 7), (.v 8), (.v 9)] [(.v 0), (.v 1), (.v 2), (.v 3), (.v 4)] 13 1 6 1), (.call 17 [(.v 0), (.v 1), (.v 2), (.v 3), (.v 4), (.v 5), (.v 6), (.v 7), (.v 8), (.v 9)] [(.v 0), (.v 1), (.v 2), (.v 3), (.v 4)] 14 1 7 0), (.db 7 (.cm .eql (.v 14) (.c 0))), (.call 18 [(.v 0), (.v 1), (.v 2), (.v 3), (.v 4), (.v 5), (.v 6), (.v 7), (.v 8), (.v 9)] [(.v 0), (.v 1), (.v 2), (.v 3), (.v 4)] 15 0 8 1), (.db 9 (.eqb (.v 7) (.v 8))), (.call 19 [(.v 0), (.v 1), (.v 2), (.v 3), (.v 4), (.v 5), (.v 6), (.v 7), (.v 8), (.v 9), (.v 10), (.v 11)] [(.v 0), (.v 1), (.v 2), (.v 3), (.v 4)] 15 10 10 5), (.call 20 [(.v 0), (.v 1), (.v 2), (.v 3), (.v 4), (.v 5), (.v 6), (.v 7), (.v 8), (.v 9), (.v 10), (.v 11)] [(.v 0), (.v 1), (.v 2), (.v 3), (.v 4)] 25 10 15 5), (.db 20 (.eqb (.v 10) (.v 15))), (.db 21 (.eqb (.v 11) (.v 16))), (.db 22 (.eqb (.v 12) (.v 17))), (.db 23 (.cm .eql (.v 15) (.v 25))), (.db 24 (.cm .eql (.v 16) (.v 26))), (.db 25 (.cm .eql (.v 17) (.v 27))), (.db 26 (.cm .eql (.v 18) (.v 28))), (.db 27 (.cm .eql (.v 19) (.v 29))), (.db 28 (.cm .eql (.v 20) (.v 30))), (.db 29 (.cm .eql (.v 21) (.v 31))), (.db 30 (.eqb (.v 13) (.v 18))), (.db 31 (.cm .eql (.v 22) (.v 32))), (.db 32 (.cm .eql (.v 23) (.v 33))), (.db 33 (.eqb (.v 14) (.v 19))), (.db 34 (.cm .eql (.v 24) (.v 34))), (.db 35 (.and (.v 33) (.v 34))), (.db 36 (.and (.v 32) (.v 35))), (.db 37 (.and (.v 31) (.v 36))), (.db 38 (.and (.v 30) (.v 37))), (.db 39 (.and (.v 29) (.v 38))), (.db 40 (.and (.v 28) (.v 39))), (.db 41 (.and (.v 27) (.v 40))), (.db 42 (.and (.v 26) (.v 41))), (.db 43 (.and (.v 25) (.v 42))), (.db 44 (.and (.v 24) (.v 43))), (.db 45 (.and (.v 23) (.v 44))), (.db 46 (.and (.v 22) (.v 45))), (.db 47 (.and (.v 21) (.v 46))), (.db 48 (.and (.v 20) (.v 47))), (.db 49 (.and (.v 9) (.v 48))), (.di 35 (.ar .and .u8 (.v 11) (.c 1))), (.db 50 (.cm .gtr (.v 35) (.c 0))), (.call 21 [(.v 0), (.v 1), (.v 2), (.v 3), (.v 4), (.v 5), (.v 6), (.v 7), (.v 8), (.v 9)] [(.v 0), (.v 1), (.v 2), (.v 3), (.v 4), (.v 50)] 36 10 51 5), (.di 46 (.ar .and .u8 (.v 11) (.c 1))), (.db 56 (.cm .gtr (.v 46) (.c 0))), (.call 22 [(.v 0), (.v 1), (.v 2), (.v 3), (.v 4), (.v 5), (.v 6), (.v 7), (.v 8), (.v 9)] [(.v 0), (.v 1), (.v 2), (.v 3), (.v 4), (.v 56)] 47 10 57 5), (.db 62 (.eqb (.v 51) (.v 57))), (.db 63 (.eqb (.v 52) (.v 58))), (.db 64 (.eqb (.v 53) (.v 59))), (.db 65 (.cm .eql (.v 36) (.v 47))), (.db 66 (.cm .eql (.v 37) (.v 48))), (.db 67 (.cm .eql (.v 38) (.v 49))), (.db 68 (.cm .eql (.v 39) (.v 50))), (.db 69 (.cm .eql (.v 40) (.v 51))), (.db 70 (.cm .eql (.v 41) (.v 52))), (.db 71 (.cm .eql (.v 42) (.v 53))), (.db 72 (.eqb (.v 54) (.v 60))), (.db 73 (.cm .eql (.v 43) (.v 54))), (.db 74 (.cm .eql (.v 44) (.v 55))), (.db 75 (.eqb (.v 55) (.v 61))), (.db 76 (.cm .eql (.v 45) (.v 56))), (.db 77 (.and (.v 75) (.v 76))), (.db 78 (.and (.v 74) (.v 77))), (.db 79 (.and (.v 73) (.v 78))), (.db 80 (.and (.v 72) (.v 79))), (.db 81 (.and (.v 71) (.v 80))), (.db 82 (.and (.v 70) (.v 81))), (.db 83 (.and (.v 69) (.v 82))), (.db 84 (.and (.v 68) (.v 83))), (.db 85 (.and (.v 67) (.v 84))), (.db 86 (.and (.v 66) (.v 85))), (.db 87 (.and (.v 65) (.v 86))), (.db 88 (.and (.v 64) (.v 87))), (.db 89 (.and (.v 63) (.v 88))), (.db 90 (.and (.v 62) (.v 89))), (.db 91 (.and (.v 49) (.v 90))), (.db 92 (.cm .eql (.v 12) (.v 13))), (.db 93 (.and (.v 91) (.v 92))), (.db 94 (.eqb (.v 5) (.v 6))), (.db 95 (.and (.v 93) (.v 94))), (.call 23 [(.v 0), (.v 1), (.v 2), (.v 3), (.v 4), (.v 5), (.v 6), (.v 7), (.v 8), (.v 9), (.v 11)] [(.v 0), (.v 1), (.v 2), (.v 3), (.v 4)] 57 10 96 5), (.call 24 [(.v 0), (.v 1), (.v 2), (.v 3), (.v 4), (.v 5), (.v 6), (.v 7), (.v 8), (.v 9), (.v 11)] [(.v 0), (.v 1), (.v 2), (.v 3), (.v 4)] 67 10 101 5), (.db 106 (.eqb (.v 96) (.v 101))), (.db 107 (.eqb (.v 97) (.v 102))), (.db 108 (.eqb (.v 98) (.v 103))), (.db 109 (.cm .eql (.v 57) (.v 67))), (.db 110 (.cm .eql (.v 58) (.v 68))), (.db 111 (.cm .eql (.v 59) (.v 69))), (.db 112 (.cm .eql (.v 60) (.v 70))), (.db 113 (.cm .eql (.v 61) (.v 71))), (.db 114 (.cm .eql (.v 62) (.v 72))), (.db 115 (.cm .eql (.v 63) (.v 73))), (.db 116 (.eqb (.v 99) (.v 104))), (.db 117 (.cm .eql (.v 64) (.v 74))), (.db 118 (.cm .eql (.v 65) (.v 75))), (.db 119 (.eqb (.v 100) (.v 105))), (.db 120 (.cm .eql (.v 66) (.v 76))), (.db 121 (.and (.v 119) (.v 120))), (.db 122 (.and (.v 118) (.v 121))), (.db 123 (.and (.v 117) (.v 122))), (.db 124 (.and (.v 116) (.v 123))), (.db 125 (.and (.v 115) (.v 124))), (.db 126 (.and (.v 114) (.v 125))), (.db 127 (.and (.v 113) (.v 126))), (.db 128 (.and (.v 112) (.v 127))), (.db 129 (.and (.v 111) (.v 128))), (.db 130 (.and (.v 110) (.v 129))), (.db 131 (.and (.v 109) (.v 130))), (.db 132 (.and (.v 108) (.v 131))), (.db 133 (.and (.v 107) (.v 132))), (.db 134 (.and (.v 106) (.v 133))), (.db 135 (.and (.v 95) (.v 134))), (.call 25 [(.v 0), (.v 1), (.v 2), (.v 3), (.v 4), (.v 5), (.v 6), (.v 7), (.v 8), (.v 9)] [(.v 0), (.v 1), (.v 2), (.v 3), (.v 4)] 77 10 136 5), (.call 26 [(.v 0), (.v 1), (.v 2), (.v 3), (.v 4), (.v 5), (.v 6), (.v 7), (.v 8), (.v 9)] [(.v 0), (.v 1), (.v 2), (.v 3), (.v 4)] 87 10 141 5), (.db 146 (.eqb (.v 136) (.v 141))), (.db 147 (.eqb (.v 137) (.v 142))), (.db 148 (.eqb (.v 138) (.v 143))), (.db 149 (.cm .eql (.v 77) (.v 87))), (.db 150 (.cm .eql (.v 78) (.v 88))), (.db 151 (.cm .eql (.v 79) (.v 89))), (.db 152 (.cm .eql (.v 80) (.v 90))), (.db 153 (.cm .eql (.v 81) (.v 91))), (.db 154 (.cm .eql (.v 82) (.v 92))), (.db 155 (.cm .eql (.v 83) (.v 93))), (.db 156 (.eqb (.v 139) (.v 144))), (.db 157 (.cm .eql (.v 84) (.v 94))), (.db 158 (.cm .eql (.v 85) (.v 95))), (.db 159 (.eqb (.v 140) (.v 145))), (.db 160 (.cm .eql (.v 86) (.v 96))), (.db 161 (.and (.v 159) (.v 160))), (.db 162 (.and (.v 158) (.v 161))), (.db 163 (.and (.v 157) (.v 162))), (.db 164 (.and (.v 156) (.v 163))), (.db 165 (.and (.v 155) (.v 164))), (.db 166 (.and (.v 154) (.v 165))), (.db 167 (.and (.v 153) (.v 166))), (.db 168 (.and (.v 152) (.v 167))), (.db 169 (.and (.v 151) (.v 168))), (.db 170 (.and (.v 150) (.v 169))), (.db 171 (.and (.v 149) (.v 170))), (.db 172 (.and (.v 148) (.v 171))), (.db 173 (.and (.v 147) (.v 172))), (.db 174 (.and (.v 146) (.v 173))), (.db 175 (.and (.v 135) (.v 174))), (.call 28 [] [] 97 0 176 1), (.db 177 (.and (.v 175) (.v 176)))] [] [(.v 177)])
theorem k3 : fnX Tryd.prog (tabS T17) gl (ctlOf Tryd.f3 gl s3) Tryd.f3 s3 = some S3 := by kernel_rfl
theorem c3 : Contract Tryd.prog gl 3 s3 (S3.run (tabF T17) false) := contract_of A17 Tryd.func3 k3 rfl

theorem ps15 : tabF T17 15 = F15 := by kernel_rfl
theorem ps16 : tabF T17 16 = F16 := by kernel_rfl
theorem ps17 : tabF T17 17 = F17 := by kernel_rfl
theorem ps18 : tabF T17 18 = F18 := by kernel_rfl
theorem ps19 : tabF T17 19 = F19 := by kernel_rfl
theorem ps20 : tabF T17 20 = F20 := by kernel_rfl
theorem ps21 : tabF T17 21 = F21 := by kernel_rfl
theorem ps22 : tabF T17 22 = F22 := by kernel_rfl
theorem ps23 : tabF T17 23 = F23 := by kernel_rfl
theorem ps24 : tabF T17 24 = F24 := by kernel_rfl
theorem ps25 : tabF T17 25 = F25 := by kernel_rfl
theorem ps26 : tabF T17 26 = F26 := by kernel_rfl
theorem ps28 : tabF T17 28 = F28 := by kernel_rfl
theorem lt5 {p : Nat → Prop} : (∀ j, j < 5 → p j) ↔ p 0 ∧ p 1 ∧ p 2 ∧ p 3 ∧ p 4 := by
  refine ⟨fun h => ⟨h 0 (by decide), h 1 (by decide), h 2 (by decide), h 3 (by decide), h 4 (by decide)⟩, fun h j hj => ?_⟩
  obtain ⟨h0, h1, h2, h3, h4⟩ := h
  have : j = 0 ∨ j = 1 ∨ j = 2 ∨ j = 3 ∨ j = 4 := by omega
  rcases this with rfl | rfl | rfl | rfl | rfl <;> assumption
theorem lt10 {p : Nat → Prop} : (∀ j, j < 10 → p j) ↔ p 0 ∧ p 1 ∧ p 2 ∧ p 3 ∧ p 4 ∧ p 5 ∧ p 6 ∧ p 7 ∧ p 8 ∧ p 9 := by
  refine ⟨fun h => ⟨h 0 (by decide), h 1 (by decide), h 2 (by decide), h 3 (by decide), h 4 (by decide), h 5 (by decide), h 6 (by decide), h 7 (by decide), h 8 (by decide), h 9 (by decide)⟩, fun h j hj => ?_⟩
  obtain ⟨h0, h1, h2, h3, h4, h5, h6, h7, h8, h9⟩ := h
  have : j = 0 ∨ j = 1 ∨ j = 2 ∨ j = 3 ∨ j = 4 ∨ j = 5 ∨ j = 6 ∨ j = 7 ∨ j = 8 ∨ j = 9 := by omega
  rcases this with rfl | rfl | rfl | rfl | rfl | rfl | rfl | rfl | rfl | rfl <;> assumption

theorem tells (i0 i1 i2 i3 i4 i5 i6 i7 i8 i9 i10 i11 : Int) (b0 b1 b2 b3 b4 : Bool) (hr : rngC (argCK s3.args) [i0, i1, i2, i3, i4, i5, i6, i7, i8, i9, i10, i11]) : S3.run (tabF T17) false [i0, i1, i2, i3, i4, i5, i6, i7, i8, i9, i10, i11] [b0, b1, b2, b3, b4] = ([], [true]) := by
  simp only [s3, sm, aD, aI, dmc, argCK, List.cons_append, List.nil_append, rngC, IntKind.min, IntKind.max, IntKind.signed, IntKind.bits, Bool.false_eq_true, if_false] at hr
  obtain ⟨h0, h1, h2, h3, h4, h5, h6, h7, h8, h9, h10, h11, -⟩ := hr
  have p15 : tabF T17 15 [i0, i1, i2, i3, i4, i5, i6, i7, i8, i9] [b0, b1, b2, b3, b4] = F15 [i0, i1, i2, i3, i4, i5, i6, i7, i8, i9] [b0, b1, b2, b3, b4] := by rw [ps15]
  have p16 : tabF T17 16 [i0, i1, i2, i3, i4, i5, i6, i7, i8, i9] [b0, b1, b2, b3, b4] = F16 [i0, i1, i2, i3, i4, i5, i6, i7, i8, i9] [b0, b1, b2, b3, b4] := by rw [ps16]
  have p17 : tabF T17 17 [i0, i1, i2, i3, i4, i5, i6, i7, i8, i9] [b0, b1, b2, b3, b4] = F17 [i0, i1, i2, i3, i4, i5, i6, i7, i8, i9] [b0, b1, b2, b3, b4] := by rw [ps17]
  have p18 : tabF T17 18 [i0, i1, i2, i3, i4, i5, i6, i7, i8, i9] [b0, b1, b2, b3, b4] = F18 [i0, i1, i2, i3, i4, i5, i6, i7, i8, i9] [b0, b1, b2, b3, b4] := by rw [ps18]
  have p19 : tabF T17 19 [i0, i1, i2, i3, i4, i5, i6, i7, i8, i9, i10, i11] [b0, b1, b2, b3, b4] = tabF T17 20 [i0, i1, i2, i3, i4, i5, i6, i7, i8, i9, i10, i11] [b0, b1, b2, b3, b4] := by
    rw [ps19, ps20]
    exact q19 i0 i1 i2 i3 i4 i5 i6 i7 i8 i9 i10 i11 b0 b1 b2 b3 b4 (by omega) (by omega) (by omega) (by omega) (by omega)
  have p21 : ∀ b, tabF T17 21 [i0, i1, i2, i3, i4, i5, i6, i7, i8, i9] [b0, b1, b2, b3, b4, b] = tabF T17 22 [i0, i1, i2, i3, i4, i5, i6, i7, i8, i9] [b0, b1, b2, b3, b4, b] := fun b => by
    rw [ps21, ps22]
    exact q21 i0 i1 i2 i3 i4 i5 i6 i7 i8 i9 b0 b1 b2 b3 b4 b (by omega) (by omega) (by omega)
  have p23 : tabF T17 23 [i0, i1, i2, i3, i4, i5, i6, i7, i8, i9, i11] [b0, b1, b2, b3, b4] = tabF T17 24 [i0, i1, i2, i3, i4, i5, i6, i7, i8, i9, i11] [b0, b1, b2, b3, b4] := by
    rw [ps23, ps24]
    exact q23 i0 i1 i2 i3 i4 i5 i6 i7 i8 i9 i11 b0 b1 b2 b3 b4 (by omega) (by omega) (by omega) (by omega) (by omega) (by omega)
  have p25 : tabF T17 25 [i0, i1, i2, i3, i4, i5, i6, i7, i8, i9] [b0, b1, b2, b3, b4] = tabF T17 26 [i0, i1, i2, i3, i4, i5, i6, i7, i8, i9] [b0, b1, b2, b3, b4] := by
    rw [ps25, ps26]
    exact q25 i0 i1 i2 i3 i4 i5 i6 i7 i8 i9 b0 b1 b2 b3 b4 (by omega) (by omega) (by omega) (by omega) (by omega) (by omega) (by omega) (by omega) (by omega) (by omega)
  have p28 : tabF T17 28 [] [] = ([], [true]) := by
    rw [ps28]
    exact awake
  have w16 := v16 i0 i1 i2 i3 i4 i5 i6 i7 i8 i9 b0 b1 b2 b3 b4 (by omega)
  obtain ⟨ρ, e1, e2, e3, e4⟩ := Smry.run_spec (Φ := tabF T17) (S := S3) (is := [i0, i1, i2, i3, i4, i5, i6, i7, i8, i9, i10, i11]) (bs := [b0, b1, b2, b3, b4]) (by kernel_rfl)
  rw [e1]
  clear e1
  simp only [S3, eqns, Em.eqn, headsI, headsB, RI.d, RB.d, A.d, B.d, cmB, List.map_cons, List.map_nil, and_true, Nat.zero_add, Nat.reduceAdd, lt5, lt10, lt1, lt0, true_and, Nat.add_zero] at e2 e3 e4 ⊢
  simp only [e2, e3] at e4
  simp only [p15, p16, p17, p18, p19, p21, p23, p25, p28, v15, w16, v17, v18, List.getD_cons_zero] at e4
  obtain ⟨m, hm⟩ : ∃ m, m = may i0 i1 i2 i3 i4 i5 i8 i9 := ⟨_, rfl⟩
  simp only [← hm] at e4
  clear hm p15 p16 p17 p18 p19 p21 p23 p25 p28 w16 h0 h1 h2 h3 h4 h5 h6 h7 h8 h9 h10 h11
  generalize tabF T17 20 [i0, i1, i2, i3, i4, i5, i6, i7, i8, i9, i10, i11] [b0, b1, b2, b3, b4] = r20 at e4
  generalize tabF T17 24 [i0, i1, i2, i3, i4, i5, i6, i7, i8, i9, i11] [b0, b1, b2, b3, b4] = r24 at e4
  generalize tabF T17 26 [i0, i1, i2, i3, i4, i5, i6, i7, i8, i9] [b0, b1, b2, b3, b4] = r26 at e4
  simp only [e4, beq_self_eq_true, Bool.and_self, Bool.and_true, Bool.true_and]
  cases m <;> simp
end Go.Proofs.YtoempcgniokpiaaDoor.Dm
