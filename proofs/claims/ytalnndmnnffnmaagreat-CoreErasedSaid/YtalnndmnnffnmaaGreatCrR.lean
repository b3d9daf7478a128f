/-
  CoreErased: the loop, and the law. WRITTEN BY PROGRAM (wip/gen/crr.py). No condition.
-/
import Derived.Test.YtalnndmnnffnmaaGreatCrQ
import Derived.Test.YtalnndmnnffnmaaGreatCrSe
set_option linter.unusedVariables false
set_option linter.unusedSimpArgs false
namespace Go.Proofs.YtalnndmnnffnmaaGreat.Cr
open Go Go.Proofs Go.Proofs.YtalnndmnnffnmaaGreat.Sx

def cks : List CK := [(.int .u8), .bool, (.int .u8), .bool, (.int .u8), .bool, (.int .u8), .bool, (.int .u8), (.int .u8), (.int .u16), .bool, (.int .u8), (.int .i64), (.int .u16), .bool, (.int .u8), .bool, .bool, (.int .i64), .bool, .bool, (.int .i64), .bool, .bool, (.int .u8), .bool, .bool, .bool, .bool]
/-- What is read in a cycle is an octet. -/
theorem read_v {q n i : Int} (hq : slRng cks q n) (h0 : 0 ≤ i) (h1 : i < n) : 0 ≤ (Sx.dec q).getD (i.toNat * 30 + 25) 0 ∧ (Sx.dec q).getD (i.toNat * 30 + 25) 0 ≤ 255 := by
  obtain ⟨hn0, hn1, l, rfl, hlen, hall⟩ := hq
  rw [dec_enc]
  have hl : l.length = n.toNat * 30 := hlen
  have hj : i.toNat * 30 + 25 < l.length := by omega
  have hg : l[i.toNat * 30 + 25]? = some (l.getD (i.toNat * 30 + 25) 0) := by
    rw [List.getElem?_eq_getElem hj, List.getD_eq_getElem?_getD, List.getElem?_eq_getElem hj]; rfl
  obtain ⟨ck, hck, hin⟩ := hall _ _ hg
  have hm : (i.toNat * 30 + 25) % cks.length = 25 := by
    show (i.toNat * 30 + 25) % 30 = 25
    omega
  rw [hm] at hck
  have : ck = .int .u8 := (Option.some.inj hck).symm
  subst this
  have := hin
  simp only [inCK, InR, IntKind.min, IntKind.max, IntKind.signed, IntKind.bits, Bool.false_eq_true, if_false] at this
  omega
theorem er17 (i0 i1 i2 i3 i4 i5 i6 i7 i8 i9 i10 i11 i12 : Int) (b0 b1 b2 b3 b4 b5 b6 b7 b8 b9 b10 b11 : Bool) : F17 [i0, i1, i2, i3, i4, i5, i6, i7, i8, i9, i10, i11, i12] [b0, b1, b2, b3, b4, b5, b6, b7, b8, b9, b10, b11] = ([i0, i1, i2, i3, i4, 0, i6, i7, i8, i9, i10, i11, i12], [false, false, false, false, false, false, false, b7, b8, b9, false, b11]) := rfl
/-- What the loop keeps. -/
def InvE (q n : Int) (is : List Int) (bs : List Bool) : Prop :=
  ∃ i i0 i1 i2 i3 i4 i5 i6 i7 i8 i9 i10 i11 i12 : Int, ∃ b0 b1 b2 b3 b4 b5 b6 b7 b8 b9 b10 b11 : Bool, is = [q, n, i, i0, i1, i2, i3, i4, i5, i6, i7, i8, i9, i10, i11, i12, i0, i1, i2, i3, i4, 0, i6, i7, i8, i9, i10, i11, i12] ∧ bs = [b0, b1, b2, b3, b4, b5, b6, b7, b8, b9, b10, b11, false, false, false, false, false, false, false, b7, b8, b9, false, b11] ∧ 0 ≤ i ∧ i ≤ 60 ∧ 0 ≤ i7 ∧ i7 ≤ 255 ∧ may i4 i5 i7 i8 i11 i12 = true
set_option maxHeartbeats 8000000 in
theorem turnE (q n : Int) (hq : slRng cks q n) : ∀ is bs, InvE q n is bs → ∃ c rb, (L100600.S.run (tabF TE2) true is bs).2 = true :: c :: rb ∧
    (c = false → ((L100600.S.run (tabF TE2) true is bs).1.drop 29, rb.drop 24) = ([], [false, true])) ∧
    (c = true → InvE q n ((L100600.S.run (tabF TE2) true is bs).1.take 29) (rb.take 24) ∧ (fun is _ => (100 - is.getD 2 0).toNat) ((L100600.S.run (tabF TE2) true is bs).1.take 29) (rb.take 24) < (fun is (_ : List Bool) => (100 - is.getD 2 0).toNat) is bs) := by
  rintro is bs ⟨i, i0, i1, i2, i3, i4, i5, i6, i7, i8, i9, i10, i11, i12, b0, b1, b2, b3, b4, b5, b6, b7, b8, b9, b10, b11, rfl, rfl, hi0, hi1, ho, ho', hm⟩
  obtain ⟨ρ, e1, e2, e3, e4⟩ := Smry.run_specT (Φ := tabF TE2) (S := L100600.S) (is := [q, n, i, i0, i1, i2, i3, i4, i5, i6, i7, i8, i9, i10, i11, i12, i0, i1, i2, i3, i4, 0, i6, i7, i8, i9, i10, i11, i12]) (bs := [b0, b1, b2, b3, b4, b5, b6, b7, b8, b9, b10, b11, false, false, false, false, false, false, false, b7, b8, b9, false, b11]) rfl
  rw [e1, obAll_eq]
  clear e1
  simp only [L100600, obs, Gd.d_cons, Gd.d_nil, eqns, Em.eqn, headsI, headsB, RI.d, RB.d, A.d, B.d, cm_eql, cm_neq, cm_lss, cm_leq, cm_gtr, cm_geq, List.map_cons, List.map_nil, and_true, Nat.zero_add, Nat.reduceAdd, ltn, upto, true_and, Nat.add_zero, List.getD_cons_zero, List.getD_cons_succ] at e2 e3 e4 ⊢
  simp only [e2, e3] at e4 ⊢
  clear e2 e3
  obtain ⟨hb24, hb25, hb26, ⟨⟨hi29, hi30⟩, hb27, hb28, hb29, hb30⟩, ⟨⟨hi31, hi32⟩, hb31, hb32, hb33, hb34⟩, hb35, hb36, hb37, hb38, hb39, hb40, hb41, hb42, hb43, hb44, hi33, hb45, hb46, hb47, hb48, hb49, hb50, ⟨⟨hi34, hi35, hi36, hi37, hi38, hi39, hi40, hi41, hi42, hi43, hi44, hi45, hi46, hi47⟩, hb51, hb52, hb53, hb54, hb55, hb56, hb57, hb58, hb59, hb60, hb61, hb62, hb63⟩, hb64, hb65, hi48, hb66, hb67, hb68, hb69, hb70, ⟨⟨hi49, hi50, hi51, hi52, hi53, hi54, hi55, hi56, hi57, hi58, hi59, hi60, hi61, hi62⟩, hb71, hb72, hb73, hb74, hb75, hb76, hb77, hb78, hb79, hb80, hb81, hb82, hb83⟩, hb84, hb85, hb86, ⟨⟨hi63, hi64, hi65, hi66, hi67, hi68, hi69, hi70, hi71, hi72, hi73, hi74, hi75⟩, hb87, hb88, hb89, hb90, hb91, hb92, hb93, hb94, hb95, hb96, hb97, hb98⟩, hb99, hb100, hb101, hb102, hb103, hb104, hb105, hb106, hb107, hb108, hb109, hb110, hb111, hb112, hb113, hb114, hb115, hb116, hb117, hb118, hb119, hb120, hb121, hb122, hb123, hb124, hb125, hb126, hb127, hb128, hb129, hb130, hb131, hb132, hb133, hb134, hb135, hb136, hb137, hb138, hb139, hb140, hb141, hb142, hb143, hb144, hb145, hb146, hb147, hb148, hb149, hb150, hb151, hb152, hi76, hb153, hb154, hb155, hb156, hb157, hb158, hb159, hb160, hb161⟩ := e4
  rw [show tabF TE2 14 = F14 by rfl] at hi29 hi30 hi31 hi32 hb27 hb28 hb29 hb30 hb31 hb32 hb33 hb34
  rw [show tabF TE2 13 = F13 by rfl] at hi34 hi35 hi36 hi37 hi38 hi39 hi40 hi41 hi42 hi43 hi44 hi45 hi46 hi47 hb51 hb52 hb53 hb54 hb55 hb56 hb57 hb58 hb59 hb60 hb61 hb62 hb63 hi49 hi50 hi51 hi52 hi53 hi54 hi55 hi56 hi57 hi58 hi59 hi60 hi61 hi62 hb71 hb72 hb73 hb74 hb75 hb76 hb77 hb78 hb79 hb80 hb81 hb82 hb83
  rw [show tabF TE2 17 = F17 by rfl, er17] at hi63 hi64 hi65 hi66 hi67 hi68 hi69 hi70 hi71 hi72 hi73 hi74 hi75 hb87 hb88 hb89 hb90 hb91 hb92 hb93 hb94 hb95 hb96 hb97 hb98
  simp only [List.getD_cons_zero, List.getD_cons_succ] at hi63 hi64 hi65 hi66 hi67 hi68 hi69 hi70 hi71 hi72 hi73 hi74 hi75 hb87 hb88 hb89 hb90 hb91 hb92 hb93 hb94 hb95 hb96 hb97 hb98
  cases h26 : ρ.b 26
  · have t159 : ρ.b 159 = false := by rw [hb159, h26]; rfl
    have t160 : ρ.b 160 = false := by rw [hb160, h26]; rfl
    have t161 : ρ.b 161 = true := by rw [hb161, h26]; rfl
    refine ⟨_, _, List.cons_eq_cons.2 ⟨by simp, rfl⟩, fun _ => ?_, fun hc => ?_⟩
    · simp [t160, t161]
    · rw [t159] at hc; cases hc
  · have hc : i < n ∧ i < 60 := by
      rw [hb26, hb24, hb25] at h26
      simpa using h26
    have hv : 0 ≤ ρ.i 33 ∧ ρ.i 33 ≤ 255 := by rw [hi33]; exact read_v hq hi0 hc.1
    have ev : ρ.i 48 = ρ.i 33 := by rw [hi48, hi33]
    have el1 : ρ.b 68 = ρ.b 48 := by rw [hb68, hb48]
    have el2 : ρ.b 69 = ρ.b 49 := by rw [hb69, hb49]
    have el3 : ρ.b 70 = ρ.b 50 := by rw [hb70, hb50]
    rw [ev, el1, el2, el3] at hi49 hi50 hi51 hi52 hi53 hi54 hi55 hi56 hi57 hi58 hi59 hi60 hi61 hi62 hb71 hb72 hb73 hb74 hb75 hb76 hb77 hb78 hb79 hb80 hb81 hb82 hb83
    have hm' := may_er hm
    have a1 := ask_ok i0 i1 i2 i3 i4 i5 i6 i7 i8 i9 i10 i11 i12 b0 b1 b2 b3 b4 b5 b6 b7 b8 b9 b10 b11 ho ho' hm
    have a2 := ask_ok i0 i1 i2 i3 i4 0 i6 i7 i8 i9 i10 i11 i12 false false false false false false false b7 b8 b9 false b11 ho ho' hm'
    rw [← hb27] at a1
    rw [← hb31] at a2
    obtain ⟨s1, s2, s3, s4, s5⟩ := two14 i0 i1 i2 i3 i4 i5 i6 i7 i8 i9 i10 i11 i12 b0 b1 b2 b3 b4 b5 b6 b7 b8 b9 b10 b11 hm _ _ rfl rfl
    rw [← hi29, ← hi31] at s1
    rw [← hi30, ← hi32] at s2
    rw [← hb28, ← hb32] at s3
    rw [← hb33] at s4
    rw [← hb34] at s5
    obtain ⟨p1, p2, p3, p4, p5, _⟩ := take_ok i0 i1 i2 i3 i4 i5 i6 i7 i8 i9 i10 i11 i12 (ρ.i 33) b0 b1 b2 b3 b4 b5 b6 b7 b8 b9 b10 b11 (ρ.b 45) (ρ.b 48) (ρ.b 49) (ρ.b 50) ho ho' hv.1 hv.2 hm _ rfl
    obtain ⟨q1, q2, _, _, _, _⟩ := take_ok i0 i1 i2 i3 i4 0 i6 i7 i8 i9 i10 i11 i12 (ρ.i 33) false false false false false false false b7 b8 b9 false b11 false (ρ.b 48) (ρ.b 49) (ρ.b 50) ho ho' hv.1 hv.2 hm' _ rfl
    rw [← hi38, ← hi39, ← hi41, ← hi42, ← hi45, ← hi46] at p3
    rw [← hi41] at p4 p5
    rw [← hi47] at p2
    rw [← hb51] at p1
    rw [← hb71] at q1
    rw [← hi62] at q2
    obtain ⟨x0, x1, x2, x3, x4, x5, x6, x7, x8, x9, x10, x11, x12, y0, y1, y2, y3, y4, y5, y6, y7, y8, y9, y10, y11⟩ := two13 i0 i1 i2 i3 i4 i5 i6 i7 i8 i9 i10 i11 i12 (ρ.i 33) b0 b1 b2 b3 b4 b5 b6 b7 b8 b9 b10 b11 (ρ.b 45) (ρ.b 48) (ρ.b 49) (ρ.b 50) hm _ _ rfl rfl
    rw [← hi34, ← hi49] at x0
    rw [← hi35, ← hi50] at x1
    rw [← hi36, ← hi51] at x2
    rw [← hi37, ← hi52] at x3
    rw [← hi38, ← hi53] at x4
    rw [← hi54] at x5
    rw [← hi40, ← hi55] at x6
    rw [← hi41, ← hi56] at x7
    rw [← hi42, ← hi57] at x8
    rw [← hi43, ← hi58] at x9
    rw [← hi44, ← hi59] at x10
    rw [← hi45, ← hi60] at x11
    rw [← hi46, ← hi61] at x12
    rw [← hb72] at y0
    rw [← hb73] at y1
    rw [← hb74] at y2
    rw [← hb75] at y3
    rw [← hb76] at y4
    rw [← hb77] at y5
    rw [← hb78] at y6
    rw [← hb59, ← hb79] at y7
    rw [← hb60, ← hb80] at y8
    rw [← hb61, ← hb81] at y9
    rw [← hb82] at y10
    rw [← hb63, ← hb83] at y11
    have t35 : ρ.b 35 = false := by rw [hb35, s1]; simp
    have t38 : ρ.b 38 = false := by rw [hb38, hb37, hb36, t35, s3]; simp
    have t40 : ρ.b 40 = false := by rw [hb40, hb39, t38, s2]; simp
    have t42 : ρ.b 42 = false := by rw [hb42, hb41, t40, s4, s5]; rfl
    have t43 : ρ.b 43 = true := by rw [hb43]; exact decide_eq_true hi0
    have t44 : ρ.b 44 = true := by rw [hb44]; exact decide_eq_true hc.1
    have t46 : ρ.b 46 = true := by rw [hb46]; exact decide_eq_true hi0
    have t47 : ρ.b 47 = true := by rw [hb47]; exact decide_eq_true hc.1
    have t64 : ρ.b 64 = true := by rw [hb64]; exact decide_eq_true hi0
    have t65 : ρ.b 65 = true := by rw [hb65]; exact decide_eq_true hc.1
    have t66 : ρ.b 66 = true := by rw [hb66]; exact decide_eq_true hi0
    have t67 : ρ.b 67 = true := by rw [hb67]; exact decide_eq_true hc.1
    have t86 : ρ.b 86 = false := by rw [hb86, hb84, hb85, p2, q2]; rfl
    have t99 : ρ.b 99 = true := by rw [hb99, hi63, x0]; simp
    have t100 : ρ.b 100 = true := by rw [hb100, hb87, y0]; simp
    have t101 : ρ.b 101 = true := by rw [hb101, t99, t100]; rfl
    have t102 : ρ.b 102 = true := by rw [hb102, hi64, x1]; simp
    have t103 : ρ.b 103 = true := by rw [hb103, hb88, y1]; simp
    have t104 : ρ.b 104 = true := by rw [hb104, t102, t103]; rfl
    have t105 : ρ.b 105 = true := by rw [hb105, hi65, x2]; simp
    have t106 : ρ.b 106 = true := by rw [hb106, hb89, y2]; simp
    have t107 : ρ.b 107 = true := by rw [hb107, t105, t106]; rfl
    have t108 : ρ.b 108 = true := by rw [hb108, hi66, x3]; simp
    have t109 : ρ.b 109 = true := by rw [hb109, hb90, y3]; simp
    have t110 : ρ.b 110 = true := by rw [hb110, t108, t109]; rfl
    have t111 : ρ.b 111 = true := by rw [hb111, hi67, x4]; simp
    have t112 : ρ.b 112 = true := by rw [hb112, hi68, x5]; simp
    have t113 : ρ.b 113 = true := by rw [hb113, t111, t112]; rfl
    have t114 : ρ.b 114 = true := by rw [hb114, hi69, x6]; simp
    have t115 : ρ.b 115 = true := by rw [hb115, hb91, y4]; simp
    have t116 : ρ.b 116 = true := by rw [hb116, hi70, x7]; simp
    have t117 : ρ.b 117 = true := by rw [hb117, hi71, x8]; simp
    have t118 : ρ.b 118 = true := by rw [hb118, hi72, x9]; simp
    have t119 : ρ.b 119 = true := by rw [hb119, hb92, y5]; simp
    have t120 : ρ.b 120 = true := by rw [hb120, hi73, x10]; simp
    have t121 : ρ.b 121 = true := by rw [hb121, hb93, y6]; simp
    have t122 : ρ.b 122 = true := by rw [hb122, t120, t121]; rfl
    have t123 : ρ.b 123 = true := by rw [hb123, hb94, y7]; simp
    have t124 : ρ.b 124 = true := by rw [hb124, hi74, x11]; simp
    have t125 : ρ.b 125 = true := by rw [hb125, hb95, y8]; simp
    have t126 : ρ.b 126 = true := by rw [hb126, hb96, y9]; simp
    have t127 : ρ.b 127 = true := by rw [hb127, hi75, x12]; simp
    have t128 : ρ.b 128 = true := by rw [hb128, hb97, y10]; simp
    have t129 : ρ.b 129 = true := by rw [hb129, hb98, y11]; simp
    have t130 : ρ.b 130 = true := by rw [hb130, t128, t129]; rfl
    have t131 : ρ.b 131 = true := by rw [hb131, t127, t130]; rfl
    have t132 : ρ.b 132 = true := by rw [hb132, t126, t131]; rfl
    have t133 : ρ.b 133 = true := by rw [hb133, t125, t132]; rfl
    have t134 : ρ.b 134 = true := by rw [hb134, t124, t133]; rfl
    have t135 : ρ.b 135 = true := by rw [hb135, t123, t134]; rfl
    have t136 : ρ.b 136 = true := by rw [hb136, t122, t135]; rfl
    have t137 : ρ.b 137 = true := by rw [hb137, t119, t136]; rfl
    have t138 : ρ.b 138 = true := by rw [hb138, t118, t137]; rfl
    have t139 : ρ.b 139 = true := by rw [hb139, t117, t138]; rfl
    have t140 : ρ.b 140 = true := by rw [hb140, t116, t139]; rfl
    have t141 : ρ.b 141 = true := by rw [hb141, t115, t140]; rfl
    have t142 : ρ.b 142 = true := by rw [hb142, t114, t141]; rfl
    have t143 : ρ.b 143 = true := by rw [hb143, t113, t142]; rfl
    have t144 : ρ.b 144 = true := by rw [hb144, t110, t143]; rfl
    have t145 : ρ.b 145 = true := by rw [hb145, t107, t144]; rfl
    have t146 : ρ.b 146 = true := by rw [hb146, t104, t145]; rfl
    have t147 : ρ.b 147 = true := by rw [hb147, t101, t146]; rfl
    have t149 : ρ.b 149 = false := by rw [hb149, t86, hb148, t147]; rfl
    have t152 : ρ.b 152 = false := by simp only [hb152, t149, t42, ite_self]
    have t158 : ρ.b 158 = true := by rw [hb158, hb156, hb157, t42, t149]; rfl
    have t159 : ρ.b 159 = true := by rw [hb159, h26, t158]; rfl
    have t76 : ρ.i 76 = i + 1 := by rw [hi76]; exact wrap_i64_in (by omega) (by omega)
    refine ⟨_, _, List.cons_eq_cons.2 ⟨by simp [a1, a2, t43, t44, t46, t47, t64, t65, t66, t67, p1, q1], rfl⟩, fun hc => ?_, fun _ => ⟨⟨i + 1, ρ.i 34, ρ.i 35, ρ.i 36, ρ.i 37, ρ.i 38, ρ.i 39, ρ.i 40, ρ.i 41, ρ.i 42, ρ.i 43, ρ.i 44, ρ.i 45, ρ.i 46, ρ.b 52, ρ.b 53, ρ.b 54, ρ.b 55, ρ.b 56, ρ.b 57, ρ.b 58, ρ.b 59, ρ.b 60, ρ.b 61, ρ.b 62, ρ.b 63, ?_, ?_, by omega, by omega, p4, p5, p3⟩, ?_⟩⟩
    · rw [t159] at hc; cases hc
    · simp only [List.take_succ_cons, List.take_zero, t76, x0, x1, x2, x3, x4, x5, x6, x7, x8, x9, x10, x11, x12]
    · simp only [List.take_succ_cons, List.take_zero, y0, y1, y2, y3, y4, y5, y6, y7, y8, y9, y10, y11]
    · simp [t76]
      omega
theorem erased (q n i0 i1 i2 i3 i4 i5 i6 i7 i8 i9 i10 i11 i12 : Int) (b0 b1 b2 b3 b4 b5 b6 b7 b8 b9 b10 b11 : Bool) (hq : slRng cks q n) (ho : 0 ≤ i7) (ho' : i7 ≤ 255) : F6 [i0, i1, i2, i3, i4, i5, i6, i7, i8, i9, i10, i11, i12, q, n] [b0, b1, b2, b3, b4, b5, b6, b7, b8, b9, b10, b11] = ([], [true, true]) := by
  unfold F6
  obtain ⟨ρ, e1, e2, e3, e4⟩ := Smry.run_specT (Φ := lpF (l6.map (·.2)) (tabF TE2)) (S := S6) (is := [i0, i1, i2, i3, i4, i5, i6, i7, i8, i9, i10, i11, i12, q, n]) (bs := [b0, b1, b2, b3, b4, b5, b6, b7, b8, b9, b10, b11]) rfl
  rw [e1, obAll_eq]
  clear e1
  simp only [S6, obs, Gd.d_cons, Gd.d_nil, eqns, Em.eqn, headsI, headsB, RI.d, RB.d, A.d, B.d, cm_eql, cm_neq, cm_lss, cm_leq, cm_gtr, cm_geq, List.map_cons, List.map_nil, and_true, Nat.zero_add, Nat.reduceAdd, ltn, upto, true_and, Nat.add_zero, List.getD_cons_zero, List.getD_cons_succ] at e2 e3 e4 ⊢
  simp only [e2, e3] at e4 ⊢
  clear e2 e3
  obtain ⟨hi15, hb12, ⟨hb13, hb14⟩, ⟨⟨hi16, hi17, hi18, hi19, hi20, hi21, hi22, hi23, hi24, hi25, hi26, hi27, hi28⟩, hb15, hb16, hb17, hb18, hb19, hb20, hb21, hb22, hb23, hb24, hb25, hb26⟩, ⟨hb27, hb28, hb29⟩, ⟨hb30, hb31⟩, hb32, hb33, hb34⟩ := e4
  rw [show lpF (l6.map (·.2)) (tabF TE2) 15 = F15 by rfl, w15] at hi15
  rw [show lpF (l6.map (·.2)) (tabF TE2) 9 = F9 by rfl, awake] at hb13 hb14 hb30 hb31
  rw [show lpF (l6.map (·.2)) (tabF TE2) 17 = F17 by rfl, er17] at hi16 hi17 hi18 hi19 hi20 hi21 hi22 hi23 hi24 hi25 hi26 hi27 hi28 hb15 hb16 hb17 hb18 hb19 hb20 hb21 hb22 hb23 hb24 hb25 hb26
  simp only [List.getD_cons_zero, List.getD_cons_succ] at hi15 hb13 hb14 hb30 hb31 hi16 hi17 hi18 hi19 hi20 hi21 hi22 hi23 hi24 hi25 hi26 hi27 hi28 hb15 hb16 hb17 hb18 hb19 hb20 hb21 hb22 hb23 hb24 hb25 hb26
  rw [show lpF (l6.map (·.2)) (tabF TE2) 100600 = loopF (L100600.S.run (tabF TE2) true) 29 24 by rfl] at hb27 hb28 hb29
  cases hm : may i4 i5 i7 i8 i11 i12
  · have t15 : ρ.i 15 = 1 := by rw [hi15, hm]; rfl
    have t12 : ρ.b 12 = true := by rw [hb12, t15]; rfl
    have t33 : ρ.b 33 = false := by rw [hb33, t12]; rfl
    simp [t12, t33, hb34, hb13, hb14]
  · have t15 : ρ.i 15 = 0 := by rw [hi15, hm]; rfl
    have t12 : ρ.b 12 = false := by rw [hb12, t15]; rfl
    have t33 : ρ.b 33 = true := by rw [hb33, t12]; rfl
    obtain ⟨o, hl, hpost⟩ := loop_rule (F := L100600.S.run (tabF TE2) true) (nI := 29) (nB := 24) (InvE q n) (fun is _ => (100 - is.getD 2 0).toNat) (fun p => p = ([], [false, true])) (turnE q n hq)
      [q, n, 0, i0, i1, i2, i3, i4, i5, i6, i7, i8, i9, i10, i11, i12, i0, i1, i2, i3, i4, 0, i6, i7, i8, i9, i10, i11, i12] [b0, b1, b2, b3, b4, b5, b6, b7, b8, b9, b10, b11, false, false, false, false, false, false, false, b7, b8, b9, false, b11] ⟨0, i0, i1, i2, i3, i4, i5, i6, i7, i8, i9, i10, i11, i12, b0, b1, b2, b3, b4, b5, b6, b7, b8, b9, b10, b11, rfl, rfl, by omega, by omega, ho, ho', hm⟩
    subst hpost
    rw [hi16, hi17, hi18, hi19, hi20, hi21, hi22, hi23, hi24, hi25, hi26, hi27, hi28, hb15, hb16, hb17, hb18, hb19, hb20, hb21, hb22, hb23, hb24, hb25, hb26, hl] at hb27 hb28 hb29
    simp only [List.getD_cons_zero, List.getD_cons_succ] at hb27 hb28 hb29
    simp [t12, t33, hb27, hb28, hb29, hb30, hb31, hb32, hb34]
end Go.Proofs.YtalnndmnnffnmaaGreat.Cr
