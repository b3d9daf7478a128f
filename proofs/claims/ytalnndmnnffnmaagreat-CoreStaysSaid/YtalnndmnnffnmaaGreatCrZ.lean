/-
  CoreStays: the loop, and the law. WRITTEN BY PROGRAM (wip/gen/crz.py). No condition.
-/
import Derived.Test.YtalnndmnnffnmaaGreatCrY
import Derived.Test.YtalnndmnnffnmaaGreatCrS7
set_option linter.unusedVariables false
set_option linter.unusedSimpArgs false
namespace Go.Proofs.YtalnndmnnffnmaaGreat.Cr
open Go Go.Proofs Go.Proofs.YtalnndmnnffnmaaGreat.Sx

def cks : List CK := [(.int .u8), .bool, (.int .u8), .bool, (.int .u8), .bool, (.int .u8), .bool, (.int .u8), (.int .u8), (.int .u16), .bool, (.int .u8), (.int .i64), (.int .u16), .bool, (.int .u8), .bool, .bool, (.int .i64), .bool, .bool, (.int .i64), .bool, .bool, (.int .u8), .bool, .bool, .bool, .bool]
/-- What is read in a cycle is an octet. -/
theorem read_v {q n i : Int} (hq : slRng cks q n) (h0 : 0 ≤ i) (h1 : i < n) : 0 ≤ (Sx.dec q).getD (i.toNat * 30 + 25) 0 ∧ (Sx.dec q).getD (i.toNat * 30 + 25) 0 ≤ 255 := by
  obtain ⟨hn0, hn1, l, rfl, hlen, hall⟩ := hq
  rw [dec_enc]
  have hl : l.length = n.toNat * 30 := hlen
  have hj : i.toNat * 30 + 25 < l.length := by omega
  have hg : l[i.toNat * 30 + 25]? = some (l.getD (i.toNat * 30 + 25) 0) := by
    rw [List.getElem?_eq_getElem hj, List.getD_eq_getElem?_getD, List.getElem?_eq_getElem hj]; rfl
  obtain ⟨ck, hck, hin⟩ := hall _ _ hg
  have hm : (i.toNat * 30 + 25) % cks.length = 25 := by
    show (i.toNat * 30 + 25) % 30 = 25
    omega
  rw [hm] at hck
  have : ck = .int .u8 := (Option.some.inj hck).symm
  subst this
  have := hin
  simp only [inCK, InR, IntKind.min, IntKind.max, IntKind.signed, IntKind.bits, Bool.false_eq_true, if_false] at this
  omega
/-- What the loop keeps. -/
def Inv (q n : Int) (is : List Int) (bs : List Bool) : Prop :=
  ∃ i i0 i1 i2 i3 i4 i5 i6 i7 i8 i9 i10 i11 i12 : Int, ∃ b0 b1 b2 b3 b4 b5 b6 b7 b8 b9 b10 b11 : Bool, is = [q, n, i, i0, i1, i2, i3, i4, i5, i6, i7, i8, i9, i10, i11, i12] ∧ bs = [b0, b1, b2, b3, b4, b5, b6, b7, b8, b9, b10, b11] ∧ 0 ≤ i ∧ i ≤ 60 ∧ 0 ≤ i7 ∧ i7 ≤ 255 ∧ may i4 i5 i7 i8 i11 i12 = true
theorem turn (q n : Int) (hq : slRng cks q n) : ∀ is bs, Inv q n is bs → ∃ c rb, (L100500.S.run (tabF T78) true is bs).2 = true :: c :: rb ∧
    (c = false → ((L100500.S.run (tabF T78) true is bs).1.drop 16, rb.drop 12) = ([], [false, true])) ∧
    (c = true → Inv q n ((L100500.S.run (tabF T78) true is bs).1.take 16) (rb.take 12) ∧ (fun is _ => (100 - is.getD 2 0).toNat) ((L100500.S.run (tabF T78) true is bs).1.take 16) (rb.take 12) < (fun is (_ : List Bool) => (100 - is.getD 2 0).toNat) is bs) := by
  rintro is bs ⟨i, i0, i1, i2, i3, i4, i5, i6, i7, i8, i9, i10, i11, i12, b0, b1, b2, b3, b4, b5, b6, b7, b8, b9, b10, b11, rfl, rfl, hi0, hi1, ho, ho', hm⟩
  obtain ⟨ρ, e1, e2, e3, e4⟩ := Smry.run_specT (Φ := tabF T78) (S := L100500.S) (is := [q, n, i, i0, i1, i2, i3, i4, i5, i6, i7, i8, i9, i10, i11, i12]) (bs := [b0, b1, b2, b3, b4, b5, b6, b7, b8, b9, b10, b11]) rfl
  rw [e1, obAll_eq]
  clear e1
  simp only [L100500, obs, Gd.d_cons, Gd.d_nil, eqns, Em.eqn, headsI, headsB, RI.d, RB.d, A.d, B.d, cm_eql, cm_neq, cm_lss, cm_leq, cm_gtr, cm_geq, List.map_cons, List.map_nil, and_true, Nat.zero_add, Nat.reduceAdd, ltn, upto, true_and, Nat.add_zero, List.getD_cons_zero, List.getD_cons_succ] at e2 e3 e4 ⊢
  simp only [e2, e3] at e4 ⊢
  clear e2 e3
  obtain ⟨hb12, hb13, hb14, hb15, hb16, hi16, hb17, hb18, hb19, hb20, hb21, hb22, ⟨⟨hi17, hi18, hi19, hi20, hi21, hi22, hi23, hi24, hi25, hi26, hi27, hi28, hi29, hi30⟩, hb23, hb24, hb25, hb26, hb27, hb28, hb29, hb30, hb31, hb32, hb33, hb34, hb35⟩, hb36, hb37, hb38, hb39, hb40, ⟨⟨hi31, hi32, hi33, hi34, hi35, hi36, hi37, hi38, hi39, hi40, hi41, hi42, hi43, hi44⟩, hb41, hb42, hb43, hb44, hb45, hb46, hb47, hb48, hb49, hb50, hb51, hb52⟩, hb53, hb54, hb55, hi45, hb56, hb57, hi46, hb58, hb59, hb60, hb61, hb62, hb63, hb64, hb65, hi47, hb66, hb67, hb68, hb69, hb70⟩ := e4
  rw [show tabF T78 13 = F13 by rfl] at hi17 hi18 hi19 hi20 hi21 hi22 hi23 hi24 hi25 hi26 hi27 hi28 hi29 hi30 hb23 hb24 hb25 hb26 hb27 hb28 hb29 hb30 hb31 hb32 hb33 hb34 hb35
  rw [show tabF T78 16 = F16 by rfl] at hi31 hi32 hi33 hi34 hi35 hi36 hi37 hi38 hi39 hi40 hi41 hi42 hi43 hi44 hb41 hb42 hb43 hb44 hb45 hb46 hb47 hb48 hb49 hb50 hb51 hb52
  rw [show tabF T78 15 = F15 by rfl, w15] at hi45 hi46
  simp only [List.getD_cons_zero] at hi45 hi46
  cases h14 : ρ.b 14
  · have t68 : ρ.b 68 = false := by rw [hb68, h14]; rfl
    have t69 : ρ.b 69 = false := by rw [hb69, h14]; rfl
    have t70 : ρ.b 70 = true := by rw [hb70, h14]; rfl
    refine ⟨_, _, List.cons_eq_cons.2 ⟨by simp, rfl⟩, fun _ => ?_, fun hc => ?_⟩
    · simp [t69, t70]
    · rw [t68] at hc; cases hc
  · have hc : i < n ∧ i < 60 := by
      rw [hb14, hb12, hb13] at h14
      simpa using h14
    have hv : 0 ≤ ρ.i 16 ∧ ρ.i 16 ≤ 255 := by rw [hi16]; exact read_v hq hi0 hc.1
    obtain ⟨p1, p2, p3, p4, p5, p6⟩ := take_ok i0 i1 i2 i3 i4 i5 i6 i7 i8 i9 i10 i11 i12 (ρ.i 16) b0 b1 b2 b3 b4 b5 b6 b7 b8 b9 b10 b11 (ρ.b 17) (ρ.b 20) (ρ.b 21) (ρ.b 22) ho ho' hv.1 hv.2 hm _ rfl
    obtain ⟨q1, q2, q3⟩ := wait_ok i0 i1 i2 i3 i4 i5 i6 i7 i8 i9 i10 i11 i12 b0 b1 b2 b3 b4 b5 b6 b7 b8 b9 b10 b11 (ρ.b 38) (ρ.b 39) (ρ.b 40) ho ho' hm _ rfl
    rw [← hi21, ← hi22, ← hi24, ← hi25, ← hi28, ← hi29] at p3
    rw [← hi24] at p4 p5
    rw [← hi30] at p2
    rw [← hb23] at p1
    rw [← hb34] at p6
    rw [← hi35, ← hi36, ← hi38, ← hi39, ← hi42, ← hi43] at q2
    rw [← hi44] at q1
    rw [← hb51] at q3
    rw [p3] at hi45
    rw [q2] at hi46
    have t15 : ρ.b 15 = true := by rw [hb15]; exact decide_eq_true hi0
    have t16 : ρ.b 16 = true := by rw [hb16]; exact decide_eq_true hc.1
    have t18 : ρ.b 18 = true := by rw [hb18]; exact decide_eq_true hi0
    have t19 : ρ.b 19 = true := by rw [hb19]; exact decide_eq_true hc.1
    have t36 : ρ.b 36 = true := by rw [hb36]; exact decide_eq_true hi0
    have t37 : ρ.b 37 = true := by rw [hb37]; exact decide_eq_true hc.1
    have t53 : ρ.b 53 = false := by rw [hb53, p2]; rfl
    have t54 : ρ.b 54 = false := by rw [hb54, q1]; rfl
    have t55 : ρ.b 55 = false := by rw [hb55, t53, t54]; rfl
    have t56 : ρ.b 56 = false := by rw [hb56, hi45]; rfl
    have t57 : ρ.b 57 = false := by rw [hb57, t55, t56]; rfl
    have t58 : ρ.b 58 = false := by rw [hb58, hi46]; rfl
    have t59 : ρ.b 59 = false := by rw [hb59, t57, t58]; rfl
    have t63 : ρ.b 63 = false := by
      rw [hb63]
      cases hb : b10
      · rfl
      · rw [hb62, hb60, hb61, p6 hb, q3 hb]; rfl
    have t64 : ρ.b 64 = false := by rw [hb64, t59, t63]; rfl
    have t67 : ρ.b 67 = true := by rw [hb67, t64]; rfl
    have t68 : ρ.b 68 = true := by rw [hb68, h14, t67]; rfl
    have t47 : ρ.i 47 = i + 1 := by rw [hi47]; exact wrap_i64_in (by omega) (by omega)
    refine ⟨_, _, List.cons_eq_cons.2 ⟨by simp [t15, t16, t18, t19, t36, t37, p1], rfl⟩, fun hc => ?_, fun _ => ⟨⟨i + 1, ρ.i 17, ρ.i 18, ρ.i 19, ρ.i 20, ρ.i 21, ρ.i 22, ρ.i 23, ρ.i 24, ρ.i 25, ρ.i 26, ρ.i 27, ρ.i 28, ρ.i 29, ρ.b 24, ρ.b 25, ρ.b 26, ρ.b 27, ρ.b 28, ρ.b 29, ρ.b 30, ρ.b 31, ρ.b 32, ρ.b 33, ρ.b 34, ρ.b 35, ?_, ?_, by omega, by omega, p4, p5, p3⟩, ?_⟩⟩
    · rw [t68] at hc; cases hc
    · simp only [List.take_succ_cons, List.take_zero, t47]
    · simp only [List.take_succ_cons, List.take_zero]
    · simp [t47]
      omega
theorem stays (q n i0 i1 i2 i3 i4 i5 i6 i7 i8 i9 i10 i11 i12 : Int) (b0 b1 b2 b3 b4 b5 b6 b7 b8 b9 b10 b11 : Bool) (hq : slRng cks q n) (ho : 0 ≤ i7) (ho' : i7 ≤ 255) : F5 [i0, i1, i2, i3, i4, i5, i6, i7, i8, i9, i10, i11, i12, q, n] [b0, b1, b2, b3, b4, b5, b6, b7, b8, b9, b10, b11] = ([], [true, true]) := by
  unfold F5
  obtain ⟨ρ, e1, e2, e3, e4⟩ := Smry.run_specT (Φ := lpF (l5.map (·.2)) (tabF T78)) (S := S5) (is := [i0, i1, i2, i3, i4, i5, i6, i7, i8, i9, i10, i11, i12, q, n]) (bs := [b0, b1, b2, b3, b4, b5, b6, b7, b8, b9, b10, b11]) rfl
  rw [e1, obAll_eq]
  clear e1
  simp only [S5, obs, Gd.d_cons, Gd.d_nil, eqns, Em.eqn, headsI, headsB, RI.d, RB.d, A.d, B.d, cm_eql, cm_neq, cm_lss, cm_leq, cm_gtr, cm_geq, List.map_cons, List.map_nil, and_true, Nat.zero_add, Nat.reduceAdd, ltn, upto, true_and, Nat.add_zero, List.getD_cons_zero, List.getD_cons_succ] at e2 e3 e4 ⊢
  simp only [e2, e3] at e4 ⊢
  clear e2 e3
  obtain ⟨hi15, hb12, ⟨hb13, hb14⟩, ⟨hb15, hb16, hb17⟩, ⟨hb18, hb19⟩, hb20, hb21, hb22⟩ := e4
  rw [show lpF (l5.map (·.2)) (tabF T78) 15 = F15 by rfl, w15] at hi15
  rw [show lpF (l5.map (·.2)) (tabF T78) 9 = F9 by rfl, awake] at hb13 hb14 hb18 hb19
  rw [show lpF (l5.map (·.2)) (tabF T78) 100500 = loopF (L100500.S.run (tabF T78) true) 16 12 by rfl] at hb15 hb16 hb17
  simp only [List.getD_cons_zero, List.getD_cons_succ] at hi15 hb13 hb14 hb18 hb19
  cases hm : may i4 i5 i7 i8 i11 i12
  · have t15 : ρ.i 15 = 1 := by rw [hi15, hm]; rfl
    have t12 : ρ.b 12 = true := by rw [hb12, t15]; rfl
    have t21 : ρ.b 21 = false := by rw [hb21, t12]; rfl
    simp [t12, t21, hb22, hb13, hb14]
  · have t15 : ρ.i 15 = 0 := by rw [hi15, hm]; rfl
    have t12 : ρ.b 12 = false := by rw [hb12, t15]; rfl
    have t21 : ρ.b 21 = true := by rw [hb21, t12]; rfl
    obtain ⟨o, hl, hpost⟩ := loop_rule (F := L100500.S.run (tabF T78) true) (nI := 16) (nB := 12) (Inv q n) (fun is _ => (100 - is.getD 2 0).toNat) (fun p => p = ([], [false, true])) (turn q n hq)
      [q, n, 0, i0, i1, i2, i3, i4, i5, i6, i7, i8, i9, i10, i11, i12] [b0, b1, b2, b3, b4, b5, b6, b7, b8, b9, b10, b11] ⟨0, i0, i1, i2, i3, i4, i5, i6, i7, i8, i9, i10, i11, i12, b0, b1, b2, b3, b4, b5, b6, b7, b8, b9, b10, b11, rfl, rfl, by omega, by omega, ho, ho', hm⟩
    subst hpost
    rw [hl] at hb15 hb16 hb17
    simp only [List.getD_cons_zero, List.getD_cons_succ] at hb15 hb16 hb17
    simp [t12, t21, hb15, hb16, hb17, hb18, hb19, hb20, hb22]
end Go.Proofs.YtalnndmnnffnmaaGreat.Cr
