/-
  What the processor asks for can be told; and what both of two runs do, one of them erased. WRITTEN BY PROGRAM (wip/gen/crr.py). No condition.
-/
import Derived.Test.YtalnndmnnffnmaaGreatCrP
import Derived.Test.YtalnndmnnffnmaaGreatCrXc
set_option linter.unusedVariables false
set_option linter.unusedSimpArgs false
namespace Go.Proofs.YtalnndmnnffnmaaGreat.Cr
open Go Go.Proofs Go.Proofs.YtalnndmnnffnmaaGreat.Sx

theorem ac0 : ∀ t : Int, 1 ≤ t → t < 2 → chkA o0 t = true := by
  intro t h1 h2
  have : t = 1 := by omega
  subst this
  exact a0_1
theorem ac1 : ∀ t : Int, 1 ≤ t → t < 2 → chkA o1 t = true := by
  intro t h1 h2
  have : t = 1 := by omega
  subst this
  exact a1_1
theorem ac2 : ∀ t : Int, 1 ≤ t → t < 2 → chkA o2 t = true := by
  intro t h1 h2
  have : t = 1 := by omega
  subst this
  exact a2_1
theorem ac3 : ∀ t : Int, 1 ≤ t → t < 3 → chkA o3 t = true := by
  intro t h1 h2
  have : t = 1 ∨ t = 2 := by omega
  rcases this with rfl | rfl
  · exact a3_1
  · exact a3_2
theorem ac4 : ∀ t : Int, 1 ≤ t → t < 3 → chkA o4 t = true := by
  intro t h1 h2
  have : t = 1 ∨ t = 2 := by omega
  rcases this with rfl | rfl
  · exact a4_1
  · exact a4_2
theorem ac5 : ∀ t : Int, 1 ≤ t → t < 5 → chkA o5 t = true := by
  intro t h1 h2
  have : t = 1 ∨ t = 2 ∨ t = 3 ∨ t = 4 := by omega
  rcases this with rfl | rfl | rfl | rfl
  · exact a5_1
  · exact a5_2
  · exact a5_3
  · exact a5_4
theorem ac6 : ∀ t : Int, 1 ≤ t → t < 4 → chkA o6 t = true := by
  intro t h1 h2
  have : t = 1 ∨ t = 2 ∨ t = 3 := by omega
  rcases this with rfl | rfl | rfl
  · exact a6_1
  · exact a6_2
  · exact a6_3
theorem ac7 : ∀ t : Int, 1 ≤ t → t < 4 → chkA o7 t = true := by
  intro t h1 h2
  have : t = 1 ∨ t = 2 ∨ t = 3 := by omega
  rcases this with rfl | rfl | rfl
  · exact a7_1
  · exact a7_2
  · exact a7_3
theorem ac8 : ∀ t : Int, 1 ≤ t → t < 6 → chkA o8 t = true := by
  intro t h1 h2
  have : t = 1 ∨ t = 2 ∨ t = 3 ∨ t = 4 ∨ t = 5 := by omega
  rcases this with rfl | rfl | rfl | rfl | rfl
  · exact a8_1
  · exact a8_2
  · exact a8_3
  · exact a8_4
  · exact a8_5
theorem ac9 : ∀ t : Int, 1 ≤ t → t < 4 → chkA o9 t = true := by
  intro t h1 h2
  have : t = 1 ∨ t = 2 ∨ t = 3 := by omega
  rcases this with rfl | rfl | rfl
  · exact a9_1
  · exact a9_2
  · exact a9_3
theorem ac10 : ∀ t : Int, 1 ≤ t → t < 4 → chkA o10 t = true := by
  intro t h1 h2
  have : t = 1 ∨ t = 2 ∨ t = 3 := by omega
  rcases this with rfl | rfl | rfl
  · exact a10_1
  · exact a10_2
  · exact a10_3
theorem ac11 : ∀ t : Int, 1 ≤ t → t < 4 → chkA o11 t = true := by
  intro t h1 h2
  have : t = 1 ∨ t = 2 ∨ t = 3 := by omega
  rcases this with rfl | rfl | rfl
  · exact a11_1
  · exact a11_2
  · exact a11_3
theorem ac12 : ∀ t : Int, 1 ≤ t → t < 4 → chkA o12 t = true := by
  intro t h1 h2
  have : t = 1 ∨ t = 2 ∨ t = 3 := by omega
  rcases this with rfl | rfl | rfl
  · exact a12_1
  · exact a12_2
  · exact a12_3
theorem ac13 : ∀ t : Int, 1 ≤ t → t < 6 → chkA o13 t = true := by
  intro t h1 h2
  have : t = 1 ∨ t = 2 ∨ t = 3 ∨ t = 4 ∨ t = 5 := by omega
  rcases this with rfl | rfl | rfl | rfl | rfl
  · exact a13_1
  · exact a13_2
  · exact a13_3
  · exact a13_4
  · exact a13_5
theorem ac14 : ∀ t : Int, 1 ≤ t → t < 5 → chkA o14 t = true := by
  intro t h1 h2
  have : t = 1 ∨ t = 2 ∨ t = 3 ∨ t = 4 := by omega
  rcases this with rfl | rfl | rfl | rfl
  · exact a14_1
  · exact a14_2
  · exact a14_3
  · exact a14_4
theorem ac15 : ∀ t : Int, 1 ≤ t → t < 5 → chkA o15 t = true := by
  intro t h1 h2
  have : t = 1 ∨ t = 2 ∨ t = 3 ∨ t = 4 := by omega
  rcases this with rfl | rfl | rfl | rfl
  · exact a15_1
  · exact a15_2
  · exact a15_3
  · exact a15_4
theorem ac16 : ∀ t : Int, 1 ≤ t → t < 7 → chkA o16 t = true := by
  intro t h1 h2
  have : t = 1 ∨ t = 2 ∨ t = 3 ∨ t = 4 ∨ t = 5 ∨ t = 6 := by omega
  rcases this with rfl | rfl | rfl | rfl | rfl | rfl
  · exact a16_1
  · exact a16_2
  · exact a16_3
  · exact a16_4
  · exact a16_5
  · exact a16_6
theorem ac17 : ∀ t : Int, 1 ≤ t → t < 5 → chkA o17 t = true := by
  intro t h1 h2
  have : t = 1 ∨ t = 2 ∨ t = 3 ∨ t = 4 := by omega
  rcases this with rfl | rfl | rfl | rfl
  · exact a17_1
  · exact a17_2
  · exact a17_3
  · exact a17_4
theorem ac18 : ∀ t : Int, 1 ≤ t → t < 5 → chkA o18 t = true := by
  intro t h1 h2
  have : t = 1 ∨ t = 2 ∨ t = 3 ∨ t = 4 := by omega
  rcases this with rfl | rfl | rfl | rfl
  · exact a18_1
  · exact a18_2
  · exact a18_3
  · exact a18_4
theorem ac19 : ∀ t : Int, 1 ≤ t → t < 7 → chkA o19 t = true := by
  intro t h1 h2
  have : t = 1 ∨ t = 2 ∨ t = 3 ∨ t = 4 ∨ t = 5 ∨ t = 6 := by omega
  rcases this with rfl | rfl | rfl | rfl | rfl | rfl
  · exact a19_1
  · exact a19_2
  · exact a19_3
  · exact a19_4
  · exact a19_5
  · exact a19_6
theorem ac20 : ∀ t : Int, 1 ≤ t → t < 6 → chkA o20 t = true := by
  intro t h1 h2
  have : t = 1 ∨ t = 2 ∨ t = 3 ∨ t = 4 ∨ t = 5 := by omega
  rcases this with rfl | rfl | rfl | rfl | rfl
  · exact a20_1
  · exact a20_2
  · exact a20_3
  · exact a20_4
  · exact a20_5
theorem ac21 : ∀ t : Int, 1 ≤ t → t < 6 → chkA o21 t = true := by
  intro t h1 h2
  have : t = 1 ∨ t = 2 ∨ t = 3 ∨ t = 4 ∨ t = 5 := by omega
  rcases this with rfl | rfl | rfl | rfl | rfl
  · exact a21_1
  · exact a21_2
  · exact a21_3
  · exact a21_4
  · exact a21_5
theorem ac22 : ∀ t : Int, 1 ≤ t → t < 8 → chkA o22 t = true := by
  intro t h1 h2
  have : t = 1 ∨ t = 2 ∨ t = 3 ∨ t = 4 ∨ t = 5 ∨ t = 6 ∨ t = 7 := by omega
  rcases this with rfl | rfl | rfl | rfl | rfl | rfl | rfl
  · exact a22_1
  · exact a22_2
  · exact a22_3
  · exact a22_4
  · exact a22_5
  · exact a22_6
  · exact a22_7
theorem ac23 : ∀ t : Int, 1 ≤ t → t < 6 → chkA o23 t = true := by
  intro t h1 h2
  have : t = 1 ∨ t = 2 ∨ t = 3 ∨ t = 4 ∨ t = 5 := by omega
  rcases this with rfl | rfl | rfl | rfl | rfl
  · exact a23_1
  · exact a23_2
  · exact a23_3
  · exact a23_4
  · exact a23_5
theorem ac24 : ∀ t : Int, 1 ≤ t → t < 6 → chkA o24 t = true := by
  intro t h1 h2
  have : t = 1 ∨ t = 2 ∨ t = 3 ∨ t = 4 ∨ t = 5 := by omega
  rcases this with rfl | rfl | rfl | rfl | rfl
  · exact a24_1
  · exact a24_2
  · exact a24_3
  · exact a24_4
  · exact a24_5
theorem ac25 : ∀ t : Int, 1 ≤ t → t < 8 → chkA o25 t = true := by
  intro t h1 h2
  have : t = 1 ∨ t = 2 ∨ t = 3 ∨ t = 4 ∨ t = 5 ∨ t = 6 ∨ t = 7 := by omega
  rcases this with rfl | rfl | rfl | rfl | rfl | rfl | rfl
  · exact a25_1
  · exact a25_2
  · exact a25_3
  · exact a25_4
  · exact a25_5
  · exact a25_6
  · exact a25_7
theorem ac26 : ∀ t : Int, 1 ≤ t → t < 4 → chkA o26 t = true := by
  intro t h1 h2
  have : t = 1 ∨ t = 2 ∨ t = 3 := by omega
  rcases this with rfl | rfl | rfl
  · exact a26_1
  · exact a26_2
  · exact a26_3
theorem ac27 : ∀ t : Int, 1 ≤ t → t < 5 → chkA o27 t = true := by
  intro t h1 h2
  have : t = 1 ∨ t = 2 ∨ t = 3 ∨ t = 4 := by omega
  rcases this with rfl | rfl | rfl | rfl
  · exact a27_1
  · exact a27_2
  · exact a27_3
  · exact a27_4
theorem ac28 : ∀ t : Int, 1 ≤ t → t < 3 → chkA o28 t = true := by
  intro t h1 h2
  have : t = 1 ∨ t = 2 := by omega
  rcases this with rfl | rfl
  · exact a28_1
  · exact a28_2
theorem ac29 : ∀ t : Int, 1 ≤ t → t < 6 → chkA o29 t = true := by
  intro t h1 h2
  have : t = 1 ∨ t = 2 ∨ t = 3 ∨ t = 4 ∨ t = 5 := by omega
  rcases this with rfl | rfl | rfl | rfl | rfl
  · exact a29_1
  · exact a29_2
  · exact a29_3
  · exact a29_4
  · exact a29_5
theorem ac30 : ∀ t : Int, 1 ≤ t → t < 6 → chkA o30 t = true := by
  intro t h1 h2
  have : t = 1 ∨ t = 2 ∨ t = 3 ∨ t = 4 ∨ t = 5 := by omega
  rcases this with rfl | rfl | rfl | rfl | rfl
  · exact a30_1
  · exact a30_2
  · exact a30_3
  · exact a30_4
  · exact a30_5
theorem ac31 : ∀ t : Int, 1 ≤ t → t < 6 → chkA o31 t = true := by
  intro t h1 h2
  have : t = 1 ∨ t = 2 ∨ t = 3 ∨ t = 4 ∨ t = 5 := by omega
  rcases this with rfl | rfl | rfl | rfl | rfl
  · exact a31_1
  · exact a31_2
  · exact a31_3
  · exact a31_4
  · exact a31_5
theorem ac32 : ∀ t : Int, 1 ≤ t → t < 7 → chkA o32 t = true := by
  intro t h1 h2
  have : t = 1 ∨ t = 2 ∨ t = 3 ∨ t = 4 ∨ t = 5 ∨ t = 6 := by omega
  rcases this with rfl | rfl | rfl | rfl | rfl | rfl
  · exact a32_1
  · exact a32_2
  · exact a32_3
  · exact a32_4
  · exact a32_5
  · exact a32_6
theorem ac33 : ∀ t : Int, 1 ≤ t → t < 3 → chkA o33 t = true := by
  intro t h1 h2
  have : t = 1 ∨ t = 2 := by omega
  rcases this with rfl | rfl
  · exact a33_1
  · exact a33_2
theorem ac34 : ∀ t : Int, 1 ≤ t → t < 4 → chkA o34 t = true := by
  intro t h1 h2
  have : t = 1 ∨ t = 2 ∨ t = 3 := by omega
  rcases this with rfl | rfl | rfl
  · exact a34_1
  · exact a34_2
  · exact a34_3
theorem ac35 : ∀ t : Int, 1 ≤ t → t < 2 → chkA o35 t = true := by
  intro t h1 h2
  have : t = 1 := by omega
  subst this
  exact a35_1
theorem acs : ∀ c, c ∈ classes → ∀ t : Int, 1 ≤ t → t < c.2 → chkA c.1 t = true := (forall_cons ac0 (forall_cons ac1 (forall_cons ac2 (forall_cons ac3 (forall_cons ac4 (forall_cons ac5 (forall_cons ac6 (forall_cons ac7 (forall_cons ac8 (forall_cons ac9 (forall_cons ac10 (forall_cons ac11 (forall_cons ac12 (forall_cons ac13 (forall_cons ac14 (forall_cons ac15 (forall_cons ac16 (forall_cons ac17 (forall_cons ac18 (forall_cons ac19 (forall_cons ac20 (forall_cons ac21 (forall_cons ac22 (forall_cons ac23 (forall_cons ac24 (forall_cons ac25 (forall_cons ac26 (forall_cons ac27 (forall_cons ac28 (forall_cons ac29 (forall_cons ac30 (forall_cons ac31 (forall_cons ac32 (forall_cons ac33 (forall_cons ac34 (forall_cons ac35 (fun _ h => by cases h)))))))))))))))))))))))))))))))))))))
theorem lookA {op t : Int} (ho : 0 ≤ op) (ho' : op ≤ 255) (ht : tmay op t = true) : ∃ O, op ∈ O ∧ chkA O t = true := by
  unfold tmay at ht
  simp only [Bool.and_eq_true, Bool.or_eq_true, decide_eq_true_eq] at ht
  by_cases h : t ≤ 0
  · have : t = 0 := by omega
    subst this
    exact ⟨all256, mem_all ho ho', a_0⟩
  · have hc := cover (n := op.toNat) (by omega)
    rw [List.any_eq_true] at hc
    obtain ⟨c, hc, h2⟩ := hc
    simp only [Bool.and_eq_true, List.any_eq_true, decide_eq_true_eq] at h2
    obtain ⟨⟨x, hx, hx'⟩, h3⟩ := h2
    have e : x = op := by rw [hx']; omega
    exact ⟨c.1, e ▸ hx, acs c hc t (by omega) (by rw [h3]; omega)⟩
/-- What is asked for can be told. -/
theorem ask_ok (i0 i1 i2 i3 i4 i5 i6 i7 i8 i9 i10 i11 i12 : Int) (b0 b1 b2 b3 b4 b5 b6 b7 b8 b9 b10 b11 : Bool) (ho : 0 ≤ i7) (ho' : i7 ≤ 255) (hm : may i4 i5 i7 i8 i11 i12 = true) : (F14 [i0, i1, i2, i3, i4, i5, i6, i7, i8, i9, i10, i11, i12] [b0, b1, b2, b3, b4, b5, b6, b7, b8, b9, b10, b11]).2.getD 0 false = true := by
  have ht : tmay i7 i8 = true := by
    unfold may at hm
    simp only [Bool.and_eq_true] at hm
    exact hm.1.1.1.1
  obtain ⟨O, h1, h3⟩ := lookA ho ho' ht
  have hst := st_ok (i0 := i0) (i1 := i1) (i2 := i2) (i3 := i3) (i6 := i6) (i9 := i9) (i10 := i10) (l := []) (ls := []) h1 hm VwI.nil
  rw [List.append_nil] at hst
  have hw := v14 (stI O [i8]) (List.replicate 12 none) [i0, i1, i2, i3, i4, i5, i6, i7, i8, i9, i10, i11, i12] [b0, b1, b2, b3, b4, b5, b6, b7, b8, b9, b10, b11] rfl rfl hst reps
  unfold chkA at h3
  split at h3
  · rename_i he
    exact hw.2 0 true (by rw [he]; rfl)
  · cases h3
theorem may_er {p s op t a b : Int} (h : may p s op t a b = true) : may p 0 op t a b = true := by
  unfold may at h ⊢
  simp only [Bool.and_eq_true] at h ⊢
  exact ⟨h.1, by rw [and_zero_l]; rfl⟩
theorem zf {x : Bool} : (⟨false, none, some false⟩ : Lb Bool).ok x false := ⟨fun h => (by cases h), fun _ h => (by cases h), fun _ h => (by cases h; rfl)⟩
theorem z0 {x : Int} : (⟨false, none, some 0⟩ : Lb Int).ok x 0 := ⟨fun h => (by cases h), fun _ h => (by cases h), fun _ h => (by cases h; rfl)⟩
/-- Both ask for the same. -/
theorem two14 (i0 i1 i2 i3 i4 i5 i6 i7 i8 i9 i10 i11 i12 : Int) (b0 b1 b2 b3 b4 b5 b6 b7 b8 b9 b10 b11 : Bool) (hm : may i4 i5 i7 i8 i11 i12 = true) : ∀ o o', F14 [i0, i1, i2, i3, i4, i5, i6, i7, i8, i9, i10, i11, i12] [b0, b1, b2, b3, b4, b5, b6, b7, b8, b9, b10, b11] = o → F14 [i0, i1, i2, i3, i4, 0, i6, i7, i8, i9, i10, i11, i12] [false, false, false, false, false, false, false, b7, b8, b9, false, b11] = o' →
    o.1.getD 0 0 = o'.1.getD 0 0 ∧ o.1.getD 1 0 = o'.1.getD 1 0 ∧ o.2.getD 1 false = o'.2.getD 1 false ∧ o'.2.getD 2 false = false ∧ o'.2.getD 3 false = false := by
  intro o o' h h'
  rw [g14 rfl rfl (by rw [w15, hm]; rfl)] at h
  rw [g14 rfl rfl (by rw [w15, may_er hm]; rfl)] at h'
  have hw := q14 erI erB [i0, i1, i2, i3, i4, i5, i6, i7, i8, i9, i10, i11, i12] [b0, b1, b2, b3, b4, b5, b6, b7, b8, b9, b10, b11] [i0, i1, i2, i3, i4, 0, i6, i7, i8, i9, i10, i11, i12] [false, false, false, false, false, false, false, b7, b8, b9, false, b11] rfl rfl rfl rfl (Pw.cons Lb.eqv_ok (Pw.cons Lb.eqv_ok (Pw.cons Lb.eqv_ok (Pw.cons Lb.eqv_ok (Pw.cons Lb.eqv_ok (Pw.cons z0 (Pw.cons Lb.eqv_ok (Pw.cons Lb.eqv_ok (Pw.cons Lb.eqv_ok (Pw.cons Lb.eqv_ok (Pw.cons Lb.eqv_ok (Pw.cons Lb.eqv_ok (Pw.cons Lb.eqv_ok Pw.nil))))))))))))) (Pw.cons zf (Pw.cons zf (Pw.cons zf (Pw.cons zf (Pw.cons zf (Pw.cons zf (Pw.cons zf (Pw.cons Lb.eqv_ok (Pw.cons Lb.eqv_ok (Pw.cons Lb.eqv_ok (Pw.cons zf (Pw.cons Lb.eqv_ok Pw.nil))))))))))))
  rw [h, h'] at hw
  have hk := er14_ok
  simp only [Bool.and_eq_true] at hk
  obtain ⟨⟨⟨⟨k1, k2⟩, k3⟩, k4⟩, k5⟩ := hk
  refine ⟨(hw.1 0).1 k1, (hw.1 1).1 k2, (hw.2 1).1 k3, ?_, ?_⟩
  · split at k4
    · rename_i he; exact (hw.2 2).2.2 false he
    · cases k4
  · split at k5
    · rename_i he; exact (hw.2 3).2.2 false he
    · cases k5
/-- Both come to the same, one of them erased. -/
theorem two13 (i0 i1 i2 i3 i4 i5 i6 i7 i8 i9 i10 i11 i12 v : Int) (b0 b1 b2 b3 b4 b5 b6 b7 b8 b9 b10 b11 c0 c1 c2 c3 : Bool) (hm : may i4 i5 i7 i8 i11 i12 = true) : ∀ o o', F13 [i0, i1, i2, i3, i4, i5, i6, i7, i8, i9, i10, i11, i12, v] [b0, b1, b2, b3, b4, b5, b6, b7, b8, b9, b10, b11, c0, c1, c2, c3] = o → F13 [i0, i1, i2, i3, i4, 0, i6, i7, i8, i9, i10, i11, i12, v] [false, false, false, false, false, false, false, b7, b8, b9, false, b11, false, c1, c2, c3] = o' →
    o.1.getD 0 0 = o'.1.getD 0 0 ∧ o.1.getD 1 0 = o'.1.getD 1 0 ∧ o.1.getD 2 0 = o'.1.getD 2 0 ∧ o.1.getD 3 0 = o'.1.getD 3 0 ∧ o.1.getD 4 0 = o'.1.getD 4 0 ∧ o'.1.getD 5 0 = 0 ∧ o.1.getD 6 0 = o'.1.getD 6 0 ∧ o.1.getD 7 0 = o'.1.getD 7 0 ∧ o.1.getD 8 0 = o'.1.getD 8 0 ∧ o.1.getD 9 0 = o'.1.getD 9 0 ∧ o.1.getD 10 0 = o'.1.getD 10 0 ∧ o.1.getD 11 0 = o'.1.getD 11 0 ∧ o.1.getD 12 0 = o'.1.getD 12 0 ∧
    o'.2.getD 1 false = false ∧ o'.2.getD 2 false = false ∧ o'.2.getD 3 false = false ∧ o'.2.getD 4 false = false ∧ o'.2.getD 5 false = false ∧ o'.2.getD 6 false = false ∧ o'.2.getD 7 false = false ∧ o.2.getD 8 false = o'.2.getD 8 false ∧ o.2.getD 9 false = o'.2.getD 9 false ∧ o.2.getD 10 false = o'.2.getD 10 false ∧ o'.2.getD 11 false = false ∧ o.2.getD 12 false = o'.2.getD 12 false := by
  intro o o' h h'
  have e1 := g13 (is := [i0, i1, i2, i3, i4, i5, i6, i7, i8, i9, i10, i11, i12]) (ks := [v]) (bs := [b0, b1, b2, b3, b4, b5, b6, b7, b8, b9, b10, b11]) (cs := [c0, c1, c2, c3]) rfl rfl (by rw [w15, hm]; rfl)
  have e2 := g13 (is := [i0, i1, i2, i3, i4, 0, i6, i7, i8, i9, i10, i11, i12]) (ks := [v]) (bs := [false, false, false, false, false, false, false, b7, b8, b9, false, b11]) (cs := [false, c1, c2, c3]) rfl rfl (by rw [w15, may_er hm]; rfl)
  simp only [List.cons_append, List.nil_append] at e1 e2
  rw [e1] at h
  rw [e2] at h'
  have hw := q13 (erI ++ [Lb.eqv]) (erB ++ [⟨false, none, some false⟩, Lb.eqv, Lb.eqv, Lb.eqv]) [i0, i1, i2, i3, i4, i5, i6, i7, i8, i9, i10, i11, i12, v] [b0, b1, b2, b3, b4, b5, b6, b7, b8, b9, b10, b11, c0, c1, c2, c3] [i0, i1, i2, i3, i4, 0, i6, i7, i8, i9, i10, i11, i12, v] [false, false, false, false, false, false, false, b7, b8, b9, false, b11, false, c1, c2, c3] rfl rfl rfl rfl
    (Pw.cons Lb.eqv_ok (Pw.cons Lb.eqv_ok (Pw.cons Lb.eqv_ok (Pw.cons Lb.eqv_ok (Pw.cons Lb.eqv_ok (Pw.cons z0 (Pw.cons Lb.eqv_ok (Pw.cons Lb.eqv_ok (Pw.cons Lb.eqv_ok (Pw.cons Lb.eqv_ok (Pw.cons Lb.eqv_ok (Pw.cons Lb.eqv_ok (Pw.cons Lb.eqv_ok (Pw.cons Lb.eqv_ok Pw.nil)))))))))))))) (Pw.cons zf (Pw.cons zf (Pw.cons zf (Pw.cons zf (Pw.cons zf (Pw.cons zf (Pw.cons zf (Pw.cons Lb.eqv_ok (Pw.cons Lb.eqv_ok (Pw.cons Lb.eqv_ok (Pw.cons zf (Pw.cons Lb.eqv_ok (Pw.cons zf (Pw.cons Lb.eqv_ok (Pw.cons Lb.eqv_ok (Pw.cons Lb.eqv_ok Pw.nil))))))))))))))))
  rw [h, h'] at hw
  refine ⟨(hw.1 0).1 er13_i0, (hw.1 1).1 er13_i1, (hw.1 2).1 er13_i2, (hw.1 3).1 er13_i3, (hw.1 4).1 er13_i4, ?_, (hw.1 6).1 er13_i6, (hw.1 7).1 er13_i7, (hw.1 8).1 er13_i8, (hw.1 9).1 er13_i9, (hw.1 10).1 er13_i10, (hw.1 11).1 er13_i11, (hw.1 12).1 er13_i12, ?_, ?_, ?_, ?_, ?_, ?_, ?_, (hw.2 8).1 er13_b7, (hw.2 9).1 er13_b8, (hw.2 10).1 er13_b9, ?_, (hw.2 12).1 er13_b11⟩
  · have hk := er13_i5
    split at hk
    · rename_i he; exact (hw.1 5).2.2 0 he
    · cases hk
  · have hk := er13_b0
    split at hk
    · rename_i he; exact (hw.2 1).2.2 false he
    · cases hk
  · have hk := er13_b1
    split at hk
    · rename_i he; exact (hw.2 2).2.2 false he
    · cases hk
  · have hk := er13_b2
    split at hk
    · rename_i he; exact (hw.2 3).2.2 false he
    · cases hk
  · have hk := er13_b3
    split at hk
    · rename_i he; exact (hw.2 4).2.2 false he
    · cases hk
  · have hk := er13_b4
    split at hk
    · rename_i he; exact (hw.2 5).2.2 false he
    · cases hk
  · have hk := er13_b5
    split at hk
    · rename_i he; exact (hw.2 6).2.2 false he
    · cases hk
  · have hk := er13_b6
    split at hk
    · rename_i he; exact (hw.2 7).2.2 false he
    · cases hk
  · have hk := er13_b10
    split at hk
    · rename_i he; exact (hw.2 11).2.2 false he
    · cases hk
end Go.Proofs.YtalnndmnnffnmaaGreat.Cr
