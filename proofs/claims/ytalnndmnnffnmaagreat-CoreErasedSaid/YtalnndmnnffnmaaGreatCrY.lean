/-
  The processor's cycle: one that may be stays one; Ctl stays. WRITTEN BY PROGRAM (wip/gen/cry.py). No condition.
-/
import Derived.Test.YtalnndmnnffnmaaGreatCrX
set_option linter.unusedVariables false
set_option linter.unusedSimpArgs false
namespace Go.Proofs.YtalnndmnnffnmaaGreat.Cr
open Go Go.Proofs Go.Proofs.YtalnndmnnffnmaaGreat.Sx

noncomputable def chkO : Bool := ((V13 [VI.top, VI.top, VI.top, VI.top, VI.top, VI.top, VI.top, VI.msk 255, VI.top, VI.top, VI.top, VI.top, VI.top, VI.msk 255] (List.replicate 16 none)).1.getD 7 VI.top).within 255
theorem op_t : chkO = true := by kernel_rfl
theorem forall_cons {α : Type} {p : α → Prop} {a : α} {l : List α} (h : p a) (h' : ∀ c, c ∈ l → p c) : ∀ c, c ∈ a :: l → p c := fun c hc => by
  rcases List.mem_cons.1 hc with rfl | hc
  · exact h
  · exact h' c hc
theorem tc0 : ∀ t : Int, 1 ≤ t → t < 2 → chkT o0 VI.top t = true ∧ chkW o0 t = true := by
  intro t h1 h2
  have : t = 1 := by omega
  subst this
  exact ⟨t0_1, w0_1⟩
theorem tc1 : ∀ t : Int, 1 ≤ t → t < 2 → chkT o1 VI.top t = true ∧ chkW o1 t = true := by
  intro t h1 h2
  have : t = 1 := by omega
  subst this
  exact ⟨t1_1, w1_1⟩
theorem tc2 : ∀ t : Int, 1 ≤ t → t < 2 → chkT o2 VI.top t = true ∧ chkW o2 t = true := by
  intro t h1 h2
  have : t = 1 := by omega
  subst this
  exact ⟨t2_1, w2_1⟩
theorem tc3 : ∀ t : Int, 1 ≤ t → t < 3 → chkT o3 VI.top t = true ∧ chkW o3 t = true := by
  intro t h1 h2
  have : t = 1 ∨ t = 2 := by omega
  rcases this with rfl | rfl
  · exact ⟨t3_1, w3_1⟩
  · exact ⟨t3_2, w3_2⟩
theorem tc4 : ∀ t : Int, 1 ≤ t → t < 3 → chkT o4 VI.top t = true ∧ chkW o4 t = true := by
  intro t h1 h2
  have : t = 1 ∨ t = 2 := by omega
  rcases this with rfl | rfl
  · exact ⟨t4_1, w4_1⟩
  · exact ⟨t4_2, w4_2⟩
theorem tc5 : ∀ t : Int, 1 ≤ t → t < 5 → chkT o5 VI.top t = true ∧ chkW o5 t = true := by
  intro t h1 h2
  have : t = 1 ∨ t = 2 ∨ t = 3 ∨ t = 4 := by omega
  rcases this with rfl | rfl | rfl | rfl
  · exact ⟨t5_1, w5_1⟩
  · exact ⟨t5_2, w5_2⟩
  · exact ⟨t5_3, w5_3⟩
  · exact ⟨t5_4, w5_4⟩
theorem tc6 : ∀ t : Int, 1 ≤ t → t < 4 → chkT o6 VI.top t = true ∧ chkW o6 t = true := by
  intro t h1 h2
  have : t = 1 ∨ t = 2 ∨ t = 3 := by omega
  rcases this with rfl | rfl | rfl
  · exact ⟨t6_1, w6_1⟩
  · exact ⟨t6_2, w6_2⟩
  · exact ⟨t6_3, w6_3⟩
theorem tc7 : ∀ t : Int, 1 ≤ t → t < 4 → chkT o7 VI.top t = true ∧ chkW o7 t = true := by
  intro t h1 h2
  have : t = 1 ∨ t = 2 ∨ t = 3 := by omega
  rcases this with rfl | rfl | rfl
  · exact ⟨t7_1, w7_1⟩
  · exact ⟨t7_2, w7_2⟩
  · exact ⟨t7_3, w7_3⟩
theorem tc8 : ∀ t : Int, 1 ≤ t → t < 6 → chkT o8 VI.top t = true ∧ chkW o8 t = true := by
  intro t h1 h2
  have : t = 1 ∨ t = 2 ∨ t = 3 ∨ t = 4 ∨ t = 5 := by omega
  rcases this with rfl | rfl | rfl | rfl | rfl
  · exact ⟨t8_1, w8_1⟩
  · exact ⟨t8_2, w8_2⟩
  · exact ⟨t8_3, w8_3⟩
  · exact ⟨t8_4, w8_4⟩
  · exact ⟨t8_5, w8_5⟩
theorem tc9 : ∀ t : Int, 1 ≤ t → t < 4 → chkT o9 VI.top t = true ∧ chkW o9 t = true := by
  intro t h1 h2
  have : t = 1 ∨ t = 2 ∨ t = 3 := by omega
  rcases this with rfl | rfl | rfl
  · exact ⟨t9_1, w9_1⟩
  · exact ⟨t9_2, w9_2⟩
  · exact ⟨t9_3, w9_3⟩
theorem tc10 : ∀ t : Int, 1 ≤ t → t < 4 → chkT o10 VI.top t = true ∧ chkW o10 t = true := by
  intro t h1 h2
  have : t = 1 ∨ t = 2 ∨ t = 3 := by omega
  rcases this with rfl | rfl | rfl
  · exact ⟨t10_1, w10_1⟩
  · exact ⟨t10_2, w10_2⟩
  · exact ⟨t10_3, w10_3⟩
theorem tc11 : ∀ t : Int, 1 ≤ t → t < 4 → chkT o11 VI.top t = true ∧ chkW o11 t = true := by
  intro t h1 h2
  have : t = 1 ∨ t = 2 ∨ t = 3 := by omega
  rcases this with rfl | rfl | rfl
  · exact ⟨t11_1, w11_1⟩
  · exact ⟨t11_2, w11_2⟩
  · exact ⟨t11_3, w11_3⟩
theorem tc12 : ∀ t : Int, 1 ≤ t → t < 4 → chkT o12 VI.top t = true ∧ chkW o12 t = true := by
  intro t h1 h2
  have : t = 1 ∨ t = 2 ∨ t = 3 := by omega
  rcases this with rfl | rfl | rfl
  · exact ⟨t12_1, w12_1⟩
  · exact ⟨t12_2, w12_2⟩
  · exact ⟨t12_3, w12_3⟩
theorem tc13 : ∀ t : Int, 1 ≤ t → t < 6 → chkT o13 VI.top t = true ∧ chkW o13 t = true := by
  intro t h1 h2
  have : t = 1 ∨ t = 2 ∨ t = 3 ∨ t = 4 ∨ t = 5 := by omega
  rcases this with rfl | rfl | rfl | rfl | rfl
  · exact ⟨t13_1, w13_1⟩
  · exact ⟨t13_2, w13_2⟩
  · exact ⟨t13_3, w13_3⟩
  · exact ⟨t13_4, w13_4⟩
  · exact ⟨t13_5, w13_5⟩
theorem tc14 : ∀ t : Int, 1 ≤ t → t < 5 → chkT o14 VI.top t = true ∧ chkW o14 t = true := by
  intro t h1 h2
  have : t = 1 ∨ t = 2 ∨ t = 3 ∨ t = 4 := by omega
  rcases this with rfl | rfl | rfl | rfl
  · exact ⟨t14_1, w14_1⟩
  · exact ⟨t14_2, w14_2⟩
  · exact ⟨t14_3, w14_3⟩
  · exact ⟨t14_4, w14_4⟩
theorem tc15 : ∀ t : Int, 1 ≤ t → t < 5 → chkT o15 VI.top t = true ∧ chkW o15 t = true := by
  intro t h1 h2
  have : t = 1 ∨ t = 2 ∨ t = 3 ∨ t = 4 := by omega
  rcases this with rfl | rfl | rfl | rfl
  · exact ⟨t15_1, w15_1⟩
  · exact ⟨t15_2, w15_2⟩
  · exact ⟨t15_3, w15_3⟩
  · exact ⟨t15_4, w15_4⟩
theorem tc16 : ∀ t : Int, 1 ≤ t → t < 7 → chkT o16 VI.top t = true ∧ chkW o16 t = true := by
  intro t h1 h2
  have : t = 1 ∨ t = 2 ∨ t = 3 ∨ t = 4 ∨ t = 5 ∨ t = 6 := by omega
  rcases this with rfl | rfl | rfl | rfl | rfl | rfl
  · exact ⟨t16_1, w16_1⟩
  · exact ⟨t16_2, w16_2⟩
  · exact ⟨t16_3, w16_3⟩
  · exact ⟨t16_4, w16_4⟩
  · exact ⟨t16_5, w16_5⟩
  · exact ⟨t16_6, w16_6⟩
theorem tc17 : ∀ t : Int, 1 ≤ t → t < 5 → chkT o17 VI.top t = true ∧ chkW o17 t = true := by
  intro t h1 h2
  have : t = 1 ∨ t = 2 ∨ t = 3 ∨ t = 4 := by omega
  rcases this with rfl | rfl | rfl | rfl
  · exact ⟨t17_1, w17_1⟩
  · exact ⟨t17_2, w17_2⟩
  · exact ⟨t17_3, w17_3⟩
  · exact ⟨t17_4, w17_4⟩
theorem tc18 : ∀ t : Int, 1 ≤ t → t < 5 → chkT o18 VI.top t = true ∧ chkW o18 t = true := by
  intro t h1 h2
  have : t = 1 ∨ t = 2 ∨ t = 3 ∨ t = 4 := by omega
  rcases this with rfl | rfl | rfl | rfl
  · exact ⟨t18_1, w18_1⟩
  · exact ⟨t18_2, w18_2⟩
  · exact ⟨t18_3, w18_3⟩
  · exact ⟨t18_4, w18_4⟩
theorem tc19 : ∀ t : Int, 1 ≤ t → t < 7 → chkT o19 VI.top t = true ∧ chkW o19 t = true := by
  intro t h1 h2
  have : t = 1 ∨ t = 2 ∨ t = 3 ∨ t = 4 ∨ t = 5 ∨ t = 6 := by omega
  rcases this with rfl | rfl | rfl | rfl | rfl | rfl
  · exact ⟨t19_1, w19_1⟩
  · exact ⟨t19_2, w19_2⟩
  · exact ⟨t19_3, w19_3⟩
  · exact ⟨t19_4, w19_4⟩
  · exact ⟨t19_5, w19_5⟩
  · exact ⟨t19_6, w19_6⟩
theorem tc20 : ∀ t : Int, 1 ≤ t → t < 6 → chkT o20 VI.top t = true ∧ chkW o20 t = true := by
  intro t h1 h2
  have : t = 1 ∨ t = 2 ∨ t = 3 ∨ t = 4 ∨ t = 5 := by omega
  rcases this with rfl | rfl | rfl | rfl | rfl
  · exact ⟨t20_1, w20_1⟩
  · exact ⟨t20_2, w20_2⟩
  · exact ⟨t20_3, w20_3⟩
  · exact ⟨t20_4, w20_4⟩
  · exact ⟨t20_5, w20_5⟩
theorem tc21 : ∀ t : Int, 1 ≤ t → t < 6 → chkT o21 VI.top t = true ∧ chkW o21 t = true := by
  intro t h1 h2
  have : t = 1 ∨ t = 2 ∨ t = 3 ∨ t = 4 ∨ t = 5 := by omega
  rcases this with rfl | rfl | rfl | rfl | rfl
  · exact ⟨t21_1, w21_1⟩
  · exact ⟨t21_2, w21_2⟩
  · exact ⟨t21_3, w21_3⟩
  · exact ⟨t21_4, w21_4⟩
  · exact ⟨t21_5, w21_5⟩
theorem tc22 : ∀ t : Int, 1 ≤ t → t < 8 → chkT o22 VI.top t = true ∧ chkW o22 t = true := by
  intro t h1 h2
  have : t = 1 ∨ t = 2 ∨ t = 3 ∨ t = 4 ∨ t = 5 ∨ t = 6 ∨ t = 7 := by omega
  rcases this with rfl | rfl | rfl | rfl | rfl | rfl | rfl
  · exact ⟨t22_1, w22_1⟩
  · exact ⟨t22_2, w22_2⟩
  · exact ⟨t22_3, w22_3⟩
  · exact ⟨t22_4, w22_4⟩
  · exact ⟨t22_5, w22_5⟩
  · exact ⟨t22_6, w22_6⟩
  · exact ⟨t22_7, w22_7⟩
theorem tc23 : ∀ t : Int, 1 ≤ t → t < 6 → chkT o23 VI.top t = true ∧ chkW o23 t = true := by
  intro t h1 h2
  have : t = 1 ∨ t = 2 ∨ t = 3 ∨ t = 4 ∨ t = 5 := by omega
  rcases this with rfl | rfl | rfl | rfl | rfl
  · exact ⟨t23_1, w23_1⟩
  · exact ⟨t23_2, w23_2⟩
  · exact ⟨t23_3, w23_3⟩
  · exact ⟨t23_4, w23_4⟩
  · exact ⟨t23_5, w23_5⟩
theorem tc24 : ∀ t : Int, 1 ≤ t → t < 6 → chkT o24 VI.top t = true ∧ chkW o24 t = true := by
  intro t h1 h2
  have : t = 1 ∨ t = 2 ∨ t = 3 ∨ t = 4 ∨ t = 5 := by omega
  rcases this with rfl | rfl | rfl | rfl | rfl
  · exact ⟨t24_1, w24_1⟩
  · exact ⟨t24_2, w24_2⟩
  · exact ⟨t24_3, w24_3⟩
  · exact ⟨t24_4, w24_4⟩
  · exact ⟨t24_5, w24_5⟩
theorem tc25 : ∀ t : Int, 1 ≤ t → t < 8 → chkT o25 VI.top t = true ∧ chkW o25 t = true := by
  intro t h1 h2
  have : t = 1 ∨ t = 2 ∨ t = 3 ∨ t = 4 ∨ t = 5 ∨ t = 6 ∨ t = 7 := by omega
  rcases this with rfl | rfl | rfl | rfl | rfl | rfl | rfl
  · exact ⟨t25_1, w25_1⟩
  · exact ⟨t25_2, w25_2⟩
  · exact ⟨t25_3, w25_3⟩
  · exact ⟨t25_4, w25_4⟩
  · exact ⟨t25_5, w25_5⟩
  · exact ⟨t25_6, w25_6⟩
  · exact ⟨t25_7, w25_7⟩
theorem tc26 : ∀ t : Int, 1 ≤ t → t < 4 → chkT o26 VI.top t = true ∧ chkW o26 t = true := by
  intro t h1 h2
  have : t = 1 ∨ t = 2 ∨ t = 3 := by omega
  rcases this with rfl | rfl | rfl
  · exact ⟨t26_1, w26_1⟩
  · exact ⟨t26_2, w26_2⟩
  · exact ⟨t26_3, w26_3⟩
theorem tc27 : ∀ t : Int, 1 ≤ t → t < 5 → chkT o27 VI.top t = true ∧ chkW o27 t = true := by
  intro t h1 h2
  have : t = 1 ∨ t = 2 ∨ t = 3 ∨ t = 4 := by omega
  rcases this with rfl | rfl | rfl | rfl
  · exact ⟨t27_1, w27_1⟩
  · exact ⟨t27_2, w27_2⟩
  · exact ⟨t27_3, w27_3⟩
  · exact ⟨t27_4, w27_4⟩
theorem tc28 : ∀ t : Int, 1 ≤ t → t < 3 → chkT o28 VI.top t = true ∧ chkW o28 t = true := by
  intro t h1 h2
  have : t = 1 ∨ t = 2 := by omega
  rcases this with rfl | rfl
  · exact ⟨t28_1, w28_1⟩
  · exact ⟨t28_2, w28_2⟩
theorem tc29 : ∀ t : Int, 1 ≤ t → t < 6 → chkT o29 VI.top t = true ∧ chkW o29 t = true := by
  intro t h1 h2
  have : t = 1 ∨ t = 2 ∨ t = 3 ∨ t = 4 ∨ t = 5 := by omega
  rcases this with rfl | rfl | rfl | rfl | rfl
  · exact ⟨t29_1, w29_1⟩
  · exact ⟨t29_2, w29_2⟩
  · exact ⟨t29_3, w29_3⟩
  · exact ⟨t29_4, w29_4⟩
  · exact ⟨t29_5, w29_5⟩
theorem tc30 : ∀ t : Int, 1 ≤ t → t < 6 → chkT o30 VI.top t = true ∧ chkW o30 t = true := by
  intro t h1 h2
  have : t = 1 ∨ t = 2 ∨ t = 3 ∨ t = 4 ∨ t = 5 := by omega
  rcases this with rfl | rfl | rfl | rfl | rfl
  · exact ⟨t30_1, w30_1⟩
  · exact ⟨t30_2, w30_2⟩
  · exact ⟨t30_3, w30_3⟩
  · exact ⟨t30_4, w30_4⟩
  · exact ⟨t30_5, w30_5⟩
theorem tc31 : ∀ t : Int, 1 ≤ t → t < 6 → chkT o31 VI.top t = true ∧ chkW o31 t = true := by
  intro t h1 h2
  have : t = 1 ∨ t = 2 ∨ t = 3 ∨ t = 4 ∨ t = 5 := by omega
  rcases this with rfl | rfl | rfl | rfl | rfl
  · exact ⟨t31_1, w31_1⟩
  · exact ⟨t31_2, w31_2⟩
  · exact ⟨t31_3, w31_3⟩
  · exact ⟨t31_4, w31_4⟩
  · exact ⟨t31_5, w31_5⟩
theorem tc32 : ∀ t : Int, 1 ≤ t → t < 7 → chkT o32 VI.top t = true ∧ chkW o32 t = true := by
  intro t h1 h2
  have : t = 1 ∨ t = 2 ∨ t = 3 ∨ t = 4 ∨ t = 5 ∨ t = 6 := by omega
  rcases this with rfl | rfl | rfl | rfl | rfl | rfl
  · exact ⟨t32_1, w32_1⟩
  · exact ⟨t32_2, w32_2⟩
  · exact ⟨t32_3, w32_3⟩
  · exact ⟨t32_4, w32_4⟩
  · exact ⟨t32_5, w32_5⟩
  · exact ⟨t32_6, w32_6⟩
theorem tc33 : ∀ t : Int, 1 ≤ t → t < 3 → chkT o33 VI.top t = true ∧ chkW o33 t = true := by
  intro t h1 h2
  have : t = 1 ∨ t = 2 := by omega
  rcases this with rfl | rfl
  · exact ⟨t33_1, w33_1⟩
  · exact ⟨t33_2, w33_2⟩
theorem tc34 : ∀ t : Int, 1 ≤ t → t < 4 → chkT o34 VI.top t = true ∧ chkW o34 t = true := by
  intro t h1 h2
  have : t = 1 ∨ t = 2 ∨ t = 3 := by omega
  rcases this with rfl | rfl | rfl
  · exact ⟨t34_1, w34_1⟩
  · exact ⟨t34_2, w34_2⟩
  · exact ⟨t34_3, w34_3⟩
theorem tc35 : ∀ t : Int, 1 ≤ t → t < 2 → chkT o35 VI.top t = true ∧ chkW o35 t = true := by
  intro t h1 h2
  have : t = 1 := by omega
  subst this
  exact ⟨t35_1, w35_1⟩
def classes : List (List Int × Int) := [(o0, 2), (o1, 2), (o2, 2), (o3, 3), (o4, 3), (o5, 5), (o6, 4), (o7, 4), (o8, 6), (o9, 4), (o10, 4), (o11, 4), (o12, 4), (o13, 6), (o14, 5), (o15, 5), (o16, 7), (o17, 5), (o18, 5), (o19, 7), (o20, 6), (o21, 6), (o22, 8), (o23, 6), (o24, 6), (o25, 8), (o26, 4), (o27, 5), (o28, 3), (o29, 6), (o30, 6), (o31, 6), (o32, 7), (o33, 3), (o34, 4), (o35, 2)]
theorem tcs : ∀ c, c ∈ classes → ∀ t : Int, 1 ≤ t → t < c.2 → chkT c.1 VI.top t = true ∧ chkW c.1 t = true := (forall_cons tc0 (forall_cons tc1 (forall_cons tc2 (forall_cons tc3 (forall_cons tc4 (forall_cons tc5 (forall_cons tc6 (forall_cons tc7 (forall_cons tc8 (forall_cons tc9 (forall_cons tc10 (forall_cons tc11 (forall_cons tc12 (forall_cons tc13 (forall_cons tc14 (forall_cons tc15 (forall_cons tc16 (forall_cons tc17 (forall_cons tc18 (forall_cons tc19 (forall_cons tc20 (forall_cons tc21 (forall_cons tc22 (forall_cons tc23 (forall_cons tc24 (forall_cons tc25 (forall_cons tc26 (forall_cons tc27 (forall_cons tc28 (forall_cons tc29 (forall_cons tc30 (forall_cons tc31 (forall_cons tc32 (forall_cons tc33 (forall_cons tc34 (forall_cons tc35 (fun _ h => by cases h)))))))))))))))))))))))))))))))))))))
theorem cover {n : Nat} (h : n < 256) : (classes.any fun c => c.1.any (fun x => decide (x = (n : Int))) && decide (c.2 = most n)) = true :=
  allR_spec (f := fun n => classes.any fun c => c.1.any (fun x => decide (x = Int.ofNat n)) && decide (c.2 = most n)) (k := 8) (lo := 0) (by kernel_rfl) n (Nat.zero_le _) (by omega)
theorem mem_all {x : Int} (h0 : 0 ≤ x) (h1 : x ≤ 255) : x ∈ all256 := by
  unfold all256
  exact List.mem_map.2 ⟨x.toNat, List.mem_range.2 (by omega), by simp; omega⟩
/-- Which check tells of a processor that may be. -/
theorem look {op t v : Int} (ho : 0 ≤ op) (ho' : op ≤ 255) (hv : 0 ≤ v) (hv' : v ≤ 255) (ht : tmay op t = true) : ∃ O vl, op ∈ O ∧ vl.ok v ∧ chkT O vl t = true ∧ chkW O t = true := by
  unfold tmay at ht
  simp only [Bool.and_eq_true, Bool.or_eq_true, decide_eq_true_eq] at ht
  by_cases h : t ≤ 0
  · have : t = 0 := by omega
    subst this
    exact ⟨all256, VI.of all256, mem_all ho ho', VI.of_ok (mem_all hv hv'), t_0, w_0⟩
  · have hc := cover (n := op.toNat) (by omega)
    rw [List.any_eq_true] at hc
    obtain ⟨c, hc, h2⟩ := hc
    simp only [Bool.and_eq_true, List.any_eq_true, decide_eq_true_eq] at h2
    obtain ⟨⟨x, hx, hx'⟩, h3⟩ := h2
    have e : x = op := by rw [hx']; omega
    obtain ⟨h4, h5⟩ := tcs c hc t (by omega) (by rw [h3]; omega)
    exact ⟨c.1, VI.top, e ▸ hx, VI.top_ok, h4, h5⟩
theorem Vw.takeL {α β : Type} {ok : β → α → Prop} {tp : β} {d : α} {ls : List β} {l : List α} (htp : ∀ x, ok tp x) (n : Nat) (h : Vw ok tp d ls l) : Vw ok tp d (ls.take n) l := fun j => by
  rw [getD_take]
  split
  · exact h j
  · exact htp _
theorem outOk_ok {o : List VI} {is : List Int} (h : outOk o = true) (hi : VwI o is) : is.getD 13 0 = 0 ∧ may (is.getD 4 0) (is.getD 5 0) (is.getD 7 0) (is.getD 8 0) (is.getD 11 0) (is.getD 12 0) = true := by
  unfold outOk at h
  simp only [Bool.and_eq_true] at h
  refine ⟨?_, (okC_ok h.1 (Vw.takeL (fun _ => VI.top_ok) 13 hi)).2⟩
  have h2 := h.2
  split at h2
  · rename_i e
    have := (hi 13).1 _ e
    simpa using this
  · cases h2
theorem reps {n : Nat} {bs : List Bool} : VwB (List.replicate n none) bs := fun j => by
  have : (List.replicate n (none : VB)).getD j none = none := by
    by_cases h : j < n
    · simp [List.getD_eq_getElem?_getD, h]
    · rw [getD_ge (by simp; omega)]
  rw [this]; exact VB.none_ok
theorem repsI {n : Nat} {is : List Int} : VwI (List.replicate n VI.top) is := fun j => by
  have : (List.replicate n VI.top).getD j VI.top = VI.top := by
    by_cases h : j < n
    · simp [List.getD_eq_getElem?_getD, h]
    · rw [getD_ge (by simp; omega)]
  rw [this]; exact VI.top_ok
theorem and255 {x : Int} (h : 0 ≤ x) (h' : x ≤ 255) : arI .and .u8 x 255 = x := by
  rw [and8_nat]
  have h1 : (BitVec.ofInt 8 x).toNat = x.toNat := by
    rw [BitVec.toNat_ofInt]; omega
  have h2 : BitVec.ofInt 8 255 = BitVec.allOnes 8 := by decide
  rw [h2, BitVec.and_allOnes, h1]
  omega
theorem of_and255 {x : Int} (h : arI .and .u8 x 255 = x) : 0 ≤ x ∧ x ≤ 255 := by
  rw [and8_nat] at h
  have := (BitVec.ofInt 8 x &&& BitVec.ofInt 8 255).isLt
  omega
theorem ctl_vw (b0 b1 b2 b3 b4 b5 b6 b7 b8 b9 : Bool) (l : List Bool) {n : Nat} : VwB (ctlB n) (b0 :: b1 :: b2 :: b3 :: b4 :: b5 :: b6 :: b7 :: b8 :: b9 :: true :: l) := by
  unfold ctlB
  show VwB ([none, none, none, none, none, none, none, none, none, none, some true] ++ List.replicate n none) _
  simp only [List.cons_append, List.nil_append]
  refine Vw.cons VB.none_ok (Vw.cons VB.none_ok (Vw.cons VB.none_ok (Vw.cons VB.none_ok (Vw.cons VB.none_ok (Vw.cons VB.none_ok (Vw.cons VB.none_ok (Vw.cons VB.none_ok (Vw.cons VB.none_ok (Vw.cons VB.none_ok (Vw.cons VB.some_ok reps))))))))))
theorem st_ok {O : List Int} {i0 i1 i2 i3 i4 i5 i6 i7 i8 i9 i10 i11 i12 : Int} {l : List Int} {ls : List VI} (ho : i7 ∈ O) (hm : may i4 i5 i7 i8 i11 i12 = true) (hl : VwI ls l) : VwI (stI O [i8] ++ ls) ([i0, i1, i2, i3, i4, i5, i6, i7, i8, i9, i10, i11, i12] ++ l) := by
  unfold may at hm
  simp only [Bool.and_eq_true, decide_eq_true_eq] at hm
  obtain ⟨⟨⟨⟨_, h11⟩, h12⟩, h4⟩, h5⟩ := hm
  unfold stI
  simp only [List.cons_append, List.nil_append]
  refine Vw.cons VI.top_ok (Vw.cons VI.top_ok (Vw.cons VI.top_ok (Vw.cons VI.top_ok (Vw.cons (VI.msk_ok h4) (Vw.cons (VI.msk_ok h5) (Vw.cons VI.top_ok (Vw.cons (VI.of_ok ho) (Vw.cons (VI.of_ok (by simp)) (Vw.cons VI.top_ok (Vw.cons VI.top_ok (Vw.cons (VI.of_ok ?_) (Vw.cons (VI.of_ok ?_) hl))))))))))))
  · have : i11 = 0 ∨ i11 = 1 ∨ i11 = 2 ∨ i11 = 3 := by omega
    simpa using this
  · have : i12 = 0 ∨ i12 = 1 ∨ i12 = 2 := by omega
    simpa using this
/-- A cycle. -/
theorem take_ok (i0 i1 i2 i3 i4 i5 i6 i7 i8 i9 i10 i11 i12 v : Int) (b0 b1 b2 b3 b4 b5 b6 b7 b8 b9 b10 b11 c0 c1 c2 c3 : Bool) (ho : 0 ≤ i7) (ho' : i7 ≤ 255) (hv : 0 ≤ v) (hv' : v ≤ 255) (hm : may i4 i5 i7 i8 i11 i12 = true) :
    ∀ o, F13 [i0, i1, i2, i3, i4, i5, i6, i7, i8, i9, i10, i11, i12, v] [b0, b1, b2, b3, b4, b5, b6, b7, b8, b9, b10, b11, c0, c1, c2, c3] = o → o.2.getD 0 false = true ∧ o.1.getD 13 0 = 0 ∧ may (o.1.getD 4 0) (o.1.getD 5 0) (o.1.getD 7 0) (o.1.getD 8 0) (o.1.getD 11 0) (o.1.getD 12 0) = true ∧
      0 ≤ o.1.getD 7 0 ∧ o.1.getD 7 0 ≤ 255 ∧ (b10 = true → o.2.getD 11 false = true) := by
  intro o hF
  have ht : tmay i7 i8 = true := by
    unfold may at hm
    simp only [Bool.and_eq_true] at hm
    exact hm.1.1.1.1
  obtain ⟨O, vl, h1, h2, h3, _⟩ := look ho ho' hv hv' ht
  have hst := st_ok (i0 := i0) (i1 := i1) (i2 := i2) (i3 := i3) (i6 := i6) (i9 := i9) (i10 := i10) (l := [v]) (ls := [vl]) h1 hm (Vw.cons h2 VwI.nil)
  have hw := v13 (stI O [i8] ++ [vl]) (List.replicate 16 none) [i0, i1, i2, i3, i4, i5, i6, i7, i8, i9, i10, i11, i12, v] [b0, b1, b2, b3, b4, b5, b6, b7, b8, b9, b10, b11, c0, c1, c2, c3] rfl rfl hst reps
  have ho2 := v13 [VI.top, VI.top, VI.top, VI.top, VI.top, VI.top, VI.top, VI.msk 255, VI.top, VI.top, VI.top, VI.top, VI.top, VI.msk 255] (List.replicate 16 none) [i0, i1, i2, i3, i4, i5, i6, i7, i8, i9, i10, i11, i12, v] [b0, b1, b2, b3, b4, b5, b6, b7, b8, b9, b10, b11, c0, c1, c2, c3] rfl rfl
    (Vw.cons VI.top_ok (Vw.cons VI.top_ok (Vw.cons VI.top_ok (Vw.cons VI.top_ok (Vw.cons VI.top_ok (Vw.cons VI.top_ok (Vw.cons VI.top_ok (Vw.cons (VI.msk_ok (and255 ho ho')) (Vw.cons VI.top_ok (Vw.cons VI.top_ok (Vw.cons VI.top_ok (Vw.cons VI.top_ok (Vw.cons VI.top_ok (Vw.cons (VI.msk_ok (and255 hv hv')) VwI.nil)))))))))))))) reps
  rw [hF] at hw ho2
  unfold chkT at h3
  have h8 : 0 ≤ o.1.getD 7 0 ∧ o.1.getD 7 0 ≤ 255 := by
    have := VI.within_ok (m := 255) op_t (ho2.1 7)
    exact of_and255 this
  split at h3
  · rename_i oi ob heq
    rw [heq] at hw
    obtain ⟨h5, h6⟩ := outOk_ok h3 hw.1
    have h7 : o.2.getD 0 false = true := hw.2 0 true rfl
    refine ⟨h7, h5, h6, h8.1, h8.2, fun hb => ?_⟩
    have hc := v13 (List.replicate 14 VI.top) (ctlB 5) [i0, i1, i2, i3, i4, i5, i6, i7, i8, i9, i10, i11, i12, v] [b0, b1, b2, b3, b4, b5, b6, b7, b8, b9, b10, b11, c0, c1, c2, c3] rfl rfl repsI (by
      rw [hb]
      exact ctl_vw _ _ _ _ _ _ _ _ _ _ _)
    rw [hF] at hc
    have hk := ctl_t
    unfold chkC at hk
    split at hk
    · rename_i x bb he
      split at hk
      · rename_i he2
        have := hc.2 11 true (by rw [he]; exact he2)
        exact this
      · cases hk
    · cases hk
  · cases h3
/-- A cycle of waiting. -/
theorem wait_ok (i0 i1 i2 i3 i4 i5 i6 i7 i8 i9 i10 i11 i12 : Int) (b0 b1 b2 b3 b4 b5 b6 b7 b8 b9 b10 b11 c1 c2 c3 : Bool) (ho : 0 ≤ i7) (ho' : i7 ≤ 255) (hm : may i4 i5 i7 i8 i11 i12 = true) :
    ∀ o, F16 [i0, i1, i2, i3, i4, i5, i6, i7, i8, i9, i10, i11, i12] [b0, b1, b2, b3, b4, b5, b6, b7, b8, b9, b10, b11, c1, c2, c3] = o → o.1.getD 13 0 = 0 ∧ may (o.1.getD 4 0) (o.1.getD 5 0) (o.1.getD 7 0) (o.1.getD 8 0) (o.1.getD 11 0) (o.1.getD 12 0) = true ∧
      (b10 = true → o.2.getD 10 false = true) := by
  intro o hF
  have ht : tmay i7 i8 = true := by
    unfold may at hm
    simp only [Bool.and_eq_true] at hm
    exact hm.1.1.1.1
  obtain ⟨O, vl, h1, h2, _, h3⟩ := look (v := 0) ho ho' (by omega) (by omega) ht
  have hst := st_ok (i0 := i0) (i1 := i1) (i2 := i2) (i3 := i3) (i6 := i6) (i9 := i9) (i10 := i10) (l := []) (ls := []) h1 hm VwI.nil
  rw [List.append_nil] at hst
  have hw := v16 (stI O [i8]) (List.replicate 15 none) [i0, i1, i2, i3, i4, i5, i6, i7, i8, i9, i10, i11, i12] [b0, b1, b2, b3, b4, b5, b6, b7, b8, b9, b10, b11, c1, c2, c3] rfl rfl hst reps
  rw [hF] at hw
  unfold chkW at h3
  obtain ⟨h5, h6⟩ := outOk_ok h3 hw.1
  refine ⟨h5, h6, fun hb => ?_⟩
  have hc := v16 (List.replicate 13 VI.top) (ctlB 4) [i0, i1, i2, i3, i4, i5, i6, i7, i8, i9, i10, i11, i12] [b0, b1, b2, b3, b4, b5, b6, b7, b8, b9, b10, b11, c1, c2, c3] rfl rfl repsI (by
    rw [hb]
    exact ctl_vw _ _ _ _ _ _ _ _ _ _ _)
  rw [hF] at hc
  have hk := ctl_w
  unfold chkCW at hk
  split at hk
  · rename_i he2
    exact hc.2 10 true he2
  · cases hk
/-- The chapter's examples hold. -/
theorem awake : F9 [] [] = ([], [true, true]) := by
  have h := v9 [] [] [] [] rfl rfl VwI.nil VwB.nil
  have hk := aw
  have hl : (F9 [] []).1 = [] ∧ (F9 [] []).2.length = 2 := ⟨rfl, rfl⟩
  split at hk
  · rename_i he
    have h0 := h.2 0 true (by rw [he]; rfl)
    have h1 := h.2 1 true (by rw [he]; rfl)
    generalize F9 [] [] = q at hl h0 h1
    obtain ⟨qi, qb⟩ := q
    simp only at hl h0 h1
    obtain ⟨rfl, hl⟩ := hl
    match qb, hl, h0, h1 with
    | [x, y], _, h0, h1 =>
      simp only [List.getD_cons_zero, List.getD_cons_succ] at h0 h1
      rw [h0, h1]
  · cases hk
end Go.Proofs.YtalnndmnnffnmaaGreat.Cr
