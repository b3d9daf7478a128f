/-
  apu: which may be; its status. WRITTEN BY PROGRAM (wip/gen/ap3.py). No condition.
-/
import Derived.Test.YtdpogmikhfgcmaaDoorApD
set_option linter.unusedVariables false
set_option linter.unusedSimpArgs false
namespace Go.Proofs.YtdpogmikhfgcmaaDoor.Ap
open Go Go.Proofs.YtdpogmikhfgcmaaDoor.Sx

def Pk (a0 a1 a2 a3 a4 a5 a6 a7 a8 a9 a10 : Int) : Prop := 0 ≤ a0 ∧ a0 < 16 ∧ 0 ≤ a1 ∧ a1 < 16 ∧ 0 ≤ a2 ∧ a2 < 16 ∧ 0 ≤ a3 ∧ 0 ≤ a4 ∧ a4 < 4 ∧ 0 ≤ a5 ∧ a5 < 8 ∧ 0 ≤ a6 ∧ a6 < 2048 ∧ 0 ≤ a7 ∧ a7 < 2048 ∧ 0 ≤ a8 ∧ a8 < 8 ∧ 0 ≤ a9 ∧ a9 < 8 ∧ 0 ≤ a10 ∧ a10 < 8
theorem Pk_of {is : List Int} {bs : List Bool} (h : Pok is bs) : ∃ (a0 a1 a2 a3 a4 a5 a6 a7 a8 a9 a10 : Int) (x0 x1 x2 x3 x4 x5 x6 x7 x8 : Bool), is = [a0, a1, a2, a3, a4, a5, a6, a7, a8, a9, a10] ∧ bs = [x0, x1, x2, x3, x4, x5, x6, x7, x8] ∧ Pk a0 a1 a2 a3 a4 a5 a6 a7 a8 a9 a10 := by
  obtain ⟨a0, a1, a2, a3, a4, a5, a6, a7, a8, a9, a10, x0, x1, x2, x3, x4, x5, x6, x7, x8, rfl, rfl, hn, hok⟩ := h
  simp only [okP, okE, Bool.and_eq_true, decide_eq_true_eq] at hok
  refine ⟨a0, a1, a2, a3, a4, a5, a6, a7, a8, a9, a10, x0, x1, x2, x3, x4, x5, x6, x7, x8, rfl, rfl, ?_⟩
  unfold Pk
  omega
theorem Pk_nn {a0 a1 a2 a3 a4 a5 a6 a7 a8 a9 a10 : Int} (h : Pk a0 a1 a2 a3 a4 a5 a6 a7 a8 a9 a10) : 0 ≤ a0 ∧ 0 ≤ a1 ∧ 0 ≤ a2 ∧ 0 ≤ a3 ∧ 0 ≤ a4 ∧ 0 ≤ a5 ∧ 0 ≤ a6 ∧ 0 ≤ a7 ∧ 0 ≤ a8 ∧ 0 ≤ a9 ∧ 0 ≤ a10 := by
  unfold Pk at h
  omega
theorem Pk_ok {a0 a1 a2 a3 a4 a5 a6 a7 a8 a9 a10 : Int} (h : Pk a0 a1 a2 a3 a4 a5 a6 a7 a8 a9 a10) : okP a0 a1 a2 a4 a5 a6 a7 a8 a9 a10 = true := by
  unfold Pk at h
  simp only [okP, okE, Bool.and_eq_true, decide_eq_true_eq]
  omega
theorem Pk_mk {a0 a1 a2 a3 a4 a5 a6 a7 a8 a9 a10 : Int} (h : 0 ≤ a0 ∧ 0 ≤ a1 ∧ 0 ≤ a2 ∧ 0 ≤ a3 ∧ 0 ≤ a4 ∧ 0 ≤ a5 ∧ 0 ≤ a6 ∧ 0 ≤ a7 ∧ 0 ≤ a8 ∧ 0 ≤ a9 ∧ 0 ≤ a10) (h' : okP a0 a1 a2 a4 a5 a6 a7 a8 a9 a10 = true) : Pk a0 a1 a2 a3 a4 a5 a6 a7 a8 a9 a10 := by
  simp only [okP, okE, Bool.and_eq_true, decide_eq_true_eq] at h'
  unfold Pk
  omega
def Tk (a0 a1 a2 a3 a4 a5 : Int) : Prop := 0 ≤ a0 ∧ 0 ≤ a1 ∧ a1 < 128 ∧ 0 ≤ a2 ∧ a2 < 128 ∧ 0 ≤ a3 ∧ a3 < 32 ∧ 0 ≤ a4 ∧ a4 < 2048 ∧ 0 ≤ a5 ∧ a5 < 2048
theorem Tk_of {is : List Int} {bs : List Bool} (h : Tok is bs) : ∃ (a0 a1 a2 a3 a4 a5 : Int) (x0 x1 x2 : Bool), is = [a0, a1, a2, a3, a4, a5] ∧ bs = [x0, x1, x2] ∧ Tk a0 a1 a2 a3 a4 a5 := by
  obtain ⟨a0, a1, a2, a3, a4, a5, x0, x1, x2, rfl, rfl, hn, hok⟩ := h
  simp only [okT, Bool.and_eq_true, decide_eq_true_eq] at hok
  refine ⟨a0, a1, a2, a3, a4, a5, x0, x1, x2, rfl, rfl, ?_⟩
  unfold Tk
  omega
theorem Tk_nn {a0 a1 a2 a3 a4 a5 : Int} (h : Tk a0 a1 a2 a3 a4 a5) : 0 ≤ a0 ∧ 0 ≤ a1 ∧ 0 ≤ a2 ∧ 0 ≤ a3 ∧ 0 ≤ a4 ∧ 0 ≤ a5 := by
  unfold Tk at h
  omega
theorem Tk_ok {a0 a1 a2 a3 a4 a5 : Int} (h : Tk a0 a1 a2 a3 a4 a5) : okT a1 a2 a3 a4 a5 = true := by
  unfold Tk at h
  simp only [okT, Bool.and_eq_true, decide_eq_true_eq]
  omega
theorem Tk_mk {a0 a1 a2 a3 a4 a5 : Int} (h : 0 ≤ a0 ∧ 0 ≤ a1 ∧ 0 ≤ a2 ∧ 0 ≤ a3 ∧ 0 ≤ a4 ∧ 0 ≤ a5) (h' : okT a1 a2 a3 a4 a5 = true) : Tk a0 a1 a2 a3 a4 a5 := by
  simp only [okT, Bool.and_eq_true, decide_eq_true_eq] at h'
  unfold Tk
  omega
def Nk (a0 a1 a2 a3 a4 a5 a6 : Int) : Prop := 0 ≤ a0 ∧ a0 < 16 ∧ 0 ≤ a1 ∧ a1 < 16 ∧ 0 ≤ a2 ∧ a2 < 16 ∧ 0 ≤ a3 ∧ 0 ≤ a4 ∧ a4 < 16 ∧ 0 ≤ a5 ∧ a5 < 4096 ∧ 1 ≤ a6 ∧ a6 < 32768
theorem Nk_of {is : List Int} {bs : List Bool} (h : Nok is bs) : ∃ (a0 a1 a2 a3 a4 a5 a6 : Int) (x0 x1 x2 x3 x4 x5 : Bool), is = [a0, a1, a2, a3, a4, a5, a6] ∧ bs = [x0, x1, x2, x3, x4, x5] ∧ Nk a0 a1 a2 a3 a4 a5 a6 := by
  obtain ⟨a0, a1, a2, a3, a4, a5, a6, x0, x1, x2, x3, x4, x5, rfl, rfl, hn, hok⟩ := h
  simp only [okN, okE, Bool.and_eq_true, decide_eq_true_eq] at hok
  refine ⟨a0, a1, a2, a3, a4, a5, a6, x0, x1, x2, x3, x4, x5, rfl, rfl, ?_⟩
  unfold Nk
  omega
theorem Nk_nn {a0 a1 a2 a3 a4 a5 a6 : Int} (h : Nk a0 a1 a2 a3 a4 a5 a6) : 0 ≤ a0 ∧ 0 ≤ a1 ∧ 0 ≤ a2 ∧ 0 ≤ a3 ∧ 0 ≤ a4 ∧ 0 ≤ a5 ∧ 0 ≤ a6 := by
  unfold Nk at h
  omega
theorem Nk_ok {a0 a1 a2 a3 a4 a5 a6 : Int} (h : Nk a0 a1 a2 a3 a4 a5 a6) : okN a0 a1 a2 a4 a5 a6 = true := by
  unfold Nk at h
  simp only [okN, okE, Bool.and_eq_true, decide_eq_true_eq]
  omega
theorem Nk_mk {a0 a1 a2 a3 a4 a5 a6 : Int} (h : 0 ≤ a0 ∧ 0 ≤ a1 ∧ 0 ≤ a2 ∧ 0 ≤ a3 ∧ 0 ≤ a4 ∧ 0 ≤ a5 ∧ 0 ≤ a6) (h' : okN a0 a1 a2 a4 a5 a6 = true) : Nk a0 a1 a2 a3 a4 a5 a6 := by
  simp only [okN, okE, Bool.and_eq_true, decide_eq_true_eq] at h'
  unfold Nk
  omega
theorem v11 (i0 i1 i2 i3 i4 i5 i6 i7 i8 i9 i10 i11 i12 i13 i14 i15 i16 i17 i18 i19 i20 i21 i22 i23 i24 i25 i26 i27 i28 i29 i30 i31 i32 i33 i34 i35 i36 i37 i38 i39 i40 i41 i42 i43 i44 i45 : Int) (b0 b1 b2 b3 b4 b5 b6 b7 b8 b9 b10 b11 b12 b13 b14 b15 b16 b17 b18 b19 b20 b21 b22 b23 b24 b25 b26 b27 b28 b29 b30 b31 b32 b33 b34 b35 : Bool) (h34 : 0 ≤ i34) : F11 [i0, i1, i2, i3, i4, i5, i6, i7, i8, i9, i10, i11, i12, i13, i14, i15, i16, i17, i18, i19, i20, i21, i22, i23, i24, i25, i26, i27, i28, i29, i30, i31, i32, i33, i34, i35, i36, i37, i38, i39, i40, i41, i42, i43, i44, i45] [b0, b1, b2, b3, b4, b5, b6, b7, b8, b9, b10, b11, b12, b13, b14, b15, b16, b17, b18, b19, b20, b21, b22, b23, b24, b25, b26, b27, b28, b29, b30, b31, b32, b33, b34, b35] = ([if (okP i0 i1 i2 i4 i5 i6 i7 i8 i9 i10 && okT i23 i24 i25 i26 i27 && okN i28 i29 i30 i32 i33 i34 && okP i11 i12 i13 i15 i16 i17 i18 i19 i20 i21 && may i35 i36 i37 i38 i39 i40 i43 i44 && decide (0 ≤ i45) && decide (i45 < (if b32 then 37282 else 29830))) then 0 else 1], []) := by
  unfold F11
  obtain ⟨ρ, e1, e2, e3, e4⟩ := Smry.run_spec (Φ := tabF T7) (S := S11) (is := [i0, i1, i2, i3, i4, i5, i6, i7, i8, i9, i10, i11, i12, i13, i14, i15, i16, i17, i18, i19, i20, i21, i22, i23, i24, i25, i26, i27, i28, i29, i30, i31, i32, i33, i34, i35, i36, i37, i38, i39, i40, i41, i42, i43, i44, i45]) (bs := [b0, b1, b2, b3, b4, b5, b6, b7, b8, b9, b10, b11, b12, b13, b14, b15, b16, b17, b18, b19, b20, b21, b22, b23, b24, b25, b26, b27, b28, b29, b30, b31, b32, b33, b34, b35]) rfl
  rw [e1]
  clear e1
  simp only [S11, eqns, Em.eqn, headsI, headsB, RI.d, RB.d, A.d, B.d, cm_eql, cm_neq, cm_lss, cm_leq, cm_gtr, cm_geq, List.map_cons, List.map_nil, and_true, Nat.zero_add, Nat.reduceAdd, ltn, upto, true_and, Nat.add_zero, List.getD_cons_zero, List.getD_cons_succ, add8, sub8, add16, sub16, mul16, wrap_u8, wrap_u16, and8_1, and8_7, and8_8, and8_15, and8_16, and8_31, and8_32, and8_64, and8_127, and8_128, and16_1, and16_255, and16_1792, shr8_1, shr8_3, shr8_4, shr8_6, shr16_1, shr16_6, shr16_8, shl16_8, shl16_14] at e2 e3 e4 ⊢
  simp only [e2, e3] at e4 ⊢
  rw [show tabF T7 31 = F31 by rfl, show tabF T7 32 = F32 by rfl, v31 (h23 := h34), v31 (h23 := h34), v32] at e4
  simp only [List.getD_cons_zero] at e4
  clear e2 e3
  generalize okP i0 i1 i2 i4 i5 i6 i7 i8 i9 i10 = p1 at *
  generalize okP i11 i12 i13 i15 i16 i17 i18 i19 i20 i21 = p2 at *
  generalize okT i23 i24 i25 i26 i27 = p3 at *
  generalize okN i28 i29 i30 i32 i33 i34 = p4 at *
  generalize may i35 i36 i37 i38 i39 i40 i43 i44 = p5 at *
  cases p1 <;> cases p2 <;> cases p3 <;> cases p4 <;> cases p5 <;> cases b32 <;> simp_all <;> grind
/-- The whole may be, number by number. -/
def Ak (i0 i1 i2 i3 i4 i5 i6 i7 i8 i9 i10 i11 i12 i13 i14 i15 i16 i17 i18 i19 i20 i21 i22 i23 i24 i25 i26 i27 i28 i29 i30 i31 i32 i33 i34 i35 i36 i37 i38 i39 i40 i41 i42 i43 i44 i45 : Int) (f : Bool) : Prop := Pk i0 i1 i2 i3 i4 i5 i6 i7 i8 i9 i10 ∧ Pk i11 i12 i13 i14 i15 i16 i17 i18 i19 i20 i21 ∧ Tk i22 i23 i24 i25 i26 i27 ∧ Nk i28 i29 i30 i31 i32 i33 i34 ∧ Ok i35 i36 i37 i38 i39 i40 i41 i42 i43 i44 ∧ 0 ≤ i45 ∧ i45 < (if f then 37282 else 29830)
theorem Ak.c11 {i0 i1 i2 i3 i4 i5 i6 i7 i8 i9 i10 i11 i12 i13 i14 i15 i16 i17 i18 i19 i20 i21 i22 i23 i24 i25 i26 i27 i28 i29 i30 i31 i32 i33 i34 i35 i36 i37 i38 i39 i40 i41 i42 i43 i44 i45 : Int} {b0 b1 b2 b3 b4 b5 b6 b7 b8 b9 b10 b11 b12 b13 b14 b15 b16 b17 b18 b19 b20 b21 b22 b23 b24 b25 b26 b27 b28 b29 b30 b31 b32 b33 b34 b35 : Bool} (h : Ak i0 i1 i2 i3 i4 i5 i6 i7 i8 i9 i10 i11 i12 i13 i14 i15 i16 i17 i18 i19 i20 i21 i22 i23 i24 i25 i26 i27 i28 i29 i30 i31 i32 i33 i34 i35 i36 i37 i38 i39 i40 i41 i42 i43 i44 i45 b32) : F11 [i0, i1, i2, i3, i4, i5, i6, i7, i8, i9, i10, i11, i12, i13, i14, i15, i16, i17, i18, i19, i20, i21, i22, i23, i24, i25, i26, i27, i28, i29, i30, i31, i32, i33, i34, i35, i36, i37, i38, i39, i40, i41, i42, i43, i44, i45] [b0, b1, b2, b3, b4, b5, b6, b7, b8, b9, b10, b11, b12, b13, b14, b15, b16, b17, b18, b19, b20, b21, b22, b23, b24, b25, b26, b27, b28, b29, b30, b31, b32, b33, b34, b35] = ([0], []) := by
  obtain ⟨h1, h2, h3, h4, h5, h6, h7⟩ := h
  have n4 := (Nk_nn h4).2.2.2.2.2.2
  rw [v11 (h34 := n4), Pk_ok h1, Pk_ok h2, Tk_ok h3, Nk_ok h4, h5.may, decide_eq_true h6, decide_eq_true h7]
  rfl
theorem Ak.of11 {i0 i1 i2 i3 i4 i5 i6 i7 i8 i9 i10 i11 i12 i13 i14 i15 i16 i17 i18 i19 i20 i21 i22 i23 i24 i25 i26 i27 i28 i29 i30 i31 i32 i33 i34 i35 i36 i37 i38 i39 i40 i41 i42 i43 i44 i45 : Int} {b32 : Bool} (n0 : 0 ≤ i0) (n1 : 0 ≤ i1) (n2 : 0 ≤ i2) (n3 : 0 ≤ i3) (n4 : 0 ≤ i4) (n5 : 0 ≤ i5) (n6 : 0 ≤ i6) (n7 : 0 ≤ i7) (n8 : 0 ≤ i8) (n9 : 0 ≤ i9) (n10 : 0 ≤ i10) (n11 : 0 ≤ i11) (n12 : 0 ≤ i12) (n13 : 0 ≤ i13) (n14 : 0 ≤ i14) (n15 : 0 ≤ i15) (n16 : 0 ≤ i16) (n17 : 0 ≤ i17) (n18 : 0 ≤ i18) (n19 : 0 ≤ i19) (n20 : 0 ≤ i20) (n21 : 0 ≤ i21) (n22 : 0 ≤ i22) (n23 : 0 ≤ i23) (n24 : 0 ≤ i24) (n25 : 0 ≤ i25) (n26 : 0 ≤ i26) (n27 : 0 ≤ i27) (n28 : 0 ≤ i28) (n29 : 0 ≤ i29) (n30 : 0 ≤ i30) (n31 : 0 ≤ i31) (n32 : 0 ≤ i32) (n33 : 0 ≤ i33) (n34 : 0 ≤ i34) (m35 : 0 ≤ i35) (m36 : 0 ≤ i36) (m37 : i37 ≤ 65535) (m38 : 0 ≤ i38) (m39 : i39 ≤ 65535) (m40 : 0 ≤ i40) (m41 : 0 ≤ i41 ∧ i41 ≤ 255) (m42 : 0 ≤ i42 ∧ i42 ≤ 255) (m44 : 0 ≤ i44)
    (h : (okP i0 i1 i2 i4 i5 i6 i7 i8 i9 i10 && okT i23 i24 i25 i26 i27 && okN i28 i29 i30 i32 i33 i34 && okP i11 i12 i13 i15 i16 i17 i18 i19 i20 i21 && may i35 i36 i37 i38 i39 i40 i43 i44 && decide (0 ≤ i45) && decide (i45 < (if b32 then 37282 else 29830))) = true) : Ak i0 i1 i2 i3 i4 i5 i6 i7 i8 i9 i10 i11 i12 i13 i14 i15 i16 i17 i18 i19 i20 i21 i22 i23 i24 i25 i26 i27 i28 i29 i30 i31 i32 i33 i34 i35 i36 i37 i38 i39 i40 i41 i42 i43 i44 i45 b32 := by
  simp only [Bool.and_eq_true] at h
  obtain ⟨⟨⟨⟨⟨⟨h1, h2⟩, h3⟩, h4⟩, h5⟩, h6⟩, h7⟩ := h
  refine ⟨Pk_mk ⟨n0, n1, n2, n3, n4, n5, n6, n7, n8, n9, n10⟩ h1, Pk_mk ⟨n11, n12, n13, n14, n15, n16, n17, n18, n19, n20, n21⟩ h4, Tk_mk ⟨n22, n23, n24, n25, n26, n27⟩ h2, Nk_mk ⟨n28, n29, n30, n31, n32, n33, n34⟩ h3, ?_, of_decide_eq_true h6, of_decide_eq_true h7⟩
  simp only [may, Bool.and_eq_true, decide_eq_true_eq] at h5
  unfold Ok
  omega
theorem st12 {i0 i1 i2 i3 i4 i5 i6 i7 i8 i9 i10 i11 i12 i13 i14 i15 i16 i17 i18 i19 i20 i21 i22 i23 i24 i25 i26 i27 i28 i29 i30 i31 i32 i33 i34 i35 i36 i37 i38 i39 i40 i41 i42 i43 i44 i45 : Int} {b0 b1 b2 b3 b4 b5 b6 b7 b8 b9 b10 b11 b12 b13 b14 b15 b16 b17 b18 b19 b20 b21 b22 b23 b24 b25 b26 b27 b28 b29 b30 b31 b32 b33 b34 b35 : Bool} (h : Ak i0 i1 i2 i3 i4 i5 i6 i7 i8 i9 i10 i11 i12 i13 i14 i15 i16 i17 i18 i19 i20 i21 i22 i23 i24 i25 i26 i27 i28 i29 i30 i31 i32 i33 i34 i35 i36 i37 i38 i39 i40 i41 i42 i43 i44 i45 b32) : F12 [i0, i1, i2, i3, i4, i5, i6, i7, i8, i9, i10, i11, i12, i13, i14, i15, i16, i17, i18, i19, i20, i21, i22, i23, i24, i25, i26, i27, i28, i29, i30, i31, i32, i33, i34, i35, i36, i37, i38, i39, i40, i41, i42, i43, i44, i45] [b0, b1, b2, b3, b4, b5, b6, b7, b8, b9, b10, b11, b12, b13, b14, b15, b16, b17, b18, b19, b20, b21, b22, b23, b24, b25, b26, b27, b28, b29, b30, b31, b32, b33, b34, b35] = ([i0, i1, i2, i3, i4, i5, i6, i7, i8, i9, i10, i11, i12, i13, i14, i15, i16, i17, i18, i19, i20, i21, i22, i23, i24, i25, i26, i27, i28, i29, i30, i31, i32, i33, i34, i35, i36, i37, i38, i39, i40, i41, i42, i43, i44, i45, (if 0 < i3 then 1 else 0) + (if 0 < i14 then 2 else 0) + (if 0 < i22 then 4 else 0) + (if 0 < i31 then 8 else 0) + (if 0 < i40 then 16 else 0) + (if b34 then 64 else 0) + (if b29 then 128 else 0), 0], [b0, b1, b2, b3, b4, b5, b6, b7, b8, b9, b10, b11, b12, b13, b14, b15, b16, b17, b18, b19, b20, b21, b22, b23, b24, b25, b26, b27, b28, b29, b30, b31, b32, b33, false, b35]) := by
  unfold F12
  obtain ⟨ρ, e1, e2, e3, e4⟩ := Smry.run_spec (Φ := tabF T32) (S := S12) (is := [i0, i1, i2, i3, i4, i5, i6, i7, i8, i9, i10, i11, i12, i13, i14, i15, i16, i17, i18, i19, i20, i21, i22, i23, i24, i25, i26, i27, i28, i29, i30, i31, i32, i33, i34, i35, i36, i37, i38, i39, i40, i41, i42, i43, i44, i45]) (bs := [b0, b1, b2, b3, b4, b5, b6, b7, b8, b9, b10, b11, b12, b13, b14, b15, b16, b17, b18, b19, b20, b21, b22, b23, b24, b25, b26, b27, b28, b29, b30, b31, b32, b33, b34, b35]) rfl
  rw [e1]
  clear e1
  simp only [S12, eqns, Em.eqn, headsI, headsB, RI.d, RB.d, A.d, B.d, cm_eql, cm_neq, cm_lss, cm_leq, cm_gtr, cm_geq, List.map_cons, List.map_nil, and_true, Nat.zero_add, Nat.reduceAdd, ltn, upto, true_and, Nat.add_zero, List.getD_cons_zero, List.getD_cons_succ, add8, sub8, add16, sub16, mul16, wrap_u8, wrap_u16, and8_1, and8_7, and8_8, and8_15, and8_16, and8_31, and8_32, and8_64, and8_127, and8_128, and16_1, and16_255, and16_1792, shr8_1, shr8_3, shr8_4, shr8_6, shr16_1, shr16_6, shr16_8, shl16_8, shl16_14] at e2 e3 e4 ⊢
  simp only [e2, e3] at e4 ⊢
  rw [show tabF T32 11 = F11 by rfl, h.c11] at e4
  simp only [List.getD_cons_zero] at e4
  clear e2 e3 h
  have hi46 := e4.1
  have r0 := e4.2
  clear e4
  have hb36 := r0.1
  have r1 := r0.2
  clear r0
  have hb37 := r1.1
  have r2 := r1.2
  clear r1
  have hb38 := r2.1
  have r3 := r2.2
  clear r2
  have hb39 := r3.1
  have r4 := r3.2
  clear r3
  have hb40 := r4.1
  have r5 := r4.2
  clear r4
  have hb41 := r5.1
  have r6 := r5.2
  clear r5
  have hi47 := r6.1
  have r7 := r6.2
  clear r6
  have hi48 := r7.1
  have r8 := r7.2
  clear r7
  have hi49 := r8.1
  have r9 := r8.2
  clear r8
  have hi50 := r9.1
  have r10 := r9.2
  clear r9
  have hi51 := r10.1
  have r11 := r10.2
  clear r10
  have hi52 := r11.1
  have r12 := r11.2
  clear r11
  have hi53 := r12.1
  have r13 := r12.2
  clear r12
  have hi54 := r13.1
  have r14 := r13.2
  clear r13
  have hi55 := r14.1
  have r15 := r14.2
  clear r14
  have hi56 := r15.1
  have r16 := r15.2
  clear r15
  have hi57 := r16.1
  have r17 := r16.2
  clear r16
  have hi58 := r17.1
  have r18 := r17.2
  clear r17
  have hi59 := r18.1
  have r19 := r18.2
  clear r18
  have hb42 := r19.1
  have r20 := r19.2
  clear r19
  have hi60 := r20.1
  have r21 := r20.2
  clear r20
  have hi61 := r21.1
  have r22 := r21.2
  clear r21
  have hb43 := r22
  have t36 : ρ.b 36 = false := by rw [hb36, hi46]; rfl
  have t42 : ρ.b 42 = true := by rw [hb42, t36]; rfl
  have t61 : ρ.i 61 = 0 := hi61.trans (if_pos t42)
  have t43 : ρ.b 43 = false := hb43.trans (if_pos t42)
  have t60 : ρ.i 60 = (if 0 < i3 then 1 else 0) + (if 0 < i14 then 2 else 0) + (if 0 < i22 then 4 else 0) + (if 0 < i31 then 8 else 0) + (if 0 < i40 then 16 else 0) + (if b34 then 64 else 0) + (if b29 then 128 else 0) := by
    refine (hi60.trans (if_pos t42)).trans ?_
    simp only [hi59, hi58, hi57, hi56, hi55, hi54, hi53, hi52, hi51, hi50, hi49, hi48, hi47, hb37, hb38, hb39, hb40, hb41]
    clear hi46 hb36 hb37 hb38 hb39 hb40 hb41 hi47 hi48 hi49 hi50 hi51 hi52 hi53 hi54 hi55 hi56 hi57 hi58 hi59 hb42 hi60 hi61 t36 t42 t61 t43
    by_cases c0 : 0 < i3 <;> by_cases c1 : 0 < i14 <;> by_cases c2 : 0 < i22 <;> by_cases c3 : 0 < i31 <;> by_cases c4 : 0 < i40 <;> cases b34 <;> cases b29 <;> simp [c0, c1, c2, c3, c4] <;> decide
  rw [t60, t61, t43]
end Go.Proofs.YtdpogmikhfgcmaaDoor.Ap
