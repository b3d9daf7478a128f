/-
  ApuSilent: what a written register, and a half, leave of lengths. WRITTEN BY PROGRAM (wip/gen/ap12.py). No condition.
-/
import Derived.Test.YtdpogmikhfgcmaaDoorApN
set_option linter.unusedVariables false
set_option linter.unusedSimpArgs false
namespace Go.Proofs.YtdpogmikhfgcmaaDoor.Ap
open Go Go.Proofs.YtdpogmikhfgcmaaDoor.Sx

def Sil (i3 i14 i22 i31 i40 : Int) (b5 b14 b19 b25 : Bool) : Prop := i3 = 0 ∧ i14 = 0 ∧ i22 = 0 ∧ i31 = 0 ∧ i40 = 0 ∧ b5 = false ∧ b14 = false ∧ b19 = false ∧ b25 = false
def La (j i3 i14 i22 i31 i40 : Int) (b5 b14 b19 b25 : Bool) : Prop := (0 < j → 0 < i3) ∧ (1 < j → 0 < i14) ∧ (2 < j → 0 < i22) ∧ (3 < j → 0 < i31) ∧ i40 = 0 ∧ b5 = true ∧ b14 = true ∧ b19 = true ∧ b25 = true
theorem n_21 (i0 i1 i2 i3 i4 i5 i6 i7 i8 i9 reg v : Int) (b0 b1 b2 b3 b4 : Bool) (hm : may i0 i1 i2 i3 i4 i5 i8 i9 = true) (hv : 0 ≤ v) (hv' : v ≤ 255) : (F21 [i0,i1,i2,i3,i4,i5,i6,i7,i8,i9,reg,v] [b0,b1,b2,b3,b4]).1.getD 5 0 = i5 := by
  rw [write _ _ _ _ _ _ _ _ _ _ _ _ _ _ _ _ _ hm hv hv']
  (repeat' split) <;> rfl
theorem N28 (i0 i1 i2 i3 i4 i5 i6 i7 i8 i9 i10 i11 i12 i13 i14 i15 i16 i17 i18 i19 i20 i21 i22 i23 i24 i25 i26 i27 i28 i29 i30 i31 i32 i33 i34 i35 i36 i37 i38 i39 i40 i41 i42 i43 i44 i45 : Int) (b0 b1 b2 b3 b4 b5 b6 b7 b8 b9 b10 b11 b12 b13 b14 b15 b16 b17 b18 b19 b20 b21 b22 b23 b24 b25 b26 b27 b28 b29 b30 b31 b32 b33 b34 b35 : Bool) (h : Ck i0 i1 i2 i3 i4 i5 i6 i7 i8 i9 i10 i11 i12 i13 i14 i15 i16 i17 i18 i19 i20 i21 i22 i23 i24 i25 i26 i27 i28 i29 i30 i31 i32 i33 i34) : (F28 [i0, i1, i2, i3, i4, i5, i6, i7, i8, i9, i10, i11, i12, i13, i14, i15, i16, i17, i18, i19, i20, i21, i22, i23, i24, i25, i26, i27, i28, i29, i30, i31, i32, i33, i34, i35, i36, i37, i38, i39, i40, i41, i42, i43, i44, i45] [b0, b1, b2, b3, b4, b5, b6, b7, b8, b9, b10, b11, b12, b13, b14, b15, b16, b17, b18, b19, b20, b21, b22, b23, b24, b25, b26, b27, b28, b29, b30, b31, b32, b33, b34, b35]).1.getD 3 0 = i3 ∧ (F28 [i0, i1, i2, i3, i4, i5, i6, i7, i8, i9, i10, i11, i12, i13, i14, i15, i16, i17, i18, i19, i20, i21, i22, i23, i24, i25, i26, i27, i28, i29, i30, i31, i32, i33, i34, i35, i36, i37, i38, i39, i40, i41, i42, i43, i44, i45] [b0, b1, b2, b3, b4, b5, b6, b7, b8, b9, b10, b11, b12, b13, b14, b15, b16, b17, b18, b19, b20, b21, b22, b23, b24, b25, b26, b27, b28, b29, b30, b31, b32, b33, b34, b35]).1.getD 14 0 = i14 ∧ (F28 [i0, i1, i2, i3, i4, i5, i6, i7, i8, i9, i10, i11, i12, i13, i14, i15, i16, i17, i18, i19, i20, i21, i22, i23, i24, i25, i26, i27, i28, i29, i30, i31, i32, i33, i34, i35, i36, i37, i38, i39, i40, i41, i42, i43, i44, i45] [b0, b1, b2, b3, b4, b5, b6, b7, b8, b9, b10, b11, b12, b13, b14, b15, b16, b17, b18, b19, b20, b21, b22, b23, b24, b25, b26, b27, b28, b29, b30, b31, b32, b33, b34, b35]).1.getD 22 0 = i22 ∧ (F28 [i0, i1, i2, i3, i4, i5, i6, i7, i8, i9, i10, i11, i12, i13, i14, i15, i16, i17, i18, i19, i20, i21, i22, i23, i24, i25, i26, i27, i28, i29, i30, i31, i32, i33, i34, i35, i36, i37, i38, i39, i40, i41, i42, i43, i44, i45] [b0, b1, b2, b3, b4, b5, b6, b7, b8, b9, b10, b11, b12, b13, b14, b15, b16, b17, b18, b19, b20, b21, b22, b23, b24, b25, b26, b27, b28, b29, b30, b31, b32, b33, b34, b35]).1.getD 31 0 = i31 ∧ (F28 [i0, i1, i2, i3, i4, i5, i6, i7, i8, i9, i10, i11, i12, i13, i14, i15, i16, i17, i18, i19, i20, i21, i22, i23, i24, i25, i26, i27, i28, i29, i30, i31, i32, i33, i34, i35, i36, i37, i38, i39, i40, i41, i42, i43, i44, i45] [b0, b1, b2, b3, b4, b5, b6, b7, b8, b9, b10, b11, b12, b13, b14, b15, b16, b17, b18, b19, b20, b21, b22, b23, b24, b25, b26, b27, b28, b29, b30, b31, b32, b33, b34, b35]).2.getD 5 false = b5 ∧ (F28 [i0, i1, i2, i3, i4, i5, i6, i7, i8, i9, i10, i11, i12, i13, i14, i15, i16, i17, i18, i19, i20, i21, i22, i23, i24, i25, i26, i27, i28, i29, i30, i31, i32, i33, i34, i35, i36, i37, i38, i39, i40, i41, i42, i43, i44, i45] [b0, b1, b2, b3, b4, b5, b6, b7, b8, b9, b10, b11, b12, b13, b14, b15, b16, b17, b18, b19, b20, b21, b22, b23, b24, b25, b26, b27, b28, b29, b30, b31, b32, b33, b34, b35]).2.getD 14 false = b14 ∧ (F28 [i0, i1, i2, i3, i4, i5, i6, i7, i8, i9, i10, i11, i12, i13, i14, i15, i16, i17, i18, i19, i20, i21, i22, i23, i24, i25, i26, i27, i28, i29, i30, i31, i32, i33, i34, i35, i36, i37, i38, i39, i40, i41, i42, i43, i44, i45] [b0, b1, b2, b3, b4, b5, b6, b7, b8, b9, b10, b11, b12, b13, b14, b15, b16, b17, b18, b19, b20, b21, b22, b23, b24, b25, b26, b27, b28, b29, b30, b31, b32, b33, b34, b35]).2.getD 19 false = b19 ∧ (F28 [i0, i1, i2, i3, i4, i5, i6, i7, i8, i9, i10, i11, i12, i13, i14, i15, i16, i17, i18, i19, i20, i21, i22, i23, i24, i25, i26, i27, i28, i29, i30, i31, i32, i33, i34, i35, i36, i37, i38, i39, i40, i41, i42, i43, i44, i45] [b0, b1, b2, b3, b4, b5, b6, b7, b8, b9, b10, b11, b12, b13, b14, b15, b16, b17, b18, b19, b20, b21, b22, b23, b24, b25, b26, b27, b28, b29, b30, b31, b32, b33, b34, b35]).2.getD 25 false = b25 := by
  obtain ⟨h1, h2, h3, h4⟩ := h
  have y1 := n_48 i0 i1 i2 i3 i4 i5 i6 i7 i8 i9 i10 b0 b1 b2 b3 b4 b5 b6 b7 b8  (Pk_nn h1).1 (Pk_nn h1).2.1 (Pk_nn h1).2.2.1 (Pk_nn h1).2.2.2.1 (Pk_nn h1).2.2.2.2.1 (Pk_nn h1).2.2.2.2.2.1 (Pk_nn h1).2.2.2.2.2.2.1 (Pk_nn h1).2.2.2.2.2.2.2.1 (Pk_nn h1).2.2.2.2.2.2.2.2.1 (Pk_nn h1).2.2.2.2.2.2.2.2.2.1 (Pk_nn h1).2.2.2.2.2.2.2.2.2.2  (Pk_ok h1)
  have y2 := n_48 i11 i12 i13 i14 i15 i16 i17 i18 i19 i20 i21 b9 b10 b11 b12 b13 b14 b15 b16 b17  (Pk_nn h2).1 (Pk_nn h2).2.1 (Pk_nn h2).2.2.1 (Pk_nn h2).2.2.2.1 (Pk_nn h2).2.2.2.2.1 (Pk_nn h2).2.2.2.2.2.1 (Pk_nn h2).2.2.2.2.2.2.1 (Pk_nn h2).2.2.2.2.2.2.2.1 (Pk_nn h2).2.2.2.2.2.2.2.2.1 (Pk_nn h2).2.2.2.2.2.2.2.2.2.1 (Pk_nn h2).2.2.2.2.2.2.2.2.2.2  (Pk_ok h2)
  have y3 := n_49 i22 i23 i24 i25 i26 i27 b18 b19 b20  (Tk_nn h3).1 (Tk_nn h3).2.1 (Tk_nn h3).2.2.1 (Tk_nn h3).2.2.2.1 (Tk_nn h3).2.2.2.2.1 (Tk_nn h3).2.2.2.2.2  (Tk_ok h3)
  unfold F28
  obtain ⟨ρ, e1, e2, e3, e4⟩ := Smry.run_spec (Φ := tabF T27) (S := S28) (is := [i0, i1, i2, i3, i4, i5, i6, i7, i8, i9, i10, i11, i12, i13, i14, i15, i16, i17, i18, i19, i20, i21, i22, i23, i24, i25, i26, i27, i28, i29, i30, i31, i32, i33, i34, i35, i36, i37, i38, i39, i40, i41, i42, i43, i44, i45]) (bs := [b0, b1, b2, b3, b4, b5, b6, b7, b8, b9, b10, b11, b12, b13, b14, b15, b16, b17, b18, b19, b20, b21, b22, b23, b24, b25, b26, b27, b28, b29, b30, b31, b32, b33, b34, b35]) rfl
  rw [e1]
  clear e1
  simp only [S28, obs, Gd.d_cons, Gd.d_nil, eqns, Em.eqn, headsI, headsB, RI.d, RB.d, A.d, B.d, cm_eql, cm_neq, cm_lss, cm_leq, cm_gtr, cm_geq, List.map_cons, List.map_nil, and_true, Nat.zero_add, Nat.reduceAdd, ltn, upto, true_and, Nat.add_zero, List.getD_cons_zero, List.getD_cons_succ, add8, sub8, add16, sub16, mul16, wrap_u8, wrap_u16, and8_1, and8_7, and8_8, and8_15, and8_16, and8_31, and8_32, and8_64, and8_127, and8_128, and16_1, and16_255, and16_1792, shr8_1, shr8_3, shr8_4, shr8_6, shr16_1, shr16_6, shr16_8, shl16_8, shl16_14] at e2 e3 e4 ⊢
  simp only [e2, e3] at e4 ⊢
  clear e2 e3
  have hi46 := e4.1.1.1
  have hi47 := e4.1.1.2.1
  have hi48 := e4.1.1.2.2.1
  have hi49 := e4.1.1.2.2.2.1
  have hi50 := e4.1.1.2.2.2.2.1
  have hi51 := e4.1.1.2.2.2.2.2.1
  have hi52 := e4.1.1.2.2.2.2.2.2.1
  have hi53 := e4.1.1.2.2.2.2.2.2.2.1
  have hi54 := e4.1.1.2.2.2.2.2.2.2.2.1
  have hi55 := e4.1.1.2.2.2.2.2.2.2.2.2.1
  have hi56 := e4.1.1.2.2.2.2.2.2.2.2.2.2
  have hb36 := e4.1.2.1
  have hb37 := e4.1.2.2.1
  have hb38 := e4.1.2.2.2.1
  have hb39 := e4.1.2.2.2.2.1
  have hb40 := e4.1.2.2.2.2.2.1
  have hb41 := e4.1.2.2.2.2.2.2.1
  have hb42 := e4.1.2.2.2.2.2.2.2.1
  have hb43 := e4.1.2.2.2.2.2.2.2.2.1
  have hb44 := e4.1.2.2.2.2.2.2.2.2.2
  have r0 := e4.2
  clear e4
  have hi57 := r0.1.1.1
  have hi58 := r0.1.1.2.1
  have hi59 := r0.1.1.2.2.1
  have hi60 := r0.1.1.2.2.2.1
  have hi61 := r0.1.1.2.2.2.2.1
  have hi62 := r0.1.1.2.2.2.2.2.1
  have hi63 := r0.1.1.2.2.2.2.2.2.1
  have hi64 := r0.1.1.2.2.2.2.2.2.2.1
  have hi65 := r0.1.1.2.2.2.2.2.2.2.2.1
  have hi66 := r0.1.1.2.2.2.2.2.2.2.2.2.1
  have hi67 := r0.1.1.2.2.2.2.2.2.2.2.2.2
  have hb45 := r0.1.2.1
  have hb46 := r0.1.2.2.1
  have hb47 := r0.1.2.2.2.1
  have hb48 := r0.1.2.2.2.2.1
  have hb49 := r0.1.2.2.2.2.2.1
  have hb50 := r0.1.2.2.2.2.2.2.1
  have hb51 := r0.1.2.2.2.2.2.2.2.1
  have hb52 := r0.1.2.2.2.2.2.2.2.2.1
  have hb53 := r0.1.2.2.2.2.2.2.2.2.2
  have r1 := r0.2
  clear r0
  have hi68 := r1.1.1.1
  have hi69 := r1.1.1.2.1
  have hi70 := r1.1.1.2.2.1
  have hi71 := r1.1.1.2.2.2.1
  have hi72 := r1.1.1.2.2.2.2.1
  have hi73 := r1.1.1.2.2.2.2.2
  have hb54 := r1.1.2.1
  have hb55 := r1.1.2.2.1
  have hb56 := r1.1.2.2.2
  have r2 := r1.2
  clear r1
  have hi74 := r2.1.1
  have hi75 := r2.1.2.1
  have hi76 := r2.1.2.2
  have hb57 := r2.2.1
  have hb58 := r2.2.2.1
  have hb59 := r2.2.2.2
  exact ⟨hi49.trans y1.1, hi60.trans y2.1, hi68.trans y3.1, trivial, hb41.trans y1.2.2, hb50.trans y2.2.2, hb55.trans y3.2.2, trivial⟩
theorem N23 (i0 i1 i2 i3 i4 i5 i6 i7 i8 i9 i10 i11 i12 i13 i14 i15 i16 i17 i18 i19 i20 i21 i22 i23 i24 i25 i26 i27 i28 i29 i30 i31 i32 i33 i34 i35 i36 i37 i38 i39 i40 i41 i42 i43 i44 i45 : Int) (b0 b1 b2 b3 b4 b5 b6 b7 b8 b9 b10 b11 b12 b13 b14 b15 b16 b17 b18 b19 b20 b21 b22 b23 b24 b25 b26 b27 b28 b29 b30 b31 b32 b33 b34 b35 : Bool) (h : Ck i0 i1 i2 i3 i4 i5 i6 i7 i8 i9 i10 i11 i12 i13 i14 i15 i16 i17 i18 i19 i20 i21 i22 i23 i24 i25 i26 i27 i28 i29 i30 i31 i32 i33 i34) : (i3 = 0 → (F23 [i0, i1, i2, i3, i4, i5, i6, i7, i8, i9, i10, i11, i12, i13, i14, i15, i16, i17, i18, i19, i20, i21, i22, i23, i24, i25, i26, i27, i28, i29, i30, i31, i32, i33, i34, i35, i36, i37, i38, i39, i40, i41, i42, i43, i44, i45] [b0, b1, b2, b3, b4, b5, b6, b7, b8, b9, b10, b11, b12, b13, b14, b15, b16, b17, b18, b19, b20, b21, b22, b23, b24, b25, b26, b27, b28, b29, b30, b31, b32, b33, b34, b35]).1.getD 3 0 = 0) ∧ (i14 = 0 → (F23 [i0, i1, i2, i3, i4, i5, i6, i7, i8, i9, i10, i11, i12, i13, i14, i15, i16, i17, i18, i19, i20, i21, i22, i23, i24, i25, i26, i27, i28, i29, i30, i31, i32, i33, i34, i35, i36, i37, i38, i39, i40, i41, i42, i43, i44, i45] [b0, b1, b2, b3, b4, b5, b6, b7, b8, b9, b10, b11, b12, b13, b14, b15, b16, b17, b18, b19, b20, b21, b22, b23, b24, b25, b26, b27, b28, b29, b30, b31, b32, b33, b34, b35]).1.getD 14 0 = 0) ∧ (i22 = 0 → (F23 [i0, i1, i2, i3, i4, i5, i6, i7, i8, i9, i10, i11, i12, i13, i14, i15, i16, i17, i18, i19, i20, i21, i22, i23, i24, i25, i26, i27, i28, i29, i30, i31, i32, i33, i34, i35, i36, i37, i38, i39, i40, i41, i42, i43, i44, i45] [b0, b1, b2, b3, b4, b5, b6, b7, b8, b9, b10, b11, b12, b13, b14, b15, b16, b17, b18, b19, b20, b21, b22, b23, b24, b25, b26, b27, b28, b29, b30, b31, b32, b33, b34, b35]).1.getD 22 0 = 0) ∧ (i31 = 0 → (F23 [i0, i1, i2, i3, i4, i5, i6, i7, i8, i9, i10, i11, i12, i13, i14, i15, i16, i17, i18, i19, i20, i21, i22, i23, i24, i25, i26, i27, i28, i29, i30, i31, i32, i33, i34, i35, i36, i37, i38, i39, i40, i41, i42, i43, i44, i45] [b0, b1, b2, b3, b4, b5, b6, b7, b8, b9, b10, b11, b12, b13, b14, b15, b16, b17, b18, b19, b20, b21, b22, b23, b24, b25, b26, b27, b28, b29, b30, b31, b32, b33, b34, b35]).1.getD 31 0 = 0) ∧ (F23 [i0, i1, i2, i3, i4, i5, i6, i7, i8, i9, i10, i11, i12, i13, i14, i15, i16, i17, i18, i19, i20, i21, i22, i23, i24, i25, i26, i27, i28, i29, i30, i31, i32, i33, i34, i35, i36, i37, i38, i39, i40, i41, i42, i43, i44, i45] [b0, b1, b2, b3, b4, b5, b6, b7, b8, b9, b10, b11, b12, b13, b14, b15, b16, b17, b18, b19, b20, b21, b22, b23, b24, b25, b26, b27, b28, b29, b30, b31, b32, b33, b34, b35]).2.getD 6 false = b5 ∧ (F23 [i0, i1, i2, i3, i4, i5, i6, i7, i8, i9, i10, i11, i12, i13, i14, i15, i16, i17, i18, i19, i20, i21, i22, i23, i24, i25, i26, i27, i28, i29, i30, i31, i32, i33, i34, i35, i36, i37, i38, i39, i40, i41, i42, i43, i44, i45] [b0, b1, b2, b3, b4, b5, b6, b7, b8, b9, b10, b11, b12, b13, b14, b15, b16, b17, b18, b19, b20, b21, b22, b23, b24, b25, b26, b27, b28, b29, b30, b31, b32, b33, b34, b35]).2.getD 15 false = b14 ∧ (F23 [i0, i1, i2, i3, i4, i5, i6, i7, i8, i9, i10, i11, i12, i13, i14, i15, i16, i17, i18, i19, i20, i21, i22, i23, i24, i25, i26, i27, i28, i29, i30, i31, i32, i33, i34, i35, i36, i37, i38, i39, i40, i41, i42, i43, i44, i45] [b0, b1, b2, b3, b4, b5, b6, b7, b8, b9, b10, b11, b12, b13, b14, b15, b16, b17, b18, b19, b20, b21, b22, b23, b24, b25, b26, b27, b28, b29, b30, b31, b32, b33, b34, b35]).2.getD 20 false = b19 ∧ (F23 [i0, i1, i2, i3, i4, i5, i6, i7, i8, i9, i10, i11, i12, i13, i14, i15, i16, i17, i18, i19, i20, i21, i22, i23, i24, i25, i26, i27, i28, i29, i30, i31, i32, i33, i34, i35, i36, i37, i38, i39, i40, i41, i42, i43, i44, i45] [b0, b1, b2, b3, b4, b5, b6, b7, b8, b9, b10, b11, b12, b13, b14, b15, b16, b17, b18, b19, b20, b21, b22, b23, b24, b25, b26, b27, b28, b29, b30, b31, b32, b33, b34, b35]).2.getD 26 false = b25 := by
  have e := N28 i0 i1 i2 i3 i4 i5 i6 i7 i8 i9 i10 i11 i12 i13 i14 i15 i16 i17 i18 i19 i20 i21 i22 i23 i24 i25 i26 i27 i28 i29 i30 i31 i32 i33 i34 i35 i36 i37 i38 i39 i40 i41 i42 i43 i44 i45 b0 b1 b2 b3 b4 b5 b6 b7 b8 b9 b10 b11 b12 b13 b14 b15 b16 b17 b18 b19 b20 b21 b22 b23 b24 b25 b26 b27 b28 b29 b30 b31 b32 b33 b34 b35 h
  obtain ⟨c, x, hQ, h1, h2, h3, h4⟩ := kp28F i0 i1 i2 i3 i4 i5 i6 i7 i8 i9 i10 i11 i12 i13 i14 i15 i16 i17 i18 i19 i20 i21 i22 i23 i24 i25 i26 i27 i28 i29 i30 i31 i32 i33 i34 i35 i36 i37 i38 i39 i40 i41 i42 i43 i44 i45 b0 b1 b2 b3 b4 b5 b6 b7 b8 b9 b10 b11 b12 b13 b14 b15 b16 b17 b18 b19 b20 b21 b22 b23 b24 b25 b26 b27 b28 b29 b30 b31 b32 b33 b34 b35 h
  rw [hQ] at e
  have a3 : c 3 = i3 := e.1
  have a14 : c 14 = i14 := e.2.1
  have a22 : c 22 = i22 := e.2.2.1
  have a31 : c 31 = i31 := e.2.2.2.1
  have z5 : x 5 = b5 := e.2.2.2.2.1
  have z14 : x 14 = b14 := e.2.2.2.2.2.1
  have z19 : x 19 = b19 := e.2.2.2.2.2.2.1
  have z25 : x 25 = b25 := e.2.2.2.2.2.2.2
  clear e h
  have y1 := n_45 (c 0) (c 1) (c 2) (c 3) (c 4) (c 5) (c 6) (c 7) (c 8) (c 9) (c 10) (x 0) (x 1) (x 2) (x 3) (x 4) (x 5) (x 6) (x 7) (x 8)  (Pk_nn h1).1 (Pk_nn h1).2.1 (Pk_nn h1).2.2.1 (Pk_nn h1).2.2.2.1 (Pk_nn h1).2.2.2.2.1 (Pk_nn h1).2.2.2.2.2.1 (Pk_nn h1).2.2.2.2.2.2.1 (Pk_nn h1).2.2.2.2.2.2.2.1 (Pk_nn h1).2.2.2.2.2.2.2.2.1 (Pk_nn h1).2.2.2.2.2.2.2.2.2.1 (Pk_nn h1).2.2.2.2.2.2.2.2.2.2  (Pk_ok h1)
  have y2 := n_45 (c 11) (c 12) (c 13) (c 14) (c 15) (c 16) (c 17) (c 18) (c 19) (c 20) (c 21) (x 9) (x 10) (x 11) (x 12) (x 13) (x 14) (x 15) (x 16) (x 17)  (Pk_nn h2).1 (Pk_nn h2).2.1 (Pk_nn h2).2.2.1 (Pk_nn h2).2.2.2.1 (Pk_nn h2).2.2.2.2.1 (Pk_nn h2).2.2.2.2.2.1 (Pk_nn h2).2.2.2.2.2.2.1 (Pk_nn h2).2.2.2.2.2.2.2.1 (Pk_nn h2).2.2.2.2.2.2.2.2.1 (Pk_nn h2).2.2.2.2.2.2.2.2.2.1 (Pk_nn h2).2.2.2.2.2.2.2.2.2.2  (Pk_ok h2)
  unfold F23
  obtain ⟨ρ, e1, e2, e3, e4⟩ := Smry.run_specT (Φ := tabF T30) (S := S23) (is := [i0, i1, i2, i3, i4, i5, i6, i7, i8, i9, i10, i11, i12, i13, i14, i15, i16, i17, i18, i19, i20, i21, i22, i23, i24, i25, i26, i27, i28, i29, i30, i31, i32, i33, i34, i35, i36, i37, i38, i39, i40, i41, i42, i43, i44, i45]) (bs := [b0, b1, b2, b3, b4, b5, b6, b7, b8, b9, b10, b11, b12, b13, b14, b15, b16, b17, b18, b19, b20, b21, b22, b23, b24, b25, b26, b27, b28, b29, b30, b31, b32, b33, b34, b35]) rfl
  rw [e1, obAll_eq]
  clear e1
  simp only [S23, obs, Gd.d_cons, Gd.d_nil, eqns, Em.eqn, headsI, headsB, RI.d, RB.d, A.d, B.d, cm_eql, cm_neq, cm_lss, cm_leq, cm_gtr, cm_geq, List.map_cons, List.map_nil, and_true, Nat.zero_add, Nat.reduceAdd, ltn, upto, true_and, Nat.add_zero, List.getD_cons_zero, List.getD_cons_succ, add8, sub8, add16, sub16, mul16, wrap_u8, wrap_u16, and8_1, and8_7, and8_8, and8_15, and8_16, and8_31, and8_32, and8_64, and8_127, and8_128, and16_1, and16_255, and16_1792, shr8_1, shr8_3, shr8_4, shr8_6, shr16_1, shr16_6, shr16_8, shl16_8, shl16_14] at e2 e3 e4 ⊢
  simp only [e2, e3] at e4 ⊢
  clear e2 e3
  have hi46 := e4.1.1.1
  have hi47 := e4.1.1.2.1
  have hi48 := e4.1.1.2.2.1
  have hi49 := e4.1.1.2.2.2.1
  have hi50 := e4.1.1.2.2.2.2.1
  have hi51 := e4.1.1.2.2.2.2.2.1
  have hi52 := e4.1.1.2.2.2.2.2.2.1
  have hi53 := e4.1.1.2.2.2.2.2.2.2.1
  have hi54 := e4.1.1.2.2.2.2.2.2.2.2.1
  have hi55 := e4.1.1.2.2.2.2.2.2.2.2.2.1
  have hi56 := e4.1.1.2.2.2.2.2.2.2.2.2.2.1
  have hi57 := e4.1.1.2.2.2.2.2.2.2.2.2.2.2.1
  have hi58 := e4.1.1.2.2.2.2.2.2.2.2.2.2.2.2.1
  have hi59 := e4.1.1.2.2.2.2.2.2.2.2.2.2.2.2.2.1
  have hi60 := e4.1.1.2.2.2.2.2.2.2.2.2.2.2.2.2.2.1
  have hi61 := e4.1.1.2.2.2.2.2.2.2.2.2.2.2.2.2.2.2.1
  have hi62 := e4.1.1.2.2.2.2.2.2.2.2.2.2.2.2.2.2.2.2.1
  have hi63 := e4.1.1.2.2.2.2.2.2.2.2.2.2.2.2.2.2.2.2.2.1
  have hi64 := e4.1.1.2.2.2.2.2.2.2.2.2.2.2.2.2.2.2.2.2.2.1
  have hi65 := e4.1.1.2.2.2.2.2.2.2.2.2.2.2.2.2.2.2.2.2.2.2.1
  have hi66 := e4.1.1.2.2.2.2.2.2.2.2.2.2.2.2.2.2.2.2.2.2.2.2.1
  have hi67 := e4.1.1.2.2.2.2.2.2.2.2.2.2.2.2.2.2.2.2.2.2.2.2.2.1
  have hi68 := e4.1.1.2.2.2.2.2.2.2.2.2.2.2.2.2.2.2.2.2.2.2.2.2.2.1
  have hi69 := e4.1.1.2.2.2.2.2.2.2.2.2.2.2.2.2.2.2.2.2.2.2.2.2.2.2.1
  have hi70 := e4.1.1.2.2.2.2.2.2.2.2.2.2.2.2.2.2.2.2.2.2.2.2.2.2.2.2.1
  have hi71 := e4.1.1.2.2.2.2.2.2.2.2.2.2.2.2.2.2.2.2.2.2.2.2.2.2.2.2.2.1
  have hi72 := e4.1.1.2.2.2.2.2.2.2.2.2.2.2.2.2.2.2.2.2.2.2.2.2.2.2.2.2.2.1
  have hi73 := e4.1.1.2.2.2.2.2.2.2.2.2.2.2.2.2.2.2.2.2.2.2.2.2.2.2.2.2.2.2.1
  have hi74 := e4.1.1.2.2.2.2.2.2.2.2.2.2.2.2.2.2.2.2.2.2.2.2.2.2.2.2.2.2.2.2.1
  have hi75 := e4.1.1.2.2.2.2.2.2.2.2.2.2.2.2.2.2.2.2.2.2.2.2.2.2.2.2.2.2.2.2.2.1
  have hi76 := e4.1.1.2.2.2.2.2.2.2.2.2.2.2.2.2.2.2.2.2.2.2.2.2.2.2.2.2.2.2.2.2.2.1
  have hi77 := e4.1.1.2.2.2.2.2.2.2.2.2.2.2.2.2.2.2.2.2.2.2.2.2.2.2.2.2.2.2.2.2.2.2.1
  have hi78 := e4.1.1.2.2.2.2.2.2.2.2.2.2.2.2.2.2.2.2.2.2.2.2.2.2.2.2.2.2.2.2.2.2.2.2.1
  have hi79 := e4.1.1.2.2.2.2.2.2.2.2.2.2.2.2.2.2.2.2.2.2.2.2.2.2.2.2.2.2.2.2.2.2.2.2.2.1
  have hi80 := e4.1.1.2.2.2.2.2.2.2.2.2.2.2.2.2.2.2.2.2.2.2.2.2.2.2.2.2.2.2.2.2.2.2.2.2.2.1
  have hi81 := e4.1.1.2.2.2.2.2.2.2.2.2.2.2.2.2.2.2.2.2.2.2.2.2.2.2.2.2.2.2.2.2.2.2.2.2.2.2.1
  have hi82 := e4.1.1.2.2.2.2.2.2.2.2.2.2.2.2.2.2.2.2.2.2.2.2.2.2.2.2.2.2.2.2.2.2.2.2.2.2.2.2.1
  have hi83 := e4.1.1.2.2.2.2.2.2.2.2.2.2.2.2.2.2.2.2.2.2.2.2.2.2.2.2.2.2.2.2.2.2.2.2.2.2.2.2.2.1
  have hi84 := e4.1.1.2.2.2.2.2.2.2.2.2.2.2.2.2.2.2.2.2.2.2.2.2.2.2.2.2.2.2.2.2.2.2.2.2.2.2.2.2.2.1
  have hi85 := e4.1.1.2.2.2.2.2.2.2.2.2.2.2.2.2.2.2.2.2.2.2.2.2.2.2.2.2.2.2.2.2.2.2.2.2.2.2.2.2.2.2.1
  have hi86 := e4.1.1.2.2.2.2.2.2.2.2.2.2.2.2.2.2.2.2.2.2.2.2.2.2.2.2.2.2.2.2.2.2.2.2.2.2.2.2.2.2.2.2.1
  have hi87 := e4.1.1.2.2.2.2.2.2.2.2.2.2.2.2.2.2.2.2.2.2.2.2.2.2.2.2.2.2.2.2.2.2.2.2.2.2.2.2.2.2.2.2.2.1
  have hi88 := e4.1.1.2.2.2.2.2.2.2.2.2.2.2.2.2.2.2.2.2.2.2.2.2.2.2.2.2.2.2.2.2.2.2.2.2.2.2.2.2.2.2.2.2.2.1
  have hi89 := e4.1.1.2.2.2.2.2.2.2.2.2.2.2.2.2.2.2.2.2.2.2.2.2.2.2.2.2.2.2.2.2.2.2.2.2.2.2.2.2.2.2.2.2.2.2.1
  have hi90 := e4.1.1.2.2.2.2.2.2.2.2.2.2.2.2.2.2.2.2.2.2.2.2.2.2.2.2.2.2.2.2.2.2.2.2.2.2.2.2.2.2.2.2.2.2.2.2.1
  have hi91 := e4.1.1.2.2.2.2.2.2.2.2.2.2.2.2.2.2.2.2.2.2.2.2.2.2.2.2.2.2.2.2.2.2.2.2.2.2.2.2.2.2.2.2.2.2.2.2.2
  have hb36 := e4.1.2.1
  have hb37 := e4.1.2.2.1
  have hb38 := e4.1.2.2.2.1
  have hb39 := e4.1.2.2.2.2.1
  have hb40 := e4.1.2.2.2.2.2.1
  have hb41 := e4.1.2.2.2.2.2.2.1
  have hb42 := e4.1.2.2.2.2.2.2.2.1
  have hb43 := e4.1.2.2.2.2.2.2.2.2.1
  have hb44 := e4.1.2.2.2.2.2.2.2.2.2.1
  have hb45 := e4.1.2.2.2.2.2.2.2.2.2.2.1
  have hb46 := e4.1.2.2.2.2.2.2.2.2.2.2.2.1
  have hb47 := e4.1.2.2.2.2.2.2.2.2.2.2.2.2.1
  have hb48 := e4.1.2.2.2.2.2.2.2.2.2.2.2.2.2.1
  have hb49 := e4.1.2.2.2.2.2.2.2.2.2.2.2.2.2.2.1
  have hb50 := e4.1.2.2.2.2.2.2.2.2.2.2.2.2.2.2.2.1
  have hb51 := e4.1.2.2.2.2.2.2.2.2.2.2.2.2.2.2.2.2.1
  have hb52 := e4.1.2.2.2.2.2.2.2.2.2.2.2.2.2.2.2.2.2.1
  have hb53 := e4.1.2.2.2.2.2.2.2.2.2.2.2.2.2.2.2.2.2.2.1
  have hb54 := e4.1.2.2.2.2.2.2.2.2.2.2.2.2.2.2.2.2.2.2.2.1
  have hb55 := e4.1.2.2.2.2.2.2.2.2.2.2.2.2.2.2.2.2.2.2.2.2.1
  have hb56 := e4.1.2.2.2.2.2.2.2.2.2.2.2.2.2.2.2.2.2.2.2.2.2.1
  have hb57 := e4.1.2.2.2.2.2.2.2.2.2.2.2.2.2.2.2.2.2.2.2.2.2.2.1
  have hb58 := e4.1.2.2.2.2.2.2.2.2.2.2.2.2.2.2.2.2.2.2.2.2.2.2.2.1
  have hb59 := e4.1.2.2.2.2.2.2.2.2.2.2.2.2.2.2.2.2.2.2.2.2.2.2.2.2.1
  have hb60 := e4.1.2.2.2.2.2.2.2.2.2.2.2.2.2.2.2.2.2.2.2.2.2.2.2.2.2.1
  have hb61 := e4.1.2.2.2.2.2.2.2.2.2.2.2.2.2.2.2.2.2.2.2.2.2.2.2.2.2.2.1
  have hb62 := e4.1.2.2.2.2.2.2.2.2.2.2.2.2.2.2.2.2.2.2.2.2.2.2.2.2.2.2.2.1
  have hb63 := e4.1.2.2.2.2.2.2.2.2.2.2.2.2.2.2.2.2.2.2.2.2.2.2.2.2.2.2.2.2.1
  have hb64 := e4.1.2.2.2.2.2.2.2.2.2.2.2.2.2.2.2.2.2.2.2.2.2.2.2.2.2.2.2.2.2.1
  have hb65 := e4.1.2.2.2.2.2.2.2.2.2.2.2.2.2.2.2.2.2.2.2.2.2.2.2.2.2.2.2.2.2.2.1
  have hb66 := e4.1.2.2.2.2.2.2.2.2.2.2.2.2.2.2.2.2.2.2.2.2.2.2.2.2.2.2.2.2.2.2.2.1
  have hb67 := e4.1.2.2.2.2.2.2.2.2.2.2.2.2.2.2.2.2.2.2.2.2.2.2.2.2.2.2.2.2.2.2.2.2.1
  have hb68 := e4.1.2.2.2.2.2.2.2.2.2.2.2.2.2.2.2.2.2.2.2.2.2.2.2.2.2.2.2.2.2.2.2.2.2.1
  have hb69 := e4.1.2.2.2.2.2.2.2.2.2.2.2.2.2.2.2.2.2.2.2.2.2.2.2.2.2.2.2.2.2.2.2.2.2.2.1
  have hb70 := e4.1.2.2.2.2.2.2.2.2.2.2.2.2.2.2.2.2.2.2.2.2.2.2.2.2.2.2.2.2.2.2.2.2.2.2.2.1
  have hb71 := e4.1.2.2.2.2.2.2.2.2.2.2.2.2.2.2.2.2.2.2.2.2.2.2.2.2.2.2.2.2.2.2.2.2.2.2.2.2
  have r0 := e4.2
  clear e4
  have hi92 := r0.1.1.1
  have hi93 := r0.1.1.2.1
  have hi94 := r0.1.1.2.2.1
  have hi95 := r0.1.1.2.2.2.1
  have hi96 := r0.1.1.2.2.2.2.1
  have hi97 := r0.1.1.2.2.2.2.2.1
  have hi98 := r0.1.1.2.2.2.2.2.2.1
  have hi99 := r0.1.1.2.2.2.2.2.2.2.1
  have hi100 := r0.1.1.2.2.2.2.2.2.2.2.1
  have hi101 := r0.1.1.2.2.2.2.2.2.2.2.2.1
  have hi102 := r0.1.1.2.2.2.2.2.2.2.2.2.2
  have hb72 := r0.1.2.1
  have hb73 := r0.1.2.2.1
  have hb74 := r0.1.2.2.2.1
  have hb75 := r0.1.2.2.2.2.1
  have hb76 := r0.1.2.2.2.2.2.1
  have hb77 := r0.1.2.2.2.2.2.2.1
  have hb78 := r0.1.2.2.2.2.2.2.2.1
  have hb79 := r0.1.2.2.2.2.2.2.2.2.1
  have hb80 := r0.1.2.2.2.2.2.2.2.2.2.1
  have hb81 := r0.1.2.2.2.2.2.2.2.2.2.2
  have r1 := r0.2
  clear r0
  have hi103 := r1.1.1.1
  have hi104 := r1.1.1.2.1
  have hi105 := r1.1.1.2.2.1
  have hi106 := r1.1.1.2.2.2.1
  have hi107 := r1.1.1.2.2.2.2.1
  have hi108 := r1.1.1.2.2.2.2.2.1
  have hi109 := r1.1.1.2.2.2.2.2.2.1
  have hi110 := r1.1.1.2.2.2.2.2.2.2.1
  have hi111 := r1.1.1.2.2.2.2.2.2.2.2.1
  have hi112 := r1.1.1.2.2.2.2.2.2.2.2.2.1
  have hi113 := r1.1.1.2.2.2.2.2.2.2.2.2.2
  have hb82 := r1.1.2.1
  have hb83 := r1.1.2.2.1
  have hb84 := r1.1.2.2.2.1
  have hb85 := r1.1.2.2.2.2.1
  have hb86 := r1.1.2.2.2.2.2.1
  have hb87 := r1.1.2.2.2.2.2.2.1
  have hb88 := r1.1.2.2.2.2.2.2.2.1
  have hb89 := r1.1.2.2.2.2.2.2.2.2.1
  have hb90 := r1.1.2.2.2.2.2.2.2.2.2.1
  have hb91 := r1.1.2.2.2.2.2.2.2.2.2.2
  have r2 := r1.2
  clear r1
  have hi114 := r2.1.1
  have hb92 := r2.1.2.1
  have hb93 := r2.1.2.2
  have r3 := r2.2
  clear r2
  have hi115 := r3.1
  have hb94 := r3.2.1
  have hb95 := r3.2.2
  have hQ' : tabF T30 28 [i0, i1, i2, i3, i4, i5, i6, i7, i8, i9, i10, i11, i12, i13, i14, i15, i16, i17, i18, i19, i20, i21, i22, i23, i24, i25, i26, i27, i28, i29, i30, i31, i32, i33, i34, i35, i36, i37, i38, i39, i40, i41, i42, i43, i44, i45] [b0, b1, b2, b3, b4, b5, b6, b7, b8, b9, b10, b11, b12, b13, b14, b15, b16, b17, b18, b19, b20, b21, b22, b23, b24, b25, b26, b27, b28, b29, b30, b31, b32, b33, b34, b35] = _ := hQ
  have w0 : ρ.i 46 = c 0 := gi hi46 hQ'
  have w1 : ρ.i 47 = c 1 := gi hi47 hQ'
  have w2 : ρ.i 48 = c 2 := gi hi48 hQ'
  have w3 : ρ.i 49 = c 3 := gi hi49 hQ'
  have w4 : ρ.i 50 = c 4 := gi hi50 hQ'
  have w5 : ρ.i 51 = c 5 := gi hi51 hQ'
  have w6 : ρ.i 52 = c 6 := gi hi52 hQ'
  have w7 : ρ.i 53 = c 7 := gi hi53 hQ'
  have w8 : ρ.i 54 = c 8 := gi hi54 hQ'
  have w9 : ρ.i 55 = c 9 := gi hi55 hQ'
  have w10 : ρ.i 56 = c 10 := gi hi56 hQ'
  have w11 : ρ.i 57 = c 11 := gi hi57 hQ'
  have w12 : ρ.i 58 = c 12 := gi hi58 hQ'
  have w13 : ρ.i 59 = c 13 := gi hi59 hQ'
  have w14 : ρ.i 60 = c 14 := gi hi60 hQ'
  have w15 : ρ.i 61 = c 15 := gi hi61 hQ'
  have w16 : ρ.i 62 = c 16 := gi hi62 hQ'
  have w17 : ρ.i 63 = c 17 := gi hi63 hQ'
  have w18 : ρ.i 64 = c 18 := gi hi64 hQ'
  have w19 : ρ.i 65 = c 19 := gi hi65 hQ'
  have w20 : ρ.i 66 = c 20 := gi hi66 hQ'
  have w21 : ρ.i 67 = c 21 := gi hi67 hQ'
  have w22 : ρ.i 68 = c 22 := gi hi68 hQ'
  have w23 : ρ.i 69 = c 23 := gi hi69 hQ'
  have w24 : ρ.i 70 = c 24 := gi hi70 hQ'
  have w25 : ρ.i 71 = c 25 := gi hi71 hQ'
  have w26 : ρ.i 72 = c 26 := gi hi72 hQ'
  have w27 : ρ.i 73 = c 27 := gi hi73 hQ'
  have w28 : ρ.i 74 = c 28 := gi hi74 hQ'
  have w29 : ρ.i 75 = c 29 := gi hi75 hQ'
  have w30 : ρ.i 76 = c 30 := gi hi76 hQ'
  have w31 : ρ.i 77 = c 31 := gi hi77 hQ'
  have w32 : ρ.i 78 = c 32 := gi hi78 hQ'
  have w33 : ρ.i 79 = c 33 := gi hi79 hQ'
  have w34 : ρ.i 80 = c 34 := gi hi80 hQ'
  have u0 : ρ.b 36 = x 0 := gb hb36 hQ'
  have u1 : ρ.b 37 = x 1 := gb hb37 hQ'
  have u2 : ρ.b 38 = x 2 := gb hb38 hQ'
  have u3 : ρ.b 39 = x 3 := gb hb39 hQ'
  have u4 : ρ.b 40 = x 4 := gb hb40 hQ'
  have u5 : ρ.b 41 = x 5 := gb hb41 hQ'
  have u6 : ρ.b 42 = x 6 := gb hb42 hQ'
  have u7 : ρ.b 43 = x 7 := gb hb43 hQ'
  have u8 : ρ.b 44 = x 8 := gb hb44 hQ'
  have u9 : ρ.b 45 = x 9 := gb hb45 hQ'
  have u10 : ρ.b 46 = x 10 := gb hb46 hQ'
  have u11 : ρ.b 47 = x 11 := gb hb47 hQ'
  have u12 : ρ.b 48 = x 12 := gb hb48 hQ'
  have u13 : ρ.b 49 = x 13 := gb hb49 hQ'
  have u14 : ρ.b 50 = x 14 := gb hb50 hQ'
  have u15 : ρ.b 51 = x 15 := gb hb51 hQ'
  have u16 : ρ.b 52 = x 16 := gb hb52 hQ'
  have u17 : ρ.b 53 = x 17 := gb hb53 hQ'
  have u18 : ρ.b 54 = x 18 := gb hb54 hQ'
  have u19 : ρ.b 55 = x 19 := gb hb55 hQ'
  have u20 : ρ.b 56 = x 20 := gb hb56 hQ'
  have u21 : ρ.b 57 = x 21 := gb hb57 hQ'
  have u22 : ρ.b 58 = x 22 := gb hb58 hQ'
  have u23 : ρ.b 59 = x 23 := gb hb59 hQ'
  have u24 : ρ.b 60 = x 24 := gb hb60 hQ'
  have u25 : ρ.b 61 = x 25 := gb hb61 hQ'
  have u26 : ρ.b 62 = x 26 := gb hb62 hQ'
  have q1 : tabF T30 45 [ρ.i 46, ρ.i 47, ρ.i 48, ρ.i 49, ρ.i 50, ρ.i 51, ρ.i 52, ρ.i 53, ρ.i 54, ρ.i 55, ρ.i 56] [ρ.b 36, ρ.b 37, ρ.b 38, ρ.b 39, ρ.b 40, ρ.b 41, ρ.b 42, ρ.b 43, ρ.b 44] = F45 [(c 0), (c 1), (c 2), (c 3), (c 4), (c 5), (c 6), (c 7), (c 8), (c 9), (c 10)] [(x 0), (x 1), (x 2), (x 3), (x 4), (x 5), (x 6), (x 7), (x 8)] := by rw [w0, w1, w2, w3, w4, w5, w6, w7, w8, w9, w10, u0, u1, u2, u3, u4, u5, u6, u7, u8]; rfl
  have q2 : tabF T30 45 [ρ.i 57, ρ.i 58, ρ.i 59, ρ.i 60, ρ.i 61, ρ.i 62, ρ.i 63, ρ.i 64, ρ.i 65, ρ.i 66, ρ.i 67] [ρ.b 45, ρ.b 46, ρ.b 47, ρ.b 48, ρ.b 49, ρ.b 50, ρ.b 51, ρ.b 52, ρ.b 53] = F45 [(c 11), (c 12), (c 13), (c 14), (c 15), (c 16), (c 17), (c 18), (c 19), (c 20), (c 21)] [(x 9), (x 10), (x 11), (x 12), (x 13), (x 14), (x 15), (x 16), (x 17)] := by rw [w11, w12, w13, w14, w15, w16, w17, w18, w19, w20, w21, u9, u10, u11, u12, u13, u14, u15, u16, u17]; rfl
  have q3 : tabF T30 46 [ρ.i 68] [ρ.b 54, ρ.b 55] = F46 [c 22] [x 18, x 19] := by rw [w22, u18, u19]; rfl
  have q4 : tabF T30 46 [ρ.i 77] [ρ.b 60, ρ.b 61] = F46 [c 31] [x 24, x 25] := by rw [w31, u24, u25]; rfl
  refine ⟨fun h => ?_, fun h => ?_, fun h => ?_, fun h => ?_, ?_, ?_, ?_, ?_⟩
  · exact (gi hi95 q1).trans (y1.2 (a3.trans h))
  · exact (gi hi106 q2).trans (y2.2 (a14.trans h))
  · refine (gi hi114 q3).trans ?_
    rw [a22, h, len46z]; rfl
  · refine (gi hi115 q4).trans ?_
    rw [a31, h, len46z]; rfl
  · exact (gb hb78 q1).trans (y1.1.trans z5)
  · exact (gb hb88 q2).trans (y2.1.trans z14)
  · refine (gb hb93 q3).trans ?_
    rw [len46b]; exact z19
  · refine (gb hb95 q4).trans ?_
    rw [len46b]; exact z25
theorem w8S (i0 i1 i2 i3 i4 i5 i6 i7 i8 i9 i10 i11 i12 i13 i14 i15 i16 i17 i18 i19 i20 i21 i22 i23 i24 i25 i26 i27 i28 i29 i30 i31 i32 i33 i34 i35 i36 i37 i38 i39 i40 i41 i42 i43 i44 i45 reg v : Int) (b0 b1 b2 b3 b4 b5 b6 b7 b8 b9 b10 b11 b12 b13 b14 b15 b16 b17 b18 b19 b20 b21 b22 b23 b24 b25 b26 b27 b28 b29 b30 b31 b32 b33 b34 b35 : Bool) (hA : Ak i0 i1 i2 i3 i4 i5 i6 i7 i8 i9 i10 i11 i12 i13 i14 i15 i16 i17 i18 i19 i20 i21 i22 i23 i24 i25 i26 i27 i28 i29 i30 i31 i32 i33 i34 i35 i36 i37 i38 i39 i40 i41 i42 i43 i44 i45 b32) (hv : 0 ≤ v ∧ v ≤ 255) (hS : Sil i3 i14 i22 i31 i40 b5 b14 b19 b25) (hne : reg ≠ 21) :
    ∃ (c : Nat → Int) (x : Nat → Bool), F8 [i0, i1, i2, i3, i4, i5, i6, i7, i8, i9, i10, i11, i12, i13, i14, i15, i16, i17, i18, i19, i20, i21, i22, i23, i24, i25, i26, i27, i28, i29, i30, i31, i32, i33, i34, i35, i36, i37, i38, i39, i40, i41, i42, i43, i44, i45, reg, v] [b0, b1, b2, b3, b4, b5, b6, b7, b8, b9, b10, b11, b12, b13, b14, b15, b16, b17, b18, b19, b20, b21, b22, b23, b24, b25, b26, b27, b28, b29, b30, b31, b32, b33, b34, b35] = ([(c 0), (c 1), (c 2), (c 3), (c 4), (c 5), (c 6), (c 7), (c 8), (c 9), (c 10), (c 11), (c 12), (c 13), (c 14), (c 15), (c 16), (c 17), (c 18), (c 19), (c 20), (c 21), (c 22), (c 23), (c 24), (c 25), (c 26), (c 27), (c 28), (c 29), (c 30), (c 31), (c 32), (c 33), (c 34), (c 35), (c 36), (c 37), (c 38), (c 39), (c 40), (c 41), (c 42), (c 43), (c 44), (c 45), 0], [true, (x 0), (x 1), (x 2), (x 3), (x 4), (x 5), (x 6), (x 7), (x 8), (x 9), (x 10), (x 11), (x 12), (x 13), (x 14), (x 15), (x 16), (x 17), (x 18), (x 19), (x 20), (x 21), (x 22), (x 23), (x 24), (x 25), (x 26), (x 27), (x 28), (x 29), (x 30), (x 31), (x 32), (x 33), (x 34), (x 35)]) ∧ Ak (c 0) (c 1) (c 2) (c 3) (c 4) (c 5) (c 6) (c 7) (c 8) (c 9) (c 10) (c 11) (c 12) (c 13) (c 14) (c 15) (c 16) (c 17) (c 18) (c 19) (c 20) (c 21) (c 22) (c 23) (c 24) (c 25) (c 26) (c 27) (c 28) (c 29) (c 30) (c 31) (c 32) (c 33) (c 34) (c 35) (c 36) (c 37) (c 38) (c 39) (c 40) (c 41) (c 42) (c 43) (c 44) (c 45) (x 32) ∧ Sil (c 3) (c 14) (c 22) (c 31) (c 40) (x 5) (x 14) (x 19) (x 25) := by
  obtain ⟨wneg, wone, wtwo, wtri, wnoi, wdmc, w20, won, w22, wf, wh, wbig⟩ := w8 i0 i1 i2 i3 i4 i5 i6 i7 i8 i9 i10 i11 i12 i13 i14 i15 i16 i17 i18 i19 i20 i21 i22 i23 i24 i25 i26 i27 i28 i29 i30 i31 i32 i33 i34 i35 i36 i37 i38 i39 i40 i41 i42 i43 i44 i45 reg v b0 b1 b2 b3 b4 b5 b6 b7 b8 b9 b10 b11 b12 b13 b14 b15 b16 b17 b18 b19 b20 b21 b22 b23 b24 b25 b26 b27 b28 b29 b30 b31 b32 b33 b34 b35 hA hv
  have hA' := hA
  obtain ⟨h1, h2, h3, h4, h5, h6, h7⟩ := hA'
  have hS' := hS
  obtain ⟨s0, s1, s2, s3, s4, s5, s6, s7, s8⟩ := hS'
  rcases cl11 reg with hr | hr | hr | hr | hr | hr | hr | hr | hr | hr | hr
  · exact ⟨(fun zz => List.getD [i0, i1, i2, i3, i4, i5, i6, i7, i8, i9, i10, i11, i12, i13, i14, i15, i16, i17, i18, i19, i20, i21, i22, i23, i24, i25, i26, i27, i28, i29, i30, i31, i32, i33, i34, i35, i36, i37, i38, i39, i40, i41, i42, i43, i44, i45] zz 0), (fun zz => List.getD [b0, b1, b2, b3, b4, b5, b6, b7, b8, b9, b10, b11, b12, b13, b14, b15, b16, b17, b18, b19, b20, b21, b22, b23, b24, b25, b26, b27, b28, b29, b30, b31, b32, b33, b34, b35] zz false), wneg hr, hA, hS⟩
  · obtain ⟨_, _, hF, k⟩ := k_18 i0 i1 i2 i3 i4 i5 i6 i7 i8 i9 i10 b0 b1 b2 b3 b4 b5 b6 b7 b8 reg v (Pk_nn h1).1 (Pk_nn h1).2.1 (Pk_nn h1).2.2.1 (Pk_nn h1).2.2.2.1 (Pk_nn h1).2.2.2.2.1 (Pk_nn h1).2.2.2.2.2.1 (Pk_nn h1).2.2.2.2.2.2.1 (Pk_nn h1).2.2.2.2.2.2.2.1 (Pk_nn h1).2.2.2.2.2.2.2.2.1 (Pk_nn h1).2.2.2.2.2.2.2.2.2.1 (Pk_nn h1).2.2.2.2.2.2.2.2.2.2 hv (Pk_ok h1)
    obtain ⟨p0, p1, p2, p3, p4, p5, p6, p7, p8, p9, p10, u0, u1, u2, u3, u4, u5, u6, u7, u8, rfl, rfl, kq⟩ := Pk_of k
    have e := n_18 i0 i1 i2 i3 i4 i5 i6 i7 i8 i9 i10 b0 b1 b2 b3 b4 b5 b6 b7 b8 reg v (Pk_nn h1).1 (Pk_nn h1).2.1 (Pk_nn h1).2.2.1 (Pk_nn h1).2.2.2.1 (Pk_nn h1).2.2.2.2.1 (Pk_nn h1).2.2.2.2.2.1 (Pk_nn h1).2.2.2.2.2.2.1 (Pk_nn h1).2.2.2.2.2.2.2.1 (Pk_nn h1).2.2.2.2.2.2.2.2.1 (Pk_nn h1).2.2.2.2.2.2.2.2.2.1 (Pk_nn h1).2.2.2.2.2.2.2.2.2.2 hv (Pk_ok h1)
    rw [hF] at e
    have e1 : u5 = b5 := e.1
    have e2 : p3 = i3 := e.2.1 s5
    exact ⟨(fun zz => List.getD [p0, p1, p2, p3, p4, p5, p6, p7, p8, p9, p10, i11, i12, i13, i14, i15, i16, i17, i18, i19, i20, i21, i22, i23, i24, i25, i26, i27, i28, i29, i30, i31, i32, i33, i34, i35, i36, i37, i38, i39, i40, i41, i42, i43, i44, i45] zz 0), (fun zz => List.getD [u0, u1, u2, u3, u4, u5, u6, u7, u8, b9, b10, b11, b12, b13, b14, b15, b16, b17, b18, b19, b20, b21, b22, b23, b24, b25, b26, b27, b28, b29, b30, b31, b32, b33, b34, b35] zz false), wone p0 p1 p2 p3 p4 p5 p6 p7 p8 p9 p10 u0 u1 u2 u3 u4 u5 u6 u7 u8 hr hF, ⟨kq, h2, h3, h4, h5, h6, h7⟩, (e2.trans s0), s1, s2, s3, s4, (e1.trans s5), s6, s7, s8⟩
  · obtain ⟨_, _, hF, k⟩ := k_18 i11 i12 i13 i14 i15 i16 i17 i18 i19 i20 i21 b9 b10 b11 b12 b13 b14 b15 b16 b17 (reg - 4) v (Pk_nn h2).1 (Pk_nn h2).2.1 (Pk_nn h2).2.2.1 (Pk_nn h2).2.2.2.1 (Pk_nn h2).2.2.2.2.1 (Pk_nn h2).2.2.2.2.2.1 (Pk_nn h2).2.2.2.2.2.2.1 (Pk_nn h2).2.2.2.2.2.2.2.1 (Pk_nn h2).2.2.2.2.2.2.2.2.1 (Pk_nn h2).2.2.2.2.2.2.2.2.2.1 (Pk_nn h2).2.2.2.2.2.2.2.2.2.2 hv (Pk_ok h2)
    obtain ⟨p0, p1, p2, p3, p4, p5, p6, p7, p8, p9, p10, u0, u1, u2, u3, u4, u5, u6, u7, u8, rfl, rfl, kq⟩ := Pk_of k
    have e := n_18 i11 i12 i13 i14 i15 i16 i17 i18 i19 i20 i21 b9 b10 b11 b12 b13 b14 b15 b16 b17 (reg - 4) v (Pk_nn h2).1 (Pk_nn h2).2.1 (Pk_nn h2).2.2.1 (Pk_nn h2).2.2.2.1 (Pk_nn h2).2.2.2.2.1 (Pk_nn h2).2.2.2.2.2.1 (Pk_nn h2).2.2.2.2.2.2.1 (Pk_nn h2).2.2.2.2.2.2.2.1 (Pk_nn h2).2.2.2.2.2.2.2.2.1 (Pk_nn h2).2.2.2.2.2.2.2.2.2.1 (Pk_nn h2).2.2.2.2.2.2.2.2.2.2 hv (Pk_ok h2)
    rw [hF] at e
    have e1 : u5 = b14 := e.1
    have e2 : p3 = i14 := e.2.1 s6
    exact ⟨(fun zz => List.getD [i0, i1, i2, i3, i4, i5, i6, i7, i8, i9, i10, p0, p1, p2, p3, p4, p5, p6, p7, p8, p9, p10, i22, i23, i24, i25, i26, i27, i28, i29, i30, i31, i32, i33, i34, i35, i36, i37, i38, i39, i40, i41, i42, i43, i44, i45] zz 0), (fun zz => List.getD [b0, b1, b2, b3, b4, b5, b6, b7, b8, u0, u1, u2, u3, u4, u5, u6, u7, u8, b18, b19, b20, b21, b22, b23, b24, b25, b26, b27, b28, b29, b30, b31, b32, b33, b34, b35] zz false), wtwo p0 p1 p2 p3 p4 p5 p6 p7 p8 p9 p10 u0 u1 u2 u3 u4 u5 u6 u7 u8 hr hF, ⟨h1, kq, h3, h4, h5, h6, h7⟩, s0, (e2.trans s1), s2, s3, s4, s5, (e1.trans s6), s7, s8⟩
  · obtain ⟨_, _, hF, k⟩ := k_19 i22 i23 i24 i25 i26 i27 b18 b19 b20 (reg - 8) v (Tk_nn h3).1 (Tk_nn h3).2.1 (Tk_nn h3).2.2.1 (Tk_nn h3).2.2.2.1 (Tk_nn h3).2.2.2.2.1 (Tk_nn h3).2.2.2.2.2 hv (Tk_ok h3)
    obtain ⟨p0, p1, p2, p3, p4, p5, u0, u1, u2, rfl, rfl, kq⟩ := Tk_of k
    have e := n_19 i22 i23 i24 i25 i26 i27 b18 b19 b20 (reg - 8) v (Tk_nn h3).1 (Tk_nn h3).2.1 (Tk_nn h3).2.2.1 (Tk_nn h3).2.2.2.1 (Tk_nn h3).2.2.2.2.1 (Tk_nn h3).2.2.2.2.2 hv (Tk_ok h3)
    rw [hF] at e
    have e1 : u1 = b19 := e.1
    have e2 : p0 = i22 := e.2.1 s7
    exact ⟨(fun zz => List.getD [i0, i1, i2, i3, i4, i5, i6, i7, i8, i9, i10, i11, i12, i13, i14, i15, i16, i17, i18, i19, i20, i21, p0, p1, p2, p3, p4, p5, i28, i29, i30, i31, i32, i33, i34, i35, i36, i37, i38, i39, i40, i41, i42, i43, i44, i45] zz 0), (fun zz => List.getD [b0, b1, b2, b3, b4, b5, b6, b7, b8, b9, b10, b11, b12, b13, b14, b15, b16, b17, u0, u1, u2, b21, b22, b23, b24, b25, b26, b27, b28, b29, b30, b31, b32, b33, b34, b35] zz false), wtri p0 p1 p2 p3 p4 p5 u0 u1 u2 hr hF, ⟨h1, h2, kq, h4, h5, h6, h7⟩, s0, s1, (e2.trans s2), s3, s4, s5, s6, (e1.trans s7), s8⟩
  · obtain ⟨_, _, hF, k⟩ := k_20 i28 i29 i30 i31 i32 i33 i34 b21 b22 b23 b24 b25 b26 (reg - 12) v (Nk_nn h4).1 (Nk_nn h4).2.1 (Nk_nn h4).2.2.1 (Nk_nn h4).2.2.2.1 (Nk_nn h4).2.2.2.2.1 (Nk_nn h4).2.2.2.2.2.1 (Nk_nn h4).2.2.2.2.2.2 hv (Nk_ok h4)
    obtain ⟨p0, p1, p2, p3, p4, p5, p6, u0, u1, u2, u3, u4, u5, rfl, rfl, kq⟩ := Nk_of k
    have e := n_20 i28 i29 i30 i31 i32 i33 i34 b21 b22 b23 b24 b25 b26 (reg - 12) v (Nk_nn h4).1 (Nk_nn h4).2.1 (Nk_nn h4).2.2.1 (Nk_nn h4).2.2.2.1 (Nk_nn h4).2.2.2.2.1 (Nk_nn h4).2.2.2.2.2.1 (Nk_nn h4).2.2.2.2.2.2 hv (Nk_ok h4)
    rw [hF] at e
    have e1 : u4 = b25 := e.1
    have e2 : p3 = i31 := e.2.1 s8
    exact ⟨(fun zz => List.getD [i0, i1, i2, i3, i4, i5, i6, i7, i8, i9, i10, i11, i12, i13, i14, i15, i16, i17, i18, i19, i20, i21, i22, i23, i24, i25, i26, i27, p0, p1, p2, p3, p4, p5, p6, i35, i36, i37, i38, i39, i40, i41, i42, i43, i44, i45] zz 0), (fun zz => List.getD [b0, b1, b2, b3, b4, b5, b6, b7, b8, b9, b10, b11, b12, b13, b14, b15, b16, b17, b18, b19, b20, u0, u1, u2, u3, u4, u5, b27, b28, b29, b30, b31, b32, b33, b34, b35] zz false), wnoi p0 p1 p2 p3 p4 p5 p6 u0 u1 u2 u3 u4 u5 hr hF, ⟨h1, h2, h3, kq, h5, h6, h7⟩, s0, s1, s2, (e2.trans s3), s4, s5, s6, s7, (e1.trans s8)⟩
  · obtain ⟨p0, p1, p2, p3, p4, p5, p6, p7, p8, p9, u0, u1, u2, u3, u4, hF, kq⟩ := write_ok h5 b27 b28 b29 b30 b31 (reg - 16) v hv.1 hv.2
    have e := n_21 i35 i36 i37 i38 i39 i40 i41 i42 i43 i44 (reg - 16) v b27 b28 b29 b30 b31 h5.may hv.1 hv.2
    rw [hF] at e
    have e1 : p5 = i40 := e
    exact ⟨(fun zz => List.getD [i0, i1, i2, i3, i4, i5, i6, i7, i8, i9, i10, i11, i12, i13, i14, i15, i16, i17, i18, i19, i20, i21, i22, i23, i24, i25, i26, i27, i28, i29, i30, i31, i32, i33, i34, p0, p1, p2, p3, p4, p5, p6, p7, p8, p9, i45] zz 0), (fun zz => List.getD [b0, b1, b2, b3, b4, b5, b6, b7, b8, b9, b10, b11, b12, b13, b14, b15, b16, b17, b18, b19, b20, b21, b22, b23, b24, b25, b26, u0, u1, u2, u3, u4, b32, b33, b34, b35] zz false), wdmc p0 p1 p2 p3 p4 p5 p6 p7 p8 p9 u0 u1 u2 u3 u4 hr hF, ⟨h1, h2, h3, h4, kq, h6, h7⟩, s0, s1, s2, s3, (e1.trans s4), s5, s6, s7, s8⟩
  · exact ⟨(fun zz => List.getD [i0, i1, i2, i3, i4, i5, i6, i7, i8, i9, i10, i11, i12, i13, i14, i15, i16, i17, i18, i19, i20, i21, i22, i23, i24, i25, i26, i27, i28, i29, i30, i31, i32, i33, i34, i35, i36, i37, i38, i39, i40, i41, i42, i43, i44, i45] zz 0), (fun zz => List.getD [b0, b1, b2, b3, b4, b5, b6, b7, b8, b9, b10, b11, b12, b13, b14, b15, b16, b17, b18, b19, b20, b21, b22, b23, b24, b25, b26, b27, b28, b29, b30, b31, b32, b33, b34, b35] zz false), w20 hr, hA, hS⟩
  · exact absurd hr hne
  · exact ⟨(fun zz => List.getD [i0, i1, i2, i3, i4, i5, i6, i7, i8, i9, i10, i11, i12, i13, i14, i15, i16, i17, i18, i19, i20, i21, i22, i23, i24, i25, i26, i27, i28, i29, i30, i31, i32, i33, i34, i35, i36, i37, i38, i39, i40, i41, i42, i43, i44, i45] zz 0), (fun zz => List.getD [b0, b1, b2, b3, b4, b5, b6, b7, b8, b9, b10, b11, b12, b13, b14, b15, b16, b17, b18, b19, b20, b21, b22, b23, b24, b25, b26, b27, b28, b29, b30, b31, b32, b33, b34, b35] zz false), w22 hr, hA, hS⟩
  · by_cases h8 : 128 ≤ v
    · obtain ⟨c, x, hF, k1, k2, k3, k4⟩ := kp23F i0 i1 i2 i3 i4 i5 i6 i7 i8 i9 i10 i11 i12 i13 i14 i15 i16 i17 i18 i19 i20 i21 i22 i23 i24 i25 i26 i27 i28 i29 i30 i31 i32 i33 i34 i35 i36 i37 i38 i39 i40 i41 i42 i43 i44 0 b0 b1 b2 b3 b4 b5 b6 b7 b8 b9 b10 b11 b12 b13 b14 b15 b16 b17 b18 b19 b20 b21 b22 b23 b24 b25 b26 b27 b28 b29 b30 b31 true (decide (v / 64 % 2 = 1)) (b34 && !(decide (v / 64 % 2 = 1))) b35 ⟨h1, h2, h3, h4⟩
      have e := N23 i0 i1 i2 i3 i4 i5 i6 i7 i8 i9 i10 i11 i12 i13 i14 i15 i16 i17 i18 i19 i20 i21 i22 i23 i24 i25 i26 i27 i28 i29 i30 i31 i32 i33 i34 i35 i36 i37 i38 i39 i40 i41 i42 i43 i44 0 b0 b1 b2 b3 b4 b5 b6 b7 b8 b9 b10 b11 b12 b13 b14 b15 b16 b17 b18 b19 b20 b21 b22 b23 b24 b25 b26 b27 b28 b29 b30 b31 true (decide (v / 64 % 2 = 1)) (b34 && !(decide (v / 64 % 2 = 1))) b35 ⟨h1, h2, h3, h4⟩
      rw [hF] at e
      obtain ⟨e0, e1, e2, e3, e4, e5, e6, e7⟩ := e
      have e0 : c 3 = 0 := e0 s0
      have e1 : c 14 = 0 := e1 s1
      have e2 : c 22 = 0 := e2 s2
      have e3 : c 31 = 0 := e3 s3
      have e4 : x 5 = b5 := e4
      have e5 : x 14 = b14 := e5
      have e6 : x 19 = b19 := e6
      have e7 : x 25 = b25 := e7
      exact ⟨(fun zz => List.getD [(c 0), (c 1), (c 2), (c 3), (c 4), (c 5), (c 6), (c 7), (c 8), (c 9), (c 10), (c 11), (c 12), (c 13), (c 14), (c 15), (c 16), (c 17), (c 18), (c 19), (c 20), (c 21), (c 22), (c 23), (c 24), (c 25), (c 26), (c 27), (c 28), (c 29), (c 30), (c 31), (c 32), (c 33), (c 34), i35, i36, i37, i38, i39, i40, i41, i42, i43, i44, 0] zz 0), (fun zz => List.getD [(x 0), (x 1), (x 2), (x 3), (x 4), (x 5), (x 6), (x 7), (x 8), (x 9), (x 10), (x 11), (x 12), (x 13), (x 14), (x 15), (x 16), (x 17), (x 18), (x 19), (x 20), (x 21), (x 22), (x 23), (x 24), (x 25), (x 26), b27, b28, b29, b30, b31, true, (decide (v / 64 % 2 = 1)), (b34 && !(decide (v / 64 % 2 = 1))), b35] zz false), wf _ _ _ _ _ _ _ _ _ _ _ _ _ _ _ _ _ _ _ _ _ _ _ _ _ _ _ _ _ _ _ _ _ _ _ _ _ _ _ _ _ _ _ _ _ _ _ _ _ _ _ _ _ _ _ _ _ _ _ _ _ _ _ _ _ _ _ _ _ _ _ _ _ _ _ _ _ _ _ _ _ _ hr h8 hF, ⟨k1, k2, k3, k4, h5, Int.le_refl 0, show (0 : Int) < (if true then 37282 else 29830) by decide⟩, e0, e1, e2, e3, s4, e4.trans s5, e5.trans s6, e6.trans s7, e7.trans s8⟩
    · exact ⟨(fun zz => List.getD [i0, i1, i2, i3, i4, i5, i6, i7, i8, i9, i10, i11, i12, i13, i14, i15, i16, i17, i18, i19, i20, i21, i22, i23, i24, i25, i26, i27, i28, i29, i30, i31, i32, i33, i34, i35, i36, i37, i38, i39, i40, i41, i42, i43, i44, 0] zz 0), (fun zz => List.getD [b0, b1, b2, b3, b4, b5, b6, b7, b8, b9, b10, b11, b12, b13, b14, b15, b16, b17, b18, b19, b20, b21, b22, b23, b24, b25, b26, b27, b28, b29, b30, b31, false, (decide (v / 64 % 2 = 1)), (b34 && !(decide (v / 64 % 2 = 1))), b35] zz false), wh hr (Int.not_le.1 h8), ⟨h1, h2, h3, h4, h5, Int.le_refl 0, show (0 : Int) < (if false then 37282 else 29830) by decide⟩, hS⟩
  · exact ⟨(fun zz => List.getD [i0, i1, i2, i3, i4, i5, i6, i7, i8, i9, i10, i11, i12, i13, i14, i15, i16, i17, i18, i19, i20, i21, i22, i23, i24, i25, i26, i27, i28, i29, i30, i31, i32, i33, i34, i35, i36, i37, i38, i39, i40, i41, i42, i43, i44, i45] zz 0), (fun zz => List.getD [b0, b1, b2, b3, b4, b5, b6, b7, b8, b9, b10, b11, b12, b13, b14, b15, b16, b17, b18, b19, b20, b21, b22, b23, b24, b25, b26, b27, b28, b29, b30, b31, b32, b33, b34, b35] zz false), wbig hr, hA, hS⟩
theorem w8L (i0 i1 i2 i3 i4 i5 i6 i7 i8 i9 i10 i11 i12 i13 i14 i15 i16 i17 i18 i19 i20 i21 i22 i23 i24 i25 i26 i27 i28 i29 i30 i31 i32 i33 i34 i35 i36 i37 i38 i39 i40 i41 i42 i43 i44 i45 j v : Int) (b0 b1 b2 b3 b4 b5 b6 b7 b8 b9 b10 b11 b12 b13 b14 b15 b16 b17 b18 b19 b20 b21 b22 b23 b24 b25 b26 b27 b28 b29 b30 b31 b32 b33 b34 b35 : Bool) (hA : Ak i0 i1 i2 i3 i4 i5 i6 i7 i8 i9 i10 i11 i12 i13 i14 i15 i16 i17 i18 i19 i20 i21 i22 i23 i24 i25 i26 i27 i28 i29 i30 i31 i32 i33 i34 i35 i36 i37 i38 i39 i40 i41 i42 i43 i44 i45 b32) (hv : 0 ≤ v ∧ v ≤ 255) (hj : 0 ≤ j ∧ j < 4) (hS : La j i3 i14 i22 i31 i40 b5 b14 b19 b25) :
    ∃ (c : Nat → Int) (x : Nat → Bool), F8 [i0, i1, i2, i3, i4, i5, i6, i7, i8, i9, i10, i11, i12, i13, i14, i15, i16, i17, i18, i19, i20, i21, i22, i23, i24, i25, i26, i27, i28, i29, i30, i31, i32, i33, i34, i35, i36, i37, i38, i39, i40, i41, i42, i43, i44, i45, (4 * j + 3), v] [b0, b1, b2, b3, b4, b5, b6, b7, b8, b9, b10, b11, b12, b13, b14, b15, b16, b17, b18, b19, b20, b21, b22, b23, b24, b25, b26, b27, b28, b29, b30, b31, b32, b33, b34, b35] = ([(c 0), (c 1), (c 2), (c 3), (c 4), (c 5), (c 6), (c 7), (c 8), (c 9), (c 10), (c 11), (c 12), (c 13), (c 14), (c 15), (c 16), (c 17), (c 18), (c 19), (c 20), (c 21), (c 22), (c 23), (c 24), (c 25), (c 26), (c 27), (c 28), (c 29), (c 30), (c 31), (c 32), (c 33), (c 34), (c 35), (c 36), (c 37), (c 38), (c 39), (c 40), (c 41), (c 42), (c 43), (c 44), (c 45), 0], [true, (x 0), (x 1), (x 2), (x 3), (x 4), (x 5), (x 6), (x 7), (x 8), (x 9), (x 10), (x 11), (x 12), (x 13), (x 14), (x 15), (x 16), (x 17), (x 18), (x 19), (x 20), (x 21), (x 22), (x 23), (x 24), (x 25), (x 26), (x 27), (x 28), (x 29), (x 30), (x 31), (x 32), (x 33), (x 34), (x 35)]) ∧ Ak (c 0) (c 1) (c 2) (c 3) (c 4) (c 5) (c 6) (c 7) (c 8) (c 9) (c 10) (c 11) (c 12) (c 13) (c 14) (c 15) (c 16) (c 17) (c 18) (c 19) (c 20) (c 21) (c 22) (c 23) (c 24) (c 25) (c 26) (c 27) (c 28) (c 29) (c 30) (c 31) (c 32) (c 33) (c 34) (c 35) (c 36) (c 37) (c 38) (c 39) (c 40) (c 41) (c 42) (c 43) (c 44) (c 45) (x 32) ∧ La (j + 1) (c 3) (c 14) (c 22) (c 31) (c 40) (x 5) (x 14) (x 19) (x 25) := by
  obtain ⟨wneg, wone, wtwo, wtri, wnoi, wdmc, w20, won, w22, wf, wh, wbig⟩ := w8 i0 i1 i2 i3 i4 i5 i6 i7 i8 i9 i10 i11 i12 i13 i14 i15 i16 i17 i18 i19 i20 i21 i22 i23 i24 i25 i26 i27 i28 i29 i30 i31 i32 i33 i34 i35 i36 i37 i38 i39 i40 i41 i42 i43 i44 i45 (4 * j + 3) v b0 b1 b2 b3 b4 b5 b6 b7 b8 b9 b10 b11 b12 b13 b14 b15 b16 b17 b18 b19 b20 b21 b22 b23 b24 b25 b26 b27 b28 b29 b30 b31 b32 b33 b34 b35 hA hv
  clear wneg wdmc w20 won w22 wf wh wbig
  obtain ⟨h1, h2, h3, h4, h5, h6, h7⟩ := hA
  obtain ⟨s0, s1, s2, s3, s4, s5, s6, s7, s8⟩ := hS
  rcases (show j = 0 ∨ j = 1 ∨ j = 2 ∨ j = 3 by clear wone wtwo wtri wnoi h1 h2 h3 h4 h5; omega) with rfl | rfl | rfl | rfl
  · obtain ⟨_, _, hF, k⟩ := k_18 i0 i1 i2 i3 i4 i5 i6 i7 i8 i9 i10 b0 b1 b2 b3 b4 b5 b6 b7 b8 (4 * 0 + 3) v (Pk_nn h1).1 (Pk_nn h1).2.1 (Pk_nn h1).2.2.1 (Pk_nn h1).2.2.2.1 (Pk_nn h1).2.2.2.2.1 (Pk_nn h1).2.2.2.2.2.1 (Pk_nn h1).2.2.2.2.2.2.1 (Pk_nn h1).2.2.2.2.2.2.2.1 (Pk_nn h1).2.2.2.2.2.2.2.2.1 (Pk_nn h1).2.2.2.2.2.2.2.2.2.1 (Pk_nn h1).2.2.2.2.2.2.2.2.2.2 hv (Pk_ok h1)
    obtain ⟨p0, p1, p2, p3, p4, p5, p6, p7, p8, p9, p10, u0, u1, u2, u3, u4, u5, u6, u7, u8, rfl, rfl, kq⟩ := Pk_of k
    have e := n_18 i0 i1 i2 i3 i4 i5 i6 i7 i8 i9 i10 b0 b1 b2 b3 b4 b5 b6 b7 b8 (4 * 0 + 3) v (Pk_nn h1).1 (Pk_nn h1).2.1 (Pk_nn h1).2.2.1 (Pk_nn h1).2.2.2.1 (Pk_nn h1).2.2.2.2.1 (Pk_nn h1).2.2.2.2.2.1 (Pk_nn h1).2.2.2.2.2.2.1 (Pk_nn h1).2.2.2.2.2.2.2.1 (Pk_nn h1).2.2.2.2.2.2.2.2.1 (Pk_nn h1).2.2.2.2.2.2.2.2.2.1 (Pk_nn h1).2.2.2.2.2.2.2.2.2.2 hv (Pk_ok h1)
    rw [hF] at e
    have e1 : u5 = b5 := e.1
    have e2 : 0 < p3 := e.2.2 s5 (by decide)
    exact ⟨(fun zz => List.getD [p0, p1, p2, p3, p4, p5, p6, p7, p8, p9, p10, i11, i12, i13, i14, i15, i16, i17, i18, i19, i20, i21, i22, i23, i24, i25, i26, i27, i28, i29, i30, i31, i32, i33, i34, i35, i36, i37, i38, i39, i40, i41, i42, i43, i44, i45] zz 0), (fun zz => List.getD [u0, u1, u2, u3, u4, u5, u6, u7, u8, b9, b10, b11, b12, b13, b14, b15, b16, b17, b18, b19, b20, b21, b22, b23, b24, b25, b26, b27, b28, b29, b30, b31, b32, b33, b34, b35] zz false), wone p0 p1 p2 p3 p4 p5 p6 p7 p8 p9 p10 u0 u1 u2 u3 u4 u5 u6 u7 u8 (by decide) hF, ⟨kq, h2, h3, h4, h5, h6, h7⟩, fun _ => e2, fun h => absurd h (by decide), fun h => absurd h (by decide), fun h => absurd h (by decide), s4, (e1.trans s5), s6, s7, s8⟩
  · obtain ⟨_, _, hF, k⟩ := k_18 i11 i12 i13 i14 i15 i16 i17 i18 i19 i20 i21 b9 b10 b11 b12 b13 b14 b15 b16 b17 (4 * 1 + 3 - 4) v (Pk_nn h2).1 (Pk_nn h2).2.1 (Pk_nn h2).2.2.1 (Pk_nn h2).2.2.2.1 (Pk_nn h2).2.2.2.2.1 (Pk_nn h2).2.2.2.2.2.1 (Pk_nn h2).2.2.2.2.2.2.1 (Pk_nn h2).2.2.2.2.2.2.2.1 (Pk_nn h2).2.2.2.2.2.2.2.2.1 (Pk_nn h2).2.2.2.2.2.2.2.2.2.1 (Pk_nn h2).2.2.2.2.2.2.2.2.2.2 hv (Pk_ok h2)
    obtain ⟨p0, p1, p2, p3, p4, p5, p6, p7, p8, p9, p10, u0, u1, u2, u3, u4, u5, u6, u7, u8, rfl, rfl, kq⟩ := Pk_of k
    have e := n_18 i11 i12 i13 i14 i15 i16 i17 i18 i19 i20 i21 b9 b10 b11 b12 b13 b14 b15 b16 b17 (4 * 1 + 3 - 4) v (Pk_nn h2).1 (Pk_nn h2).2.1 (Pk_nn h2).2.2.1 (Pk_nn h2).2.2.2.1 (Pk_nn h2).2.2.2.2.1 (Pk_nn h2).2.2.2.2.2.1 (Pk_nn h2).2.2.2.2.2.2.1 (Pk_nn h2).2.2.2.2.2.2.2.1 (Pk_nn h2).2.2.2.2.2.2.2.2.1 (Pk_nn h2).2.2.2.2.2.2.2.2.2.1 (Pk_nn h2).2.2.2.2.2.2.2.2.2.2 hv (Pk_ok h2)
    rw [hF] at e
    have e1 : u5 = b14 := e.1
    have e2 : 0 < p3 := e.2.2 s6 (by decide)
    exact ⟨(fun zz => List.getD [i0, i1, i2, i3, i4, i5, i6, i7, i8, i9, i10, p0, p1, p2, p3, p4, p5, p6, p7, p8, p9, p10, i22, i23, i24, i25, i26, i27, i28, i29, i30, i31, i32, i33, i34, i35, i36, i37, i38, i39, i40, i41, i42, i43, i44, i45] zz 0), (fun zz => List.getD [b0, b1, b2, b3, b4, b5, b6, b7, b8, u0, u1, u2, u3, u4, u5, u6, u7, u8, b18, b19, b20, b21, b22, b23, b24, b25, b26, b27, b28, b29, b30, b31, b32, b33, b34, b35] zz false), wtwo p0 p1 p2 p3 p4 p5 p6 p7 p8 p9 p10 u0 u1 u2 u3 u4 u5 u6 u7 u8 (by decide) hF, ⟨h1, kq, h3, h4, h5, h6, h7⟩, fun _ => s0 (by decide), fun _ => e2, fun h => absurd h (by decide), fun h => absurd h (by decide), s4, s5, (e1.trans s6), s7, s8⟩
  · obtain ⟨_, _, hF, k⟩ := k_19 i22 i23 i24 i25 i26 i27 b18 b19 b20 (4 * 2 + 3 - 8) v (Tk_nn h3).1 (Tk_nn h3).2.1 (Tk_nn h3).2.2.1 (Tk_nn h3).2.2.2.1 (Tk_nn h3).2.2.2.2.1 (Tk_nn h3).2.2.2.2.2 hv (Tk_ok h3)
    obtain ⟨p0, p1, p2, p3, p4, p5, u0, u1, u2, rfl, rfl, kq⟩ := Tk_of k
    have e := n_19 i22 i23 i24 i25 i26 i27 b18 b19 b20 (4 * 2 + 3 - 8) v (Tk_nn h3).1 (Tk_nn h3).2.1 (Tk_nn h3).2.2.1 (Tk_nn h3).2.2.2.1 (Tk_nn h3).2.2.2.2.1 (Tk_nn h3).2.2.2.2.2 hv (Tk_ok h3)
    rw [hF] at e
    have e1 : u1 = b19 := e.1
    have e2 : 0 < p0 := e.2.2 s7 (by decide)
    exact ⟨(fun zz => List.getD [i0, i1, i2, i3, i4, i5, i6, i7, i8, i9, i10, i11, i12, i13, i14, i15, i16, i17, i18, i19, i20, i21, p0, p1, p2, p3, p4, p5, i28, i29, i30, i31, i32, i33, i34, i35, i36, i37, i38, i39, i40, i41, i42, i43, i44, i45] zz 0), (fun zz => List.getD [b0, b1, b2, b3, b4, b5, b6, b7, b8, b9, b10, b11, b12, b13, b14, b15, b16, b17, u0, u1, u2, b21, b22, b23, b24, b25, b26, b27, b28, b29, b30, b31, b32, b33, b34, b35] zz false), wtri p0 p1 p2 p3 p4 p5 u0 u1 u2 (by decide) hF, ⟨h1, h2, kq, h4, h5, h6, h7⟩, fun _ => s0 (by decide), fun _ => s1 (by decide), fun _ => e2, fun h => absurd h (by decide), s4, s5, s6, (e1.trans s7), s8⟩
  · obtain ⟨_, _, hF, k⟩ := k_20 i28 i29 i30 i31 i32 i33 i34 b21 b22 b23 b24 b25 b26 (4 * 3 + 3 - 12) v (Nk_nn h4).1 (Nk_nn h4).2.1 (Nk_nn h4).2.2.1 (Nk_nn h4).2.2.2.1 (Nk_nn h4).2.2.2.2.1 (Nk_nn h4).2.2.2.2.2.1 (Nk_nn h4).2.2.2.2.2.2 hv (Nk_ok h4)
    obtain ⟨p0, p1, p2, p3, p4, p5, p6, u0, u1, u2, u3, u4, u5, rfl, rfl, kq⟩ := Nk_of k
    have e := n_20 i28 i29 i30 i31 i32 i33 i34 b21 b22 b23 b24 b25 b26 (4 * 3 + 3 - 12) v (Nk_nn h4).1 (Nk_nn h4).2.1 (Nk_nn h4).2.2.1 (Nk_nn h4).2.2.2.1 (Nk_nn h4).2.2.2.2.1 (Nk_nn h4).2.2.2.2.2.1 (Nk_nn h4).2.2.2.2.2.2 hv (Nk_ok h4)
    rw [hF] at e
    have e1 : u4 = b25 := e.1
    have e2 : 0 < p3 := e.2.2 s8 (by decide)
    exact ⟨(fun zz => List.getD [i0, i1, i2, i3, i4, i5, i6, i7, i8, i9, i10, i11, i12, i13, i14, i15, i16, i17, i18, i19, i20, i21, i22, i23, i24, i25, i26, i27, p0, p1, p2, p3, p4, p5, p6, i35, i36, i37, i38, i39, i40, i41, i42, i43, i44, i45] zz 0), (fun zz => List.getD [b0, b1, b2, b3, b4, b5, b6, b7, b8, b9, b10, b11, b12, b13, b14, b15, b16, b17, b18, b19, b20, u0, u1, u2, u3, u4, u5, b27, b28, b29, b30, b31, b32, b33, b34, b35] zz false), wnoi p0 p1 p2 p3 p4 p5 p6 u0 u1 u2 u3 u4 u5 (by decide) hF, ⟨h1, h2, h3, kq, h5, h6, h7⟩, fun _ => s0 (by decide), fun _ => s1 (by decide), fun _ => s2 (by decide), fun _ => e2, s4, s5, s6, s7, (e1.trans s8)⟩
end Go.Proofs.YtdpogmikhfgcmaaDoor.Ap
