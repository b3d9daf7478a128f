/-
  apu: written, ticked, fed: one that may be stays one; what comes out. WRITTEN BY PROGRAM (wip/gen/ap9.py). No condition.
-/
import Derived.Test.YtdpogmikhfgcmaaDoorApX
set_option linter.unusedVariables false
set_option linter.unusedSimpArgs false
namespace Go.Proofs.YtdpogmikhfgcmaaDoor.Ap
open Go Go.Proofs.YtdpogmikhfgcmaaDoor.Sx

theorem cl11 (reg : Int) : reg < 0 ∨ (0 ≤ reg ∧ reg ≤ 3) ∨ (4 ≤ reg ∧ reg ≤ 7) ∨ (8 ≤ reg ∧ reg ≤ 11) ∨ (12 ≤ reg ∧ reg ≤ 15) ∨ (16 ≤ reg ∧ reg ≤ 19) ∨ reg = 20 ∨ reg = 21 ∨ reg = 22 ∨ reg = 23 ∨ 24 ≤ reg := by omega
theorem kp28F (i0 i1 i2 i3 i4 i5 i6 i7 i8 i9 i10 i11 i12 i13 i14 i15 i16 i17 i18 i19 i20 i21 i22 i23 i24 i25 i26 i27 i28 i29 i30 i31 i32 i33 i34 i35 i36 i37 i38 i39 i40 i41 i42 i43 i44 i45 : Int) (b0 b1 b2 b3 b4 b5 b6 b7 b8 b9 b10 b11 b12 b13 b14 b15 b16 b17 b18 b19 b20 b21 b22 b23 b24 b25 b26 b27 b28 b29 b30 b31 b32 b33 b34 b35 : Bool) (h : Ck i0 i1 i2 i3 i4 i5 i6 i7 i8 i9 i10 i11 i12 i13 i14 i15 i16 i17 i18 i19 i20 i21 i22 i23 i24 i25 i26 i27 i28 i29 i30 i31 i32 i33 i34) : ∃ (c : Nat → Int) (x : Nat → Bool), F28 [i0, i1, i2, i3, i4, i5, i6, i7, i8, i9, i10, i11, i12, i13, i14, i15, i16, i17, i18, i19, i20, i21, i22, i23, i24, i25, i26, i27, i28, i29, i30, i31, i32, i33, i34, i35, i36, i37, i38, i39, i40, i41, i42, i43, i44, i45] [b0, b1, b2, b3, b4, b5, b6, b7, b8, b9, b10, b11, b12, b13, b14, b15, b16, b17, b18, b19, b20, b21, b22, b23, b24, b25, b26, b27, b28, b29, b30, b31, b32, b33, b34, b35] = ([(c 0), (c 1), (c 2), (c 3), (c 4), (c 5), (c 6), (c 7), (c 8), (c 9), (c 10), (c 11), (c 12), (c 13), (c 14), (c 15), (c 16), (c 17), (c 18), (c 19), (c 20), (c 21), (c 22), (c 23), (c 24), (c 25), (c 26), (c 27), (c 28), (c 29), (c 30), (c 31), (c 32), (c 33), (c 34), i35, i36, i37, i38, i39, i40, i41, i42, i43, i44, i45], [(x 0), (x 1), (x 2), (x 3), (x 4), (x 5), (x 6), (x 7), (x 8), (x 9), (x 10), (x 11), (x 12), (x 13), (x 14), (x 15), (x 16), (x 17), (x 18), (x 19), (x 20), (x 21), (x 22), (x 23), (x 24), (x 25), (x 26), b27, b28, b29, b30, b31, b32, b33, b34, b35]) ∧ Ck (c 0) (c 1) (c 2) (c 3) (c 4) (c 5) (c 6) (c 7) (c 8) (c 9) (c 10) (c 11) (c 12) (c 13) (c 14) (c 15) (c 16) (c 17) (c 18) (c 19) (c 20) (c 21) (c 22) (c 23) (c 24) (c 25) (c 26) (c 27) (c 28) (c 29) (c 30) (c 31) (c 32) (c 33) (c 34) := by
  obtain ⟨c0, c1, c2, c3, c4, c5, c6, c7, c8, c9, c10, c11, c12, c13, c14, c15, c16, c17, c18, c19, c20, c21, c22, c23, c24, c25, c26, c27, c28, c29, c30, c31, c32, c33, c34, x0, x1, x2, x3, x4, x5, x6, x7, x8, x9, x10, x11, x12, x13, x14, x15, x16, x17, x18, x19, x20, x21, x22, x23, x24, x25, x26, h1, h2⟩ := kp28 i0 i1 i2 i3 i4 i5 i6 i7 i8 i9 i10 i11 i12 i13 i14 i15 i16 i17 i18 i19 i20 i21 i22 i23 i24 i25 i26 i27 i28 i29 i30 i31 i32 i33 i34 i35 i36 i37 i38 i39 i40 i41 i42 i43 i44 i45 b0 b1 b2 b3 b4 b5 b6 b7 b8 b9 b10 b11 b12 b13 b14 b15 b16 b17 b18 b19 b20 b21 b22 b23 b24 b25 b26 b27 b28 b29 b30 b31 b32 b33 b34 b35 h
  exact ⟨(fun zz => List.getD [c0, c1, c2, c3, c4, c5, c6, c7, c8, c9, c10, c11, c12, c13, c14, c15, c16, c17, c18, c19, c20, c21, c22, c23, c24, c25, c26, c27, c28, c29, c30, c31, c32, c33, c34] zz 0), (fun zz => List.getD [x0, x1, x2, x3, x4, x5, x6, x7, x8, x9, x10, x11, x12, x13, x14, x15, x16, x17, x18, x19, x20, x21, x22, x23, x24, x25, x26] zz false), h1, h2⟩
theorem kp23F (i0 i1 i2 i3 i4 i5 i6 i7 i8 i9 i10 i11 i12 i13 i14 i15 i16 i17 i18 i19 i20 i21 i22 i23 i24 i25 i26 i27 i28 i29 i30 i31 i32 i33 i34 i35 i36 i37 i38 i39 i40 i41 i42 i43 i44 i45 : Int) (b0 b1 b2 b3 b4 b5 b6 b7 b8 b9 b10 b11 b12 b13 b14 b15 b16 b17 b18 b19 b20 b21 b22 b23 b24 b25 b26 b27 b28 b29 b30 b31 b32 b33 b34 b35 : Bool) (h : Ck i0 i1 i2 i3 i4 i5 i6 i7 i8 i9 i10 i11 i12 i13 i14 i15 i16 i17 i18 i19 i20 i21 i22 i23 i24 i25 i26 i27 i28 i29 i30 i31 i32 i33 i34) : ∃ (c : Nat → Int) (x : Nat → Bool), F23 [i0, i1, i2, i3, i4, i5, i6, i7, i8, i9, i10, i11, i12, i13, i14, i15, i16, i17, i18, i19, i20, i21, i22, i23, i24, i25, i26, i27, i28, i29, i30, i31, i32, i33, i34, i35, i36, i37, i38, i39, i40, i41, i42, i43, i44, i45] [b0, b1, b2, b3, b4, b5, b6, b7, b8, b9, b10, b11, b12, b13, b14, b15, b16, b17, b18, b19, b20, b21, b22, b23, b24, b25, b26, b27, b28, b29, b30, b31, b32, b33, b34, b35] = ([(c 0), (c 1), (c 2), (c 3), (c 4), (c 5), (c 6), (c 7), (c 8), (c 9), (c 10), (c 11), (c 12), (c 13), (c 14), (c 15), (c 16), (c 17), (c 18), (c 19), (c 20), (c 21), (c 22), (c 23), (c 24), (c 25), (c 26), (c 27), (c 28), (c 29), (c 30), (c 31), (c 32), (c 33), (c 34), i35, i36, i37, i38, i39, i40, i41, i42, i43, i44, i45], [true, (x 0), (x 1), (x 2), (x 3), (x 4), (x 5), (x 6), (x 7), (x 8), (x 9), (x 10), (x 11), (x 12), (x 13), (x 14), (x 15), (x 16), (x 17), (x 18), (x 19), (x 20), (x 21), (x 22), (x 23), (x 24), (x 25), (x 26), b27, b28, b29, b30, b31, b32, b33, b34, b35]) ∧ Ck (c 0) (c 1) (c 2) (c 3) (c 4) (c 5) (c 6) (c 7) (c 8) (c 9) (c 10) (c 11) (c 12) (c 13) (c 14) (c 15) (c 16) (c 17) (c 18) (c 19) (c 20) (c 21) (c 22) (c 23) (c 24) (c 25) (c 26) (c 27) (c 28) (c 29) (c 30) (c 31) (c 32) (c 33) (c 34) := by
  obtain ⟨c0, c1, c2, c3, c4, c5, c6, c7, c8, c9, c10, c11, c12, c13, c14, c15, c16, c17, c18, c19, c20, c21, c22, c23, c24, c25, c26, c27, c28, c29, c30, c31, c32, c33, c34, x0, x1, x2, x3, x4, x5, x6, x7, x8, x9, x10, x11, x12, x13, x14, x15, x16, x17, x18, x19, x20, x21, x22, x23, x24, x25, x26, h1, h2⟩ := kp23 i0 i1 i2 i3 i4 i5 i6 i7 i8 i9 i10 i11 i12 i13 i14 i15 i16 i17 i18 i19 i20 i21 i22 i23 i24 i25 i26 i27 i28 i29 i30 i31 i32 i33 i34 i35 i36 i37 i38 i39 i40 i41 i42 i43 i44 i45 b0 b1 b2 b3 b4 b5 b6 b7 b8 b9 b10 b11 b12 b13 b14 b15 b16 b17 b18 b19 b20 b21 b22 b23 b24 b25 b26 b27 b28 b29 b30 b31 b32 b33 b34 b35 h
  exact ⟨(fun zz => List.getD [c0, c1, c2, c3, c4, c5, c6, c7, c8, c9, c10, c11, c12, c13, c14, c15, c16, c17, c18, c19, c20, c21, c22, c23, c24, c25, c26, c27, c28, c29, c30, c31, c32, c33, c34] zz 0), (fun zz => List.getD [x0, x1, x2, x3, x4, x5, x6, x7, x8, x9, x10, x11, x12, x13, x14, x15, x16, x17, x18, x19, x20, x21, x22, x23, x24, x25, x26] zz false), h1, h2⟩
theorem w8F (i0 i1 i2 i3 i4 i5 i6 i7 i8 i9 i10 i11 i12 i13 i14 i15 i16 i17 i18 i19 i20 i21 i22 i23 i24 i25 i26 i27 i28 i29 i30 i31 i32 i33 i34 i35 i36 i37 i38 i39 i40 i41 i42 i43 i44 i45 reg v : Int) (b0 b1 b2 b3 b4 b5 b6 b7 b8 b9 b10 b11 b12 b13 b14 b15 b16 b17 b18 b19 b20 b21 b22 b23 b24 b25 b26 b27 b28 b29 b30 b31 b32 b33 b34 b35 : Bool) (hA : Ak i0 i1 i2 i3 i4 i5 i6 i7 i8 i9 i10 i11 i12 i13 i14 i15 i16 i17 i18 i19 i20 i21 i22 i23 i24 i25 i26 i27 i28 i29 i30 i31 i32 i33 i34 i35 i36 i37 i38 i39 i40 i41 i42 i43 i44 i45 b32) (hv : 0 ≤ v ∧ v ≤ 255) :
    ∃ (c : Nat → Int) (x : Nat → Bool), F8 [i0, i1, i2, i3, i4, i5, i6, i7, i8, i9, i10, i11, i12, i13, i14, i15, i16, i17, i18, i19, i20, i21, i22, i23, i24, i25, i26, i27, i28, i29, i30, i31, i32, i33, i34, i35, i36, i37, i38, i39, i40, i41, i42, i43, i44, i45, reg, v] [b0, b1, b2, b3, b4, b5, b6, b7, b8, b9, b10, b11, b12, b13, b14, b15, b16, b17, b18, b19, b20, b21, b22, b23, b24, b25, b26, b27, b28, b29, b30, b31, b32, b33, b34, b35] = ([(c 0), (c 1), (c 2), (c 3), (c 4), (c 5), (c 6), (c 7), (c 8), (c 9), (c 10), (c 11), (c 12), (c 13), (c 14), (c 15), (c 16), (c 17), (c 18), (c 19), (c 20), (c 21), (c 22), (c 23), (c 24), (c 25), (c 26), (c 27), (c 28), (c 29), (c 30), (c 31), (c 32), (c 33), (c 34), (c 35), (c 36), (c 37), (c 38), (c 39), (c 40), (c 41), (c 42), (c 43), (c 44), (c 45), 0], [true, (x 0), (x 1), (x 2), (x 3), (x 4), (x 5), (x 6), (x 7), (x 8), (x 9), (x 10), (x 11), (x 12), (x 13), (x 14), (x 15), (x 16), (x 17), (x 18), (x 19), (x 20), (x 21), (x 22), (x 23), (x 24), (x 25), (x 26), (x 27), (x 28), (x 29), (x 30), (x 31), (x 32), (x 33), (x 34), (x 35)]) ∧ Ak (c 0) (c 1) (c 2) (c 3) (c 4) (c 5) (c 6) (c 7) (c 8) (c 9) (c 10) (c 11) (c 12) (c 13) (c 14) (c 15) (c 16) (c 17) (c 18) (c 19) (c 20) (c 21) (c 22) (c 23) (c 24) (c 25) (c 26) (c 27) (c 28) (c 29) (c 30) (c 31) (c 32) (c 33) (c 34) (c 35) (c 36) (c 37) (c 38) (c 39) (c 40) (c 41) (c 42) (c 43) (c 44) (c 45) (x 32) := by
  obtain ⟨wneg, wone, wtwo, wtri, wnoi, wdmc, w20, won, w22, wf, wh, wbig⟩ := w8 i0 i1 i2 i3 i4 i5 i6 i7 i8 i9 i10 i11 i12 i13 i14 i15 i16 i17 i18 i19 i20 i21 i22 i23 i24 i25 i26 i27 i28 i29 i30 i31 i32 i33 i34 i35 i36 i37 i38 i39 i40 i41 i42 i43 i44 i45 reg v b0 b1 b2 b3 b4 b5 b6 b7 b8 b9 b10 b11 b12 b13 b14 b15 b16 b17 b18 b19 b20 b21 b22 b23 b24 b25 b26 b27 b28 b29 b30 b31 b32 b33 b34 b35 hA hv
  have hA' := hA
  obtain ⟨h1, h2, h3, h4, h5, h6, h7⟩ := hA'
  rcases cl11 reg with hr | hr | hr | hr | hr | hr | hr | hr | hr | hr | hr
  · exact ⟨(fun zz => List.getD [i0, i1, i2, i3, i4, i5, i6, i7, i8, i9, i10, i11, i12, i13, i14, i15, i16, i17, i18, i19, i20, i21, i22, i23, i24, i25, i26, i27, i28, i29, i30, i31, i32, i33, i34, i35, i36, i37, i38, i39, i40, i41, i42, i43, i44, i45] zz 0), (fun zz => List.getD [b0, b1, b2, b3, b4, b5, b6, b7, b8, b9, b10, b11, b12, b13, b14, b15, b16, b17, b18, b19, b20, b21, b22, b23, b24, b25, b26, b27, b28, b29, b30, b31, b32, b33, b34, b35] zz false), wneg hr, hA⟩
  · obtain ⟨_, _, hF, k⟩ := k_18 i0 i1 i2 i3 i4 i5 i6 i7 i8 i9 i10 b0 b1 b2 b3 b4 b5 b6 b7 b8 reg v (Pk_nn h1).1 (Pk_nn h1).2.1 (Pk_nn h1).2.2.1 (Pk_nn h1).2.2.2.1 (Pk_nn h1).2.2.2.2.1 (Pk_nn h1).2.2.2.2.2.1 (Pk_nn h1).2.2.2.2.2.2.1 (Pk_nn h1).2.2.2.2.2.2.2.1 (Pk_nn h1).2.2.2.2.2.2.2.2.1 (Pk_nn h1).2.2.2.2.2.2.2.2.2.1 (Pk_nn h1).2.2.2.2.2.2.2.2.2.2 hv (Pk_ok h1)
    obtain ⟨p0, p1, p2, p3, p4, p5, p6, p7, p8, p9, p10, u0, u1, u2, u3, u4, u5, u6, u7, u8, rfl, rfl, kq⟩ := Pk_of k
    exact ⟨(fun zz => List.getD [p0, p1, p2, p3, p4, p5, p6, p7, p8, p9, p10, i11, i12, i13, i14, i15, i16, i17, i18, i19, i20, i21, i22, i23, i24, i25, i26, i27, i28, i29, i30, i31, i32, i33, i34, i35, i36, i37, i38, i39, i40, i41, i42, i43, i44, i45] zz 0), (fun zz => List.getD [u0, u1, u2, u3, u4, u5, u6, u7, u8, b9, b10, b11, b12, b13, b14, b15, b16, b17, b18, b19, b20, b21, b22, b23, b24, b25, b26, b27, b28, b29, b30, b31, b32, b33, b34, b35] zz false), wone p0 p1 p2 p3 p4 p5 p6 p7 p8 p9 p10 u0 u1 u2 u3 u4 u5 u6 u7 u8 hr hF, kq, h2, h3, h4, h5, h6, h7⟩
  · obtain ⟨_, _, hF, k⟩ := k_18 i11 i12 i13 i14 i15 i16 i17 i18 i19 i20 i21 b9 b10 b11 b12 b13 b14 b15 b16 b17 (reg - 4) v (Pk_nn h2).1 (Pk_nn h2).2.1 (Pk_nn h2).2.2.1 (Pk_nn h2).2.2.2.1 (Pk_nn h2).2.2.2.2.1 (Pk_nn h2).2.2.2.2.2.1 (Pk_nn h2).2.2.2.2.2.2.1 (Pk_nn h2).2.2.2.2.2.2.2.1 (Pk_nn h2).2.2.2.2.2.2.2.2.1 (Pk_nn h2).2.2.2.2.2.2.2.2.2.1 (Pk_nn h2).2.2.2.2.2.2.2.2.2.2 hv (Pk_ok h2)
    obtain ⟨p0, p1, p2, p3, p4, p5, p6, p7, p8, p9, p10, u0, u1, u2, u3, u4, u5, u6, u7, u8, rfl, rfl, kq⟩ := Pk_of k
    exact ⟨(fun zz => List.getD [i0, i1, i2, i3, i4, i5, i6, i7, i8, i9, i10, p0, p1, p2, p3, p4, p5, p6, p7, p8, p9, p10, i22, i23, i24, i25, i26, i27, i28, i29, i30, i31, i32, i33, i34, i35, i36, i37, i38, i39, i40, i41, i42, i43, i44, i45] zz 0), (fun zz => List.getD [b0, b1, b2, b3, b4, b5, b6, b7, b8, u0, u1, u2, u3, u4, u5, u6, u7, u8, b18, b19, b20, b21, b22, b23, b24, b25, b26, b27, b28, b29, b30, b31, b32, b33, b34, b35] zz false), wtwo p0 p1 p2 p3 p4 p5 p6 p7 p8 p9 p10 u0 u1 u2 u3 u4 u5 u6 u7 u8 hr hF, h1, kq, h3, h4, h5, h6, h7⟩
  · obtain ⟨_, _, hF, k⟩ := k_19 i22 i23 i24 i25 i26 i27 b18 b19 b20 (reg - 8) v (Tk_nn h3).1 (Tk_nn h3).2.1 (Tk_nn h3).2.2.1 (Tk_nn h3).2.2.2.1 (Tk_nn h3).2.2.2.2.1 (Tk_nn h3).2.2.2.2.2 hv (Tk_ok h3)
    obtain ⟨p0, p1, p2, p3, p4, p5, u0, u1, u2, rfl, rfl, kq⟩ := Tk_of k
    exact ⟨(fun zz => List.getD [i0, i1, i2, i3, i4, i5, i6, i7, i8, i9, i10, i11, i12, i13, i14, i15, i16, i17, i18, i19, i20, i21, p0, p1, p2, p3, p4, p5, i28, i29, i30, i31, i32, i33, i34, i35, i36, i37, i38, i39, i40, i41, i42, i43, i44, i45] zz 0), (fun zz => List.getD [b0, b1, b2, b3, b4, b5, b6, b7, b8, b9, b10, b11, b12, b13, b14, b15, b16, b17, u0, u1, u2, b21, b22, b23, b24, b25, b26, b27, b28, b29, b30, b31, b32, b33, b34, b35] zz false), wtri p0 p1 p2 p3 p4 p5 u0 u1 u2 hr hF, h1, h2, kq, h4, h5, h6, h7⟩
  · obtain ⟨_, _, hF, k⟩ := k_20 i28 i29 i30 i31 i32 i33 i34 b21 b22 b23 b24 b25 b26 (reg - 12) v (Nk_nn h4).1 (Nk_nn h4).2.1 (Nk_nn h4).2.2.1 (Nk_nn h4).2.2.2.1 (Nk_nn h4).2.2.2.2.1 (Nk_nn h4).2.2.2.2.2.1 (Nk_nn h4).2.2.2.2.2.2 hv (Nk_ok h4)
    obtain ⟨p0, p1, p2, p3, p4, p5, p6, u0, u1, u2, u3, u4, u5, rfl, rfl, kq⟩ := Nk_of k
    exact ⟨(fun zz => List.getD [i0, i1, i2, i3, i4, i5, i6, i7, i8, i9, i10, i11, i12, i13, i14, i15, i16, i17, i18, i19, i20, i21, i22, i23, i24, i25, i26, i27, p0, p1, p2, p3, p4, p5, p6, i35, i36, i37, i38, i39, i40, i41, i42, i43, i44, i45] zz 0), (fun zz => List.getD [b0, b1, b2, b3, b4, b5, b6, b7, b8, b9, b10, b11, b12, b13, b14, b15, b16, b17, b18, b19, b20, u0, u1, u2, u3, u4, u5, b27, b28, b29, b30, b31, b32, b33, b34, b35] zz false), wnoi p0 p1 p2 p3 p4 p5 p6 u0 u1 u2 u3 u4 u5 hr hF, h1, h2, h3, kq, h5, h6, h7⟩
  · obtain ⟨p0, p1, p2, p3, p4, p5, p6, p7, p8, p9, u0, u1, u2, u3, u4, hF, kq⟩ := write_ok h5 b27 b28 b29 b30 b31 (reg - 16) v hv.1 hv.2
    exact ⟨(fun zz => List.getD [i0, i1, i2, i3, i4, i5, i6, i7, i8, i9, i10, i11, i12, i13, i14, i15, i16, i17, i18, i19, i20, i21, i22, i23, i24, i25, i26, i27, i28, i29, i30, i31, i32, i33, i34, p0, p1, p2, p3, p4, p5, p6, p7, p8, p9, i45] zz 0), (fun zz => List.getD [b0, b1, b2, b3, b4, b5, b6, b7, b8, b9, b10, b11, b12, b13, b14, b15, b16, b17, b18, b19, b20, b21, b22, b23, b24, b25, b26, u0, u1, u2, u3, u4, b32, b33, b34, b35] zz false), wdmc p0 p1 p2 p3 p4 p5 p6 p7 p8 p9 u0 u1 u2 u3 u4 hr hF, h1, h2, h3, h4, kq, h6, h7⟩
  · exact ⟨(fun zz => List.getD [i0, i1, i2, i3, i4, i5, i6, i7, i8, i9, i10, i11, i12, i13, i14, i15, i16, i17, i18, i19, i20, i21, i22, i23, i24, i25, i26, i27, i28, i29, i30, i31, i32, i33, i34, i35, i36, i37, i38, i39, i40, i41, i42, i43, i44, i45] zz 0), (fun zz => List.getD [b0, b1, b2, b3, b4, b5, b6, b7, b8, b9, b10, b11, b12, b13, b14, b15, b16, b17, b18, b19, b20, b21, b22, b23, b24, b25, b26, b27, b28, b29, b30, b31, b32, b33, b34, b35] zz false), w20 hr, hA⟩
  · exact ⟨(fun zz => List.getD [i0, i1, i2, (if (decide (v / 1 % 2 = 1)) then i3 else 0), i4, i5, i6, i7, i8, i9, i10, i11, i12, i13, (if (decide (v / 2 % 2 = 1)) then i14 else 0), i15, i16, i17, i18, i19, i20, i21, (if (decide (v / 4 % 2 = 1)) then i22 else 0), i23, i24, i25, i26, i27, i28, i29, i30, (if (decide (v / 8 % 2 = 1)) then i31 else 0), i32, i33, i34, i35, i36, i37, i38, (if (decide (v / 16 % 2 = 1)) && i40 == 0 then i37 else i39), (if (decide (v / 16 % 2 = 1)) then (if i40 = 0 then i38 else i40) else 0), i41, i42, i43, i44, i45] zz 0), (fun zz => List.getD [b0, b1, b2, b3, b4, (decide (v / 1 % 2 = 1)), b6, b7, b8, b9, b10, b11, b12, b13, (decide (v / 2 % 2 = 1)), b15, b16, b17, b18, (decide (v / 4 % 2 = 1)), b20, b21, b22, b23, b24, (decide (v / 8 % 2 = 1)), b26, b27, b28, false, b30, b31, b32, b33, b34, b35] zz false), won _ _ _ _ _ _ _ _ _ _ _ _ _ _ _ _ _ _ _ _ _ _ _ _ _ _ _ _ _ _ _ _ _ _ _ _ _ _ _ _ _ _ _ _ _ _ _ _ _ _ _ _ _ _ _ _ _ _ _ _ _ _ _ _ _ _ _ _ _ _ _ _ _ _ _ _ _ _ _ _ _ _ hr (q22 _ _ _ _ _ _ _ _ _ _ _ _ _ _ _ _ _ _ _ _ _ _ _ _ _ _ _ _ _ _ _ _ _ _ _ _ _ _ _ _ _ _ _ _ _ _ v _ _ _ _ _ _ _ _ _ _ _ _ _ _ _ _ _ _ _ _ _ _ _ _ _ _ _ _ _ _ _ _ _ _ _ _ h5.may hv), kp22 _ _ _ _ _ _ _ _ _ _ _ _ _ _ _ _ _ _ _ _ _ _ _ _ _ _ _ _ _ _ _ _ _ _ _ _ _ _ _ _ _ _ _ _ _ _ v b0 b1 b2 b3 b4 b5 b6 b7 b8 b9 b10 b11 b12 b13 b14 b15 b16 b17 b18 b19 b20 b21 b22 b23 b24 b25 b26 b27 b28 b29 b30 b31 b32 b33 b34 b35 hA hv⟩
  · exact ⟨(fun zz => List.getD [i0, i1, i2, i3, i4, i5, i6, i7, i8, i9, i10, i11, i12, i13, i14, i15, i16, i17, i18, i19, i20, i21, i22, i23, i24, i25, i26, i27, i28, i29, i30, i31, i32, i33, i34, i35, i36, i37, i38, i39, i40, i41, i42, i43, i44, i45] zz 0), (fun zz => List.getD [b0, b1, b2, b3, b4, b5, b6, b7, b8, b9, b10, b11, b12, b13, b14, b15, b16, b17, b18, b19, b20, b21, b22, b23, b24, b25, b26, b27, b28, b29, b30, b31, b32, b33, b34, b35] zz false), w22 hr, hA⟩
  · by_cases h8 : 128 ≤ v
    · obtain ⟨c, x, hF, k1, k2, k3, k4⟩ := kp23F i0 i1 i2 i3 i4 i5 i6 i7 i8 i9 i10 i11 i12 i13 i14 i15 i16 i17 i18 i19 i20 i21 i22 i23 i24 i25 i26 i27 i28 i29 i30 i31 i32 i33 i34 i35 i36 i37 i38 i39 i40 i41 i42 i43 i44 0 b0 b1 b2 b3 b4 b5 b6 b7 b8 b9 b10 b11 b12 b13 b14 b15 b16 b17 b18 b19 b20 b21 b22 b23 b24 b25 b26 b27 b28 b29 b30 b31 true (decide (v / 64 % 2 = 1)) (b34 && !(decide (v / 64 % 2 = 1))) b35 ⟨h1, h2, h3, h4⟩
      exact ⟨(fun zz => List.getD [(c 0), (c 1), (c 2), (c 3), (c 4), (c 5), (c 6), (c 7), (c 8), (c 9), (c 10), (c 11), (c 12), (c 13), (c 14), (c 15), (c 16), (c 17), (c 18), (c 19), (c 20), (c 21), (c 22), (c 23), (c 24), (c 25), (c 26), (c 27), (c 28), (c 29), (c 30), (c 31), (c 32), (c 33), (c 34), i35, i36, i37, i38, i39, i40, i41, i42, i43, i44, 0] zz 0), (fun zz => List.getD [(x 0), (x 1), (x 2), (x 3), (x 4), (x 5), (x 6), (x 7), (x 8), (x 9), (x 10), (x 11), (x 12), (x 13), (x 14), (x 15), (x 16), (x 17), (x 18), (x 19), (x 20), (x 21), (x 22), (x 23), (x 24), (x 25), (x 26), b27, b28, b29, b30, b31, true, (decide (v / 64 % 2 = 1)), (b34 && !(decide (v / 64 % 2 = 1))), b35] zz false), wf _ _ _ _ _ _ _ _ _ _ _ _ _ _ _ _ _ _ _ _ _ _ _ _ _ _ _ _ _ _ _ _ _ _ _ _ _ _ _ _ _ _ _ _ _ _ _ _ _ _ _ _ _ _ _ _ _ _ _ _ _ _ _ _ _ _ _ _ _ _ _ _ _ _ _ _ _ _ _ _ _ _ hr h8 hF, k1, k2, k3, k4, h5, Int.le_refl 0, show (0 : Int) < (if true then 37282 else 29830) by decide⟩
    · exact ⟨(fun zz => List.getD [i0, i1, i2, i3, i4, i5, i6, i7, i8, i9, i10, i11, i12, i13, i14, i15, i16, i17, i18, i19, i20, i21, i22, i23, i24, i25, i26, i27, i28, i29, i30, i31, i32, i33, i34, i35, i36, i37, i38, i39, i40, i41, i42, i43, i44, 0] zz 0), (fun zz => List.getD [b0, b1, b2, b3, b4, b5, b6, b7, b8, b9, b10, b11, b12, b13, b14, b15, b16, b17, b18, b19, b20, b21, b22, b23, b24, b25, b26, b27, b28, b29, b30, b31, false, (decide (v / 64 % 2 = 1)), (b34 && !(decide (v / 64 % 2 = 1))), b35] zz false), wh hr (Int.not_le.1 h8), h1, h2, h3, h4, h5, Int.le_refl 0, show (0 : Int) < (if false then 37282 else 29830) by decide⟩
  · exact ⟨(fun zz => List.getD [i0, i1, i2, i3, i4, i5, i6, i7, i8, i9, i10, i11, i12, i13, i14, i15, i16, i17, i18, i19, i20, i21, i22, i23, i24, i25, i26, i27, i28, i29, i30, i31, i32, i33, i34, i35, i36, i37, i38, i39, i40, i41, i42, i43, i44, i45] zz 0), (fun zz => List.getD [b0, b1, b2, b3, b4, b5, b6, b7, b8, b9, b10, b11, b12, b13, b14, b15, b16, b17, b18, b19, b20, b21, b22, b23, b24, b25, b26, b27, b28, b29, b30, b31, b32, b33, b34, b35] zz false), wbig hr, hA⟩
theorem at_in (a : Int) (f : Bool) (h : 0 ≤ a) : 0 ≤ (a + 1) % (if f then 37282 else 29830) ∧ (a + 1) % (if f then 37282 else 29830) < (if f then 37282 else 29830) := by
  cases f <;> simp <;> omega
theorem at_lt {a : Int} {f : Bool} (h : a < (if f then 37282 else 29830)) : a < 40000 := by
  cases f <;> simp at h <;> omega
theorem tick9 (i0 i1 i2 i3 i4 i5 i6 i7 i8 i9 i10 i11 i12 i13 i14 i15 i16 i17 i18 i19 i20 i21 i22 i23 i24 i25 i26 i27 i28 i29 i30 i31 i32 i33 i34 i35 i36 i37 i38 i39 i40 i41 i42 i43 i44 i45 : Int) (b0 b1 b2 b3 b4 b5 b6 b7 b8 b9 b10 b11 b12 b13 b14 b15 b16 b17 b18 b19 b20 b21 b22 b23 b24 b25 b26 b27 b28 b29 b30 b31 b32 b33 b34 b35 : Bool) (hA : Ak i0 i1 i2 i3 i4 i5 i6 i7 i8 i9 i10 i11 i12 i13 i14 i15 i16 i17 i18 i19 i20 i21 i22 i23 i24 i25 i26 i27 i28 i29 i30 i31 i32 i33 i34 i35 i36 i37 i38 i39 i40 i41 i42 i43 i44 i45 b32) :
    ∃ (c : Nat → Int) (x : Nat → Bool), F9 [i0, i1, i2, i3, i4, i5, i6, i7, i8, i9, i10, i11, i12, i13, i14, i15, i16, i17, i18, i19, i20, i21, i22, i23, i24, i25, i26, i27, i28, i29, i30, i31, i32, i33, i34, i35, i36, i37, i38, i39, i40, i41, i42, i43, i44, i45] [b0, b1, b2, b3, b4, b5, b6, b7, b8, b9, b10, b11, b12, b13, b14, b15, b16, b17, b18, b19, b20, b21, b22, b23, b24, b25, b26, b27, b28, b29, b30, b31, b32, b33, b34, b35] = ([(c 0), (c 1), (c 2), (c 3), (c 4), (c 5), (c 6), (c 7), (c 8), (c 9), (c 10), (c 11), (c 12), (c 13), (c 14), (c 15), (c 16), (c 17), (c 18), (c 19), (c 20), (c 21), (c 22), (c 23), (c 24), (c 25), (c 26), (c 27), (c 28), (c 29), (c 30), (c 31), (c 32), (c 33), (c 34), (c 35), (c 36), (c 37), (c 38), (c 39), (c 40), (c 41), (c 42), (c 43), (c 44), (c 45), 0], [true, (x 0), (x 1), (x 2), (x 3), (x 4), (x 5), (x 6), (x 7), (x 8), (x 9), (x 10), (x 11), (x 12), (x 13), (x 14), (x 15), (x 16), (x 17), (x 18), (x 19), (x 20), (x 21), (x 22), (x 23), (x 24), (x 25), (x 26), (x 27), (x 28), (x 29), (x 30), (x 31), (x 32), (x 33), (x 34), (x 35)]) ∧ Ak (c 0) (c 1) (c 2) (c 3) (c 4) (c 5) (c 6) (c 7) (c 8) (c 9) (c 10) (c 11) (c 12) (c 13) (c 14) (c 15) (c 16) (c 17) (c 18) (c 19) (c 20) (c 21) (c 22) (c 23) (c 24) (c 25) (c 26) (c 27) (c 28) (c 29) (c 30) (c 31) (c 32) (c 33) (c 34) (c 35) (c 36) (c 37) (c 38) (c 39) (c 40) (c 41) (c 42) (c 43) (c 44) (c 45) (x 32) := by
  have h11 := hA.c11 (b0 := b0) (b1 := b1) (b2 := b2) (b3 := b3) (b4 := b4) (b5 := b5) (b6 := b6) (b7 := b7) (b8 := b8) (b9 := b9) (b10 := b10) (b11 := b11) (b12 := b12) (b13 := b13) (b14 := b14) (b15 := b15) (b16 := b16) (b17 := b17) (b18 := b18) (b19 := b19) (b20 := b20) (b21 := b21) (b22 := b22) (b23 := b23) (b24 := b24) (b25 := b25) (b26 := b26) (b27 := b27) (b28 := b28) (b29 := b29) (b30 := b30) (b31 := b31) (b32 := b32) (b33 := b33) (b34 := b34) (b35 := b35)
  obtain ⟨h1, h2, h3, h4, h5, h6, h7⟩ := hA
  obtain ⟨_, _, hT, k3⟩ := k_24 i22 i23 i24 i25 i26 i27 b18 b19 b20  (Tk_nn h3).1 (Tk_nn h3).2.1 (Tk_nn h3).2.2.1 (Tk_nn h3).2.2.2.1 (Tk_nn h3).2.2.2.2.1 (Tk_nn h3).2.2.2.2.2  (Tk_ok h3)
  obtain ⟨t0, t1, t2, t3, t4, t5, tu0, tu1, tu2, rfl, rfl, l3⟩ := Tk_of k3
  obtain ⟨_, _, hN, k4⟩ := k_25 i28 i29 i30 i31 i32 i33 i34 b21 b22 b23 b24 b25 b26  (Nk_nn h4).1 (Nk_nn h4).2.1 (Nk_nn h4).2.2.1 (Nk_nn h4).2.2.2.1 (Nk_nn h4).2.2.2.2.1 (Nk_nn h4).2.2.2.2.2.1 (Nk_nn h4).2.2.2.2.2.2  (Nk_ok h4)
  obtain ⟨n0, n1, n2, n3, n4, n5, n6, nu0, nu1, nu2, nu3, nu4, nu5, rfl, rfl, l4⟩ := Nk_of k4
  obtain ⟨d0, d1, d2, d3, d4, d5, d6, d7, d8, d9, du0, du1, du2, du3, du4, hD, k5, _, _⟩ := tick_ok h5 b27 b28 b29 b30 b31
  obtain ⟨_, _, hP, k1⟩ := k_27 i0 i1 i2 i3 i4 i5 i6 i7 i8 i9 i10 b0 b1 b2 b3 b4 b5 b6 b7 b8  (Pk_nn h1).1 (Pk_nn h1).2.1 (Pk_nn h1).2.2.1 (Pk_nn h1).2.2.2.1 (Pk_nn h1).2.2.2.2.1 (Pk_nn h1).2.2.2.2.2.1 (Pk_nn h1).2.2.2.2.2.2.1 (Pk_nn h1).2.2.2.2.2.2.2.1 (Pk_nn h1).2.2.2.2.2.2.2.2.1 (Pk_nn h1).2.2.2.2.2.2.2.2.2.1 (Pk_nn h1).2.2.2.2.2.2.2.2.2.2  (Pk_ok h1)
  obtain ⟨p0, p1, p2, p3, p4, p5, p6, p7, p8, p9, p10, pu0, pu1, pu2, pu3, pu4, pu5, pu6, pu7, pu8, rfl, rfl, l1⟩ := Pk_of k1
  obtain ⟨_, _, hQ, k2⟩ := k_27 i11 i12 i13 i14 i15 i16 i17 i18 i19 i20 i21 b9 b10 b11 b12 b13 b14 b15 b16 b17  (Pk_nn h2).1 (Pk_nn h2).2.1 (Pk_nn h2).2.2.1 (Pk_nn h2).2.2.2.1 (Pk_nn h2).2.2.2.2.1 (Pk_nn h2).2.2.2.2.2.1 (Pk_nn h2).2.2.2.2.2.2.1 (Pk_nn h2).2.2.2.2.2.2.2.1 (Pk_nn h2).2.2.2.2.2.2.2.2.1 (Pk_nn h2).2.2.2.2.2.2.2.2.2.1 (Pk_nn h2).2.2.2.2.2.2.2.2.2.2  (Pk_ok h2)
  obtain ⟨q0, q1, q2, q3, q4, q5, q6, q7, q8, q9, q10, qu0, qu1, qu2, qu3, qu4, qu5, qu6, qu7, qu8, rfl, rfl, l2⟩ := Pk_of k2
  obtain ⟨m, n, e1, e0, wN, wQ, wH, wF⟩ := w9 i0 i1 i2 i3 i4 i5 i6 i7 i8 i9 i10 i11 i12 i13 i14 i15 i16 i17 i18 i19 i20 i21 i22 i23 i24 i25 i26 i27 i28 i29 i30 i31 i32 i33 i34 i35 i36 i37 i38 i39 i40 i41 i42 i43 i44 i45 b0 b1 b2 b3 b4 b5 b6 b7 b8 b9 b10 b11 b12 b13 b14 b15 b16 b17 b18 b19 b20 b21 b22 b23 b24 b25 b26 b27 b28 b29 b30 b31 b32 b33 b34 b35 _ _ _ _ _ _ _ _ _ _ _ _ _ _ _ _ _ _ _ _ _ _ _ _ _ _ _ _ _ _ _ _ _ _ _ _ _ _ _ _ _ _ _ _ _ _ _ _ _ _ _ _ _ _ _ _ _ _ _ _ _ _ _ _ _ _ _ _ _ _ _ _ _ _ _ _ _ h11 ⟨h6, at_lt h7⟩ hT hN hD hP hQ
  have hM : Pk (m 0) (m 1) (m 2) (m 3) (m 4) (m 5) (m 6) (m 7) (m 8) (m 9) (m 10) ∧ Pk (m 11) (m 12) (m 13) (m 14) (m 15) (m 16) (m 17) (m 18) (m 19) (m 20) (m 21) := by
    clear wN wQ wH wF
    cases hE : b35
    · have e := (e0 hE).1
      simp only [List.cons.injEq, and_true] at e
      obtain ⟨s0, s1, s2, s3, s4, s5, s6, s7, s8, s9, s10, s11, s12, s13, s14, s15, s16, s17, s18, s19, s20, s21⟩ := e
      rw [s0, s1, s2, s3, s4, s5, s6, s7, s8, s9, s10, s11, s12, s13, s14, s15, s16, s17, s18, s19, s20, s21]
      exact ⟨h1, h2⟩
    · have e := (e1 hE).1
      simp only [List.cons.injEq, and_true] at e
      obtain ⟨s0, s1, s2, s3, s4, s5, s6, s7, s8, s9, s10, s11, s12, s13, s14, s15, s16, s17, s18, s19, s20, s21⟩ := e
      rw [s0, s1, s2, s3, s4, s5, s6, s7, s8, s9, s10, s11, s12, s13, s14, s15, s16, s17, s18, s19, s20, s21]
      exact ⟨l1, l2⟩
  have ha := at_in i45 b32 h6
  have hC : Ck (m 0) (m 1) (m 2) (m 3) (m 4) (m 5) (m 6) (m 7) (m 8) (m 9) (m 10) (m 11) (m 12) (m 13) (m 14) (m 15) (m 16) (m 17) (m 18) (m 19) (m 20) (m 21) t0 t1 t2 t3 t4 t5 n0 n1 n2 n3 n4 n5 n6 := ⟨hM.1, hM.2, l3, l4⟩
  clear e1 e0
  cases hq : (i45 + 1 == 7457 || i45 + 1 == 22371)
  · cases hh : (i45 + 1 == 14913 || i45 + 1 == 37281)
    · cases hr : (i45 + 1 == 29829 && !b32)
      · exact ⟨(fun zz => List.getD [(m 0), (m 1), (m 2), (m 3), (m 4), (m 5), (m 6), (m 7), (m 8), (m 9), (m 10), (m 11), (m 12), (m 13), (m 14), (m 15), (m 16), (m 17), (m 18), (m 19), (m 20), (m 21), t0, t1, t2, t3, t4, t5, n0, n1, n2, n3, n4, n5, n6, d0, d1, d2, d3, d4, d5, d6, d7, d8, d9, ((i45 + 1) % (if b32 then 37282 else 29830))] zz 0), (fun zz => List.getD [(n 0), (n 1), (n 2), (n 3), (n 4), (n 5), (n 6), (n 7), (n 8), (n 9), (n 10), (n 11), (n 12), (n 13), (n 14), (n 15), (n 16), (n 17), tu0, tu1, tu2, nu0, nu1, nu2, nu3, nu4, nu5, du0, du1, du2, du3, du4, b32, b33, b34, (!b35)] zz false), wN hq hh hr, hM.1, hM.2, l3, l4, k5, ha⟩
      · obtain ⟨c, x, hF, kc⟩ := kp23F (m 0) (m 1) (m 2) (m 3) (m 4) (m 5) (m 6) (m 7) (m 8) (m 9) (m 10) (m 11) (m 12) (m 13) (m 14) (m 15) (m 16) (m 17) (m 18) (m 19) (m 20) (m 21) t0 t1 t2 t3 t4 t5 n0 n1 n2 n3 n4 n5 n6 d0 d1 d2 d3 d4 d5 d6 d7 d8 d9 (i45 + 1) (n 0) (n 1) (n 2) (n 3) (n 4) (n 5) (n 6) (n 7) (n 8) (n 9) (n 10) (n 11) (n 12) (n 13) (n 14) (n 15) (n 16) (n 17) tu0 tu1 tu2 nu0 nu1 nu2 nu3 nu4 nu5 du0 du1 du2 du3 du4 b32 b33 b34 (!b35) hC
        exact ⟨(fun zz => List.getD [(c 0), (c 1), (c 2), (c 3), (c 4), (c 5), (c 6), (c 7), (c 8), (c 9), (c 10), (c 11), (c 12), (c 13), (c 14), (c 15), (c 16), (c 17), (c 18), (c 19), (c 20), (c 21), (c 22), (c 23), (c 24), (c 25), (c 26), (c 27), (c 28), (c 29), (c 30), (c 31), (c 32), (c 33), (c 34), d0, d1, d2, d3, d4, d5, d6, d7, d8, d9, ((i45 + 1) % (if b32 then 37282 else 29830))] zz 0), (fun zz => List.getD [(x 0), (x 1), (x 2), (x 3), (x 4), (x 5), (x 6), (x 7), (x 8), (x 9), (x 10), (x 11), (x 12), (x 13), (x 14), (x 15), (x 16), (x 17), (x 18), (x 19), (x 20), (x 21), (x 22), (x 23), (x 24), (x 25), (x 26), du0, du1, du2, du3, du4, b32, b33, (b34 || (!b33)), (!b35)] zz false), wF _ _ _ _ _ _ _ _ _ _ _ _ _ _ _ _ _ _ _ _ _ _ _ _ _ _ _ _ _ _ _ _ _ _ _ _ _ _ _ _ _ _ _ _ _ _ _ _ _ _ _ _ _ _ _ _ _ _ _ _ _ _ hq hh hr hF, kc.1, kc.2.1, kc.2.2.1, kc.2.2.2, k5, ha⟩
    · obtain ⟨c, x, hF, kc⟩ := kp23F (m 0) (m 1) (m 2) (m 3) (m 4) (m 5) (m 6) (m 7) (m 8) (m 9) (m 10) (m 11) (m 12) (m 13) (m 14) (m 15) (m 16) (m 17) (m 18) (m 19) (m 20) (m 21) t0 t1 t2 t3 t4 t5 n0 n1 n2 n3 n4 n5 n6 d0 d1 d2 d3 d4 d5 d6 d7 d8 d9 (i45 + 1) (n 0) (n 1) (n 2) (n 3) (n 4) (n 5) (n 6) (n 7) (n 8) (n 9) (n 10) (n 11) (n 12) (n 13) (n 14) (n 15) (n 16) (n 17) tu0 tu1 tu2 nu0 nu1 nu2 nu3 nu4 nu5 du0 du1 du2 du3 du4 b32 b33 b34 (!b35) hC
      exact ⟨(fun zz => List.getD [(c 0), (c 1), (c 2), (c 3), (c 4), (c 5), (c 6), (c 7), (c 8), (c 9), (c 10), (c 11), (c 12), (c 13), (c 14), (c 15), (c 16), (c 17), (c 18), (c 19), (c 20), (c 21), (c 22), (c 23), (c 24), (c 25), (c 26), (c 27), (c 28), (c 29), (c 30), (c 31), (c 32), (c 33), (c 34), d0, d1, d2, d3, d4, d5, d6, d7, d8, d9, ((i45 + 1) % (if b32 then 37282 else 29830))] zz 0), (fun zz => List.getD [(x 0), (x 1), (x 2), (x 3), (x 4), (x 5), (x 6), (x 7), (x 8), (x 9), (x 10), (x 11), (x 12), (x 13), (x 14), (x 15), (x 16), (x 17), (x 18), (x 19), (x 20), (x 21), (x 22), (x 23), (x 24), (x 25), (x 26), du0, du1, du2, du3, du4, b32, b33, b34, (!b35)] zz false), wH _ _ _ _ _ _ _ _ _ _ _ _ _ _ _ _ _ _ _ _ _ _ _ _ _ _ _ _ _ _ _ _ _ _ _ _ _ _ _ _ _ _ _ _ _ _ _ _ _ _ _ _ _ _ _ _ _ _ _ _ _ _ hq hh hF, kc.1, kc.2.1, kc.2.2.1, kc.2.2.2, k5, ha⟩
  · obtain ⟨c, x, hF, kc⟩ := kp28F (m 0) (m 1) (m 2) (m 3) (m 4) (m 5) (m 6) (m 7) (m 8) (m 9) (m 10) (m 11) (m 12) (m 13) (m 14) (m 15) (m 16) (m 17) (m 18) (m 19) (m 20) (m 21) t0 t1 t2 t3 t4 t5 n0 n1 n2 n3 n4 n5 n6 d0 d1 d2 d3 d4 d5 d6 d7 d8 d9 (i45 + 1) (n 0) (n 1) (n 2) (n 3) (n 4) (n 5) (n 6) (n 7) (n 8) (n 9) (n 10) (n 11) (n 12) (n 13) (n 14) (n 15) (n 16) (n 17) tu0 tu1 tu2 nu0 nu1 nu2 nu3 nu4 nu5 du0 du1 du2 du3 du4 b32 b33 b34 (!b35) hC
    exact ⟨(fun zz => List.getD [(c 0), (c 1), (c 2), (c 3), (c 4), (c 5), (c 6), (c 7), (c 8), (c 9), (c 10), (c 11), (c 12), (c 13), (c 14), (c 15), (c 16), (c 17), (c 18), (c 19), (c 20), (c 21), (c 22), (c 23), (c 24), (c 25), (c 26), (c 27), (c 28), (c 29), (c 30), (c 31), (c 32), (c 33), (c 34), d0, d1, d2, d3, d4, d5, d6, d7, d8, d9, ((i45 + 1) % (if b32 then 37282 else 29830))] zz 0), (fun zz => List.getD [(x 0), (x 1), (x 2), (x 3), (x 4), (x 5), (x 6), (x 7), (x 8), (x 9), (x 10), (x 11), (x 12), (x 13), (x 14), (x 15), (x 16), (x 17), (x 18), (x 19), (x 20), (x 21), (x 22), (x 23), (x 24), (x 25), (x 26), du0, du1, du2, du3, du4, b32, b33, b34, (!b35)] zz false), wQ _ _ _ _ _ _ _ _ _ _ _ _ _ _ _ _ _ _ _ _ _ _ _ _ _ _ _ _ _ _ _ _ _ _ _ _ _ _ _ _ _ _ _ _ _ _ _ _ _ _ _ _ _ _ _ _ _ _ _ _ _ _ hq hF, kc.1, kc.2.1, kc.2.2.1, kc.2.2.2, k5, ha⟩
theorem feed13 (i0 i1 i2 i3 i4 i5 i6 i7 i8 i9 i10 i11 i12 i13 i14 i15 i16 i17 i18 i19 i20 i21 i22 i23 i24 i25 i26 i27 i28 i29 i30 i31 i32 i33 i34 i35 i36 i37 i38 i39 i40 i41 i42 i43 i44 i45 v : Int) (b0 b1 b2 b3 b4 b5 b6 b7 b8 b9 b10 b11 b12 b13 b14 b15 b16 b17 b18 b19 b20 b21 b22 b23 b24 b25 b26 b27 b28 b29 b30 b31 b32 b33 b34 b35 : Bool) (hA : Ak i0 i1 i2 i3 i4 i5 i6 i7 i8 i9 i10 i11 i12 i13 i14 i15 i16 i17 i18 i19 i20 i21 i22 i23 i24 i25 i26 i27 i28 i29 i30 i31 i32 i33 i34 i35 i36 i37 i38 i39 i40 i41 i42 i43 i44 i45 b32) (hv : 0 ≤ v ∧ v ≤ 255) :
    ∃ (c : Nat → Int) (x : Nat → Bool), F13 [i0, i1, i2, i3, i4, i5, i6, i7, i8, i9, i10, i11, i12, i13, i14, i15, i16, i17, i18, i19, i20, i21, i22, i23, i24, i25, i26, i27, i28, i29, i30, i31, i32, i33, i34, i35, i36, i37, i38, i39, i40, i41, i42, i43, i44, i45, v] [b0, b1, b2, b3, b4, b5, b6, b7, b8, b9, b10, b11, b12, b13, b14, b15, b16, b17, b18, b19, b20, b21, b22, b23, b24, b25, b26, b27, b28, b29, b30, b31, b32, b33, b34, b35] = ([(c 0), (c 1), (c 2), (c 3), (c 4), (c 5), (c 6), (c 7), (c 8), (c 9), (c 10), (c 11), (c 12), (c 13), (c 14), (c 15), (c 16), (c 17), (c 18), (c 19), (c 20), (c 21), (c 22), (c 23), (c 24), (c 25), (c 26), (c 27), (c 28), (c 29), (c 30), (c 31), (c 32), (c 33), (c 34), (c 35), (c 36), (c 37), (c 38), (c 39), (c 40), (c 41), (c 42), (c 43), (c 44), (c 45), 0], [(x 0), (x 1), (x 2), (x 3), (x 4), (x 5), (x 6), (x 7), (x 8), (x 9), (x 10), (x 11), (x 12), (x 13), (x 14), (x 15), (x 16), (x 17), (x 18), (x 19), (x 20), (x 21), (x 22), (x 23), (x 24), (x 25), (x 26), (x 27), (x 28), (x 29), (x 30), (x 31), (x 32), (x 33), (x 34), (x 35)]) ∧ Ak (c 0) (c 1) (c 2) (c 3) (c 4) (c 5) (c 6) (c 7) (c 8) (c 9) (c 10) (c 11) (c 12) (c 13) (c 14) (c 15) (c 16) (c 17) (c 18) (c 19) (c 20) (c 21) (c 22) (c 23) (c 24) (c 25) (c 26) (c 27) (c 28) (c 29) (c 30) (c 31) (c 32) (c 33) (c 34) (c 35) (c 36) (c 37) (c 38) (c 39) (c 40) (c 41) (c 42) (c 43) (c 44) (c 45) (x 32) := by
  have h11 := hA.c11 (b0 := b0) (b1 := b1) (b2 := b2) (b3 := b3) (b4 := b4) (b5 := b5) (b6 := b6) (b7 := b7) (b8 := b8) (b9 := b9) (b10 := b10) (b11 := b11) (b12 := b12) (b13 := b13) (b14 := b14) (b15 := b15) (b16 := b16) (b17 := b17) (b18 := b18) (b19 := b19) (b20 := b20) (b21 := b21) (b22 := b22) (b23 := b23) (b24 := b24) (b25 := b25) (b26 := b26) (b27 := b27) (b28 := b28) (b29 := b29) (b30 := b30) (b31 := b31) (b32 := b32) (b33 := b33) (b34 := b34) (b35 := b35)
  obtain ⟨h1, h2, h3, h4, h5, h6, h7⟩ := hA
  obtain ⟨j0, j1, j2, j3, j4, j5, j6, j7, j8, j9, e0, e1, e2, e3, e4, hF, k5⟩ := feed_ok h5 b27 b28 b29 b30 b31 v hv.1 hv.2
  have hR : F13 [i0, i1, i2, i3, i4, i5, i6, i7, i8, i9, i10, i11, i12, i13, i14, i15, i16, i17, i18, i19, i20, i21, i22, i23, i24, i25, i26, i27, i28, i29, i30, i31, i32, i33, i34, i35, i36, i37, i38, i39, i40, i41, i42, i43, i44, i45, v] [b0, b1, b2, b3, b4, b5, b6, b7, b8, b9, b10, b11, b12, b13, b14, b15, b16, b17, b18, b19, b20, b21, b22, b23, b24, b25, b26, b27, b28, b29, b30, b31, b32, b33, b34, b35] = ([i0, i1, i2, i3, i4, i5, i6, i7, i8, i9, i10, i11, i12, i13, i14, i15, i16, i17, i18, i19, i20, i21, i22, i23, i24, i25, i26, i27, i28, i29, i30, i31, i32, i33, i34, j0, j1, j2, j3, j4, j5, j6, j7, j8, j9, i45, 0], [b0, b1, b2, b3, b4, b5, b6, b7, b8, b9, b10, b11, b12, b13, b14, b15, b16, b17, b18, b19, b20, b21, b22, b23, b24, b25, b26, e0, e1, e2, e3, e4, b32, b33, b34, b35]) := by
    unfold F13
    obtain ⟨ρ, e1, e2, e3, e4⟩ := Smry.run_spec (Φ := tabF T51) (S := S13) (is := [i0, i1, i2, i3, i4, i5, i6, i7, i8, i9, i10, i11, i12, i13, i14, i15, i16, i17, i18, i19, i20, i21, i22, i23, i24, i25, i26, i27, i28, i29, i30, i31, i32, i33, i34, i35, i36, i37, i38, i39, i40, i41, i42, i43, i44, i45, v]) (bs := [b0, b1, b2, b3, b4, b5, b6, b7, b8, b9, b10, b11, b12, b13, b14, b15, b16, b17, b18, b19, b20, b21, b22, b23, b24, b25, b26, b27, b28, b29, b30, b31, b32, b33, b34, b35]) rfl
    rw [e1]
    clear e1
    simp only [S13, eqns, Em.eqn, headsI, headsB, RI.d, RB.d, A.d, B.d, cm_eql, cm_neq, cm_lss, cm_leq, cm_gtr, cm_geq, List.map_cons, List.map_nil, and_true, Nat.zero_add, Nat.reduceAdd, ltn, upto, true_and, Nat.add_zero, List.getD_cons_zero, List.getD_cons_succ, add8, sub8, add16, sub16, mul16, wrap_u8, wrap_u16, and8_1, and8_7, and8_8, and8_15, and8_16, and8_31, and8_32, and8_64, and8_127, and8_128, and16_1, and16_255, and16_1792, shr8_1, shr8_3, shr8_4, shr8_6, shr16_1, shr16_6, shr16_8, shl16_8, shl16_14] at e2 e3 e4 ⊢
    simp only [e2, e3] at e4 ⊢
    clear e2 e3
    have hi47 := e4.1
    have r0 := e4.2
    clear e4
    have hb36 := r0.1
    have r1 := r0.2
    clear r0
    have hi48 := r1.1.1.1
    have hi49 := r1.1.1.2.1
    have hi50 := r1.1.1.2.2.1
    have hi51 := r1.1.1.2.2.2.1
    have hi52 := r1.1.1.2.2.2.2.1
    have hi53 := r1.1.1.2.2.2.2.2.1
    have hi54 := r1.1.1.2.2.2.2.2.2.1
    have hi55 := r1.1.1.2.2.2.2.2.2.2.1
    have hi56 := r1.1.1.2.2.2.2.2.2.2.2.1
    have hi57 := r1.1.1.2.2.2.2.2.2.2.2.2
    have hb37 := r1.1.2.1
    have hb38 := r1.1.2.2.1
    have hb39 := r1.1.2.2.2.1
    have hb40 := r1.1.2.2.2.2.1
    have hb41 := r1.1.2.2.2.2.2
    have r2 := r1.2
    clear r1
    have hb42 := r2.1
    have r3 := r2.2
    clear r2
    have hb43 := r3.1
    have r4 := r3.2
    clear r3
    have hb44 := r4.1
    have r5 := r4.2
    clear r4
    have hi58 := r5.1
    have r6 := r5.2
    clear r5
    have hi59 := r6.1
    have r7 := r6.2
    clear r6
    have hi60 := r7.1
    have r8 := r7.2
    clear r7
    have hi61 := r8.1
    have r9 := r8.2
    clear r8
    have hi62 := r9.1
    have r10 := r9.2
    clear r9
    have hi63 := r10.1
    have r11 := r10.2
    clear r10
    have hi64 := r11.1
    have r12 := r11.2
    clear r11
    have hb45 := r12.1
    have r13 := r12.2
    clear r12
    have hi65 := r13.1
    have r14 := r13.2
    clear r13
    have hi66 := r14.1
    have r15 := r14.2
    clear r14
    have hb46 := r15.1
    have r16 := r15.2
    clear r15
    have hi67 := r16
    have q11_47_36 : tabF T51 11 [i0, i1, i2, i3, i4, i5, i6, i7, i8, i9, i10, i11, i12, i13, i14, i15, i16, i17, i18, i19, i20, i21, i22, i23, i24, i25, i26, i27, i28, i29, i30, i31, i32, i33, i34, i35, i36, i37, i38, i39, i40, i41, i42, i43, i44, i45] [b0, b1, b2, b3, b4, b5, b6, b7, b8, b9, b10, b11, b12, b13, b14, b15, b16, b17, b18, b19, b20, b21, b22, b23, b24, b25, b26, b27, b28, b29, b30, b31, b32, b33, b34, b35] = ([0], []) := h11
    have ob36 : ρ.b 36 = true := (by rw [hb36, (gi hi47 q11_47_36)]; rfl)
    have q33_48_37 : tabF T51 33 [i35, i36, i37, i38, i39, i40, i41, i42, i43, i44, v] [b27, b28, b29, b30, b31] = ([j0, j1, j2, j3, j4, j5, j6, j7, j8, j9], [e0, e1, e2, e3, e4]) := hF
    refine Prod.ext ?_ ?_
    · show [i0, i1, i2, i3, i4, i5, i6, i7, i8, i9, i10, i11, i12, i13, i14, i15, i16, i17, i18, i19, i20, i21, i22, i23, i24, i25, i26, i27, i28, i29, i30, i31, i32, i33, i34, ρ.i 58, ρ.i 59, ρ.i 60, ρ.i 61, ρ.i 62, ρ.i 63, ρ.i 64, ρ.i 65, ρ.i 66, ρ.i 67, i45, ρ.i 47] = _
      rw [(tt hi58 ob36 (gi hi48 q33_48_37)), (tt hi59 ob36 (gi hi49 q33_48_37)), (tt hi60 ob36 (gi hi50 q33_48_37)), (tt hi61 ob36 (gi hi51 q33_48_37)), (tt hi62 ob36 (gi hi52 q33_48_37)), (tt hi63 ob36 (gi hi53 q33_48_37)), (tt hi64 ob36 (gi hi54 q33_48_37)), (tt hi65 ob36 (gi hi55 q33_48_37)), (tt hi66 ob36 (gi hi56 q33_48_37)), (tt hi67 ob36 (gi hi57 q33_48_37)), (gi hi47 q11_47_36)] <;> rfl
    · show [b0, b1, b2, b3, b4, b5, b6, b7, b8, b9, b10, b11, b12, b13, b14, b15, b16, b17, b18, b19, b20, b21, b22, b23, b24, b25, b26, ρ.b 42, ρ.b 43, ρ.b 44, ρ.b 45, ρ.b 46, b32, b33, b34, b35] = _
      rw [(tt hb42 ob36 (gb hb37 q33_48_37)), (tt hb43 ob36 (gb hb38 q33_48_37)), (tt hb44 ob36 (gb hb39 q33_48_37)), (tt hb45 ob36 (gb hb40 q33_48_37)), (tt hb46 ob36 (gb hb41 q33_48_37))] <;> rfl
  exact ⟨(fun zz => List.getD [i0, i1, i2, i3, i4, i5, i6, i7, i8, i9, i10, i11, i12, i13, i14, i15, i16, i17, i18, i19, i20, i21, i22, i23, i24, i25, i26, i27, i28, i29, i30, i31, i32, i33, i34, j0, j1, j2, j3, j4, j5, j6, j7, j8, j9, i45] zz 0), (fun zz => List.getD [b0, b1, b2, b3, b4, b5, b6, b7, b8, b9, b10, b11, b12, b13, b14, b15, b16, b17, b18, b19, b20, b21, b22, b23, b24, b25, b26, e0, e1, e2, e3, e4, b32, b33, b34, b35] zz false), hR, h1, h2, h3, h4, k5, h6, h7⟩
theorem out14 (i0 i1 i2 i3 i4 i5 i6 i7 i8 i9 i10 i11 i12 i13 i14 i15 i16 i17 i18 i19 i20 i21 i22 i23 i24 i25 i26 i27 i28 i29 i30 i31 i32 i33 i34 i35 i36 i37 i38 i39 i40 i41 i42 i43 i44 i45 : Int) (b0 b1 b2 b3 b4 b5 b6 b7 b8 b9 b10 b11 b12 b13 b14 b15 b16 b17 b18 b19 b20 b21 b22 b23 b24 b25 b26 b27 b28 b29 b30 b31 b32 b33 b34 b35 : Bool) (hA : Ak i0 i1 i2 i3 i4 i5 i6 i7 i8 i9 i10 i11 i12 i13 i14 i15 i16 i17 i18 i19 i20 i21 i22 i23 i24 i25 i26 i27 i28 i29 i30 i31 i32 i33 i34 i35 i36 i37 i38 i39 i40 i41 i42 i43 i44 i45 b32) : ∃ a c, F14 [i0, i1, i2, i3, i4, i5, i6, i7, i8, i9, i10, i11, i12, i13, i14, i15, i16, i17, i18, i19, i20, i21, i22, i23, i24, i25, i26, i27, i28, i29, i30, i31, i32, i33, i34, i35, i36, i37, i38, i39, i40, i41, i42, i43, i44, i45] [b0, b1, b2, b3, b4, b5, b6, b7, b8, b9, b10, b11, b12, b13, b14, b15, b16, b17, b18, b19, b20, b21, b22, b23, b24, b25, b26, b27, b28, b29, b30, b31, b32, b33, b34, b35] = ([a, c], [true]) ∧ (0 ≤ a ∧ a ≤ 30) ∧ 0 ≤ c ∧ c ≤ 202 := by
  have h11 := hA.c11 (b0 := b0) (b1 := b1) (b2 := b2) (b3 := b3) (b4 := b4) (b5 := b5) (b6 := b6) (b7 := b7) (b8 := b8) (b9 := b9) (b10 := b10) (b11 := b11) (b12 := b12) (b13 := b13) (b14 := b14) (b15 := b15) (b16 := b16) (b17 := b17) (b18 := b18) (b19 := b19) (b20 := b20) (b21 := b21) (b22 := b22) (b23 := b23) (b24 := b24) (b25 := b25) (b26 := b26) (b27 := b27) (b28 := b28) (b29 := b29) (b30 := b30) (b31 := b31) (b32 := b32) (b33 := b33) (b34 := b34) (b35 := b35)
  obtain ⟨h1, h2, h3, h4, h5, h6, h7⟩ := hA
  obtain ⟨s1, e1_, r1_⟩ := s_34 i0 i1 i2 i3 i4 i5 i6 i7 i8 i9 i10 b0 b1 b2 b3 b4 b5 b6 b7 b8 (Pk_nn h1).1 (Pk_nn h1).2.1 (Pk_nn h1).2.2.1 (Pk_nn h1).2.2.2.1 (Pk_nn h1).2.2.2.2.1 (Pk_nn h1).2.2.2.2.2.1 (Pk_nn h1).2.2.2.2.2.2.1 (Pk_nn h1).2.2.2.2.2.2.2.1 (Pk_nn h1).2.2.2.2.2.2.2.2.1 (Pk_nn h1).2.2.2.2.2.2.2.2.2.1 (Pk_nn h1).2.2.2.2.2.2.2.2.2.2 (Pk_ok h1)
  obtain ⟨s2, e2_, r2_⟩ := s_34 i11 i12 i13 i14 i15 i16 i17 i18 i19 i20 i21 b9 b10 b11 b12 b13 b14 b15 b16 b17 (Pk_nn h2).1 (Pk_nn h2).2.1 (Pk_nn h2).2.2.1 (Pk_nn h2).2.2.2.1 (Pk_nn h2).2.2.2.2.1 (Pk_nn h2).2.2.2.2.2.1 (Pk_nn h2).2.2.2.2.2.2.1 (Pk_nn h2).2.2.2.2.2.2.2.1 (Pk_nn h2).2.2.2.2.2.2.2.2.1 (Pk_nn h2).2.2.2.2.2.2.2.2.2.1 (Pk_nn h2).2.2.2.2.2.2.2.2.2.2 (Pk_ok h2)
  obtain ⟨s3, e3_, r3_⟩ := s_35 i22 i23 i24 i25 i26 i27 b18 b19 b20 (Tk_nn h3).1 (Tk_nn h3).2.1 (Tk_nn h3).2.2.1 (Tk_nn h3).2.2.2.1 (Tk_nn h3).2.2.2.2.1 (Tk_nn h3).2.2.2.2.2 (Tk_ok h3)
  obtain ⟨s4, e4_, r4_⟩ := s_36 i28 i29 i30 i31 i32 i33 i34 b21 b22 b23 b24 b25 b26 (Nk_nn h4).1 (Nk_nn h4).2.1 (Nk_nn h4).2.2.1 (Nk_nn h4).2.2.2.1 (Nk_nn h4).2.2.2.2.1 (Nk_nn h4).2.2.2.2.2.1 (Nk_nn h4).2.2.2.2.2.2 (Nk_ok h4)
  have hl : 0 ≤ i36 ∧ i36 < 128 := by unfold Ok at h5; omega
  unfold F14
  obtain ⟨ρ, e1, e2, e3, e4⟩ := Smry.run_specT (Φ := tabF T17) (S := S14) (is := [i0, i1, i2, i3, i4, i5, i6, i7, i8, i9, i10, i11, i12, i13, i14, i15, i16, i17, i18, i19, i20, i21, i22, i23, i24, i25, i26, i27, i28, i29, i30, i31, i32, i33, i34, i35, i36, i37, i38, i39, i40, i41, i42, i43, i44, i45]) (bs := [b0, b1, b2, b3, b4, b5, b6, b7, b8, b9, b10, b11, b12, b13, b14, b15, b16, b17, b18, b19, b20, b21, b22, b23, b24, b25, b26, b27, b28, b29, b30, b31, b32, b33, b34, b35]) rfl
  rw [e1, obAll_eq]
  clear e1
  simp only [S14, obs, Gd.d_cons, Gd.d_nil, eqns, Em.eqn, headsI, headsB, RI.d, RB.d, A.d, B.d, cm_eql, cm_neq, cm_lss, cm_leq, cm_gtr, cm_geq, List.map_cons, List.map_nil, and_true, Nat.zero_add, Nat.reduceAdd, ltn, upto, true_and, Nat.add_zero, List.getD_cons_zero, List.getD_cons_succ, add8, sub8, add16, sub16, mul16, wrap_u8, wrap_u16, and8_1, and8_7, and8_8, and8_15, and8_16, and8_31, and8_32, and8_64, and8_127, and8_128, and16_1, and16_255, and16_1792, shr8_1, shr8_3, shr8_4, shr8_6, shr16_1, shr16_6, shr16_8, shl16_8, shl16_14, add64, mul64] at e2 e3 e4 ⊢
  simp only [e2, e3] at e4 ⊢
  clear e2 e3
  rw [show tabF T17 11 = F11 by rfl, show tabF T17 34 = F34 by rfl, show tabF T17 35 = F35 by rfl, show tabF T17 36 = F36 by rfl, h11, e1_, e2_, e3_, e4_] at e4
  simp only [List.getD_cons_zero] at e4
  have hi46 := e4.1
  have r0 := e4.2
  clear e4
  have hb36 := r0.1
  have r1 := r0.2
  clear r0
  have hi47 := r1.1.1
  have hb37 := r1.1.2
  have r2 := r1.2
  clear r1
  have hi48 := r2.1
  have r3 := r2.2
  clear r2
  have hi49 := r3.1.1
  have hb38 := r3.1.2
  have r4 := r3.2
  clear r3
  have hi50 := r4.1
  have r5 := r4.2
  clear r4
  have hi51 := r5.1
  have r6 := r5.2
  clear r5
  have hi52 := r6.1
  have r7 := r6.2
  clear r6
  have hi53 := r7.1
  have r8 := r7.2
  clear r7
  have hi54 := r8.1
  have r9 := r8.2
  clear r8
  have hi55 := r9.1
  have r10 := r9.2
  clear r9
  have hi56 := r10.1
  have r11 := r10.2
  clear r10
  have hi57 := r11.1
  have r12 := r11.2
  clear r11
  have hi58 := r12.1
  have r13 := r12.2
  clear r12
  have hi59 := r13.1
  have r14 := r13.2
  clear r13
  have hi60 := r14.1
  have r15 := r14.2
  clear r14
  have hb39 := r15.1
  have r16 := r15.2
  clear r15
  have hi61 := r16.1
  have r17 := r16.2
  clear r16
  have hi62 := r17
  have t36 : ρ.b 36 = false := by rw [hb36, hi46]; rfl
  have t39 : ρ.b 39 = true := by rw [hb39, t36]; rfl
  have t51 : ρ.i 51 = s1 + s2 := by
    rw [hi51, hi48, hi50, hi47, hi49, wrap_i64_in (n := s1) (by omega) (by omega), wrap_i64_in (n := s2) (by omega) (by omega), wrap_i64_in (by omega) (by omega)]
  have t60 : ρ.i 60 = 3 * s3 + 2 * s4 + i36 := by
    rw [hi60, hi58, hi54, hi57, hi53, hi56, hi59, hi52, hi55, wrap_i64_in (n := s3) (by omega) (by omega), wrap_i64_in (n := s4) (by omega) (by omega), wrap_i64_in (n := i36) (by omega) (by omega), wrap_i64_in (n := 3 * s3) (by omega) (by omega), wrap_i64_in (n := 2 * s4) (by omega) (by omega), wrap_i64_in (n := 3 * s3 + 2 * s4) (by omega) (by omega), wrap_i64_in (by omega) (by omega)]
  have t61 : ρ.i 61 = s1 + s2 := (tt hi61 t39 t51)
  have t62 : ρ.i 62 = 3 * s3 + 2 * s4 + i36 := (tt hi62 t39 t60)
  refine ⟨ρ.i 61, ρ.i 62, ?_, ?_, ?_⟩
  · simp [t36, hb37, hb38]
  · rw [t61]; omega
  · rw [t62]; omega
end Go.Proofs.YtdpogmikhfgcmaaDoor.Ap
