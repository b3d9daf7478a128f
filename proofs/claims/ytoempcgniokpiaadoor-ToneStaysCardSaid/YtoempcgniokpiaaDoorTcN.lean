/-
  ToneStays answers true. WRITTEN BY PROGRAM (wip/gen/tc5.py). No condition.
-/
import Derived.Test.YtoempcgniokpiaaDoorTcM
set_option linter.unusedVariables false
set_option linter.unusedSimpArgs false
namespace Go.Proofs.YtoempcgniokpiaaDoor.Tc
open Go Go.Proofs.YtoempcgniokpiaaDoor.Sx

def Pk (a0 a1 a2 a3 a4 a5 a6 a7 a8 a9 a10 : Int) : Prop := 0 ≤ a0 ∧ a0 < 16 ∧ 0 ≤ a1 ∧ a1 < 16 ∧ 0 ≤ a2 ∧ a2 < 16 ∧ 0 ≤ a3 ∧ 0 ≤ a4 ∧ a4 < 4 ∧ 0 ≤ a5 ∧ a5 < 8 ∧ 0 ≤ a6 ∧ a6 < 2048 ∧ 0 ≤ a7 ∧ a7 < 2048 ∧ 0 ≤ a8 ∧ a8 < 8 ∧ 0 ≤ a9 ∧ a9 < 8 ∧ 0 ≤ a10 ∧ a10 < 8
theorem Pk_ite {a0 a1 a2 a3 a4 a5 a6 a7 a8 a9 a10 c0 c1 c2 c3 c4 c5 c6 c7 c8 c9 c10 : Int} {c : Bool} (h : Pk a0 a1 a2 a3 a4 a5 a6 a7 a8 a9 a10) (h' : Pk c0 c1 c2 c3 c4 c5 c6 c7 c8 c9 c10) : Pk (if c = true then a0 else c0) (if c = true then a1 else c1) (if c = true then a2 else c2) (if c = true then a3 else c3) (if c = true then a4 else c4) (if c = true then a5 else c5) (if c = true then a6 else c6) (if c = true then a7 else c7) (if c = true then a8 else c8) (if c = true then a9 else c9) (if c = true then a10 else c10) := by
  cases c
  · simpa using h'
  · simpa using h
theorem Pk_of {is : List Int} {bs : List Bool} (h : Pok is bs) : ∃ (a0 a1 a2 a3 a4 a5 a6 a7 a8 a9 a10 : Int) (x0 x1 x2 x3 x4 x5 x6 x7 x8 : Bool), is = [a0, a1, a2, a3, a4, a5, a6, a7, a8, a9, a10] ∧ bs = [x0, x1, x2, x3, x4, x5, x6, x7, x8] ∧ Pk a0 a1 a2 a3 a4 a5 a6 a7 a8 a9 a10 := by
  obtain ⟨a0, a1, a2, a3, a4, a5, a6, a7, a8, a9, a10, x0, x1, x2, x3, x4, x5, x6, x7, x8, rfl, rfl, hn, hok⟩ := h
  simp only [okP, okE, Bool.and_eq_true, decide_eq_true_eq] at hok
  refine ⟨a0, a1, a2, a3, a4, a5, a6, a7, a8, a9, a10, x0, x1, x2, x3, x4, x5, x6, x7, x8, rfl, rfl, ?_⟩
  unfold Pk
  omega
theorem Pk_nn {a0 a1 a2 a3 a4 a5 a6 a7 a8 a9 a10 : Int} (h : Pk a0 a1 a2 a3 a4 a5 a6 a7 a8 a9 a10) : 0 ≤ a0 ∧ 0 ≤ a1 ∧ 0 ≤ a2 ∧ 0 ≤ a3 ∧ 0 ≤ a4 ∧ 0 ≤ a5 ∧ 0 ≤ a6 ∧ 0 ≤ a7 ∧ 0 ≤ a8 ∧ 0 ≤ a9 ∧ 0 ≤ a10 := by
  unfold Pk at h
  omega
theorem Pk_ok {a0 a1 a2 a3 a4 a5 a6 a7 a8 a9 a10 : Int} (h : Pk a0 a1 a2 a3 a4 a5 a6 a7 a8 a9 a10) : okP a0 a1 a2 a4 a5 a6 a7 a8 a9 a10 = true := by
  unfold Pk at h
  simp only [okP, okE, Bool.and_eq_true, decide_eq_true_eq]
  omega
def Tk (a0 a1 a2 a3 a4 a5 : Int) : Prop := 0 ≤ a0 ∧ 0 ≤ a1 ∧ a1 < 128 ∧ 0 ≤ a2 ∧ a2 < 128 ∧ 0 ≤ a3 ∧ a3 < 32 ∧ 0 ≤ a4 ∧ a4 < 2048 ∧ 0 ≤ a5 ∧ a5 < 2048
theorem Tk_ite {a0 a1 a2 a3 a4 a5 c0 c1 c2 c3 c4 c5 : Int} {c : Bool} (h : Tk a0 a1 a2 a3 a4 a5) (h' : Tk c0 c1 c2 c3 c4 c5) : Tk (if c = true then a0 else c0) (if c = true then a1 else c1) (if c = true then a2 else c2) (if c = true then a3 else c3) (if c = true then a4 else c4) (if c = true then a5 else c5) := by
  cases c
  · simpa using h'
  · simpa using h
theorem Tk_of {is : List Int} {bs : List Bool} (h : Tok is bs) : ∃ (a0 a1 a2 a3 a4 a5 : Int) (x0 x1 x2 : Bool), is = [a0, a1, a2, a3, a4, a5] ∧ bs = [x0, x1, x2] ∧ Tk a0 a1 a2 a3 a4 a5 := by
  obtain ⟨a0, a1, a2, a3, a4, a5, x0, x1, x2, rfl, rfl, hn, hok⟩ := h
  simp only [okT, Bool.and_eq_true, decide_eq_true_eq] at hok
  refine ⟨a0, a1, a2, a3, a4, a5, x0, x1, x2, rfl, rfl, ?_⟩
  unfold Tk
  omega
theorem Tk_nn {a0 a1 a2 a3 a4 a5 : Int} (h : Tk a0 a1 a2 a3 a4 a5) : 0 ≤ a0 ∧ 0 ≤ a1 ∧ 0 ≤ a2 ∧ 0 ≤ a3 ∧ 0 ≤ a4 ∧ 0 ≤ a5 := by
  unfold Tk at h
  omega
theorem Tk_ok {a0 a1 a2 a3 a4 a5 : Int} (h : Tk a0 a1 a2 a3 a4 a5) : okT a1 a2 a3 a4 a5 = true := by
  unfold Tk at h
  simp only [okT, Bool.and_eq_true, decide_eq_true_eq]
  omega
def Nk (a0 a1 a2 a3 a4 a5 a6 : Int) : Prop := 0 ≤ a0 ∧ a0 < 16 ∧ 0 ≤ a1 ∧ a1 < 16 ∧ 0 ≤ a2 ∧ a2 < 16 ∧ 0 ≤ a3 ∧ 0 ≤ a4 ∧ a4 < 16 ∧ 0 ≤ a5 ∧ a5 < 4096 ∧ 1 ≤ a6 ∧ a6 < 32768
theorem Nk_ite {a0 a1 a2 a3 a4 a5 a6 c0 c1 c2 c3 c4 c5 c6 : Int} {c : Bool} (h : Nk a0 a1 a2 a3 a4 a5 a6) (h' : Nk c0 c1 c2 c3 c4 c5 c6) : Nk (if c = true then a0 else c0) (if c = true then a1 else c1) (if c = true then a2 else c2) (if c = true then a3 else c3) (if c = true then a4 else c4) (if c = true then a5 else c5) (if c = true then a6 else c6) := by
  cases c
  · simpa using h'
  · simpa using h
theorem Nk_of {is : List Int} {bs : List Bool} (h : Nok is bs) : ∃ (a0 a1 a2 a3 a4 a5 a6 : Int) (x0 x1 x2 x3 x4 x5 : Bool), is = [a0, a1, a2, a3, a4, a5, a6] ∧ bs = [x0, x1, x2, x3, x4, x5] ∧ Nk a0 a1 a2 a3 a4 a5 a6 := by
  obtain ⟨a0, a1, a2, a3, a4, a5, a6, x0, x1, x2, x3, x4, x5, rfl, rfl, hn, hok⟩ := h
  simp only [okN, okE, Bool.and_eq_true, decide_eq_true_eq] at hok
  refine ⟨a0, a1, a2, a3, a4, a5, a6, x0, x1, x2, x3, x4, x5, rfl, rfl, ?_⟩
  unfold Nk
  omega
theorem Nk_nn {a0 a1 a2 a3 a4 a5 a6 : Int} (h : Nk a0 a1 a2 a3 a4 a5 a6) : 0 ≤ a0 ∧ 0 ≤ a1 ∧ 0 ≤ a2 ∧ 0 ≤ a3 ∧ 0 ≤ a4 ∧ 0 ≤ a5 ∧ 0 ≤ a6 := by
  unfold Nk at h
  omega
theorem Nk_ok {a0 a1 a2 a3 a4 a5 a6 : Int} (h : Nk a0 a1 a2 a3 a4 a5 a6) : okN a0 a1 a2 a4 a5 a6 = true := by
  unfold Nk at h
  simp only [okN, okE, Bool.and_eq_true, decide_eq_true_eq]
  omega
theorem slGet {q n : Int} (h : slRng [.int .u16] q n) (i : Int) (h0 : 0 ≤ i) : 0 ≤ (dec q).getD (i.toNat * 1 + 0) 0 ∧ (dec q).getD (i.toNat * 1 + 0) 0 ≤ 65535 := by
  obtain ⟨_, _, l, rfl, _, hl⟩ := h
  rw [dec_enc, List.getD_eq_getElem?_getD]
  cases hg : l[i.toNat * 1 + 0]? with
  | none => simp
  | some m =>
    obtain ⟨ck, h1, h2⟩ := hl _ m hg
    simp only [List.length_singleton, Nat.mod_one, List.getElem?_cons_zero, Option.some.injEq] at h1
    subst h1
    simpa [inCK, InR, IntKind.min, IntKind.max, IntKind.signed, IntKind.bits] using h2
def InvS (q n : Int) (is : List Int) (bs : List Bool) : Prop :=
  ∃ i p0 p1 p2 p3 p4 p5 p6 p7 p8 p9 p10 t0 t1 t2 t3 t4 t5 n0 n1 n2 n3 n4 n5 n6 x0 x1 x2 x3 x4 x5 x6 x7 x8 y0 y1 y2 z0 z1 z2 z3 z4 z5, is = [q, n, i, p0, p1, p2, p3, p4, p5, p6, p7, p8, p9, p10, t0, t1, t2, t3, t4, t5, n0, n1, n2, n3, n4, n5, n6] ∧ bs = [x0, x1, x2, x3, x4, x5, x6, x7, x8, y0, y1, y2, z0, z1, z2, z3, z4, z5] ∧ 0 ≤ i ∧ i ≤ 100 ∧ Pk p0 p1 p2 p3 p4 p5 p6 p7 p8 p9 p10 ∧ Tk t0 t1 t2 t3 t4 t5 ∧ Nk n0 n1 n2 n3 n4 n5 n6
set_option maxRecDepth 20000 in
set_option maxHeartbeats 4000000 in
theorem stepS (q n : Int) (hq : slRng [.int .u16] q n) (is : List Int) (bs : List Bool) (h : InvS q n is bs) :
    ∃ c rb, (L101400.S.run (tabF T26) true is bs).2 = true :: c :: rb ∧
      (c = false → ((L101400.S.run (tabF T26) true is bs).1.drop 27, rb.drop 18) = ([], [false, true])) ∧
      (c = true → InvS q n ((L101400.S.run (tabF T26) true is bs).1.take 27) (rb.take 18) ∧ (100 - (((L101400.S.run (tabF T26) true is bs).1.take 27).getD 2 0)).toNat < (100 - is.getD 2 0).toNat) := by
  obtain ⟨i, p0, p1, p2, p3, p4, p5, p6, p7, p8, p9, p10, t0, t1, t2, t3, t4, t5, n0, n1, n2, n3, n4, n5, n6, x0, x1, x2, x3, x4, x5, x6, x7, x8, y0, y1, y2, z0, z1, z2, z3, z4, z5, rfl, rfl, h1, h2, kP, kT, kN⟩ := h
  obtain ⟨ρ, e1, e2, e3, e4⟩ := Smry.run_specT (Φ := tabF T26) (S := L101400.S) (is := [q, n, i, p0, p1, p2, p3, p4, p5, p6, p7, p8, p9, p10, t0, t1, t2, t3, t4, t5, n0, n1, n2, n3, n4, n5, n6]) (bs := [x0, x1, x2, x3, x4, x5, x6, x7, x8, y0, y1, y2, z0, z1, z2, z3, z4, z5]) rfl
  rw [e1, obAll_eq]
  clear e1
  simp only [L101400, obs, Gd.d_cons, Gd.d_nil, eqns, Em.eqn, headsI, headsB, RI.d, RB.d, A.d, B.d, cm_eql, cm_neq, cm_lss, cm_leq, cm_gtr, cm_geq, List.map_cons, List.map_nil, and_true, Nat.zero_add, Nat.reduceAdd, ltn, upto, true_and, Nat.add_zero, List.getD_cons_zero, List.getD_cons_succ, add8, sub8, add16, sub16, mul16, wrap_u8, wrap_u16, and8_1, and8_7, and8_8, and8_15, and8_16, and8_31, and8_32, and8_64, and8_127, and8_128, and16_1, and16_255, and16_1792, shr8_1, shr8_3, shr8_4, shr8_6, shr16_1, shr16_6, shr16_8, shl16_8, shl16_14, add64, and16_3] at e2 e3 e4 ⊢
  simp only [e2, e3] at e4 ⊢
  clear e2 e3
  have hx := slGet hq i h1
  simp only [Nat.mul_one, Nat.add_zero] at hx
  have uP := kP; have uT := kT; have uN := kN
  unfold Pk at uP; unfold Tk at uT; unfold Nk at uN
  have hb18 := e4.1
  have r0 := e4.2
  clear e4
  have hb19 := r0.1
  have r1 := r0.2
  clear r0
  have hb20 := r1.1
  have r2 := r1.2
  clear r1
  have hb21 := r2.1
  have r3 := r2.2
  clear r2
  have hb22 := r3.1
  have r4 := r3.2
  clear r3
  have hi27 := r4.1
  have r5 := r4.2
  clear r4
  have hi28 := r5.1
  have r6 := r5.2
  clear r5
  have hi29 := r6.1
  have r7 := r6.2
  clear r6
  have hi30 := r7.1
  have r8 := r7.2
  clear r7
  have hb23 := r8.1
  have r9 := r8.2
  clear r8
  have hb24 := r9.1
  have r10 := r9.2
  clear r9
  have hi31 := r10.1
  have r11 := r10.2
  clear r10
  have hi32 := r11.1
  have r12 := r11.2
  clear r11
  have hb25 := r12.1
  have r13 := r12.2
  clear r12
  have hb26 := r13.1
  have r14 := r13.2
  clear r13
  have hi33 := r14.1
  have r15 := r14.2
  clear r14
  have hi34 := r15.1
  have r16 := r15.2
  clear r15
  have hi35 := r16.1
  have r17 := r16.2
  clear r16
  have hb27 := r17.1
  have r18 := r17.2
  clear r17
  have hi36 := r18.1.1.1
  have hi37 := r18.1.1.2.1
  have hi38 := r18.1.1.2.2.1
  have hi39 := r18.1.1.2.2.2.1
  have hi40 := r18.1.1.2.2.2.2.1
  have hi41 := r18.1.1.2.2.2.2.2.1
  have hi42 := r18.1.1.2.2.2.2.2.2.1
  have hi43 := r18.1.1.2.2.2.2.2.2.2.1
  have hi44 := r18.1.1.2.2.2.2.2.2.2.2.1
  have hi45 := r18.1.1.2.2.2.2.2.2.2.2.2.1
  have hi46 := r18.1.1.2.2.2.2.2.2.2.2.2.2
  have hb28 := r18.1.2.1
  have hb29 := r18.1.2.2.1
  have hb30 := r18.1.2.2.2.1
  have hb31 := r18.1.2.2.2.2.1
  have hb32 := r18.1.2.2.2.2.2.1
  have hb33 := r18.1.2.2.2.2.2.2.1
  have hb34 := r18.1.2.2.2.2.2.2.2.1
  have hb35 := r18.1.2.2.2.2.2.2.2.2.1
  have hb36 := r18.1.2.2.2.2.2.2.2.2.2.1
  have hb37 := r18.1.2.2.2.2.2.2.2.2.2.2
  have r19 := r18.2
  clear r18
  have hi47 := r19.1.1.1
  have hi48 := r19.1.1.2.1
  have hi49 := r19.1.1.2.2.1
  have hi50 := r19.1.1.2.2.2.1
  have hi51 := r19.1.1.2.2.2.2.1
  have hi52 := r19.1.1.2.2.2.2.2
  have hb38 := r19.1.2.1
  have hb39 := r19.1.2.2.1
  have hb40 := r19.1.2.2.2.1
  have hb41 := r19.1.2.2.2.2
  have r20 := r19.2
  clear r19
  have hi53 := r20.1.1.1
  have hi54 := r20.1.1.2.1
  have hi55 := r20.1.1.2.2.1
  have hi56 := r20.1.1.2.2.2.1
  have hi57 := r20.1.1.2.2.2.2.1
  have hi58 := r20.1.1.2.2.2.2.2.1
  have hi59 := r20.1.1.2.2.2.2.2.2
  have hb42 := r20.1.2.1
  have hb43 := r20.1.2.2.1
  have hb44 := r20.1.2.2.2.1
  have hb45 := r20.1.2.2.2.2.1
  have hb46 := r20.1.2.2.2.2.2.1
  have hb47 := r20.1.2.2.2.2.2.2.1
  have hb48 := r20.1.2.2.2.2.2.2.2
  have r21 := r20.2
  clear r20
  have hb49 := r21.1
  have r22 := r21.2
  clear r21
  have hi60 := r22.1.1.1
  have hi61 := r22.1.1.2.1
  have hi62 := r22.1.1.2.2.1
  have hi63 := r22.1.1.2.2.2.1
  have hi64 := r22.1.1.2.2.2.2.1
  have hi65 := r22.1.1.2.2.2.2.2.1
  have hi66 := r22.1.1.2.2.2.2.2.2.1
  have hi67 := r22.1.1.2.2.2.2.2.2.2.1
  have hi68 := r22.1.1.2.2.2.2.2.2.2.2.1
  have hi69 := r22.1.1.2.2.2.2.2.2.2.2.2.1
  have hi70 := r22.1.1.2.2.2.2.2.2.2.2.2.2
  have hb50 := r22.1.2.1
  have hb51 := r22.1.2.2.1
  have hb52 := r22.1.2.2.2.1
  have hb53 := r22.1.2.2.2.2.1
  have hb54 := r22.1.2.2.2.2.2.1
  have hb55 := r22.1.2.2.2.2.2.2.1
  have hb56 := r22.1.2.2.2.2.2.2.2.1
  have hb57 := r22.1.2.2.2.2.2.2.2.2.1
  have hb58 := r22.1.2.2.2.2.2.2.2.2.2
  have r23 := r22.2
  clear r22
  have hi71 := r23.1.1.1
  have hi72 := r23.1.1.2.1
  have hi73 := r23.1.1.2.2.1
  have hi74 := r23.1.1.2.2.2.1
  have hi75 := r23.1.1.2.2.2.2.1
  have hi76 := r23.1.1.2.2.2.2.2
  have hb59 := r23.1.2.1
  have hb60 := r23.1.2.2.1
  have hb61 := r23.1.2.2.2
  have r24 := r23.2
  clear r23
  have hi77 := r24.1.1.1
  have hi78 := r24.1.1.2.1
  have hi79 := r24.1.1.2.2.1
  have hi80 := r24.1.1.2.2.2.1
  have hi81 := r24.1.1.2.2.2.2.1
  have hi82 := r24.1.1.2.2.2.2.2.1
  have hi83 := r24.1.1.2.2.2.2.2.2
  have hb62 := r24.1.2.1
  have hb63 := r24.1.2.2.1
  have hb64 := r24.1.2.2.2.1
  have hb65 := r24.1.2.2.2.2.1
  have hb66 := r24.1.2.2.2.2.2.1
  have hb67 := r24.1.2.2.2.2.2.2.1
  have hb68 := r24.1.2.2.2.2.2.2.2
  have r25 := r24.2
  clear r24
  have hb69 := r25.1
  have r26 := r25.2
  clear r25
  have hi84 := r26.1.1.1
  have hi85 := r26.1.1.2.1
  have hi86 := r26.1.1.2.2.1
  have hi87 := r26.1.1.2.2.2.1
  have hi88 := r26.1.1.2.2.2.2.1
  have hi89 := r26.1.1.2.2.2.2.2.1
  have hi90 := r26.1.1.2.2.2.2.2.2.1
  have hi91 := r26.1.1.2.2.2.2.2.2.2.1
  have hi92 := r26.1.1.2.2.2.2.2.2.2.2.1
  have hi93 := r26.1.1.2.2.2.2.2.2.2.2.2.1
  have hi94 := r26.1.1.2.2.2.2.2.2.2.2.2.2
  have hb70 := r26.1.2.1
  have hb71 := r26.1.2.2.1
  have hb72 := r26.1.2.2.2.1
  have hb73 := r26.1.2.2.2.2.1
  have hb74 := r26.1.2.2.2.2.2.1
  have hb75 := r26.1.2.2.2.2.2.2.1
  have hb76 := r26.1.2.2.2.2.2.2.2.1
  have hb77 := r26.1.2.2.2.2.2.2.2.2.1
  have hb78 := r26.1.2.2.2.2.2.2.2.2.2
  have r27 := r26.2
  clear r26
  have hi95 := r27.1.1.1
  have hi96 := r27.1.1.2.1
  have hi97 := r27.1.1.2.2.1
  have hi98 := r27.1.1.2.2.2.1
  have hi99 := r27.1.1.2.2.2.2.1
  have hi100 := r27.1.1.2.2.2.2.2
  have hb79 := r27.1.2.1
  have hb80 := r27.1.2.2.1
  have hb81 := r27.1.2.2.2
  have r28 := r27.2
  clear r27
  have hb82 := r28.1
  have r29 := r28.2
  clear r28
  have hi101 := r29.1.1.1
  have hi102 := r29.1.1.2.1
  have hi103 := r29.1.1.2.2.1
  have hi104 := r29.1.1.2.2.2.1
  have hi105 := r29.1.1.2.2.2.2.1
  have hi106 := r29.1.1.2.2.2.2.2.1
  have hi107 := r29.1.1.2.2.2.2.2.2.1
  have hi108 := r29.1.1.2.2.2.2.2.2.2.1
  have hi109 := r29.1.1.2.2.2.2.2.2.2.2.1
  have hi110 := r29.1.1.2.2.2.2.2.2.2.2.2.1
  have hi111 := r29.1.1.2.2.2.2.2.2.2.2.2.2
  have hb83 := r29.1.2.1
  have hb84 := r29.1.2.2.1
  have hb85 := r29.1.2.2.2.1
  have hb86 := r29.1.2.2.2.2.1
  have hb87 := r29.1.2.2.2.2.2.1
  have hb88 := r29.1.2.2.2.2.2.2.1
  have hb89 := r29.1.2.2.2.2.2.2.2.1
  have hb90 := r29.1.2.2.2.2.2.2.2.2.1
  have hb91 := r29.1.2.2.2.2.2.2.2.2.2.1
  have hb92 := r29.1.2.2.2.2.2.2.2.2.2.2
  have r30 := r29.2
  clear r29
  have hb93 := r30.1
  have r31 := r30.2
  clear r30
  have hb94 := r31.1
  have r32 := r31.2
  clear r31
  have hb95 := r32.1
  have r33 := r32.2
  clear r32
  have hb96 := r33.1
  have r34 := r33.2
  clear r33
  have hi112 := r34.1
  have r35 := r34.2
  clear r34
  have hi113 := r35.1
  have r36 := r35.2
  clear r35
  have hi114 := r36.1
  have r37 := r36.2
  clear r36
  have hb97 := r37.1
  have r38 := r37.2
  clear r37
  have hb98 := r38.1
  have r39 := r38.2
  clear r38
  have hi115 := r39.1
  have r40 := r39.2
  clear r39
  have hi116 := r40.1
  have r41 := r40.2
  clear r40
  have hi117 := r41.1
  have r42 := r41.2
  clear r41
  have hi118 := r42.1
  have r43 := r42.2
  clear r42
  have hi119 := r43.1
  have r44 := r43.2
  clear r43
  have hb99 := r44.1
  have r45 := r44.2
  clear r44
  have hb100 := r45.1
  have r46 := r45.2
  clear r45
  have hb101 := r46.1
  have r47 := r46.2
  clear r46
  have hi120 := r47.1
  have r48 := r47.2
  clear r47
  have hi121 := r48.1
  have r49 := r48.2
  clear r48
  have hi122 := r49.1
  have r50 := r49.2
  clear r49
  have hb102 := r50.1
  have r51 := r50.2
  clear r50
  have hb103 := r51.1
  have r52 := r51.2
  clear r51
  have hi123 := r52.1
  have r53 := r52.2
  clear r52
  have hi124 := r53.1
  have r54 := r53.2
  clear r53
  have hi125 := r54.1
  have r55 := r54.2
  clear r54
  have hb104 := r55.1
  have r56 := r55.2
  clear r55
  have hi126 := r56.1
  have r57 := r56.2
  clear r56
  have hi127 := r57.1
  have r58 := r57.2
  clear r57
  have hi128 := r58.1
  have r59 := r58.2
  clear r58
  have hb105 := r59.1
  have r60 := r59.2
  clear r59
  have hb106 := r60.1
  have r61 := r60.2
  clear r60
  have hb107 := r61.1
  have r62 := r61.2
  clear r61
  have hb108 := r62.1
  have r63 := r62.2
  clear r62
  have hi129 := r63.1
  have r64 := r63.2
  clear r63
  have hi130 := r64.1
  have r65 := r64.2
  clear r64
  have hi131 := r65.1
  have r66 := r65.2
  clear r65
  have hb109 := r66.1
  have r67 := r66.2
  clear r66
  have hb110 := r67.1
  have r68 := r67.2
  clear r67
  have hi132 := r68.1
  have r69 := r68.2
  clear r68
  have hi133 := r69.1
  have r70 := r69.2
  clear r69
  have hi134 := r70.1
  have r71 := r70.2
  clear r70
  have hi135 := r71.1
  have r72 := r71.2
  clear r71
  have hi136 := r72.1
  have r73 := r72.2
  clear r72
  have hb111 := r73.1
  have r74 := r73.2
  clear r73
  have hb112 := r74.1
  have r75 := r74.2
  clear r74
  have hb113 := r75.1
  have r76 := r75.2
  clear r75
  have hi137 := r76.1
  have r77 := r76.2
  clear r76
  have hi138 := r77.1
  have r78 := r77.2
  clear r77
  have hi139 := r78.1
  have r79 := r78.2
  clear r78
  have hb114 := r79.1
  have r80 := r79.2
  clear r79
  have hb115 := r80.1
  have r81 := r80.2
  clear r80
  have hb116 := r81.1
  have r82 := r81.2
  clear r81
  have hi140 := r82.1
  have r83 := r82.2
  clear r82
  have hi141 := r83.1
  have r84 := r83.2
  clear r83
  have hi142 := r84.1
  have r85 := r84.2
  clear r84
  have hb117 := r85.1
  have r86 := r85.2
  clear r85
  have hb118 := r86.1
  have r87 := r86.2
  clear r86
  have hi143 := r87.1
  have r88 := r87.2
  clear r87
  have hb119 := r88.1
  have r89 := r88.2
  clear r88
  have hi144 := r89.1
  have r90 := r89.2
  clear r89
  have hi145 := r90.1
  have r91 := r90.2
  clear r90
  have hi146 := r91.1
  have r92 := r91.2
  clear r91
  have hb120 := r92.1
  have r93 := r92.2
  clear r92
  have hb121 := r93.1
  have r94 := r93.2
  clear r93
  have hi147 := r94.1
  have r95 := r94.2
  clear r94
  have hi148 := r95.1
  have r96 := r95.2
  clear r95
  have hi149 := r96.1
  have r97 := r96.2
  clear r96
  have hb122 := r97.1
  have r98 := r97.2
  clear r97
  have hi150 := r98.1
  have r99 := r98.2
  clear r98
  have hi151 := r99.1
  have r100 := r99.2
  clear r99
  have hi152 := r100.1
  have r101 := r100.2
  clear r100
  have hb123 := r101.1
  have r102 := r101.2
  clear r101
  have hb124 := r102.1
  have r103 := r102.2
  clear r102
  have hb125 := r103.1
  have r104 := r103.2
  clear r103
  have hb126 := r104.1
  have r105 := r104.2
  clear r104
  have hi153 := r105.1
  have r106 := r105.2
  clear r105
  have hi154 := r106.1
  have r107 := r106.2
  clear r106
  have hi155 := r107.1
  have r108 := r107.2
  clear r107
  have hb127 := r108.1
  have r109 := r108.2
  clear r108
  have hb128 := r109.1
  have r110 := r109.2
  clear r109
  have hi156 := r110.1
  have r111 := r110.2
  clear r110
  have hi157 := r111.1
  have r112 := r111.2
  clear r111
  have hi158 := r112.1
  have r113 := r112.2
  clear r112
  have hi159 := r113.1
  have r114 := r113.2
  clear r113
  have hi160 := r114.1
  have r115 := r114.2
  clear r114
  have hb129 := r115.1
  have r116 := r115.2
  clear r115
  have hb130 := r116.1
  have r117 := r116.2
  clear r116
  have hb131 := r117.1
  have r118 := r117.2
  clear r117
  have hi161 := r118.1
  have r119 := r118.2
  clear r118
  have hi162 := r119.1
  have r120 := r119.2
  clear r119
  have hi163 := r120.1
  have r121 := r120.2
  clear r120
  have hb132 := r121.1
  have r122 := r121.2
  clear r121
  have hb133 := r122.1
  have r123 := r122.2
  clear r122
  have hb134 := r123.1
  have r124 := r123.2
  clear r123
  have hi164 := r124.1
  have r125 := r124.2
  clear r124
  have hi165 := r125.1
  have r126 := r125.2
  clear r125
  have hi166 := r126.1
  have r127 := r126.2
  clear r126
  have hb135 := r127.1
  have r128 := r127.2
  clear r127
  have hb136 := r128.1
  have r129 := r128.2
  clear r128
  have hi167 := r129.1
  have r130 := r129.2
  clear r129
  have hb137 := r130.1
  have r131 := r130.2
  clear r130
  have hi168 := r131.1
  have r132 := r131.2
  clear r131
  have hi169 := r132.1
  have r133 := r132.2
  clear r132
  have hi170 := r133.1
  have r134 := r133.2
  clear r133
  have hb138 := r134.1
  have r135 := r134.2
  clear r134
  have hb139 := r135.1
  have r136 := r135.2
  clear r135
  have hi171 := r136.1
  have r137 := r136.2
  clear r136
  have hi172 := r137.1
  have r138 := r137.2
  clear r137
  have hi173 := r138.1
  have r139 := r138.2
  clear r138
  have hb140 := r139.1
  have r140 := r139.2
  clear r139
  have hi174 := r140.1
  have r141 := r140.2
  clear r140
  have hi175 := r141.1
  have r142 := r141.2
  clear r141
  have hi176 := r142.1
  have r143 := r142.2
  clear r142
  have hb141 := r143.1
  have r144 := r143.2
  clear r143
  have hb142 := r144.1
  have r145 := r144.2
  clear r144
  have hb143 := r145.1
  have r146 := r145.2
  clear r145
  have hb144 := r146.1
  have r147 := r146.2
  clear r146
  have hi177 := r147.1
  have r148 := r147.2
  clear r147
  have hi178 := r148.1
  have r149 := r148.2
  clear r148
  have hi179 := r149.1
  have r150 := r149.2
  clear r149
  have hb145 := r150.1
  have r151 := r150.2
  clear r150
  have hb146 := r151.1
  have r152 := r151.2
  clear r151
  have hi180 := r152.1
  have r153 := r152.2
  clear r152
  have hi181 := r153.1
  have r154 := r153.2
  clear r153
  have hi182 := r154.1
  have r155 := r154.2
  clear r154
  have hi183 := r155.1
  have r156 := r155.2
  clear r155
  have hi184 := r156.1
  have r157 := r156.2
  clear r156
  have hb147 := r157.1
  have r158 := r157.2
  clear r157
  have hb148 := r158.1
  have r159 := r158.2
  clear r158
  have hb149 := r159.1
  have r160 := r159.2
  clear r159
  have hi185 := r160.1
  have r161 := r160.2
  clear r160
  have hi186 := r161.1
  have r162 := r161.2
  clear r161
  have hi187 := r162.1
  have r163 := r162.2
  clear r162
  have hi188 := r163.1
  have r164 := r163.2
  clear r163
  have hb150 := r164.1
  have r165 := r164.2
  clear r164
  have hi189 := r165.1.1
  have hb151 := r165.1.2
  have r166 := r165.2
  clear r165
  have hb152 := r166.1
  have r167 := r166.2
  clear r166
  have hb153 := r167.1
  have r168 := r167.2
  clear r167
  have hi190 := r168.1
  have r169 := r168.2
  clear r168
  have hb154 := r169.1
  have r170 := r169.2
  clear r169
  have hb155 := r170.1
  have r171 := r170.2
  clear r170
  have hi191 := r171.1
  have r172 := r171.2
  clear r171
  have hb156 := r172.1
  have r173 := r172.2
  clear r172
  have hb157 := r173.1
  have r174 := r173.2
  clear r173
  have hi192 := r174.1
  have r175 := r174.2
  clear r174
  have hb158 := r175.1
  have r176 := r175.2
  clear r175
  have hb159 := r176.1
  have r177 := r176.2
  clear r176
  have hb160 := r177.1
  have r178 := r177.2
  clear r177
  have hb161 := r178.1
  have r179 := r178.2
  clear r178
  have hb162 := r179
  have hv : 0 ≤ ρ.i 32 ∧ ρ.i 32 ≤ 255 := by rw [hi32, hi31]; clear hb18 hb19 hb20 hb21 hb22 hi27 hi28 hi29 hi30 hb23 hb24 hi31 hi32 hb25 hb26 hi33 hi34 hi35 hb27 hi36 hi37 hi38 hi39 hi40 hi41 hi42 hi43 hi44 hi45 hi46 hb28 hb29 hb30 hb31 hb32 hb33 hb34 hb35 hb36 hb37 hi47 hi48 hi49 hi50 hi51 hi52 hb38 hb39 hb40 hb41 hi53 hi54 hi55 hi56 hi57 hi58 hi59 hb42 hb43 hb44 hb45 hb46 hb47 hb48 hb49 hi60 hi61 hi62 hi63 hi64 hi65 hi66 hi67 hi68 hi69 hi70 hb50 hb51 hb52 hb53 hb54 hb55 hb56 hb57 hb58 hi71 hi72 hi73 hi74 hi75 hi76 hb59 hb60 hb61 hi77 hi78 hi79 hi80 hi81 hi82 hi83 hb62 hb63 hb64 hb65 hb66 hb67 hb68 hb69 hi84 hi85 hi86 hi87 hi88 hi89 hi90 hi91 hi92 hi93 hi94 hb70 hb71 hb72 hb73 hb74 hb75 hb76 hb77 hb78 hi95 hi96 hi97 hi98 hi99 hi100 hb79 hb80 hb81 hb82 hi101 hi102 hi103 hi104 hi105 hi106 hi107 hi108 hi109 hi110 hi111 hb83 hb84 hb85 hb86 hb87 hb88 hb89 hb90 hb91 hb92 hb93 hb94 hb95 hb96 hi112 hi113 hi114 hb97 hb98 hi115 hi116 hi117 hi118 hi119 hb99 hb100 hb101 hi120 hi121 hi122 hb102 hb103 hi123 hi124 hi125 hb104 hi126 hi127 hi128 hb105 hb106 hb107 hb108 hi129 hi130 hi131 hb109 hb110 hi132 hi133 hi134 hi135 hi136 hb111 hb112 hb113 hi137 hi138 hi139 hb114 hb115 hb116 hi140 hi141 hi142 hb117 hb118 hi143 hb119 hi144 hi145 hi146 hb120 hb121 hi147 hi148 hi149 hb122 hi150 hi151 hi152 hb123 hb124 hb125 hb126 hi153 hi154 hi155 hb127 hb128 hi156 hi157 hi158 hi159 hi160 hb129 hb130 hb131 hi161 hi162 hi163 hb132 hb133 hb134 hi164 hi165 hi166 hb135 hb136 hi167 hb137 hi168 hi169 hi170 hb138 hb139 hi171 hi172 hi173 hb140 hi174 hi175 hi176 hb141 hb142 hb143 hb144 hi177 hi178 hi179 hb145 hb146 hi180 hi181 hi182 hi183 hi184 hb147 hb148 hb149 hi185 hi186 hi187 hi188 hb150 hi189 hb151 hb152 hb153 hi190 hb154 hb155 hi191 hb156 hb157 hi192 hb158 hb159 hb160 hb161 hb162; omega
  clear hx
  have hw32 := k_32 p0 p1 p2 p3 p4 p5 p6 p7 p8 p9 p10 x0 x1 x2 x3 x4 x5 x6 x7 x8 (ρ.i 30) (ρ.i 32) (Pk_nn kP).1 (Pk_nn kP).2.1 (Pk_nn kP).2.2.1 (Pk_nn kP).2.2.2.1 (Pk_nn kP).2.2.2.2.1 (Pk_nn kP).2.2.2.2.2.1 (Pk_nn kP).2.2.2.2.2.2.1 (Pk_nn kP).2.2.2.2.2.2.2.1 (Pk_nn kP).2.2.2.2.2.2.2.2.1 (Pk_nn kP).2.2.2.2.2.2.2.2.2.1 (Pk_nn kP).2.2.2.2.2.2.2.2.2.2 hv (Pk_ok kP)
  obtain ⟨_, _, hw32, hk32⟩ := hw32
  obtain ⟨ai0, ai1, ai2, ai3, ai4, ai5, ai6, ai7, ai8, ai9, ai10, ab0, ab1, ab2, ab3, ab4, ab5, ab6, ab7, ab8, rfl, rfl, hq32⟩ := Pk_of hk32
  rw [show tabF T26 32 = F32 by rfl, hw32] at hi36 hi37 hi38 hi39 hi40 hi41 hi42 hi43 hi44 hi45 hi46 hb28 hb29 hb30 hb31 hb32 hb33 hb34 hb35 hb36 hb37
  simp only [List.getD_cons_zero, List.getD_cons_succ] at hi36 hi37 hi38 hi39 hi40 hi41 hi42 hi43 hi44 hi45 hi46 hb28 hb29 hb30 hb31 hb32 hb33 hb34 hb35 hb36 hb37
  have hw52 := k_52 t0 t1 t2 t3 t4 t5 y0 y1 y2 (ρ.i 30) (ρ.i 32) (Tk_nn kT).1 (Tk_nn kT).2.1 (Tk_nn kT).2.2.1 (Tk_nn kT).2.2.2.1 (Tk_nn kT).2.2.2.2.1 (Tk_nn kT).2.2.2.2.2 hv (Tk_ok kT)
  obtain ⟨_, _, hw52, hk52⟩ := hw52
  obtain ⟨di0, di1, di2, di3, di4, di5, db0, db1, db2, rfl, rfl, hq52⟩ := Tk_of hk52
  rw [show tabF T26 52 = F52 by rfl, hw52] at hi47 hi48 hi49 hi50 hi51 hi52 hb38 hb39 hb40 hb41
  simp only [List.getD_cons_zero, List.getD_cons_succ] at hi47 hi48 hi49 hi50 hi51 hi52 hb38 hb39 hb40 hb41
  have hw46 := k_46 n0 n1 n2 n3 n4 n5 n6 z0 z1 z2 z3 z4 z5 (ρ.i 30) (ρ.i 32) (Nk_nn kN).1 (Nk_nn kN).2.1 (Nk_nn kN).2.2.1 (Nk_nn kN).2.2.2.1 (Nk_nn kN).2.2.2.2.1 (Nk_nn kN).2.2.2.2.2.1 (Nk_nn kN).2.2.2.2.2.2 hv (Nk_ok kN)
  obtain ⟨_, _, hw46, hk46⟩ := hw46
  obtain ⟨fi0, fi1, fi2, fi3, fi4, fi5, fi6, fb0, fb1, fb2, fb3, fb4, fb5, rfl, rfl, hq46⟩ := Nk_of hk46
  rw [show tabF T26 46 = F46 by rfl, hw46] at hi53 hi54 hi55 hi56 hi57 hi58 hi59 hb42 hb43 hb44 hb45 hb46 hb47 hb48
  simp only [List.getD_cons_zero, List.getD_cons_succ] at hi53 hi54 hi55 hi56 hi57 hi58 hi59 hb42 hb43 hb44 hb45 hb46 hb47 hb48
  have hw60 := k_60 p0 p1 p2 p3 p4 p5 p6 p7 p8 p9 p10 x0 x1 x2 x3 x4 x5 x6 x7 x8  (Pk_nn kP).1 (Pk_nn kP).2.1 (Pk_nn kP).2.2.1 (Pk_nn kP).2.2.2.1 (Pk_nn kP).2.2.2.2.1 (Pk_nn kP).2.2.2.2.2.1 (Pk_nn kP).2.2.2.2.2.2.1 (Pk_nn kP).2.2.2.2.2.2.2.1 (Pk_nn kP).2.2.2.2.2.2.2.2.1 (Pk_nn kP).2.2.2.2.2.2.2.2.2.1 (Pk_nn kP).2.2.2.2.2.2.2.2.2.2 (Pk_ok kP)
  obtain ⟨_, _, hw60, hk60⟩ := hw60
  obtain ⟨bi0, bi1, bi2, bi3, bi4, bi5, bi6, bi7, bi8, bi9, bi10, bb0, bb1, bb2, bb3, bb4, bb5, bb6, bb7, bb8, rfl, rfl, hq60⟩ := Pk_of hk60
  rw [show tabF T26 60 = F60 by rfl, hw60] at hi60 hi61 hi62 hi63 hi64 hi65 hi66 hi67 hi68 hi69 hi70 hb50 hb51 hb52 hb53 hb54 hb55 hb56 hb57 hb58
  simp only [List.getD_cons_zero, List.getD_cons_succ] at hi60 hi61 hi62 hi63 hi64 hi65 hi66 hi67 hi68 hi69 hi70 hb50 hb51 hb52 hb53 hb54 hb55 hb56 hb57 hb58
  have hw54 := k_54 t0 t1 t2 t3 t4 t5 y0 y1 y2  (Tk_nn kT).1 (Tk_nn kT).2.1 (Tk_nn kT).2.2.1 (Tk_nn kT).2.2.2.1 (Tk_nn kT).2.2.2.2.1 (Tk_nn kT).2.2.2.2.2 (Tk_ok kT)
  obtain ⟨_, _, hw54, hk54⟩ := hw54
  obtain ⟨ei0, ei1, ei2, ei3, ei4, ei5, eb0, eb1, eb2, rfl, rfl, hq54⟩ := Tk_of hk54
  rw [show tabF T26 54 = F54 by rfl, hw54] at hi71 hi72 hi73 hi74 hi75 hi76 hb59 hb60 hb61
  simp only [List.getD_cons_zero, List.getD_cons_succ] at hi71 hi72 hi73 hi74 hi75 hi76 hb59 hb60 hb61
  have hw48 := k_48 n0 n1 n2 n3 n4 n5 n6 z0 z1 z2 z3 z4 z5  (Nk_nn kN).1 (Nk_nn kN).2.1 (Nk_nn kN).2.2.1 (Nk_nn kN).2.2.2.1 (Nk_nn kN).2.2.2.2.1 (Nk_nn kN).2.2.2.2.2.1 (Nk_nn kN).2.2.2.2.2.2 (Nk_ok kN)
  obtain ⟨_, _, hw48, hk48⟩ := hw48
  obtain ⟨gi0, gi1, gi2, gi3, gi4, gi5, gi6, gb0, gb1, gb2, gb3, gb4, gb5, rfl, rfl, hq48⟩ := Nk_of hk48
  rw [show tabF T26 48 = F48 by rfl, hw48] at hi77 hi78 hi79 hi80 hi81 hi82 hi83 hb62 hb63 hb64 hb65 hb66 hb67 hb68
  simp only [List.getD_cons_zero, List.getD_cons_succ] at hi77 hi78 hi79 hi80 hi81 hi82 hi83 hb62 hb63 hb64 hb65 hb66 hb67 hb68
  have hw63 := k_63 p0 p1 p2 p3 p4 p5 p6 p7 p8 p9 p10 x0 x1 x2 x3 x4 x5 x6 x7 x8  (Pk_nn kP).1 (Pk_nn kP).2.1 (Pk_nn kP).2.2.1 (Pk_nn kP).2.2.2.1 (Pk_nn kP).2.2.2.2.1 (Pk_nn kP).2.2.2.2.2.1 (Pk_nn kP).2.2.2.2.2.2.1 (Pk_nn kP).2.2.2.2.2.2.2.1 (Pk_nn kP).2.2.2.2.2.2.2.2.1 (Pk_nn kP).2.2.2.2.2.2.2.2.2.1 (Pk_nn kP).2.2.2.2.2.2.2.2.2.2 (Pk_ok kP)
  obtain ⟨_, _, hw63, hk63⟩ := hw63
  obtain ⟨ci0, ci1, ci2, ci3, ci4, ci5, ci6, ci7, ci8, ci9, ci10, cb0, cb1, cb2, cb3, cb4, cb5, cb6, cb7, cb8, rfl, rfl, hq63⟩ := Pk_of hk63
  rw [show tabF T26 63 = F63 by rfl, hw63] at hi84 hi85 hi86 hi87 hi88 hi89 hi90 hi91 hi92 hi93 hi94 hb70 hb71 hb72 hb73 hb74 hb75 hb76 hb77 hb78
  simp only [List.getD_cons_zero, List.getD_cons_succ] at hi84 hi85 hi86 hi87 hi88 hi89 hi90 hi91 hi92 hi93 hi94 hb70 hb71 hb72 hb73 hb74 hb75 hb76 hb77 hb78
  have hw56 := k_56 t0 t1 t2 t3 t4 t5 y0 y1 y2  (Tk_nn kT).1 (Tk_nn kT).2.1 (Tk_nn kT).2.2.1 (Tk_nn kT).2.2.2.1 (Tk_nn kT).2.2.2.2.1 (Tk_nn kT).2.2.2.2.2 (Tk_ok kT)
  obtain ⟨_, _, hw56, hk56⟩ := hw56
  obtain ⟨ki0, ki1, ki2, ki3, ki4, ki5, kb0, kb1, kb2, rfl, rfl, hq56⟩ := Tk_of hk56
  rw [show tabF T26 56 = F56 by rfl, hw56] at hi95 hi96 hi97 hi98 hi99 hi100 hb79 hb80 hb81
  simp only [List.getD_cons_zero, List.getD_cons_succ] at hi95 hi96 hi97 hi98 hi99 hi100 hb79 hb80 hb81
  have hw35 := k_35 p0 p1 p2 p3 p4 p5 p6 p7 p8 p9 p10 x0 x1 x2 x3 x4 x5 x6 x7 x8  (Pk_nn kP).1 (Pk_nn kP).2.1 (Pk_nn kP).2.2.1 (Pk_nn kP).2.2.2.1 (Pk_nn kP).2.2.2.2.1 (Pk_nn kP).2.2.2.2.2.1 (Pk_nn kP).2.2.2.2.2.2.1 (Pk_nn kP).2.2.2.2.2.2.2.1 (Pk_nn kP).2.2.2.2.2.2.2.2.1 (Pk_nn kP).2.2.2.2.2.2.2.2.2.1 (Pk_nn kP).2.2.2.2.2.2.2.2.2.2 (Pk_ok kP)
  obtain ⟨_, _, hw35, hk35⟩ := hw35
  obtain ⟨mi0, mi1, mi2, mi3, mi4, mi5, mi6, mi7, mi8, mi9, mi10, mb0, mb1, mb2, mb3, mb4, mb5, mb6, mb7, mb8, rfl, rfl, hq35⟩ := Pk_of hk35
  rw [show tabF T26 35 = F35 by rfl, hw35] at hi101 hi102 hi103 hi104 hi105 hi106 hi107 hi108 hi109 hi110 hi111 hb83 hb84 hb85 hb86 hb87 hb88 hb89 hb90 hb91 hb92
  simp only [List.getD_cons_zero, List.getD_cons_succ] at hi101 hi102 hi103 hi104 hi105 hi106 hi107 hi108 hi109 hi110 hi111 hb83 hb84 hb85 hb86 hb87 hb88 hb89 hb90 hb91 hb92
  have r_P_36 : Pk (ρ.i 36) (ρ.i 37) (ρ.i 38) (ρ.i 39) (ρ.i 40) (ρ.i 41) (ρ.i 42) (ρ.i 43) (ρ.i 44) (ρ.i 45) (ρ.i 46) := by rw [hi36, hi37, hi38, hi39, hi40, hi41, hi42, hi43, hi44, hi45, hi46]; exact hq32
  have r_P_60 : Pk (ρ.i 60) (ρ.i 61) (ρ.i 62) (ρ.i 63) (ρ.i 64) (ρ.i 65) (ρ.i 66) (ρ.i 67) (ρ.i 68) (ρ.i 69) (ρ.i 70) := by rw [hi60, hi61, hi62, hi63, hi64, hi65, hi66, hi67, hi68, hi69, hi70]; exact hq60
  have r_P_84 : Pk (ρ.i 84) (ρ.i 85) (ρ.i 86) (ρ.i 87) (ρ.i 88) (ρ.i 89) (ρ.i 90) (ρ.i 91) (ρ.i 92) (ρ.i 93) (ρ.i 94) := by rw [hi84, hi85, hi86, hi87, hi88, hi89, hi90, hi91, hi92, hi93, hi94]; exact hq63
  have r_P_101 : Pk (ρ.i 101) (ρ.i 102) (ρ.i 103) (ρ.i 104) (ρ.i 105) (ρ.i 106) (ρ.i 107) (ρ.i 108) (ρ.i 109) (ρ.i 110) (ρ.i 111) := by rw [hi101, hi102, hi103, hi104, hi105, hi106, hi107, hi108, hi109, hi110, hi111]; exact hq35
  have r_P_112 : Pk (ρ.i 112) (ρ.i 113) (ρ.i 114) (ρ.i 115) (ρ.i 116) (ρ.i 117) (ρ.i 118) (ρ.i 119) (ρ.i 120) (ρ.i 121) (ρ.i 122) := by rw [hi112, hi113, hi114, hi115, hi116, hi117, hi118, hi119, hi120, hi121, hi122]; exact Pk_ite r_P_101 kP
  have r_P_129 : Pk (ρ.i 129) (ρ.i 130) (ρ.i 131) (ρ.i 132) (ρ.i 133) (ρ.i 134) (ρ.i 135) (ρ.i 136) (ρ.i 137) (ρ.i 138) (ρ.i 139) := by rw [hi129, hi130, hi131, hi132, hi133, hi134, hi135, hi136, hi137, hi138, hi139]; exact Pk_ite r_P_84 r_P_112
  have r_P_153 : Pk (ρ.i 153) (ρ.i 154) (ρ.i 155) (ρ.i 156) (ρ.i 157) (ρ.i 158) (ρ.i 159) (ρ.i 160) (ρ.i 161) (ρ.i 162) (ρ.i 163) := by rw [hi153, hi154, hi155, hi156, hi157, hi158, hi159, hi160, hi161, hi162, hi163]; exact Pk_ite r_P_60 r_P_129
  have r_P_177 : Pk (ρ.i 177) (ρ.i 178) (ρ.i 179) (ρ.i 180) (ρ.i 181) (ρ.i 182) (ρ.i 183) (ρ.i 184) (ρ.i 185) (ρ.i 186) (ρ.i 187) := by rw [hi177, hi178, hi179, hi180, hi181, hi182, hi183, hi184, hi185, hi186, hi187]; exact Pk_ite r_P_36 r_P_153
  have r_T_47 : Tk (ρ.i 47) (ρ.i 48) (ρ.i 49) (ρ.i 50) (ρ.i 51) (ρ.i 52) := by rw [hi47, hi48, hi49, hi50, hi51, hi52]; exact hq52
  have r_T_71 : Tk (ρ.i 71) (ρ.i 72) (ρ.i 73) (ρ.i 74) (ρ.i 75) (ρ.i 76) := by rw [hi71, hi72, hi73, hi74, hi75, hi76]; exact hq54
  have r_T_95 : Tk (ρ.i 95) (ρ.i 96) (ρ.i 97) (ρ.i 98) (ρ.i 99) (ρ.i 100) := by rw [hi95, hi96, hi97, hi98, hi99, hi100]; exact hq56
  have r_T_123 : Tk (ρ.i 123) (ρ.i 124) (ρ.i 125) (ρ.i 126) (ρ.i 127) (ρ.i 128) := by rw [hi123, hi124, hi125, hi126, hi127, hi128]; exact Tk_ite r_T_95 kT
  have r_T_147 : Tk (ρ.i 147) (ρ.i 148) (ρ.i 149) (ρ.i 150) (ρ.i 151) (ρ.i 152) := by rw [hi147, hi148, hi149, hi150, hi151, hi152]; exact Tk_ite r_T_71 r_T_123
  have r_T_171 : Tk (ρ.i 171) (ρ.i 172) (ρ.i 173) (ρ.i 174) (ρ.i 175) (ρ.i 176) := by rw [hi171, hi172, hi173, hi174, hi175, hi176]; exact Tk_ite r_T_47 r_T_147
  have r_N_53 : Nk (ρ.i 53) (ρ.i 54) (ρ.i 55) (ρ.i 56) (ρ.i 57) (ρ.i 58) (ρ.i 59) := by rw [hi53, hi54, hi55, hi56, hi57, hi58, hi59]; exact hq46
  have r_N_77 : Nk (ρ.i 77) (ρ.i 78) (ρ.i 79) (ρ.i 80) (ρ.i 81) (ρ.i 82) (ρ.i 83) := by rw [hi77, hi78, hi79, hi80, hi81, hi82, hi83]; exact hq48
  have r_N_140 : Nk (ρ.i 140) (ρ.i 141) (ρ.i 142) (ρ.i 143) (ρ.i 144) (ρ.i 145) (ρ.i 146) := by rw [hi140, hi141, hi142, hi143, hi144, hi145, hi146]; exact Nk_ite r_N_77 kN
  have r_N_164 : Nk (ρ.i 164) (ρ.i 165) (ρ.i 166) (ρ.i 167) (ρ.i 168) (ρ.i 169) (ρ.i 170) := by rw [hi164, hi165, hi166, hi167, hi168, hi169, hi170]; exact Nk_ite r_N_53 r_N_140
  have wP := r_P_177
  unfold Pk at wP
  have wT := r_T_171
  unfold Tk at wT
  have wN := r_N_164
  unfold Nk at wN
  rw [show tabF T26 30 = F30 by rfl, v30 (h23 := by clear hb18 hb19 hb20 hb21 hb22 hi27 hi28 hi29 hi30 hb23 hb24 hi31 hi32 hb25 hb26 hi33 hi34 hi35 hb27 hi36 hi37 hi38 hi39 hi40 hi41 hi42 hi43 hi44 hi45 hi46 hb28 hb29 hb30 hb31 hb32 hb33 hb34 hb35 hb36 hb37 hi47 hi48 hi49 hi50 hi51 hi52 hb38 hb39 hb40 hb41 hi53 hi54 hi55 hi56 hi57 hi58 hi59 hb42 hb43 hb44 hb45 hb46 hb47 hb48 hb49 hi60 hi61 hi62 hi63 hi64 hi65 hi66 hi67 hi68 hi69 hi70 hb50 hb51 hb52 hb53 hb54 hb55 hb56 hb57 hb58 hi71 hi72 hi73 hi74 hi75 hi76 hb59 hb60 hb61 hi77 hi78 hi79 hi80 hi81 hi82 hi83 hb62 hb63 hb64 hb65 hb66 hb67 hb68 hb69 hi84 hi85 hi86 hi87 hi88 hi89 hi90 hi91 hi92 hi93 hi94 hb70 hb71 hb72 hb73 hb74 hb75 hb76 hb77 hb78 hi95 hi96 hi97 hi98 hi99 hi100 hb79 hb80 hb81 hb82 hi101 hi102 hi103 hi104 hi105 hi106 hi107 hi108 hi109 hi110 hi111 hb83 hb84 hb85 hb86 hb87 hb88 hb89 hb90 hb91 hb92 hb93 hb94 hb95 hb96 hi112 hi113 hi114 hb97 hb98 hi115 hi116 hi117 hi118 hi119 hb99 hb100 hb101 hi120 hi121 hi122 hb102 hb103 hi123 hi124 hi125 hb104 hi126 hi127 hi128 hb105 hb106 hb107 hb108 hi129 hi130 hi131 hb109 hb110 hi132 hi133 hi134 hi135 hi136 hb111 hb112 hb113 hi137 hi138 hi139 hb114 hb115 hb116 hi140 hi141 hi142 hb117 hb118 hi143 hb119 hi144 hi145 hi146 hb120 hb121 hi147 hi148 hi149 hb122 hi150 hi151 hi152 hb123 hb124 hb125 hb126 hi153 hi154 hi155 hb127 hb128 hi156 hi157 hi158 hi159 hi160 hb129 hb130 hb131 hi161 hi162 hi163 hb132 hb133 hb134 hi164 hi165 hi166 hb135 hb136 hi167 hb137 hi168 hi169 hi170 hb138 hb139 hi171 hi172 hi173 hb140 hi174 hi175 hi176 hb141 hb142 hb143 hb144 hi177 hi178 hi179 hb145 hb146 hi180 hi181 hi182 hi183 hi184 hb147 hb148 hb149 hi185 hi186 hi187 hi188 hb150 hi189 hb151 hb152 hb153 hi190 hb154 hb155 hi191 hb156 hb157 hi192 hb158 hb159 hb160 hb161 hb162; omega), Pk_ok r_P_177, Tk_ok r_T_171, Nk_ok r_N_164] at hi188
  have t150 : ρ.b 150 = false := by rw [hb150, hi188]; rfl
  obtain ⟨s1, hs1, ks1⟩ := s_36 _ _ _ _ _ _ _ _ _ _ _ (ρ.b 141) (ρ.b 142) (ρ.b 143) (ρ.b 144) (ρ.b 145) (ρ.b 146) (ρ.b 147) (ρ.b 148) (ρ.b 149) (Pk_nn r_P_177).1 (Pk_nn r_P_177).2.1 (Pk_nn r_P_177).2.2.1 (Pk_nn r_P_177).2.2.2.1 (Pk_nn r_P_177).2.2.2.2.1 (Pk_nn r_P_177).2.2.2.2.2.1 (Pk_nn r_P_177).2.2.2.2.2.2.1 (Pk_nn r_P_177).2.2.2.2.2.2.2.1 (Pk_nn r_P_177).2.2.2.2.2.2.2.2.1 (Pk_nn r_P_177).2.2.2.2.2.2.2.2.2.1 (Pk_nn r_P_177).2.2.2.2.2.2.2.2.2.2 (Pk_ok r_P_177)
  rw [show tabF T26 36 = F36 by rfl, hs1] at hi189 hb151
  obtain ⟨s2, hs2, ks2⟩ := s_58 _ _ _ _ _ _ (ρ.b 138) (ρ.b 139) (ρ.b 140) (Tk_nn r_T_171).1 (Tk_nn r_T_171).2.1 (Tk_nn r_T_171).2.2.1 (Tk_nn r_T_171).2.2.2.1 (Tk_nn r_T_171).2.2.2.2.1 (Tk_nn r_T_171).2.2.2.2.2 (Tk_ok r_T_171)
  rw [show tabF T26 58 = F58 by rfl, hs2] at hi190
  obtain ⟨s3, hs3, ks3⟩ := s_50 _ _ _ _ _ _ _ (ρ.b 132) (ρ.b 133) (ρ.b 134) (ρ.b 135) (ρ.b 136) (ρ.b 137) (Nk_nn r_N_164).1 (Nk_nn r_N_164).2.1 (Nk_nn r_N_164).2.2.1 (Nk_nn r_N_164).2.2.2.1 (Nk_nn r_N_164).2.2.2.2.1 (Nk_nn r_N_164).2.2.2.2.2.1 (Nk_nn r_N_164).2.2.2.2.2.2 (Nk_ok r_N_164)
  rw [show tabF T26 50 = F50 by rfl, hs3] at hi191
  simp only [List.getD_cons_zero] at hi189 hb151 hi190 hi191
  have t152 : ρ.b 152 = false := by rw [hb152, hi189]; exact decide_eq_false (by omega)
  have t154 : ρ.b 154 = false := by rw [hb154, hi190]; exact decide_eq_false (by omega)
  have t156 : ρ.b 156 = false := by rw [hb156, hi191]; exact decide_eq_false (by omega)
  have t157 : ρ.b 157 = false := by rw [hb157, hb155, hb153, t150, t152, t154, t156]; rfl
  have t192 : ρ.i 192 = i + 1 := by rw [hi192, wrap_i64_in (by omega) (by omega)]
  have t159 : ρ.b 159 = true := by rw [hb159, t157]; rfl
  have t160 : ρ.b 160 = ρ.b 20 := by rw [hb160, t159, Bool.and_true]
  have t161 : ρ.b 161 = false := by rw [hb161, t157, Bool.and_false]
  have t21 : ρ.b 21 = true := by rw [hb21]; exact decide_eq_true h1
  have t23 : ρ.b 23 = true := by rw [hb23]; exact decide_eq_true h1
  have t25 : ρ.b 25 = true := by rw [hb25]; exact decide_eq_true h1
  refine ⟨_, _, List.cons_eq_cons.2 ⟨?_, rfl⟩, fun hc => ?_, fun hc => ⟨⟨i + 1, ρ.i 177, ρ.i 178, ρ.i 179, ρ.i 180, ρ.i 181, ρ.i 182, ρ.i 183, ρ.i 184, ρ.i 185, ρ.i 186, ρ.i 187, ρ.i 171, ρ.i 172, ρ.i 173, ρ.i 174, ρ.i 175, ρ.i 176, ρ.i 164, ρ.i 165, ρ.i 166, ρ.i 167, ρ.i 168, ρ.i 169, ρ.i 170, ρ.b 141, ρ.b 142, ρ.b 143, ρ.b 144, ρ.b 145, ρ.b 146, ρ.b 147, ρ.b 148, ρ.b 149, ρ.b 138, ρ.b 139, ρ.b 140, ρ.b 132, ρ.b 133, ρ.b 134, ρ.b 135, ρ.b 136, ρ.b 137, ?_, ?_, by omega, ?_, r_P_177, r_T_171, r_N_164⟩, ?_⟩⟩
  · cases h20 : ρ.b 20
    · simp
    · have h18 : ρ.b 18 = true := by
        rw [hb20] at h20
        simp only [Bool.and_eq_true] at h20
        exact h20.1
      have t22 : ρ.b 22 = true := by rw [hb22, ← hb18]; exact h18
      have t24 : ρ.b 24 = true := by rw [hb24, ← hb18]; exact h18
      have t26 : ρ.b 26 = true := by rw [hb26, ← hb18]; exact h18
      simp [t21, t22, t23, t24, t25, t26, hb151, hb28, hb38, hb42, hb62, hb83]
  · rw [t160] at hc
    have t162 : ρ.b 162 = true := by rw [hb162, hc]; rfl
    simp [t161, t162]
  · simp only [List.take_succ_cons, List.take_zero, t192]
  · simp only [List.take_succ_cons, List.take_zero]
  · rw [t160, hb20] at hc
    simp only [Bool.and_eq_true] at hc
    have := hc.2
    rw [hb19] at this
    simp only [decide_eq_true_eq] at this
    omega
  · rw [t160, hb20] at hc
    simp only [Bool.and_eq_true] at hc
    have := hc.2
    rw [hb19] at this
    simp only [decide_eq_true_eq] at this
    simp [t192]
    omega
theorem stays (q n i0 i1 i2 i3 i4 i5 i6 i7 i8 i9 i10 i11 i12 i13 i14 i15 i16 i17 i18 i19 i20 i21 i22 i23 i24 i25 : Int) (b0 b1 b2 b3 b4 b5 b6 b7 b8 b9 b10 b11 b12 b13 b14 b15 b16 b17 : Bool) (hq : slRng [.int .u16] q n) (h0 : 0 ≤ i0) (h1 : 0 ≤ i1) (h2 : 0 ≤ i2) (h3 : 0 ≤ i3) (h4 : 0 ≤ i4) (h5 : 0 ≤ i5) (h6 : 0 ≤ i6) (h7 : 0 ≤ i7) (h8 : 0 ≤ i8) (h9 : 0 ≤ i9) (h10 : 0 ≤ i10) (h11 : 0 ≤ i11) (h12 : 0 ≤ i12) (h13 : 0 ≤ i13) (h14 : 0 ≤ i14) (h15 : 0 ≤ i15) (h16 : 0 ≤ i16) (h17 : 0 ≤ i17) (h18 : 0 ≤ i18) (h19 : 0 ≤ i19) (h20 : 0 ≤ i20) (h21 : 0 ≤ i21) (h22 : 0 ≤ i22) (h23 : 0 ≤ i23) :
    F14 [i0, i1, i2, i3, i4, i5, i6, i7, i8, i9, i10, i11, i12, i13, i14, i15, i16, i17, i18, i19, i20, i21, i22, i23, i24, i25, q, n] [b0, b1, b2, b3, b4, b5, b6, b7, b8, b9, b10, b11, b12, b13, b14, b15, b16, b17] = ([], [true, true]) := by
  unfold F14
  obtain ⟨ρ, e1, e2, e3, e4⟩ := Smry.run_specT (Φ := lpF (l14.map (·.2)) (tabF T26)) (S := S14) (is := [i0, i1, i2, i3, i4, i5, i6, i7, i8, i9, i10, i11, i12, i13, i14, i15, i16, i17, i18, i19, i20, i21, i22, i23, i24, i25, q, n]) (bs := [b0, b1, b2, b3, b4, b5, b6, b7, b8, b9, b10, b11, b12, b13, b14, b15, b16, b17]) rfl
  rw [e1, obAll_eq]
  clear e1
  simp only [S14, obs, Gd.d_cons, Gd.d_nil, eqns, Em.eqn, headsI, headsB, RI.d, RB.d, A.d, B.d, cm_eql, cm_neq, cm_lss, cm_leq, cm_gtr, cm_geq, List.map_cons, List.map_nil, and_true, Nat.zero_add, Nat.reduceAdd, ltn, upto, true_and, Nat.add_zero, List.getD_cons_zero, List.getD_cons_succ, add8, sub8, add16, sub16, mul16, wrap_u8, wrap_u16, and8_1, and8_7, and8_8, and8_15, and8_16, and8_31, and8_32, and8_64, and8_127, and8_128, and16_1, and16_255, and16_1792, shr8_1, shr8_3, shr8_4, shr8_6, shr16_1, shr16_6, shr16_8, shl16_8, shl16_14] at e2 e3 e4 ⊢
  simp only [e2, e3] at e4 ⊢
  obtain ⟨hi28, hb18, ⟨hb19, hb20⟩, ⟨hb21, hb22, hb23⟩, ⟨hb24, hb25⟩, hb26, hb27, hb28⟩ := e4
  rw [show lpF (l14.map (·.2)) (tabF T26) 30 = F30 by rfl, v30 (h23 := h23)] at hi28
  rw [show lpF (l14.map (·.2)) (tabF T26) 31 = F31 by rfl, awake31] at hb19 hb20 hb24 hb25
  rw [show lpF (l14.map (·.2)) (tabF T26) 101400 = loopF (L101400.S.run (tabF T26) true) 27 18 by rfl] at hb21 hb22 hb23
  simp only [List.getD_cons_zero, List.getD_cons_succ] at hi28 hb19 hb20 hb24 hb25
  cases hm : (okP i0 i1 i2 i4 i5 i6 i7 i8 i9 i10 && okT i12 i13 i14 i15 i16 && okN i17 i18 i19 i21 i22 i23)
  · have t28 : ρ.i 28 = 1 := by rw [hi28, hm]; rfl
    have t18 : ρ.b 18 = true := by rw [hb18, t28]; rfl
    have t27 : ρ.b 27 = false := by rw [hb27, t18]; rfl
    simp [t18, t27, hb28, hb19, hb20]
  · have t28 : ρ.i 28 = 0 := by rw [hi28, hm]; rfl
    have t18 : ρ.b 18 = false := by rw [hb18, t28]; rfl
    have t27 : ρ.b 27 = true := by rw [hb27, t18]; rfl
    simp only [okP, okT, okN, okE, Bool.and_eq_true, decide_eq_true_eq] at hm
    obtain ⟨o, ho, hpost⟩ := loop_rule (F := L101400.S.run (tabF T26) true) (nI := 27) (nB := 18) (InvS q n) (fun is _ => (100 - is.getD 2 0).toNat) (fun p => p = ([], [false, true])) (stepS q n hq)
      [q, n, 0, i0, i1, i2, i3, i4, i5, i6, i7, i8, i9, i10, i11, i12, i13, i14, i15, i16, i17, i18, i19, i20, i21, i22, i23] [b0, b1, b2, b3, b4, b5, b6, b7, b8, b9, b10, b11, b12, b13, b14, b15, b16, b17]
      ⟨0, i0, i1, i2, i3, i4, i5, i6, i7, i8, i9, i10, i11, i12, i13, i14, i15, i16, i17, i18, i19, i20, i21, i22, i23, b0, b1, b2, b3, b4, b5, b6, b7, b8, b9, b10, b11, b12, b13, b14, b15, b16, b17, rfl, rfl, by omega, by omega, by unfold Pk; omega, by unfold Tk; omega, by unfold Nk; omega⟩
    subst hpost
    rw [ho] at hb21 hb22 hb23
    simp only [List.getD_cons_zero, List.getD_cons_succ] at hb21 hb22 hb23
    simp [t18, t27, hb21, hb22, hb23, hb24, hb25, hb26, hb28]
end Go.Proofs.YtoempcgniokpiaaDoor.Tc
