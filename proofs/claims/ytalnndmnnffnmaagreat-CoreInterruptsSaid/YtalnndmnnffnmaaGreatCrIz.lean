/-
  CoreInterrupts: what is always so; the runs; the law. WRITTEN BY PROGRAM (wip/gen/crcj.py). No condition.
-/
import Derived.Test.YtalnndmnnffnmaaGreatCrIa
import Derived.Test.YtalnndmnnffnmaaGreatSxAr
set_option linter.unusedVariables false
set_option linter.unusedSimpArgs false
namespace Go.Proofs.YtalnndmnnffnmaaGreat.Cr
open Go Go.Proofs Go.Proofs.YtalnndmnnffnmaaGreat.Sx

structure Rng (ρ : Env) : Prop where
  s : 0 ≤ ρ.i 3 ∧ ρ.i 3 ≤ 255
  v : 0 ≤ ρ.i 13 ∧ ρ.i 13 ≤ 255
  pc : 0 ≤ ρ.i 6 ∧ ρ.i 6 ≤ 65535
  p : 0 ≤ ρ.i 17 ∧ ρ.i 17 ≤ 255
def AlOk (q : Ex × Bool) : Prop := ∀ ρ, Rng ρ → (q.1.d ρ).2 = q.2
theorem sub8w (x y : Int) : arI .sub .u8 x y = (x - y) % 256 := sub8 x y
theorem w16m {n : Int} (h : 0 ≤ n) (h' : n ≤ 65535) : IntKind.wrap .u16 n = n := by rw [wrap_u16]; omega
theorem fin1 {v : Int} (h0 : 0 ≤ v) (h1 : v ≤ 255) : arI .or .u16 (IntKind.wrap .u16 v) (arI .shl .u16 (IntKind.wrap .u16 v) 8) = arI .mul .u16 (IntKind.wrap .u16 v) 257 := by
  have h2 : allR (fun n => decide (arI .or .u16 (IntKind.wrap .u16 (n : Int)) (arI .shl .u16 (IntKind.wrap .u16 (n : Int)) 8) = arI .mul .u16 (IntKind.wrap .u16 (n : Int)) 257)) 8 0 = true := by kernel_rfl
  have h3 := of_decide_eq_true (allR_spec h2 v.toNat (Nat.zero_le _) (by omega))
  rw [show ((v.toNat : Nat) : Int) = v by omega] at h3
  exact h3
theorem fin2 {v : Int} (h0 : 0 ≤ v) (h1 : v ≤ 255) : 0 < arI .and .u8 (arI .or .u8 (arI .andNot .u8 v 4) 4) 4 := by
  have h2 : allR (fun n => decide (0 < arI .and .u8 (arI .or .u8 (arI .andNot .u8 (n : Int) 4) 4) 4)) 8 0 = true := by kernel_rfl
  have h3 := of_decide_eq_true (allR_spec h2 v.toNat (Nat.zero_le _) (by omega))
  rw [show ((v.toNat : Nat) : Int) = v by omega] at h3
  exact h3
def al0 : Ex × Bool := (.cm .neq (.ar .add .u16 (.ik 256) (.cv .u16 (.iv 3))) (.ar .add .u16 (.ik 256) (.cv .u16 (.ar .sub .u8 (.iv 3) (.ik 0)))), false)
theorem al0_ok : AlOk al0 := by
  intro ρ h
  have h1 := h.s
  simp only [al0, Ex.d, cm_neq, add8, sub8, add16, wrap_u16]
  rw [bne_eq_false_iff_eq]
  omega
def al1 : Ex × Bool := (.cm .neq (.ar .add .u16 (.ik 256) (.cv .u16 (.ar .add .u8 (.iv 3) (.ik 255)))) (.ar .add .u16 (.ik 256) (.cv .u16 (.ar .sub .u8 (.iv 3) (.ik 1)))), false)
theorem al1_ok : AlOk al1 := by
  intro ρ h
  have h1 := h.s
  simp only [al1, Ex.d, cm_neq, add8, sub8, add16, wrap_u16]
  rw [bne_eq_false_iff_eq]
  omega
def al2 : Ex × Bool := (.cm .neq (.ar .add .u16 (.ik 256) (.cv .u16 (.ar .add .u8 (.ar .add .u8 (.iv 3) (.ik 255)) (.ik 255)))) (.ar .add .u16 (.ik 256) (.cv .u16 (.ar .sub .u8 (.iv 3) (.ik 2)))), false)
theorem al2_ok : AlOk al2 := by
  intro ρ h
  have h1 := h.s
  simp only [al2, Ex.d, cm_neq, add8, sub8, add16, wrap_u16]
  rw [bne_eq_false_iff_eq]
  omega
def al3 : Ex × Bool := (.cm .eql (.cv .u8 (.ar .shr .u16 (.ar .add .u16 (.iv 6) (.ik 1)) (.ik 8))) (.cv .u8 (.ar .quo .u16 (.ar .add .u16 (.iv 6) (.ik 1)) (.ik 256))), true)
theorem al3_ok : AlOk al3 := by
  intro ρ h
  have h1 := h.pc
  simp only [al3, Ex.d, cm_eql]
  rw [show arI .shr .u16 (arI .add .u16 (ρ.i 6) 1) 8 = arI .add .u16 (ρ.i 6) 1 / 256 from shr16_8 _]
  rw [show arI .quo .u16 (arI .add .u16 (ρ.i 6) 1) 256 = arI .add .u16 (ρ.i 6) 1 / 256 by
    show IntKind.wrap .u16 ((arI .add .u16 (ρ.i 6) 1).tdiv 256) = _
    rw [add16, Int.tdiv_eq_ediv_of_nonneg (by omega), wrap_u16]; omega]
  exact beq_self_eq_true _
def al4 : Ex × Bool := (.cm .eql (.cv .u8 (.ar .add .u16 (.iv 6) (.ik 1))) (.cv .u8 (.ar .rem .u16 (.ar .add .u16 (.iv 6) (.ik 1)) (.ik 256))), true)
theorem al4_ok : AlOk al4 := by
  intro ρ h
  have h1 := h.pc
  simp only [al4, Ex.d, cm_eql]
  rw [rem_nn (by rw [add16]; omega), wrap_u8, wrap_u8]
  rw [beq_iff_eq]
  omega
def al5 : Ex × Bool := (.cm .eql (.ar .or .u8 (.iv 17) (.ik 32)) (.ar .or .u8 (.iv 17) (.ik 32)), true)
theorem al5_ok : AlOk al5 := by
  intro ρ h
  simp only [al5, Ex.d, cm_eql]
  exact beq_self_eq_true _
def al6 : Ex × Bool := (.and (.not (.cm .neq (.ar .add .u16 (.iv 6) (.ik 1)) (.ar .add .u16 (.iv 6) (.ik 1)))) (.and (.cm .eql (.ar .or .u16 (.cv .u16 (.iv 13)) (.ar .shl .u16 (.cv .u16 (.iv 13)) (.ik 8))) (.ar .mul .u16 (.cv .u16 (.iv 13)) (.ik 257))) (.cm .gtr (.ar .and .u8 (.ar .or .u8 (.ar .andNot .u8 (.iv 17) (.ik 4)) (.ik 4)) (.ik 4)) (.ik 0))), true)
theorem al6_ok : AlOk al6 := by
  intro ρ h
  simp only [al6, Ex.d, cm_eql, cm_neq, cm_gtr, bne_self_eq_false, Bool.not_false, Bool.true_and]
  rw [fin1 h.v.1 h.v.2, Bool.and_eq_true]
  exact ⟨beq_self_eq_true _, decide_eq_true (fin2 h.p.1 h.p.2)⟩
def al7 : Ex × Bool := (.not (.cm .neq (.ar .add .u16 (.iv 6) (.ik 1)) (.ar .add .u16 (.iv 6) (.ik 1))), true)
theorem al7_ok : AlOk al7 := by
  intro ρ h
  simp only [al7, Ex.d, cm_neq, bne_self_eq_false, Bool.not_false]
def al8 : Ex × Bool := (.cm .neq (.ar .add .u16 (.iv 6) (.ik 1)) (.ar .add .u16 (.iv 6) (.ik 1)), false)
theorem al8_ok : AlOk al8 := by
  intro ρ h
  simp only [al8, Ex.d, cm_neq, bne_self_eq_false]
def als : List (Ex × Bool) := [al0, al1, al2, al3, al4, al5, al6, al7, al8]
theorem fcons {α : Type} {p : α → Prop} {a : α} {l : List α} (h : p a) (h' : ∀ c, c ∈ l → p c) : ∀ c, c ∈ a :: l → p c := fun c hc => by
  rcases List.mem_cons.1 hc with rfl | hc
  · exact h
  · exact h' c hc
theorem als_ok : ∀ q, q ∈ als → AlOk q := (fcons al0_ok (fcons al1_ok (fcons al2_ok (fcons al3_ok (fcons al4_ok (fcons al5_ok (fcons al6_ok (fcons al7_ok (fcons al8_ok (fun c hc => by cases hc))))))))))
def factsOf (c : Pc) : List (Ex × Bool) := c.kn.map fun p => (exOf c.out 40 (.inr (.v p.1)), p.2)
/-- A fact that is never so; or two that are not so together. -/
def badF (l : List (Ex × Bool)) : Bool := l.any fun p => als.any fun q => q.1.beq p.1 && (q.2 != p.2)
def chk4 (ri : List (Option A)) (rb : List (Option B)) (c : Pc) : Bool := match ri, rb with
  | [], [some (.c true), some (.c true)] => true
  | [], [some (.c true), some x] => badF (factsOf c) || als.any fun q => q.2 && q.1.beq (exOf c.out 40 (.inr x))
  | [], [_, _] => badF (factsOf c)
  | _, _ => false
theorem badF_ok {c : Pc} {ρ : Env} (hr : Rng ρ) (hg : Sx.Good Fun0 ρ c.out) (hk : KbOk ρ c.kn) (h : badF (factsOf c) = true) : False := by
  unfold badF at h
  rw [List.any_eq_true] at h
  obtain ⟨p, hp, h⟩ := h
  rw [List.any_eq_true] at h
  obtain ⟨q, hq, h⟩ := h
  simp only [Bool.and_eq_true, bne_iff_ne, ne_eq] at h
  unfold factsOf at hp
  rw [List.mem_map] at hp
  obtain ⟨k, hkm, rfl⟩ := hp
  have h1 := als_ok q hq ρ hr
  have h2 : _ = _ := exOf_ok hg 40 (.inr (.v k.1))
  have h3 := hk k hkm
  rw [Ex.beq_sound h.1] at h1
  simp only at h h1
  exact h.2 (h1.symm.trans (h2.trans h3))
theorem chk4_ok {ri : List (Option A)} {rb : List (Option B)} {c : Pc} {ρ : Env} (h : chk4 ri rb c = true) (hr : Rng ρ) (hg : Sx.Good Fun0 ρ c.out) (hk : KbOk ρ c.kn) {a b : Bool} (hb : ∀ j x, rb.getD j none = some x → x.d ρ = [a, b].getD j false) : a = true ∧ b = true := by
  unfold chk4 at h
  split at h
  · exact ⟨(hb 0 _ rfl).symm, (hb 1 _ rfl).symm⟩
  · rename_i x _
    rw [Bool.or_eq_true] at h
    rcases h with h | h
    · exact absurd (badF_ok hr hg hk h) id
    · refine ⟨(hb 0 _ rfl).symm, ?_⟩
      rw [List.any_eq_true] at h
      obtain ⟨q, hq, h⟩ := h
      rw [Bool.and_eq_true] at h
      have h1 := als_ok q hq ρ hr
      rw [Ex.beq_sound h.2, h.1] at h1
      have h2 : _ = _ := exOf_ok hg 40 (.inr x)
      have h3 : x.d ρ = b := hb 1 _ rfl
      rw [← h3, ← h2]
      exact h1
  · exact absurd (badF_ok hr hg hk h) id
  · cases h
def hy4 : List Em := [.di 14 (.ar .rem .u8 (.v 4) (.c 16)), .di 15 (.ar .quo .u8 (.v 4) (.c 64)), .di 16 (.ar .mul .u8 (.v 15) (.c 64)), .di 17 (.ar .add .u8 (.v 14) (.v 16)), .di 18 (.ar .and .u8 (.v 17) (.c 4))]
def bs4 (n : Bool) : List B := [.v 0, .v 1, .v 2, .v 3, .v 4, .v 5, .v 6, .v 7, .v 8, .v 9, .v 10, .v 11, .c n]
def is4 : List A := [.v 0, .v 1, .v 2, .v 3, .v 4, .v 5, .v 6, .v 7, .v 8, .v 9, .v 10, .v 11, .v 12, .v 13]
noncomputable def run4 (n : Bool) (kb : List (RB × Bool)) (dt : DT) : Bool := (peRun E4 is4 (bs4 n) 19 12 hy4 [(17, 207), (13, 255)] [] kb dt).ok chk4
def kb4 (x : Bool) : List (RB × Bool) := [(.cm .eql (.v 18) (.c 0), x), (.cm .gtr (.v 18) (.c 0), !x)]
theorem r4_n : run4 true [] (.node 46 (.node 47 .leaf (.node 52 (.node 53 .leaf (.node 58 (.node 59 .leaf .leaf) .leaf)) .leaf)) .leaf) = true := by kernel_rfl
theorem r4_f : run4 false (kb4 false) .leaf = true := by kernel_rfl
theorem r4_t : run4 false (kb4 true) (.node 43 (.node 44 .leaf (.node 49 (.node 50 .leaf (.node 55 (.node 56 .leaf .leaf) .leaf)) .leaf)) .leaf) = true := by kernel_rfl
def clnB (p : Nat) : Bool := decide (arI .and .u8 (arI .add .u8 (arI .rem .u8 (p : Int) 16) (arI .mul .u8 (arI .quo .u8 (p : Int) 64) 64)) 207 = arI .add .u8 (arI .rem .u8 (p : Int) 16) (arI .mul .u8 (arI .quo .u8 (p : Int) 64) 64))
theorem cln_ok {p : Int} (h0 : 0 ≤ p) (h1 : p ≤ 255) : arI .and .u8 (arI .add .u8 (arI .rem .u8 p 16) (arI .mul .u8 (arI .quo .u8 p 64) 64)) 207 = arI .add .u8 (arI .rem .u8 p 16) (arI .mul .u8 (arI .quo .u8 p 64) 64) := by
  have h2 : allR clnB 8 0 = true := by kernel_rfl
  have h3 := of_decide_eq_true (allR_spec h2 p.toNat (Nat.zero_le _) (by omega))
  rw [show ((p.toNat : Nat) : Int) = p by omega] at h3
  exact h3
theorem and255 {x : Int} (h : 0 ≤ x) (h' : x ≤ 255) : arI .and .u8 x 255 = x := by
  have h2 : allR (fun n => decide (arI .and .u8 (n : Int) 255 = (n : Int))) 8 0 = true := by kernel_rfl
  have h3 := of_decide_eq_true (allR_spec h2 x.toNat (Nat.zero_le _) (by omega))
  rw [show ((x.toNat : Nat) : Int) = x by omega] at h3
  exact h3
theorem and4_nn (x : Int) : 0 ≤ arI .and .u8 x 4 := by
  show 0 ≤ IntKind.wrap .u8 _
  rw [wrap_u8]; omega
theorem law_of4 {n : Bool} {kb : List (RB × Bool)} {dt : DT} (h : run4 n kb dt = true) (i0 i1 i2 i3 i4 i5 i6 i7 i8 i9 i10 i11 i12 v : Int) (b0 b1 b2 b3 b4 b5 b6 b7 b8 b9 b10 b11 : Bool) (s0 : 0 ≤ i3) (s1 : i3 ≤ 255) (p0 : 0 ≤ i4) (p1 : i4 ≤ 255) (c0 : 0 ≤ i6) (c1 : i6 ≤ 65535) (v0 : 0 ≤ v) (v1 : v ≤ 255)
    (hkb : ∀ ρ : Env, ρ.i 18 = arI .and .u8 (arI .add .u8 (arI .rem .u8 i4 16) (arI .mul .u8 (arI .quo .u8 i4 64) 64)) 4 → TbOk ρ kb) : F4 [i0, i1, i2, i3, i4, i5, i6, i7, i8, i9, i10, i11, i12, v] [b0, b1, b2, b3, b4, b5, b6, b7, b8, b9, b10, b11, n] = ([], [true, true]) := by
  have hb : ∀ ρ', Agree 19 12 (envOf [i0, i1, i2, i3, i4, i5, i6, i7, i8, i9, i10, i11, i12, v, arI .rem .u8 i4 16, arI .quo .u8 i4 64, arI .mul .u8 (arI .quo .u8 i4 64) 64, arI .add .u8 (arI .rem .u8 i4 16) (arI .mul .u8 (arI .quo .u8 i4 64) 64), arI .and .u8 (arI .add .u8 (arI .rem .u8 i4 16) (arI .mul .u8 (arI .quo .u8 i4 64) 64)) 4] [b0, b1, b2, b3, b4, b5, b6, b7, b8, b9, b10, b11]) ρ' → (bs4 n).map (B.d ρ') = [b0, b1, b2, b3, b4, b5, b6, b7, b8, b9, b10, b11, n] := by
    intro ρ' ha
    have f := ha.2
    simp only [bs4, List.map_cons, List.map_nil, B.d, f 0 (by omega), f 1 (by omega), f 2 (by omega), f 3 (by omega), f 4 (by omega), f 5 (by omega), f 6 (by omega), f 7 (by omega), f 8 (by omega), f 9 (by omega), f 10 (by omega), f 11 (by omega)]
    rfl
  have hi : ∀ ρ', Agree 19 12 (envOf [i0, i1, i2, i3, i4, i5, i6, i7, i8, i9, i10, i11, i12, v, arI .rem .u8 i4 16, arI .quo .u8 i4 64, arI .mul .u8 (arI .quo .u8 i4 64) 64, arI .add .u8 (arI .rem .u8 i4 16) (arI .mul .u8 (arI .quo .u8 i4 64) 64), arI .and .u8 (arI .add .u8 (arI .rem .u8 i4 16) (arI .mul .u8 (arI .quo .u8 i4 64) 64)) 4] [b0, b1, b2, b3, b4, b5, b6, b7, b8, b9, b10, b11]) ρ' → is4.map (A.d ρ') = [i0, i1, i2, i3, i4, i5, i6, i7, i8, i9, i10, i11, i12, v] := by
    intro ρ' ha
    have e := ha.1
    simp only [is4, List.map_cons, List.map_nil, A.d, e 0 (by omega), e 1 (by omega), e 2 (by omega), e 3 (by omega), e 4 (by omega), e 5 (by omega), e 6 (by omega), e 7 (by omega), e 8 (by omega), e 9 (by omega), e 10 (by omega), e 11 (by omega), e 12 (by omega), e 13 (by omega), e 14 (by omega), e 15 (by omega), e 16 (by omega), e 17 (by omega), e 18 (by omega)]
    rfl
  have hh : ∀ ρ', Agree 19 12 (envOf [i0, i1, i2, i3, i4, i5, i6, i7, i8, i9, i10, i11, i12, v, arI .rem .u8 i4 16, arI .quo .u8 i4 64, arI .mul .u8 (arI .quo .u8 i4 64) 64, arI .add .u8 (arI .rem .u8 i4 16) (arI .mul .u8 (arI .quo .u8 i4 64) 64), arI .and .u8 (arI .add .u8 (arI .rem .u8 i4 16) (arI .mul .u8 (arI .quo .u8 i4 64) 64)) 4] [b0, b1, b2, b3, b4, b5, b6, b7, b8, b9, b10, b11]) ρ' → Sx.Good Fun0 ρ' hy4 ∧ MkOk ρ' [(17, 207), (13, 255)] ∧ OcOk ρ' [] ∧ TbOk ρ' kb := by
    intro ρ' ha
    have e := ha.1
    refine ⟨?_, ?_, (fun p hp => by cases hp), hkb ρ' ?_⟩
    · unfold hy4
      refine Good.cons.2 ⟨?_, Good.cons.2 ⟨?_, Good.cons.2 ⟨?_, Good.cons.2 ⟨?_, Good.cons.2 ⟨?_, Good.nil⟩⟩⟩⟩⟩
      all_goals
        simp only [Em.ok, RI.d, A.d, e 0 (by omega), e 1 (by omega), e 2 (by omega), e 3 (by omega), e 4 (by omega), e 5 (by omega), e 6 (by omega), e 7 (by omega), e 8 (by omega), e 9 (by omega), e 10 (by omega), e 11 (by omega), e 12 (by omega), e 13 (by omega), e 14 (by omega), e 15 (by omega), e 16 (by omega), e 17 (by omega), e 18 (by omega)]
        rfl
    · intro p hp
      simp only [List.mem_cons, List.not_mem_nil, or_false] at hp
      rcases hp with rfl | rfl
      · simp only [e 0 (by omega), e 1 (by omega), e 2 (by omega), e 3 (by omega), e 4 (by omega), e 5 (by omega), e 6 (by omega), e 7 (by omega), e 8 (by omega), e 9 (by omega), e 10 (by omega), e 11 (by omega), e 12 (by omega), e 13 (by omega), e 14 (by omega), e 15 (by omega), e 16 (by omega), e 17 (by omega), e 18 (by omega)]; exact cln_ok p0 p1
      · simp only [e 0 (by omega), e 1 (by omega), e 2 (by omega), e 3 (by omega), e 4 (by omega), e 5 (by omega), e 6 (by omega), e 7 (by omega), e 8 (by omega), e 9 (by omega), e 10 (by omega), e 11 (by omega), e 12 (by omega), e 13 (by omega), e 14 (by omega), e 15 (by omega), e 16 (by omega), e 17 (by omega), e 18 (by omega)]; exact and255 v0 v1
    · rw [e 18 (by omega)]; rfl
  obtain ⟨ρ', ri, rb, c, ha, hg, hk, _, h2, h3⟩ := peRun_ok ek4 h (envOf [i0, i1, i2, i3, i4, i5, i6, i7, i8, i9, i10, i11, i12, v, arI .rem .u8 i4 16, arI .quo .u8 i4 64, arI .mul .u8 (arI .quo .u8 i4 64) 64, arI .add .u8 (arI .rem .u8 i4 16) (arI .mul .u8 (arI .quo .u8 i4 64) 64), arI .and .u8 (arI .add .u8 (arI .rem .u8 i4 16) (arI .mul .u8 (arI .quo .u8 i4 64) 64)) 4] [b0, b1, b2, b3, b4, b5, b6, b7, b8, b9, b10, b11]) _ _ hi hb hh
  have e := ha.1
  have hr : Rng ρ' := by
    refine ⟨?_, ?_, ?_, ?_⟩
    all_goals simp only [e 0 (by omega), e 1 (by omega), e 2 (by omega), e 3 (by omega), e 4 (by omega), e 5 (by omega), e 6 (by omega), e 7 (by omega), e 8 (by omega), e 9 (by omega), e 10 (by omega), e 11 (by omega), e 12 (by omega), e 13 (by omega), e 14 (by omega), e 15 (by omega), e 16 (by omega), e 17 (by omega), e 18 (by omega)]
    · exact ⟨s0, s1⟩
    · exact ⟨v0, v1⟩
    · exact ⟨c0, c1⟩
    · show 0 ≤ arI .add .u8 _ _ ∧ arI .add .u8 _ _ ≤ 255
      rw [add8]; omega
  obtain ⟨a, b, hab⟩ : ∃ a b, F4 [i0, i1, i2, i3, i4, i5, i6, i7, i8, i9, i10, i11, i12, v] [b0, b1, b2, b3, b4, b5, b6, b7, b8, b9, b10, b11, n] = ([], [a, b]) := ⟨_, _, rfl⟩
  rw [hab] at h2 ⊢
  obtain ⟨rfl, rfl⟩ := chk4_ok h3 hr hg hk h2
  rfl
theorem int4 (i0 i1 i2 i3 i4 i5 i6 i7 i8 i9 i10 i11 i12 v : Int) (b0 b1 b2 b3 b4 b5 b6 b7 b8 b9 b10 b11 n : Bool) (s0 : 0 ≤ i3) (s1 : i3 ≤ 255) (p0 : 0 ≤ i4) (p1 : i4 ≤ 255) (c0 : 0 ≤ i6) (c1 : i6 ≤ 65535) (v0 : 0 ≤ v) (v1 : v ≤ 255) : F4 [i0, i1, i2, i3, i4, i5, i6, i7, i8, i9, i10, i11, i12, v] [b0, b1, b2, b3, b4, b5, b6, b7, b8, b9, b10, b11, n] = ([], [true, true]) := by
  cases n
  · have h0 := and4_nn (arI .add .u8 (arI .rem .u8 i4 16) (arI .mul .u8 (arI .quo .u8 i4 64) 64))
    by_cases hz : arI .and .u8 (arI .add .u8 (arI .rem .u8 i4 16) (arI .mul .u8 (arI .quo .u8 i4 64) 64)) 4 = 0
    · refine law_of4 r4_t i0 i1 i2 i3 i4 i5 i6 i7 i8 i9 i10 i11 i12 v b0 b1 b2 b3 b4 b5 b6 b7 b8 b9 b10 b11 s0 s1 p0 p1 c0 c1 v0 v1 fun ρ h p hp => ?_
      simp only [kb4, List.mem_cons, List.not_mem_nil, or_false] at hp
      rcases hp with rfl | rfl
      · simp only [RB.d, A.d, cm_eql, h, hz]; rfl
      · simp only [RB.d, A.d, cm_gtr, h, hz]; rfl
    · refine law_of4 r4_f i0 i1 i2 i3 i4 i5 i6 i7 i8 i9 i10 i11 i12 v b0 b1 b2 b3 b4 b5 b6 b7 b8 b9 b10 b11 s0 s1 p0 p1 c0 c1 v0 v1 fun ρ h p hp => ?_
      simp only [kb4, List.mem_cons, List.not_mem_nil, or_false] at hp
      rcases hp with rfl | rfl
      · simp only [RB.d, A.d, cm_eql, h]; exact beq_eq_false_iff_ne.2 hz
      · simp only [RB.d, A.d, cm_gtr, h]; exact decide_eq_true (by omega)
  · exact law_of4 r4_n i0 i1 i2 i3 i4 i5 i6 i7 i8 i9 i10 i11 i12 v b0 b1 b2 b3 b4 b5 b6 b7 b8 b9 b10 b11 s0 s1 p0 p1 c0 c1 v0 v1 fun ρ h p hp => by cases hp
end Go.Proofs.YtalnndmnnffnmaaGreat.Cr
