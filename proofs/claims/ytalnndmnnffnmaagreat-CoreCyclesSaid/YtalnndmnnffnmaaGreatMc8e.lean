/-
  Merged texts. No condition.
-/
import Derived.Test.YtalnndmnnffnmaaGreatMc8b
import Derived.Test.YtalnndmnnffnmaaGreatMc8c
import Derived.Test.YtalnndmnnffnmaaGreatMc8d
/-! ## CrCz -/
set_option linter.unusedVariables false
set_option linter.unusedSimpArgs false
namespace Go.Proofs.YtalnndmnnffnmaaGreat.Cr
open Go Go.Proofs Go.Proofs.YtalnndmnnffnmaaGreat.Sx

def clnB (p : Nat) : Bool := decide (arI .and .u8 (arI .add .u8 (arI .rem .u8 (p : Int) 16) (arI .mul .u8 (arI .quo .u8 (p : Int) 64) 64)) 207 = arI .add .u8 (arI .rem .u8 (p : Int) 16) (arI .mul .u8 (arI .quo .u8 (p : Int) 64) 64))
theorem cln_ok {p : Int} (h0 : 0 ≤ p) (h1 : p ≤ 255) : arI .and .u8 (arI .add .u8 (arI .rem .u8 p 16) (arI .mul .u8 (arI .quo .u8 p 64) 64)) 207 = arI .add .u8 (arI .rem .u8 p 16) (arI .mul .u8 (arI .quo .u8 p 64) 64) := by
  have h2 : allR clnB 8 0 = true := by kernel_rfl
  have h3 := of_decide_eq_true (allR_spec h2 p.toNat (Nat.zero_le _) (by omega))
  rw [show ((p.toNat : Nat) : Int) = p by omega] at h3
  exact h3
def Law3 (O : List Int) : Prop := ∀ (i0 i1 i2 i3 i4 i5 i6 i7 i8 i9 i10 i11 i12 op v : Int) (b0 b1 b2 b3 b4 b5 b6 b7 b8 b9 b10 b11 : Bool), op ∈ O → 0 ≤ i1 → i1 ≤ 255 → 0 ≤ i2 → i2 ≤ 255 → 0 ≤ i4 → i4 ≤ 255 → 0 ≤ i5 → i5 ≤ 255 → 0 ≤ i6 → i6 ≤ 65535 → 0 ≤ i7 → i7 ≤ 255 → 0 ≤ v → v ≤ 255 →
  F3 [i0, i1, i2, i3, i4, i5, i6, i7, i8, i9, i10, i11, i12, op, v] [b0, b1, b2, b3, b4, b5, b6, b7, b8, b9, b10, b11] = ([], [true, true])
theorem law_of {O : List Int} {x : A} {dt : DT} (h : run3 x O dt = true) (hx : ∀ op, op ∈ O → x = .v 13 ∨ x = .c op) : Law3 O := by
  intro i0 i1 i2 i3 i4 i5 i6 i7 i8 i9 i10 i11 i12 op v b0 b1 b2 b3 b4 b5 b6 b7 b8 b9 b10 b11 hO x0 x1 y0 y1 p0 p1 s0 s1 c0 c1 o0 o1 v0 v1
  have hb : ∀ ρ', Agree 23 12 (envOf [i0, i1, i2, i3, i4, i5, i6, i7, i8, i9, i10, i11, i12, op, v, arI .rem .u8 i4 16, arI .quo .u8 i4 64, arI .mul .u8 (arI .quo .u8 i4 64) 64, arI .add .u8 (arI .rem .u8 i4 16) (arI .mul .u8 (arI .quo .u8 i4 64) 64), arI .rem .u8 i5 16, arI .quo .u8 i5 64, arI .mul .u8 (arI .quo .u8 i5 64) 64, arI .add .u8 (arI .rem .u8 i5 16) (arI .mul .u8 (arI .quo .u8 i5 64) 64)] [b0, b1, b2, b3, b4, b5, b6, b7, b8, b9, b10, b11]) ρ' → bs3.map (B.d ρ') = [b0, b1, b2, b3, b4, b5, b6, b7, b8, b9, b10, b11] := by
    intro ρ' ha
    have f := ha.2
    simp only [bs3, List.map_cons, List.map_nil, B.d, f 0 (by omega), f 1 (by omega), f 2 (by omega), f 3 (by omega), f 4 (by omega), f 5 (by omega), f 6 (by omega), f 7 (by omega), f 8 (by omega), f 9 (by omega), f 10 (by omega), f 11 (by omega)]
    rfl
  have hi : ∀ ρ', Agree 23 12 (envOf [i0, i1, i2, i3, i4, i5, i6, i7, i8, i9, i10, i11, i12, op, v, arI .rem .u8 i4 16, arI .quo .u8 i4 64, arI .mul .u8 (arI .quo .u8 i4 64) 64, arI .add .u8 (arI .rem .u8 i4 16) (arI .mul .u8 (arI .quo .u8 i4 64) 64), arI .rem .u8 i5 16, arI .quo .u8 i5 64, arI .mul .u8 (arI .quo .u8 i5 64) 64, arI .add .u8 (arI .rem .u8 i5 16) (arI .mul .u8 (arI .quo .u8 i5 64) 64)] [b0, b1, b2, b3, b4, b5, b6, b7, b8, b9, b10, b11]) ρ' → (is3 x).map (A.d ρ') = [i0, i1, i2, i3, i4, i5, i6, i7, i8, i9, i10, i11, i12, op, v] := by
    intro ρ' ha
    have e := ha.1
    have hxd : x.d ρ' = op := by
      rcases hx op hO with rfl | rfl
      · show ρ'.i 13 = op
        rw [e 13 (by omega)]; rfl
      · rfl
    simp only [is3, List.map_cons, List.map_nil, hxd]
    simp only [A.d, e 0 (by omega), e 1 (by omega), e 2 (by omega), e 3 (by omega), e 4 (by omega), e 5 (by omega), e 6 (by omega), e 7 (by omega), e 8 (by omega), e 9 (by omega), e 10 (by omega), e 11 (by omega), e 12 (by omega), e 13 (by omega), e 14 (by omega), e 15 (by omega), e 16 (by omega), e 17 (by omega), e 18 (by omega), e 19 (by omega), e 20 (by omega), e 21 (by omega), e 22 (by omega)]
    rfl
  have hh : ∀ ρ', Agree 23 12 (envOf [i0, i1, i2, i3, i4, i5, i6, i7, i8, i9, i10, i11, i12, op, v, arI .rem .u8 i4 16, arI .quo .u8 i4 64, arI .mul .u8 (arI .quo .u8 i4 64) 64, arI .add .u8 (arI .rem .u8 i4 16) (arI .mul .u8 (arI .quo .u8 i4 64) 64), arI .rem .u8 i5 16, arI .quo .u8 i5 64, arI .mul .u8 (arI .quo .u8 i5 64) 64, arI .add .u8 (arI .rem .u8 i5 16) (arI .mul .u8 (arI .quo .u8 i5 64) 64)] [b0, b1, b2, b3, b4, b5, b6, b7, b8, b9, b10, b11]) ρ' → Sx.Good Fun0 ρ' hy3 ∧ MkOk ρ' [(18, 207), (22, 207), (14, 255)] ∧ OcOk ρ' [(13, O), (7, all256)] := by
    intro ρ' ha
    have e := ha.1
    refine ⟨?_, ?_, ?_⟩
    · unfold hy3
      refine Good.cons.2 ⟨?_, Good.cons.2 ⟨?_, Good.cons.2 ⟨?_, Good.cons.2 ⟨?_, Good.cons.2 ⟨?_, Good.cons.2 ⟨?_, Good.cons.2 ⟨?_, Good.cons.2 ⟨?_, Good.nil⟩⟩⟩⟩⟩⟩⟩⟩
      all_goals
        simp only [Em.ok, RI.d, A.d, e 0 (by omega), e 1 (by omega), e 2 (by omega), e 3 (by omega), e 4 (by omega), e 5 (by omega), e 6 (by omega), e 7 (by omega), e 8 (by omega), e 9 (by omega), e 10 (by omega), e 11 (by omega), e 12 (by omega), e 13 (by omega), e 14 (by omega), e 15 (by omega), e 16 (by omega), e 17 (by omega), e 18 (by omega), e 19 (by omega), e 20 (by omega), e 21 (by omega), e 22 (by omega)]
        rfl
    · intro p hp
      simp only [List.mem_cons, List.not_mem_nil, or_false] at hp
      rcases hp with rfl | rfl | rfl
      · simp only [e 0 (by omega), e 1 (by omega), e 2 (by omega), e 3 (by omega), e 4 (by omega), e 5 (by omega), e 6 (by omega), e 7 (by omega), e 8 (by omega), e 9 (by omega), e 10 (by omega), e 11 (by omega), e 12 (by omega), e 13 (by omega), e 14 (by omega), e 15 (by omega), e 16 (by omega), e 17 (by omega), e 18 (by omega), e 19 (by omega), e 20 (by omega), e 21 (by omega), e 22 (by omega)]; exact cln_ok p0 p1
      · simp only [e 0 (by omega), e 1 (by omega), e 2 (by omega), e 3 (by omega), e 4 (by omega), e 5 (by omega), e 6 (by omega), e 7 (by omega), e 8 (by omega), e 9 (by omega), e 10 (by omega), e 11 (by omega), e 12 (by omega), e 13 (by omega), e 14 (by omega), e 15 (by omega), e 16 (by omega), e 17 (by omega), e 18 (by omega), e 19 (by omega), e 20 (by omega), e 21 (by omega), e 22 (by omega)]; exact cln_ok s0 s1
      · simp only [e 0 (by omega), e 1 (by omega), e 2 (by omega), e 3 (by omega), e 4 (by omega), e 5 (by omega), e 6 (by omega), e 7 (by omega), e 8 (by omega), e 9 (by omega), e 10 (by omega), e 11 (by omega), e 12 (by omega), e 13 (by omega), e 14 (by omega), e 15 (by omega), e 16 (by omega), e 17 (by omega), e 18 (by omega), e 19 (by omega), e 20 (by omega), e 21 (by omega), e 22 (by omega)]; exact and255 v0 v1
    · intro p hp
      simp only [List.mem_cons, List.not_mem_nil, or_false] at hp
      rcases hp with rfl | rfl
      · simp only [e 0 (by omega), e 1 (by omega), e 2 (by omega), e 3 (by omega), e 4 (by omega), e 5 (by omega), e 6 (by omega), e 7 (by omega), e 8 (by omega), e 9 (by omega), e 10 (by omega), e 11 (by omega), e 12 (by omega), e 13 (by omega), e 14 (by omega), e 15 (by omega), e 16 (by omega), e 17 (by omega), e 18 (by omega), e 19 (by omega), e 20 (by omega), e 21 (by omega), e 22 (by omega)]; exact hO
      · simp only [e 0 (by omega), e 1 (by omega), e 2 (by omega), e 3 (by omega), e 4 (by omega), e 5 (by omega), e 6 (by omega), e 7 (by omega), e 8 (by omega), e 9 (by omega), e 10 (by omega), e 11 (by omega), e 12 (by omega), e 13 (by omega), e 14 (by omega), e 15 (by omega), e 16 (by omega), e 17 (by omega), e 18 (by omega), e 19 (by omega), e 20 (by omega), e 21 (by omega), e 22 (by omega)]; exact mem_all o0 o1
  obtain ⟨ρ', ri, rb, c, ha, hg, hk, _, h2, h3⟩ := peRun_ok nk3 h (envOf [i0, i1, i2, i3, i4, i5, i6, i7, i8, i9, i10, i11, i12, op, v, arI .rem .u8 i4 16, arI .quo .u8 i4 64, arI .mul .u8 (arI .quo .u8 i4 64) 64, arI .add .u8 (arI .rem .u8 i4 16) (arI .mul .u8 (arI .quo .u8 i4 64) 64), arI .rem .u8 i5 16, arI .quo .u8 i5 64, arI .mul .u8 (arI .quo .u8 i5 64) 64, arI .add .u8 (arI .rem .u8 i5 16) (arI .mul .u8 (arI .quo .u8 i5 64) 64)] [b0, b1, b2, b3, b4, b5, b6, b7, b8, b9, b10, b11]) _ _ hi hb hh
  have e := ha.1
  have hr : Rng ρ' := by
    refine ⟨?_, ?_, ?_, ?_, ?_, ?_⟩
    all_goals simp only [e 0 (by omega), e 1 (by omega), e 2 (by omega), e 3 (by omega), e 4 (by omega), e 5 (by omega), e 6 (by omega), e 7 (by omega), e 8 (by omega), e 9 (by omega), e 10 (by omega), e 11 (by omega), e 12 (by omega), e 13 (by omega), e 14 (by omega), e 15 (by omega), e 16 (by omega), e 17 (by omega), e 18 (by omega), e 19 (by omega), e 20 (by omega), e 21 (by omega), e 22 (by omega)]
    · exact ⟨v0, v1⟩
    · exact ⟨x0, x1⟩
    · exact ⟨y0, y1⟩
    · exact ⟨c0, c1⟩
    · exact ⟨p0, p1⟩
    · rfl
  obtain ⟨a, b, hab⟩ : ∃ a b, F3 [i0, i1, i2, i3, i4, i5, i6, i7, i8, i9, i10, i11, i12, op, v] [b0, b1, b2, b3, b4, b5, b6, b7, b8, b9, b10, b11] = ([], [a, b]) := ⟨_, _, rfl⟩
  rw [hab] at h2 ⊢
  obtain ⟨rfl, rfl⟩ := chk3_ok h3 hr hg hk h2
  rfl
def classes3 : List (List Int) := [c3_0, c3_1, c3_2, c3_3, c3_4, c3_5, c3_6, c3_7, c3_8, c3_9, c3_10, c3_11, c3_12, c3_13, c3_14, c3_15, c3_16, c3_17, c3_18, c3_19, c3_20, c3_21, c3_22, c3_23, c3_24, c3_25, c3_26, c3_27, c3_28, c3_29, c3_30, c3_31, c3_32, c3_33, c3_34, c3_35, c3_36, c3_37, c3_38, c3_39, c3_40, c3_41, c3_42]
theorem laws3 : ∀ c, c ∈ classes3 → Law3 c := (forall_cons (law_of r3_0 (fun _ _ => .inl rfl)) (forall_cons (law_of r3_1 (fun _ _ => .inl rfl)) (forall_cons (law_of r3_2 (fun _ _ => .inl rfl)) (forall_cons (law_of r3_3 (fun _ _ => .inl rfl)) (forall_cons (law_of r3_4 (fun _ _ => .inl rfl)) (forall_cons (law_of r3_5 (fun _ _ => .inl rfl)) (forall_cons (law_of r3_6 (fun _ _ => .inl rfl)) (forall_cons (law_of r3_7 (fun _ _ => .inl rfl)) (forall_cons (law_of r3_8 (fun _ _ => .inl rfl)) (forall_cons (law_of r3_9 (fun _ _ => .inl rfl)) (forall_cons (law_of r3_10 (fun _ _ => .inl rfl)) (forall_cons (law_of r3_11 (fun _ _ => .inl rfl)) (forall_cons (law_of r3_12 (fun _ _ => .inl rfl)) (forall_cons (law_of r3_13 (fun _ _ => .inl rfl)) (forall_cons (law_of r3_14 (fun _ _ => .inl rfl)) (forall_cons (law_of r3_15 (fun _ _ => .inl rfl)) (forall_cons (law_of r3_16 (fun _ _ => .inl rfl)) (forall_cons (law_of r3_17 (fun _ _ => .inl rfl)) (forall_cons (law_of r3_18 (fun _ _ => .inl rfl)) (forall_cons (law_of r3_19 (fun _ _ => .inl rfl)) (forall_cons (law_of r3_20 (fun _ _ => .inl rfl)) (forall_cons (law_of r3_21 (fun _ _ => .inl rfl)) (forall_cons (law_of r3_22 (fun _ _ => .inl rfl)) (forall_cons (law_of r3_23 (fun _ _ => .inl rfl)) (forall_cons (law_of r3_24 (fun _ _ => .inl rfl)) (forall_cons (law_of r3_25 (fun _ _ => .inl rfl)) (forall_cons (law_of r3_26 (fun op h => .inr (by rw [List.mem_singleton.1 h]))) (forall_cons (law_of r3_27 (fun op h => .inr (by rw [List.mem_singleton.1 h]))) (forall_cons (law_of r3_28 (fun op h => .inr (by rw [List.mem_singleton.1 h]))) (forall_cons (law_of r3_29 (fun op h => .inr (by rw [List.mem_singleton.1 h]))) (forall_cons (law_of r3_30 (fun op h => .inr (by rw [List.mem_singleton.1 h]))) (forall_cons (law_of r3_31 (fun op h => .inr (by rw [List.mem_singleton.1 h]))) (forall_cons (law_of r3_32 (fun op h => .inr (by rw [List.mem_singleton.1 h]))) (forall_cons (law_of r3_33 (fun op h => .inr (by rw [List.mem_singleton.1 h]))) (forall_cons (law_of r3_34 (fun op h => .inr (by rw [List.mem_singleton.1 h]))) (forall_cons (law_of r3_35 (fun op h => .inr (by rw [List.mem_singleton.1 h]))) (forall_cons (law_of r3_36 (fun op h => .inr (by rw [List.mem_singleton.1 h]))) (forall_cons (law_of r3_37 (fun op h => .inr (by rw [List.mem_singleton.1 h]))) (forall_cons (law_of r3_38 (fun op h => .inr (by rw [List.mem_singleton.1 h]))) (forall_cons (law_of r3_39 (fun op h => .inr (by rw [List.mem_singleton.1 h]))) (forall_cons (law_of r3_40 (fun _ _ => .inl rfl)) (forall_cons (law_of r3_41 (fun _ _ => .inl rfl)) (forall_cons (law_of r3_42 (fun _ _ => .inl rfl)) forall_nil)))))))))))))))))))))))))))))))))))))))))))
theorem cover3 {n : Nat} (h : n < 256) : (classes3.any fun c => c.any (fun x => decide (x = (n : Int)))) = true :=
  allR_spec (f := fun n => classes3.any fun c => c.any (fun x => decide (x = Int.ofNat n))) (k := 8) (lo := 0) (by kernel_rfl) n (Nat.zero_le _) (by omega)
theorem cyc3 (i0 i1 i2 i3 i4 i5 i6 i7 i8 i9 i10 i11 i12 op v : Int) (b0 b1 b2 b3 b4 b5 b6 b7 b8 b9 b10 b11 : Bool) (hop : 0 ≤ op) (hop' : op ≤ 255) (x0 : 0 ≤ i1) (x1 : i1 ≤ 255) (y0 : 0 ≤ i2) (y1 : i2 ≤ 255) (p0 : 0 ≤ i4) (p1 : i4 ≤ 255) (s0 : 0 ≤ i5) (s1 : i5 ≤ 255) (c0 : 0 ≤ i6) (c1 : i6 ≤ 65535) (o0 : 0 ≤ i7) (o1 : i7 ≤ 255) (v0 : 0 ≤ v) (v1 : v ≤ 255) :
    F3 [i0, i1, i2, i3, i4, i5, i6, i7, i8, i9, i10, i11, i12, op, v] [b0, b1, b2, b3, b4, b5, b6, b7, b8, b9, b10, b11] = ([], [true, true]) := by
  have h := cover3 (n := op.toNat) (by omega)
  rw [List.any_eq_true] at h
  obtain ⟨c, hc, h2⟩ := h
  rw [List.any_eq_true] at h2
  obtain ⟨x, hx, h3⟩ := h2
  have e : x = op := by rw [of_decide_eq_true h3]; omega
  subst e
  exact laws3 c hc i0 i1 i2 i3 i4 i5 i6 i7 i8 i9 i10 i11 i12 x v b0 b1 b2 b3 b4 b5 b6 b7 b8 b9 b10 b11 hx x0 x1 y0 y1 p0 p1 s0 s1 c0 c1 o0 o1 v0 v1
end Go.Proofs.YtalnndmnnffnmaaGreat.Cr
