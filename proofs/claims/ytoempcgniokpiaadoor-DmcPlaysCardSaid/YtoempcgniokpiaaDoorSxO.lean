/-
  SX, part O: a function's contract out of what the executor says of its body. No condition.
-/
import Derived.Test.YtoempcgniokpiaaDoorSxN
set_option linter.unusedVariables false
namespace Go.Proofs.YtoempcgniokpiaaDoor.Sx
open Go

/-! ### Entering -/
def initTm (ng : Nat) : List Sh → Nat → Nat → Nat → List SV
  | [], _, _, _ => []
  | .val agg l :: ss, i, b, j => { g := [], s := .one agg (freshC A.v B.v [] l i b) } :: initTm ng ss (i + nI l) (b + nB l) j
  | .ptr l :: ss, i, b, j => { g := [], s := .one false [.ptr [] (ng + j) 0] } :: initTm ng ss (i + nI l) (b + nB l) (j + 1)
def initHp (ng : Nat) : List Sh → Nat → Nat → Nat → Hl
  | [], _, _, _ => []
  | .val _ l :: ss, i, b, j => initHp ng ss (i + nI l) (b + nB l) j
  | .ptr l :: ss, i, b, j => (ng + j, { g := [], ro := false, cells := freshC A.v B.v [] l i b }) :: initHp ng ss (i + nI l) (b + nB l) (j + 1)
def argI : List Sh → Nat
  | [] => 0
  | .val _ l :: ss => nI l + argI ss
  | .ptr l :: ss => nI l + argI ss
def argB : List Sh → Nat
  | [] => 0
  | .val _ l :: ss => nB l + argB ss
  | .ptr l :: ss => nB l + argB ss

theorem flatArgs_len {w : World} : ∀ {ss : List Sh} {vs : List Value} {is : List Int} {bs : List Bool} {ps : List Rg}, flatArgs ss vs w = some (is, bs, ps) → is.length = argI ss ∧ bs.length = argB ss ∧ ps.length = (ptrShapes ss).length ∧ vs.length = ss.length
  | [], [], is, bs, ps, h => by
    simp only [flatArgs, Option.some.injEq, Prod.mk.injEq] at h
    obtain ⟨rfl, rfl, rfl⟩ := h
    exact ⟨rfl, rfl, rfl, rfl⟩
  | .val agg l :: ss, v :: vs, is, bs, ps, h => by
    unfold flatArgs at h
    split at h
    · rename_i i b is' bs' ps' h1 h2
      simp only [Option.some.injEq, Prod.mk.injEq] at h
      obtain ⟨rfl, rfl, rfl⟩ := h
      obtain ⟨us, hf, _⟩ := flat1_inv h1
      have e1 := flatC_len hf
      have e2 := flatArgs_len h2
      simp only [argI, argB, ptrShapes, List.length_append, List.length_cons] at e1 e2 ⊢
      omega
    · cases h
  | .ptr l :: ss, v :: vs, is, bs, ps, h => by
    unfold flatArgs at h
    split at h
    · rename_i b o is' bs' ps' h2
      split at h
      · rename_i i bb h1
        simp only [Option.some.injEq, Prod.mk.injEq] at h
        obtain ⟨rfl, rfl, rfl⟩ := h
        cases hr : readCells w b o l.length with
        | none => rw [hr] at h1; simp at h1
        | some us =>
          rw [hr] at h1
          simp only [Option.bind_some] at h1
          have e1 := flatC_len h1
          have e2 := flatArgs_len h2
          simp only [argI, argB, ptrShapes, List.length_append, List.length_cons] at e1 e2 ⊢
          omega
      · cases h
    · cases h
  | [], _ :: _, _, _, _, h => by simp [flatArgs] at h
  | .val _ _ :: _, [], _, _, _, h => by simp [flatArgs] at h
  | .ptr _ :: _, [], _, _, _, h => by simp [flatArgs] at h

/-- What holds as the body begins. -/
theorem init_ok {ρ : Env} {β : Beta} {w : World} (ng : Nat) : ∀ {ss : List Sh} {vs : List Value} {is : List Int} {bs : List Bool} {ps : List Rg} {i b j : Nat}, flatArgs ss vs w = some (is, bs, ps) → frzL ps w →
    (∀ n, n < argI ss → ρ.i (i + n) = is.getD n 0) → (∀ n, n < argB ss → ρ.b (b + n) = bs.getD n false) → (∀ (k : Nat) (r : Rg), ps[k]? = some r → β (ng + j + k) = some r) →
    (∀ (t : Nat) (x : SV), (initTm ng ss i b j)[t]? = some x → x.mt β ρ (vs.getD t undef)) ∧ (initTm ng ss i b j).length = vs.length ∧ heapMt β ρ (hpOf (initHp ng ss i b j)) w
  | [], [], is, bs, ps, i, b, j, h, _, _, _, _ => ⟨fun t x hx => by simp [initTm] at hx, rfl, fun id b hb => by simp [initHp, hpOf] at hb⟩
  | .val agg l :: ss, v :: vs, is, bs, ps, i, b, j, h, hf, hi, hb, hp => by
    unfold flatArgs at h
    split at h
    · rename_i i1 b1 is' bs' ps' h1 h2
      simp only [Option.some.injEq, Prod.mk.injEq] at h
      obtain ⟨rfl, rfl, rfl⟩ := h
      obtain ⟨us, hfl, _⟩ := flat1_inv h1
      have e1 := flatC_len hfl
      simp only at e1
      obtain ⟨g1, g2, g3⟩ := init_ok ng (i := i + nI l) (b := b + nB l) (j := j) h2 hf
        (fun n hn => by
          have := hi (nI l + n) (by simp only [argI]; omega)
          rw [show i + nI l + n = i + (nI l + n) by omega, this, ← e1.1, getD_append_right])
        (fun n hn => by
          have := hb (nB l + n) (by simp only [argB]; omega)
          rw [show b + nB l + n = b + (nB l + n) by omega, this, ← e1.2.1, getD_append_right]) hp
      obtain ⟨m1, _, _⟩ := fresh1_mt (FI := A.v) (FB := B.v) (β := β) (ρ := ρ) (pp := []) (ps := []) trivial (i := i) (b := b) h1
        (fun n hn => by have := hi n (by simp only [argI]; omega); rwa [getD_append_left _ _ _ _ (by omega)] at this)
        (fun n hn => by have := hb n (by simp only [argB]; omega); rwa [getD_append_left _ _ _ _ (by omega)] at this)
      refine ⟨fun t x hx => ?_, by simp [initTm, g2], g3⟩
      unfold initTm at hx
      cases t with
      | zero => simp at hx; subst hx; exact ⟨fun _ => m1, fun h => (by cases h)⟩
      | succ t => simp at hx; simpa using g1 t x hx
    · cases h
  | .ptr l :: ss, v :: vs, is, bs, ps, i, b, j, h, hf, hi, hb, hp => by
    unfold flatArgs at h
    split at h
    · rename_i bk o is' bs' ps' h2
      split at h
      · rename_i i1 b1 h1
        simp only [Option.some.injEq, Prod.mk.injEq] at h
        obtain ⟨rfl, rfl, rfl⟩ := h
        cases hr : readCells w bk o l.length with
        | none => rw [hr] at h1; simp at h1
        | some us =>
          rw [hr] at h1
          simp only [Option.bind_some] at h1
          have e1 := flatC_len h1
          simp only at e1
          have hp0 := hp 0 { blk := bk, off := o, len := l.length, ro := false } (by simp)
          simp only [Nat.add_zero] at hp0
          obtain ⟨g1, g2, g3⟩ := init_ok ng (i := i + nI l) (b := b + nB l) (j := j + 1) h2 (fun r hr => hf r (by simp [hr]))
            (fun n hn => by
              have := hi (nI l + n) (by simp only [argI]; omega)
              rw [show i + nI l + n = i + (nI l + n) by omega, this, ← e1.1, getD_append_right])
            (fun n hn => by
              have := hb (nB l + n) (by simp only [argB]; omega)
              rw [show b + nB l + n = b + (nB l + n) by omega, this, ← e1.2.1, getD_append_right])
            (fun k r hk => by have := hp (k + 1) r (by simpa using hk); rwa [show ng + (j + 1) + k = ng + j + (k + 1) by omega])
          have m1 := freshC_mt (FI := A.v) (FB := B.v) (β := β) (ρ := ρ) (pp := []) (ps := []) trivial (i := i) (b := b) h1
            (fun n hn => by have := hi n (by simp only [argI]; omega); rwa [getD_append_left _ _ _ _ (by omega)] at this)
            (fun n hn => by have := hb n (by simp only [argB]; omega); rwa [getD_append_left _ _ _ _ (by omega)] at this)
          refine ⟨fun t x hx => ?_, by simp [initTm, g2], fun id bl hbl hg => ?_⟩
          · unfold initTm at hx
            cases t with
            | zero =>
              simp at hx
              subst hx
              exact ⟨fun _ => ⟨_, rfl, _, hp0, by simp [pick]⟩, fun h => (by cases h)⟩
            | succ t => simp at hx; simpa using g1 t x hx
          · unfold initHp hpOf at hbl
            split at hbl
            · rename_i he
              simp only [beq_iff_eq] at he
              subst he
              simp only [Option.some.injEq] at hbl
              subst hbl
              refine ⟨_, hp0, by simp [freshC_length], rfl, cellsAt_of_read hr m1, fun _ n hn => ?_⟩
              exact hf _ (by simp) n (by simpa [freshC_length] using hn)
            · exact g3 id bl hbl hg
      · cases h
    · cases h
  | [], _ :: _, _, _, _, _, _, _, h, _, _, _, _ => by simp [flatArgs] at h
  | .val _ _ :: _, [], _, _, _, _, _, _, h, _, _, _, _ => by simp [flatArgs] at h
  | .ptr _ :: _, [], _, _, _, _, _, _, h, _, _, _, _ => by simp [flatArgs] at h

/-- The tables' and the addresses' places. -/
def beta0 (gl : Gl) (ps : List Rg) : Beta := fun i => if h : i < gl.length then some (gRg i gl[i]) else ps[i - gl.length]?
theorem beta0_gl {gl : Gl} {ps : List Rg} {g : Nat} {vs : List Value} (h : gl[g]? = some vs) : beta0 gl ps g = some (gRg g vs) := by
  obtain ⟨hlt, he⟩ := List.getElem?_eq_some_iff.1 h
  unfold beta0
  rw [dif_pos hlt, he]
theorem beta0_ps {gl : Gl} {ps : List Rg} (k : Nat) : beta0 gl ps (gl.length + k) = ps[k]? := by
  unfold beta0
  rw [dif_neg (by omega), Nat.add_sub_cancel_left]
theorem apartL_get : ∀ {ps : List Rg}, apartL ps → ∀ {i j : Nat} {r q : Rg}, i < j → ps[i]? = some r → ps[j]? = some q → r.apart q
  | [], _, i, j, r, q, _, h, _ => by simp at h
  | p :: ps, ⟨h1, h2⟩, i, j, r, q, hij, hi, hj => by
    cases j with
    | zero => omega
    | succ j =>
      simp at hj
      cases i with
      | zero => simp at hi; subst hi; exact h1 q (List.mem_of_getElem? hj)
      | succ i => simp at hi; exact apartL_get h2 (by omega) hi hj
theorem Rg.apart_symm {r q : Rg} (h : r.apart q) : q.apart r := by
  unfold Rg.apart at *; omega
theorem ghOf_get : ∀ {gl : Gl} {g id : Nat} {b : Blk}, hpOf (ghOf gl g) id = some b → ∃ vs, gl[id - g]? = some vs ∧ g ≤ id ∧ b = { g := [], ro := true, cells := vs.map ofC }
  | [], g, id, b, h => by simp [ghOf, hpOf] at h
  | vs :: gl, g, id, b, h => by
    unfold ghOf hpOf at h
    split at h
    · rename_i he
      simp only [beq_iff_eq] at he
      subst he
      simp only [Option.some.injEq] at h
      exact ⟨vs, by simp, Nat.le_refl _, h.symm⟩
    · rename_i he
      obtain ⟨us, h1, h2, h3⟩ := ghOf_get h
      refine ⟨us, ?_, by omega, h3⟩
      rw [show id - g = (id - (g + 1)) + 1 by omega]
      simpa using h1
end Go.Proofs.YtoempcgniokpiaaDoor.Sx
