/-
  SX, part O: a function's contract out of what the executor says of its body. No condition.
-/
import Derived.Test.YtalnndmnnffnmaaGreatSxN
set_option linter.unusedVariables false
set_option linter.unusedSimpArgs false
namespace Go.Proofs.YtalnndmnnffnmaaGreat.Sx
open Go

/-! ### Entering -/
def initTm (ng : Nat) : List Sh → Nat → Nat → Nat → Nat → List SV
  | [], _, _, _, _ => []
  | .val agg l :: ss, i, b, j, m => { g := [], s := .one agg (freshC A.v B.v [] l i b) } :: initTm ng ss (i + nI l) (b + nB l) j m
  | .ptr l :: ss, i, b, j, m => { g := [], s := .one false [.ptr [] (ng + j) 0] } :: initTm ng ss (i + nI l) (b + nB l) (j + 1) m
  | .sli ks :: ss, i, b, j, m => { g := [], s := .one false [.slx m ks (.v i) (.v (i + 1))] } :: initTm ng ss (i + 2) b j (m + 1)
def initHp (ng : Nat) : List Sh → Nat → Nat → Nat → Hl
  | [], _, _, _ => []
  | .val _ l :: ss, i, b, j => initHp ng ss (i + nI l) (b + nB l) j
  | .ptr l :: ss, i, b, j => (ng + j, { g := [], ro := false, cells := freshC A.v B.v [] l i b }) :: initHp ng ss (i + nI l) (b + nB l) (j + 1)
  | .sli _ :: ss, i, b, j => initHp ng ss (i + 2) b j
def argI : List Sh → Nat
  | [] => 0
  | .val _ l :: ss => nI l + argI ss
  | .ptr l :: ss => nI l + argI ss
  | .sli _ :: ss => 2 + argI ss
def argB : List Sh → Nat
  | [] => 0
  | .val _ l :: ss => nB l + argB ss
  | .ptr l :: ss => nB l + argB ss
  | .sli _ :: ss => argB ss

theorem flatArgs_len {w : World} : ∀ {ss : List Sh} {vs : List Value} {is : List Int} {bs : List Bool} {ps : List Rg}, flatArgs ss vs w = some (is, bs, ps) → is.length = argI ss ∧ bs.length = argB ss ∧ ps.length = (ptrShapes ss).length ∧ vs.length = ss.length
  | [], [], is, bs, ps, h => by
    simp only [flatArgs, Option.some.injEq, Prod.mk.injEq] at h
    obtain ⟨rfl, rfl, rfl⟩ := h
    exact ⟨rfl, rfl, rfl, rfl⟩
  | .val agg l :: ss, v :: vs, is, bs, ps, h => by
    unfold flatArgs at h
    split at h
    · rename_i i b is' bs' ps' h1 h2
      simp only [Option.some.injEq, Prod.mk.injEq] at h
      obtain ⟨rfl, rfl, rfl⟩ := h
      obtain ⟨us, hf, _⟩ := flat1_inv h1
      have e1 := flatC_len hf
      have e2 := flatArgs_len h2
      simp only [argI, argB, ptrShapes, List.length_append, List.length_cons] at e1 e2 ⊢
      omega
    · cases h
  | .ptr l :: ss, v :: vs, is, bs, ps, h => by
    unfold flatArgs at h
    split at h
    · rename_i b o is' bs' ps' h2
      split at h
      · rename_i i bb h1
        simp only [Option.some.injEq, Prod.mk.injEq] at h
        obtain ⟨rfl, rfl, rfl⟩ := h
        cases hr : readCells w b o l.length with
        | none => rw [hr] at h1; simp at h1
        | some us =>
          rw [hr] at h1
          simp only [Option.bind_some] at h1
          have e1 := flatC_len h1
          have e2 := flatArgs_len h2
          simp only [argI, argB, ptrShapes, List.length_append, List.length_cons] at e1 e2 ⊢
          omega
      · cases h
    · cases h
  | .sli ks :: ss, v :: vs, is, bs, ps, h => by
    unfold flatArgs at h
    split at h
    · rename_i l n r is' bs' ps' h1 h2
      simp only [Option.some.injEq, Prod.mk.injEq] at h
      obtain ⟨rfl, rfl, rfl⟩ := h
      obtain ⟨g1, g2, g3, g4⟩ := flatArgs_len h2
      exact ⟨by simp only [List.length_cons, g1, argI]; omega, g2, g3, by simp [g4]⟩
    · cases h
  | .sli _ :: _, [], _, _, _, h => by simp [flatArgs] at h
  | [], _ :: _, _, _, _, h => by simp [flatArgs] at h
  | .val _ _ :: _, [], _, _, _, h => by simp [flatArgs] at h
  | .ptr _ :: _, [], _, _, _, h => by simp [flatArgs] at h

/-- What holds as the body begins. -/
theorem init_ok {ρ : Env} {β : Beta} {w : World} (ng : Nat) : ∀ {ss : List Sh} {vs : List Value} {is : List Int} {bs : List Bool} {ps : List Rg} {i b j m : Nat}, flatArgs ss vs w = some (is, bs, ps) → frzL ps w →
    (∀ n, n < argI ss → ρ.i (i + n) = is.getD n 0) → (∀ n, n < argB ss → ρ.b (b + n) = bs.getD n false) → (∀ (k : Nat) (r : Rg), ps[k]? = some r → β (ng + j + k) = some r) → (∀ (k : Nat) (r : Rg), (sliRgs ss vs w)[k]? = some (some r) → β (m + k) = some r) →
    (∀ (t : Nat) (x : SV), (initTm ng ss i b j m)[t]? = some x → x.mt β ρ (vs.getD t undef)) ∧ (initTm ng ss i b j m).length = vs.length ∧ heapMt β ρ (hpOf (initHp ng ss i b j)) w
  | [], [], is, bs, ps, i, b, j, m, h, _, _, _, _, _ => ⟨fun t x hx => by simp [initTm] at hx, rfl, fun id b hb => by simp [initHp, hpOf] at hb⟩
  | .val agg l :: ss, v :: vs, is, bs, ps, i, b, j, m, h, hf, hi, hb, hp, hs => by
    unfold flatArgs at h
    split at h
    · rename_i i1 b1 is' bs' ps' h1 h2
      simp only [Option.some.injEq, Prod.mk.injEq] at h
      obtain ⟨rfl, rfl, rfl⟩ := h
      obtain ⟨us, hfl, _⟩ := flat1_inv h1
      have e1 := flatC_len hfl
      simp only at e1
      obtain ⟨g1, g2, g3⟩ := init_ok ng (i := i + nI l) (b := b + nB l) (j := j) (m := m) h2 hf
        (fun n hn => by
          have := hi (nI l + n) (by simp only [argI]; omega)
          rw [show i + nI l + n = i + (nI l + n) by omega, this, ← e1.1, getD_append_right])
        (fun n hn => by
          have := hb (nB l + n) (by simp only [argB]; omega)
          rw [show b + nB l + n = b + (nB l + n) by omega, this, ← e1.2.1, getD_append_right]) hp (fun k r hk => hs k r (by simpa [sliRgs] using hk))
      obtain ⟨m1, _, _⟩ := fresh1_mt (FI := A.v) (FB := B.v) (β := β) (ρ := ρ) (pp := []) (ps := []) trivial (i := i) (b := b) h1
        (fun n hn => by have := hi n (by simp only [argI]; omega); rwa [getD_append_left _ _ _ _ (by omega)] at this)
        (fun n hn => by have := hb n (by simp only [argB]; omega); rwa [getD_append_left _ _ _ _ (by omega)] at this)
      refine ⟨fun t x hx => ?_, by simp [initTm, g2], g3⟩
      unfold initTm at hx
      cases t with
      | zero => simp at hx; subst hx; exact ⟨fun _ => m1, fun h => (by cases h)⟩
      | succ t => simp at hx; simpa using g1 t x hx
    · cases h
  | .ptr l :: ss, v :: vs, is, bs, ps, i, b, j, m, h, hf, hi, hb, hp, hs => by
    unfold flatArgs at h
    split at h
    · rename_i bk o is' bs' ps' h2
      split at h
      · rename_i i1 b1 h1
        simp only [Option.some.injEq, Prod.mk.injEq] at h
        obtain ⟨rfl, rfl, rfl⟩ := h
        cases hr : readCells w bk o l.length with
        | none => rw [hr] at h1; simp at h1
        | some us =>
          rw [hr] at h1
          simp only [Option.bind_some] at h1
          have e1 := flatC_len h1
          simp only at e1
          have hp0 := hp 0 { blk := bk, off := o, len := l.length, ro := false } (by simp)
          simp only [Nat.add_zero] at hp0
          obtain ⟨g1, g2, g3⟩ := init_ok ng (i := i + nI l) (b := b + nB l) (j := j + 1) (m := m) h2 (fun r hr => hf r (by simp [hr]))
            (fun n hn => by
              have := hi (nI l + n) (by simp only [argI]; omega)
              rw [show i + nI l + n = i + (nI l + n) by omega, this, ← e1.1, getD_append_right])
            (fun n hn => by
              have := hb (nB l + n) (by simp only [argB]; omega)
              rw [show b + nB l + n = b + (nB l + n) by omega, this, ← e1.2.1, getD_append_right])
            (fun k r hk => by have := hp (k + 1) r (by simpa using hk); rwa [show ng + (j + 1) + k = ng + j + (k + 1) by omega]) (fun k r hk => hs k r (by simpa [sliRgs] using hk))
          have m1 := freshC_mt (FI := A.v) (FB := B.v) (β := β) (ρ := ρ) (pp := []) (ps := []) trivial (i := i) (b := b) h1
            (fun n hn => by have := hi n (by simp only [argI]; omega); rwa [getD_append_left _ _ _ _ (by omega)] at this)
            (fun n hn => by have := hb n (by simp only [argB]; omega); rwa [getD_append_left _ _ _ _ (by omega)] at this)
          refine ⟨fun t x hx => ?_, by simp [initTm, g2], fun id bl hbl hg => ?_⟩
          · unfold initTm at hx
            cases t with
            | zero =>
              simp at hx
              subst hx
              exact ⟨fun _ => ⟨_, rfl, _, hp0, by simp [pick]⟩, fun h => (by cases h)⟩
            | succ t => simp at hx; simpa using g1 t x hx
          · unfold initHp hpOf at hbl
            split at hbl
            · rename_i he
              simp only [beq_iff_eq] at he
              subst he
              simp only [Option.some.injEq] at hbl
              subst hbl
              refine ⟨_, hp0, by simp [freshC_length], rfl, cellsAt_of_read hr m1, fun _ n hn => ?_⟩
              exact hf _ (by simp) n (by simpa [freshC_length] using hn)
            · exact g3 id bl hbl hg
      · cases h
    · cases h
  | .sli ks :: ss, v :: vs, is, bs, ps, i, b, j, m, h, hf, hi, hb, hp, hs => by
    unfold flatArgs at h
    split at h
    · rename_i l n r is' bs' ps' h1 h2
      simp only [Option.some.injEq, Prod.mk.injEq] at h
      obtain ⟨rfl, rfl, rfl⟩ := h
      have hcons : sliRgs (.sli ks :: ss) (v :: vs) w = r :: sliRgs ss vs w := by simp only [sliRgs, h1]
      obtain ⟨g1, g2, g3⟩ := init_ok ng (i := i + 2) (b := b) (j := j) (m := m + 1) h2 hf
        (fun n hn => by
          have := hi (2 + n) (by simp only [argI]; omega)
          rw [show i + 2 + n = i + (2 + n) by omega, this, show 2 + n = n + 1 + 1 by omega, List.getD_cons_succ, List.getD_cons_succ])
        (fun n hn => hb n (by simpa [argB] using hn)) hp
        (fun k r hk => by
          have := hs (k + 1) r (by rw [hcons]; simpa using hk)
          rwa [show m + 1 + k = m + (k + 1) by omega])
      refine ⟨fun t x hx => ?_, by simp [initTm, g2], g3⟩
      unfold initTm at hx
      cases t with
      | zero =>
        simp at hx
        subst hx
        have q0 := hi 0 (by simp only [argI]; omega)
        have q1 := hi 1 (by simp only [argI]; omega)
        refine ⟨fun _ => ⟨_, rfl, flatSl_mt h1 (fun r' hr' => ?_) (by simpa [A.d] using q0) (by simpa [A.d] using q1)⟩, fun h => (by cases h)⟩
        have := hs 0 r' (by rw [hcons, hr']; rfl)
        simpa using this
      | succ t => simp at hx; simpa using g1 t x hx
    · cases h
  | [], _ :: _, _, _, _, _, _, _, _, h, _, _, _, _, _ => by simp [flatArgs] at h
  | .val _ _ :: _, [], _, _, _, _, _, _, _, h, _, _, _, _, _ => by simp [flatArgs] at h
  | .ptr _ :: _, [], _, _, _, _, _, _, _, h, _, _, _, _, _ => by simp [flatArgs] at h
  | .sli _ :: _, [], _, _, _, _, _, _, _, h, _, _, _, _, _ => by simp [flatArgs] at h

/-- The tables' and the addresses' places. -/
def beta0 (gl : Gl) (ps : List Rg) (sl : List (Option Rg)) : Beta := fun i => if h : i < gl.length then some (gRg i gl[i]) else if i - gl.length < ps.length then ps[i - gl.length]? else (sl[i - gl.length - ps.length]?).join
theorem beta0_gl {gl : Gl} {ps : List Rg} {sl : List (Option Rg)} {g : Nat} {vs : List Value} (h : gl[g]? = some vs) : beta0 gl ps sl g = some (gRg g vs) := by
  obtain ⟨hlt, he⟩ := List.getElem?_eq_some_iff.1 h
  unfold beta0
  rw [dif_pos hlt, he]
theorem beta0_ps {gl : Gl} {ps : List Rg} {sl : List (Option Rg)} {k : Nat} {r : Rg} (h : ps[k]? = some r) : beta0 gl ps sl (gl.length + k) = some r := by
  have hk := (List.getElem?_eq_some_iff.1 h).1
  unfold beta0
  rw [dif_neg (by omega), if_pos (by omega), Nat.add_sub_cancel_left]
  exact h
theorem beta0_sl {gl : Gl} {ps : List Rg} {sl : List (Option Rg)} {k : Nat} {r : Rg} (h : sl[k]? = some (some r)) : beta0 gl ps sl (gl.length + ps.length + k) = some r := by
  unfold beta0
  rw [dif_neg (by omega), if_neg (by omega), show gl.length + ps.length + k - gl.length - ps.length = k by omega, h]
  rfl
theorem beta0_inv {gl : Gl} {ps : List Rg} {sl : List (Option Rg)} {i : Nat} {r : Rg} (h : beta0 gl ps sl i = some r) :
    (∃ vs, gl[i]? = some vs ∧ r = gRg i vs) ∨ (gl.length ≤ i ∧ ps[i - gl.length]? = some r) ∨ (gl.length + ps.length ≤ i ∧ sl[i - gl.length - ps.length]? = some (some r)) := by
  unfold beta0 at h
  split at h
  · rename_i hlt
    simp only [Option.some.injEq] at h
    exact .inl ⟨_, List.getElem?_eq_getElem hlt, h.symm⟩
  · split at h
    · exact .inr (.inl ⟨by omega, h⟩)
    · refine .inr (.inr ⟨by omega, ?_⟩)
      cases hs : sl[i - gl.length - ps.length]? with
      | none => rw [hs] at h; cases h
      | some o => rw [hs] at h; simp only [Option.join_some] at h; rw [h]
theorem sliRgs_mem {w : World} {r : Rg} : ∀ {ss : List Sh} {vs : List Value}, some r ∈ sliRgs ss vs w → ∃ ks v l n, .sli ks ∈ ss ∧ flatSl w ks v = some (l, n, some r)
  | .sli ks :: ss, v :: vs, h => by
    unfold sliRgs at h
    rcases List.mem_cons.1 h with h | h
    · cases hf : flatSl w ks v with
      | none => rw [hf] at h; cases h
      | some p =>
        obtain ⟨l, n, r'⟩ := p
        rw [hf] at h
        simp only at h
        exact ⟨ks, v, l, n, by simp, by rw [hf, h]⟩
    · obtain ⟨ks', v', l, n, h1, h2⟩ := sliRgs_mem h
      exact ⟨ks', v', l, n, by simp [h1], h2⟩
  | .val _ _ :: ss, v :: vs, h => by
    obtain ⟨ks', v', l, n, h1, h2⟩ := sliRgs_mem (ss := ss) (vs := vs) (by simpa [sliRgs] using h)
    exact ⟨ks', v', l, n, by simp [h1], h2⟩
  | .ptr _ :: ss, v :: vs, h => by
    obtain ⟨ks', v', l, n, h1, h2⟩ := sliRgs_mem (ss := ss) (vs := vs) (by simpa [sliRgs] using h)
    exact ⟨ks', v', l, n, by simp [h1], h2⟩
  | [], _, h => by simp [sliRgs] at h
  | .sli _ :: _, [], h => by simp [sliRgs] at h
  | .val _ _ :: _, [], h => by simp [sliRgs] at h
  | .ptr _ :: _, [], h => by simp [sliRgs] at h
theorem sliRgs_len {w : World} : ∀ {ss : List Sh} {vs : List Value}, vs.length = ss.length → (sliRgs ss vs w).length = nSli ss
  | .sli ks :: ss, v :: vs, h => by simp [sliRgs, nSli, sliRgs_len (ss := ss) (vs := vs) (by simpa using h)]
  | .val _ _ :: ss, v :: vs, h => by simp [sliRgs, nSli, sliRgs_len (ss := ss) (vs := vs) (by simpa using h)]
  | .ptr _ :: ss, v :: vs, h => by simp [sliRgs, nSli, sliRgs_len (ss := ss) (vs := vs) (by simpa using h)]
  | [], _, h => by simp [sliRgs, nSli]
  | .sli _ :: _, [], h => by simp at h
  | .val _ _ :: _, [], h => by simp at h
  | .ptr _ :: _, [], h => by simp at h
theorem apartL_get : ∀ {ps : List Rg}, apartL ps → ∀ {i j : Nat} {r q : Rg}, i < j → ps[i]? = some r → ps[j]? = some q → r.apart q
  | [], _, i, j, r, q, _, h, _ => by simp at h
  | p :: ps, ⟨h1, h2⟩, i, j, r, q, hij, hi, hj => by
    cases j with
    | zero => omega
    | succ j =>
      simp at hj
      cases i with
      | zero => simp at hi; subst hi; exact h1 q (List.mem_of_getElem? hj)
      | succ i => simp at hi; exact apartL_get h2 (by omega) hi hj
theorem Rg.apart_symm {r q : Rg} (h : r.apart q) : q.apart r := by
  unfold Rg.apart at *; omega
theorem ghOf_get : ∀ {gl : Gl} {g id : Nat} {b : Blk}, hpOf (ghOf gl g) id = some b → ∃ vs, gl[id - g]? = some vs ∧ g ≤ id ∧ b = { g := [], ro := true, cells := vs.map ofC }
  | [], g, id, b, h => by simp [ghOf, hpOf] at h
  | vs :: gl, g, id, b, h => by
    unfold ghOf hpOf at h
    split at h
    · rename_i he
      simp only [beq_iff_eq] at he
      subst he
      simp only [Option.some.injEq] at h
      exact ⟨vs, by simp, Nat.le_refl _, h.symm⟩
    · rename_i he
      obtain ⟨us, h1, h2, h3⟩ := ghOf_get h
      refine ⟨us, ?_, by omega, h3⟩
      rw [show id - g = (id - (g + 1)) + 1 by omega]
      simpa using h1
end Go.Proofs.YtalnndmnnffnmaaGreat.Sx
