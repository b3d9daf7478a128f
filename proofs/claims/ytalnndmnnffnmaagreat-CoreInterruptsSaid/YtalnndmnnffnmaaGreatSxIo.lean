/-
  SX, part Io: what a function that is entered in place comes to. No condition.
-/
import Derived.Test.YtalnndmnnffnmaaGreatSxIn
set_option linter.unusedVariables false
set_option linter.unusedSimpArgs false
namespace Go.Proofs.YtalnndmnnffnmaaGreat.Sx
open Go

/-- The stretches that a callee is told of. -/
def beIn (β : Beta) (lo : Nat) (hl : Hl) : Beta := fun i => match β i with
  | some r => if i < lo ∧ (r.ro = true ∨ hasB hl i = true) then some r else none
  | none => none
theorem beIn_some {β : Beta} {lo : Nat} {hl : Hl} {i : Nat} {r : Rg} : beIn β lo hl i = some r ↔ β i = some r ∧ i < lo ∧ (r.ro = true ∨ hasB hl i = true) := by
  unfold beIn
  cases h : β i with
  | none => simp
  | some q =>
    simp only
    split
    · rename_i hc
      constructor
      · intro e; cases e; exact ⟨rfl, hc⟩
      · rintro ⟨e, _⟩; exact e
    · rename_i hc
      constructor
      · intro e; cases e
      · rintro ⟨e, h2⟩; cases e; exact absurd h2 hc
/-- All stretches, behind the call. -/
def beOut (β β' : Beta) (lo hi : Nat) : Beta := fun i => if lo ≤ i ∧ i < hi then (match β' i with | some r => if r.ro then none else some r | none => none) else β i
theorem beOut_old {β β' : Beta} {lo hi i : Nat} (h : ¬ (lo ≤ i ∧ i < hi)) : beOut β β' lo hi i = β i := by unfold beOut; rw [if_neg h]
theorem beOut_new {β β' : Beta} {lo hi i : Nat} (h : lo ≤ i ∧ i < hi) {r : Rg} : beOut β β' lo hi i = some r ↔ β' i = some r ∧ r.ro = false := by
  unfold beOut
  rw [if_pos h]
  cases h : β' i with
  | none => simp
  | some q =>
    simp only
    split
    · rename_i hc
      constructor
      · intro e; cases e
      · rintro ⟨e, h2⟩; cases e; rw [hc] at h2; cases h2
    · rename_i hc
      constructor
      · intro e; cases e; exact ⟨rfl, by simpa using hc⟩
      · rintro ⟨e, _⟩; exact e
theorem hasB_some {h : Hl} {i : Nat} : hasB h i = true ↔ ∃ b, hpOf h i = some b := by
  unfold hasB
  cases hpOf h i <;> simp
theorem outOld_spec {h : Hl} : ∀ {l : Hl} {r : List (Nat × Blk)}, outOld h l = some r → (∀ p, p ∈ r → hpOf h p.1 = some p.2 ∧ p.2.g = [] ∧ p.2.ro = false ∧ p.1 ∈ l.map (·.1)) ∧ ∀ i b, (i, b) ∈ l → b.ro = false → i ∈ r.map (·.1)
  | [], r, e => by
    simp only [outOld, Option.some.injEq] at e
    subst e
    exact ⟨fun p hp => (by cases hp), fun i b hb => (by cases hb)⟩
  | (j, b0) :: l, r, e => by
    unfold outOld at e
    split at e
    · cases e
    · rename_i r' hr'
      obtain ⟨h1, h2⟩ := outOld_spec hr'
      split at e
      · rename_i hro
        simp only [Option.some.injEq] at e
        subst e
        refine ⟨fun p hp => ?_, fun i b hb hbr => ?_⟩
        · obtain ⟨a1, a2, a3, a4⟩ := h1 p hp
          exact ⟨a1, a2, a3, by simp only [List.map_cons, List.mem_cons]; exact .inr a4⟩
        · rcases List.mem_cons.1 hb with e | hb
          · cases e; rw [hro] at hbr; cases hbr
          · exact h2 i b hb hbr
      · split at e
        · rename_i b' hb'
          split at e
          · rename_i hc
            simp only [Bool.and_eq_true, List.isEmpty_iff, Bool.not_eq_true'] at hc
            simp only [Option.some.injEq] at e
            subst e
            refine ⟨fun p hp => ?_, fun i b hb hbr => ?_⟩
            · rcases List.mem_cons.1 hp with rfl | hp
              · exact ⟨hb', hc.1, hc.2, by simp⟩
              · obtain ⟨a1, a2, a3, a4⟩ := h1 p hp
                exact ⟨a1, a2, a3, by simp only [List.map_cons, List.mem_cons]; exact .inr a4⟩
            · rcases List.mem_cons.1 hb with e | hb
              · cases e; simp
              · simp only [List.map_cons, List.mem_cons]; exact .inr (h2 i b hb hbr)
          · cases e
        · cases e
theorem isNewB_spec {lo : Nat} {b : Blk} {i : Nat} (h : isNewB lo b i = true) : lo ≤ i ∧ b.g = [] ∧ b.ro = false := by
  unfold isNewB at h
  simp only [Bool.and_eq_true, Nat.ble_eq, List.isEmpty_iff, Bool.not_eq_true'] at h
  exact ⟨h.1.1, h.1.2, h.2⟩
theorem outNew_spec {lo : Nat} {h : Hl} : ∀ {l : List Nat} {p : Nat × Blk}, p ∈ outNew lo h l → hpOf h p.1 = some p.2 ∧ lo ≤ p.1 ∧ p.2.g = [] ∧ p.2.ro = false
  | [], p, hp => by cases hp
  | i :: l, p, hp => by
    unfold outNew at hp
    split at hp
    · rename_i b hb
      split at hp
      · rename_i hc
        rcases List.mem_cons.1 hp with rfl | hp
        · obtain ⟨h1, h2, h3⟩ := isNewB_spec hc
          exact ⟨hb, h1, h2, h3⟩
        · exact outNew_spec hp
      · exact outNew_spec hp
    · exact outNew_spec hp
theorem hpOf_key {h : Hl} {i : Nat} (hm : i ∈ h.map (·.1)) : ∃ b, hpOf h i = some b := by
  cases hc : hpOf h i with
  | some b => exact ⟨b, rfl⟩
  | none => exact absurd hm (hpOf_none hc)
theorem mtAll_len {β : Beta} {ρ : Env} : ∀ {xs : List S} {vs : List Value}, mtAll β ρ xs vs → xs.length = vs.length
  | [], [], _ => rfl
  | _ :: _, _ :: _, h => by simp [mtAll_len h.2]
section
variable {P : Program} {Φ : Funs} {gl : Gl}
/-- What the callee is told of holds where it is called. -/
theorem inl_rel {Γ : Gd} {hp : Hp} {xs : List S} {ρ : Env} {N : Nat} {R : List Rg} {β : Beta} {w : World} {vs : List Value} {lo : Nat} {ids : List Nat} {hl : Hl} (hhl : hl = calleeHp gl.length lo Γ hp ids) (hok : inlOk gl.length lo hl xs = true)
    (hΓ : Gd.d ρ Γ = true) (hm : mtAll β ρ xs vs) (hh : heapMt β ρ hp w) (hb : BetaOk N R β w) (hG : GB gl β w) (fn : Func) {R' : List Rg} (hR' : R' = (hl.map (·.1)).filterMap (beIn β lo hl)) :
    Rel { w0 := w, R := R', gl := gl, gr := [] } ρ (beIn β lo hl) (inlSt fn xs hl) { tmps := vs.toArray ++ Array.replicate (fn.ntmps - vs.toArray.size) undef, defers := [] } w ∧
      (∀ i b, hpOf hl i = some b → ∃ r, β i = some r ∧ beIn β lo hl i = some r ∧ r.ro = b.ro ∧ i < lo ∧ gl.length ≤ i ∧ ∃ j v, w.cell? ⟨r.blk, j, none⟩ = some v) := by
  unfold inlOk at hok
  simp only [Bool.and_eq_true, Nat.ble_eq] at hok
  obtain ⟨⟨hlo, hxs⟩, hcs⟩ := hok
  have hkn : ∀ i r, knOf gl.length hl i = true → β i = some r → beIn β lo hl i = some r := fun i r hk hi => by
    unfold knOf at hk
    simp only [Bool.or_eq_true, Nat.blt_eq] at hk
    rw [beIn_some]
    rcases hk with hk | hk
    · have := hG.2 i _ (List.getElem?_eq_getElem hk)
      rw [hi] at this
      simp only [Option.some.injEq] at this
      exact ⟨hi, by omega, .inl (by rw [this]; rfl)⟩
    · obtain ⟨b, hb'⟩ := hasB_some.1 hk
      rw [hhl] at hb'
      obtain ⟨_, h2, _⟩ := calleeHp_spec hb'
      exact ⟨hi, h2, .inr hk⟩
  have hsl : ∀ i r, Nat.blt i lo = true → β i = some r → r.sq.isSome = true → beIn β lo hl i = some r := fun i r hk hi hs => by
    rw [beIn_some]
    simp only [Nat.blt_eq] at hk
    obtain ⟨p, hp'⟩ := Option.isSome_iff_exists.1 hs
    exact ⟨hi, hk, .inl (hb.sq i r p.1 p.2 hi hp').1⟩
  have hblk : ∀ i b, hpOf hl i = some b → blkMt (beIn β lo hl) ρ w i b ∧ ∃ r, β i = some r ∧ beIn β lo hl i = some r ∧ r.ro = b.ro ∧ i < lo ∧ gl.length ≤ i ∧ ∃ j v, w.cell? ⟨r.blk, j, none⟩ = some v := fun i b hi => by
    have hi' := hi
    rw [hhl] at hi'
    obtain ⟨h1, h2, h3, h4, b', hb', hsub, hro, hc⟩ := calleeHp_spec hi'
    obtain ⟨r, hr, hl', hro', hca, hf⟩ := hh i b' hb' (Gd.sub_d hsub hΓ)
    have hin := beIn_some.2 ⟨hr, h2, .inr (hasB_some.2 ⟨b, hi⟩)⟩
    have hcb : b.cells.all (okC (knOf gl.length hl) fun i => Nat.blt i lo) = true := by
      rw [List.all_eq_true] at hcs
      exact hcs _ (hpOf_mem' hi)
    refine ⟨⟨r, hin, by rw [hl', hc], by rw [hro', hro], okCells_mt hkn hsl hcb (by rw [hc]; exact hca), fun h0 j hj => hf (by rw [← hro]; exact h0) j (by rw [← hc]; exact hj)⟩, r, hr, hin, by rw [hro', hro], h2, h1, ?_⟩
    rw [cellsAt_iff] at hca
    rw [hc] at h4
    obtain ⟨v, hv, _⟩ := hca 0 _ (List.getElem?_eq_getElem (List.length_pos_iff.2 h4))
    exact ⟨_, v, hv⟩
  refine ⟨⟨?_, fun t v ht => ?_, rfl, fun i b hi _ => (hblk i b hi).1, ?_, fun id b hb' => ?_, ⟨fun i j r q hij hi hj => ?_, fun i r hi => ?_, fun i r hi => ?_, fun i r ks l hi hs => ?_⟩, Keep.refl _ _, fun g us hg => ?_, fun j r hr => (by simp at hr)⟩, fun i b hi => (hblk i b hi).2⟩
  · simp [inlSt, mtAll_len hm]
  · have hm' := okAll_mt hkn hsl hxs hm
    have key : ∀ {xs : List S} {vs : List Value} {n : Nat} {t : Nat} {v : SV}, mtAll (beIn β lo hl) ρ xs vs → (xs.map (fun s => ({ g := [], s := s } : SV)) ++ List.replicate n anySV)[t]? = some v → v.mt (beIn β lo hl) ρ ((vs ++ List.replicate n undef).getD t undef) := by
      intro xs
      induction xs with
      | nil =>
        intro vs n t v hm ht
        simp only [List.map_nil, List.nil_append, List.getElem?_replicate] at ht
        split at ht
        · simp only [Option.some.injEq] at ht
          subst ht
          exact anySV_mt _
        · cases ht
      | cons x xs ih =>
        intro vs n t v hm ht
        cases vs with
        | nil => exact hm.elim
        | cons u vs =>
          cases t with
          | zero =>
            simp at ht
            subst ht
            exact ⟨fun _ => by simpa using hm.1, fun h => by cases h⟩
          | succ t =>
            have := ih (vs := vs) (n := n) (t := t) (v := v) hm.2 (by simpa using ht)
            simpa using this
    have hlen := mtAll_len hm
    have := key hm' ht
    rw [hlen] at this
    rw [List.getD_eq_getElem?_getD] at this
    have e : (vs.toArray ++ Array.replicate (fn.ntmps - vs.toArray.size) undef).getD t undef = ((vs ++ List.replicate (fn.ntmps - vs.length) undef)[t]?).getD undef := by
      have : (vs.toArray ++ Array.replicate (fn.ntmps - vs.toArray.size) undef) = (vs ++ List.replicate (fn.ntmps - vs.length) undef).toArray := by
        apply Array.toList_inj.1; simp
      rw [this]
      simp
    rw [e]
    exact this
  · intro id b hb' _
    obtain ⟨us, hus, _, rfl⟩ := ghOf_get hb'
    rw [Nat.sub_zero] at hus
    have hlt : id < gl.length := (List.getElem?_eq_some_iff.1 hus).1
    refine ⟨_, beIn_some.2 ⟨hG.2 id us hus, by omega, .inl rfl⟩, by simp [gRg], rfl, ?_, fun h => by cases h⟩
    rw [cellsAt_iff]
    intro j c hj
    rw [List.getElem?_map] at hj
    cases hu : us[j]? with
    | none => rw [hu] at hj; simp at hj
    | some u =>
      rw [hu] at hj
      simp only [Option.map_some, Option.some.injEq] at hj
      subst hj
      have hl := (hG.1 id us hus).2 j u hu
      exact ⟨u, by simpa [gRg] using hl.1, ofC_mt hl.2⟩
  · obtain ⟨us, _, _, rfl⟩ := ghOf_get hb'
    rfl
  · exact hb.apart i j r q hij (beIn_some.1 hi).1 (beIn_some.1 hj).1
  · exact hb.place i r (beIn_some.1 hi).1
  · obtain ⟨h1, h2, h3⟩ := beIn_some.1 hi
    rcases h3 with h3 | h3
    · exact .inl h3
    · right; right
      obtain ⟨b, hb'⟩ := hasB_some.1 h3
      refine ⟨r, ?_, rfl, Nat.le_refl _, Nat.le_refl _⟩
      rw [hR', List.mem_filterMap]
      exact ⟨i, List.mem_map.2 ⟨_, hpOf_mem' hb', rfl⟩, hi⟩
  · exact hb.sq i r ks l (beIn_some.1 hi).1 hs
  · have hlt : g < gl.length := (List.getElem?_eq_some_iff.1 hg).1
    exact beIn_some.2 ⟨hG.2 g us hg, by omega, .inl rfl⟩
/-- All that was known before, or comes new, is known behind it. -/
theorem inl_post {ρ : Env} {N : Nat} {R : List Rg} {β β' : Beta} {w w' : World} {lo hi : Nat} {hl : Hl} {xs : List S} (hok : inlOk gl.length lo hl xs = true) {σ : St} {old : List (Nat × Blk)} (hold : outOld σ.hp hl = some old) {s : S} (hend : inlE gl.length lo hl σ.hp s (inlW lo σ.hp old) = true)
    {v : Value} (hs : s.mt β' ρ v) (hb : BetaOk N R β w) (hN : N ≤ w.heap.size) (hG : GB gl β w) (hfr : ∀ i, lo ≤ i → i < hi → β i = none)
    (hknown : ∀ i b, hpOf hl i = some b → ∃ r, β i = some r ∧ beIn β lo hl i = some r ∧ r.ro = b.ro ∧ i < lo ∧ gl.length ≤ i ∧ ∃ j v, w.cell? ⟨r.blk, j, none⟩ = some v)
    {R2 : List Rg} (hR2 : ∀ r, r ∈ R2 → ∃ i b, hpOf hl i = some b ∧ β i = some r ∧ r.ro = false ∧ b.ro = false ∧ ∃ j v, w.cell? ⟨r.blk, j, none⟩ = some v) (hE : Ext (beIn β lo hl) β') {a : Act} (hrel : Rel { w0 := w, R := R2, gl := gl, gr := [] } ρ β' σ a w') (hf' : ∀ i, hi ≤ i → β' i = none) :
    RPost N R ρ β w lo hi { s := s, w := inlW lo σ.hp old } v w' := by
  unfold inlOk at hok
  simp only [Bool.and_eq_true, Nat.ble_eq] at hok
  obtain ⟨⟨hlo, _⟩, _⟩ := hok
  unfold inlE at hend
  simp only [Bool.and_eq_true] at hend
  obtain ⟨hend1, hend2⟩ := hend
  obtain ⟨ho1, ho2⟩ := outOld_spec hold
  have hkn : ∀ i r, knEnd gl.length lo hl σ.hp i = true → β' i = some r → beOut β β' lo hi i = some r := fun i r hk hi' => by
    unfold knEnd knOf at hk
    simp only [Bool.or_eq_true, Nat.blt_eq] at hk
    rcases hk with (hk | hk) | hk
    · rw [beOut_old (by omega)]
      have e1 := hrel.gl i _ (List.getElem?_eq_getElem hk)
      have e2 := hG.2 i _ (List.getElem?_eq_getElem hk)
      rw [hi'] at e1
      rw [e2, e1]
    · obtain ⟨b, hb'⟩ := hasB_some.1 hk
      obtain ⟨r', e1, e2, e3, e4, _⟩ := hknown i b hb'
      rw [beOut_old (by omega), e1]
      have := hE i r' e2
      rw [hi'] at this
      exact this.symm
    · unfold knNew at hk
      split at hk
      · rename_i b hb'
        obtain ⟨e1, e2, e3⟩ := isNewB_spec hk
        have hlt : i < hi := by
          rcases Nat.lt_or_ge i hi with h | h
          · exact h
          · rw [hf' i h] at hi'; cases hi'
        obtain ⟨r', g1, _, g3, _⟩ := hrel.hm i b hb' (by rw [e2]; rfl)
        rw [hi'] at g1
        cases g1
        exact (beOut_new ⟨e1, hlt⟩).2 ⟨hi', by rw [g3, e3]⟩
      · cases hk
  have hsl : ∀ i r, (fun _ => false) i = true → β' i = some r → r.sq.isSome = true → beOut β β' lo hi i = some r := fun i r hk => by cases hk
  have hsz := hrel.kp.size
  simp only at hsz
  -- a new stretch is new, or within one that may be written
  have hnew : ∀ i q, lo ≤ i → i < hi → β' i = some q → q.ro = false → w.heap.size ≤ q.blk ∨ ∃ i0 q0, i0 < lo ∧ β i0 = some q0 ∧ β' i0 = some q0 ∧ q0.ro = false ∧ q0.blk = q.blk ∧ q0.off ≤ q.off ∧ q.off + q.len ≤ q0.off + q0.len := fun i q h1 h2 h3 h4 => by
    rcases hrel.bo.may i q h3 with h | h
    · rw [h4] at h; cases h
    · rcases h with h | ⟨q0, hq0, e1, e2, e3⟩
      · exact .inl h
      · right
        obtain ⟨i0, b0, g1, g2, g3, _⟩ := hR2 q0 hq0
        obtain ⟨r', k1, k2, _, k4, _⟩ := hknown i0 b0 g1
        rw [g2] at k1
        cases k1
        exact ⟨i0, q0, k4, g2, hE _ _ k2, g3, e1, e2, e3⟩
  have hold_new : ∀ i j r q, ¬ (lo ≤ i ∧ i < hi) → (lo ≤ j ∧ j < hi) → β i = some r → β' j = some q → q.ro = false → r.apart q := fun i j r q h1 h2 h3 h4 h5 => by
    rcases hnew j q h2.1 h2.2 h4 h5 with h | ⟨i0, q0, e0, e1, e2, e3, e4, e5, e6⟩
    · left
      have := hb.place i r h3
      omega
    · by_cases hi0 : i = i0
      · subst hi0
        rw [h3] at e1
        cases e1
        exact (hrel.bo.apartW (by omega) e2 h4 e3)
      · have := Rg.apart_symm (hb.apartW (i := i0) (j := i) (fun e => hi0 e.symm) e1 h3 e3)
        unfold Rg.apart at *
        omega
  have hb2 : BetaOk N R β w' := hb.keep (W := R2) (fun r hr => by obtain ⟨i, b, _, e2, e3, _⟩ := hR2 r hr; exact ⟨i, e2, e3⟩) hrel.kp
  refine ⟨beOut β β' lo hi, ⟨fun i r hi' => ?_, ⟨fun i j r q hij hi' hj => ?_, fun i r hi' => ?_, fun i r hi' => ?_, fun i r ks l hi' hsq => ?_⟩, ⟨R2, fun r hr => ?_, hrel.kp⟩, fun i hi' => beOut_old (by omega)⟩, okS_mt hkn hsl hend1 hs, fun p hp => ?_⟩
  · by_cases h : lo ≤ i ∧ i < hi
    · rw [hfr i h.1 h.2] at hi'; cases hi'
    · rw [beOut_old h]; exact hi'
  · by_cases h1 : lo ≤ i ∧ i < hi
    · obtain ⟨a1, a2⟩ := (beOut_new h1).1 hi'
      by_cases h2 : lo ≤ j ∧ j < hi
      · obtain ⟨b1, b2⟩ := (beOut_new h2).1 hj
        exact .inr (hrel.bo.apartW hij a1 b1 a2)
      · rw [beOut_old h2] at hj
        exact .inr (Rg.apart_symm (hold_new j i q r h2 h1 hj a1 a2))
    · rw [beOut_old h1] at hi'
      by_cases h2 : lo ≤ j ∧ j < hi
      · obtain ⟨b1, b2⟩ := (beOut_new h2).1 hj
        exact .inr (hold_new i j r q h1 h2 hi' b1 b2)
      · rw [beOut_old h2] at hj
        exact hb.apart i j r q hij hi' hj
  · by_cases h1 : lo ≤ i ∧ i < hi
    · exact hrel.bo.place i r ((beOut_new h1).1 hi').1
    · rw [beOut_old h1] at hi'
      exact hb2.place i r hi'
  · by_cases h1 : lo ≤ i ∧ i < hi
    · obtain ⟨a1, a2⟩ := (beOut_new h1).1 hi'
      rcases hnew i r h1.1 h1.2 a1 a2 with h | ⟨i0, q0, e0, e1, e2, e3, e4, e5, e6⟩
      · exact .inr (.inl (by omega))
      · rcases hb.may i0 q0 e1 with h | h
        · rw [e3] at h; cases h
        · right
          rcases h with h | ⟨q, hq, g1, g2, g3⟩
          · exact .inl (by omega)
          · exact .inr ⟨q, hq, by omega, by omega, by omega⟩
    · rw [beOut_old h1] at hi'
      exact hb.may i r hi'
  · by_cases h1 : lo ≤ i ∧ i < hi
    · obtain ⟨a1, a2⟩ := (beOut_new h1).1 hi'
      have := (hrel.bo.sq i r ks l a1 hsq).1
      rw [a2] at this
      cases this
    · rw [beOut_old h1] at hi'
      exact hb2.sq i r ks l hi' hsq
  · obtain ⟨i, b, e1, e2, e3, e4, e5⟩ := hR2 r hr
    refine ⟨i, ?_, e2, e3, e5⟩
    have := ho2 i b (hpOf_mem' e1) e4
    simp only [inlW, List.map_append, List.mem_append]
    exact .inl this
  · have hcell : p.2.cells.all (okC (knEnd gl.length lo hl σ.hp) fun _ => false) = true := (List.all_eq_true.1 hend2) p hp
    have key : hpOf σ.hp p.1 = some p.2 ∧ p.2.g = [] ∧ knEnd gl.length lo hl σ.hp p.1 = true := by
      simp only [inlW, List.mem_append] at hp
      rcases hp with hp | hp
      · obtain ⟨a1, a2, a3, a4⟩ := ho1 p hp
        refine ⟨a1, a2, ?_⟩
        unfold knEnd knOf
        obtain ⟨b, hb'⟩ := hpOf_key a4
        simp [hasB_some.2 ⟨b, hb'⟩]
      · obtain ⟨a1, a2, a3, a4⟩ := outNew_spec hp
        refine ⟨a1, a3, ?_⟩
        unfold knEnd knNew
        rw [a1]
        simp [isNewB, a2, a3, a4]
    obtain ⟨k1, k2, k3⟩ := key
    obtain ⟨r, hr, hl', hro, hca, hfz⟩ := hrel.hm p.1 p.2 k1 (by rw [k2]; rfl)
    exact ⟨r, hkn p.1 r k3 hr, hl', hro, okCells_mt hkn hsl hcell hca, hfz⟩
theorem inl_ok {H : Hnd} (hH : HOk P Φ gl H) {f : Nat} {fn : Func} (hf : P.funcs[f]? = some fn) (hn : (fn.name == "runtime.NumGoroutine") = false) {k : Ctl} (hK : LoopsOk Φ k) {Γ : Gd} {hp : Hp} {xs : List S} {ρ : Env} {c c' : Ctr} {res : Res} {out : List Em}
    (he : inlM P H gl k fn Γ hp xs c = some (res, c', out)) (hg : Good Φ ρ out) (hΓ : Gd.d ρ Γ = true) {N : Nat} {R : List Rg} {β : Beta} {w : World} {vs : List Value} (hm : mtAll β ρ xs vs) (hh : heapMt β ρ hp w) (hb : BetaOk N R β w) (hN : N ≤ w.heap.size)
    (hG : GB gl β w) (hfr : ∀ i, c.id ≤ i → i < c'.id → β i = none) :
    (∀ args w, (callFunc f args).run P w = .ok (.enter f args) w) ∧ Calls P f vs.toArray w fun e w' => ∃ v, e = .returned v ∧ RPost N R ρ β w c.id c'.id res v w' := by
  unfold inlM at he
  obtain ⟨lo, c1, o1, c2, o2, y, h1, h2, he⟩ := M.bind_inv he
  simp only [Prod.mk.injEq] at he
  obtain ⟨rfl, rfl, rfl⟩ := he
  simp only [getId, Option.some.injEq, Prod.mk.injEq] at h1
  obtain ⟨rfl, rfl, rfl⟩ := h1
  obtain ⟨body, c3, o3, c4, o4, y, h3, h4, he⟩ := M.bind_inv h2
  simp only [Prod.mk.injEq] at he
  obtain ⟨rfl, rfl, rfl⟩ := he
  obtain ⟨body', hbody, he⟩ := lift_inv h3
  simp only [Prod.mk.injEq] at he
  obtain ⟨rfl, rfl, rfl⟩ := he
  obtain ⟨hl, hhl⟩ : ∃ hl, hl = calleeHp gl.length c3.id Γ hp (dedupN (reachH hp 3 (argIds xs))) := ⟨_, rfl⟩
  rw [← hhl] at h4
  unfold inlB at h4
  split at h4
  · rename_i hok
    obtain ⟨O, c5, o5, c6, o6, y, h5, h6, he⟩ := M.bind_inv h4
    simp only [Prod.mk.injEq] at he
    obtain ⟨rfl, rfl, rfl⟩ := he
    obtain ⟨σ, c7, o7, c8, o8, y, h7, h8, he⟩ := M.bind_inv h6
    simp only [Prod.mk.injEq] at he
    obtain ⟨rfl, rfl, rfl⟩ := he
    obtain ⟨rs, c9, o9, c10, o10, y, h9, h10, he⟩ := M.bind_inv h8
    simp only [Prod.mk.injEq] at he
    obtain ⟨rfl, rfl, rfl⟩ := he
    obtain ⟨s, c11, o11, c12, o12, y, h11, h12, he⟩ := M.bind_inv h10
    simp only [Prod.mk.injEq] at he
    obtain ⟨rfl, rfl, rfl⟩ := he
    obtain ⟨s', hts, he⟩ := lift_inv h11
    simp only [Prod.mk.injEq] at he
    obtain ⟨rfl, rfl, rfl⟩ := he
    obtain ⟨old, c13, o13, c14, o14, y, h13, h14, he⟩ := M.bind_inv h12
    simp only [Prod.mk.injEq] at he
    obtain ⟨rfl, rfl, rfl⟩ := he
    obtain ⟨old', hold, he⟩ := lift_inv h13
    simp only [Prod.mk.injEq] at he
    obtain ⟨rfl, rfl, rfl⟩ := he
    split at h14
    · rename_i hend
      have he := M.pure_inv h14
      simp only [Prod.mk.injEq] at he
      obtain ⟨rfl, rfl, rfl⟩ := he
      obtain ⟨h5, le5⟩ := mono_inv h5
      obtain ⟨h7, le7⟩ := mono_inv h7
      obtain ⟨h9, le9⟩ := mono_inv h9
      simp only at le5 le7 le9
      simp only [Good.append] at hg
      obtain ⟨_, _, g5, g7, g9, _⟩ := hg
      obtain ⟨R', hR'⟩ : ∃ R', R' = (hl.map (·.1)).filterMap (beIn β c3.id hl) := ⟨_, rfl⟩
      obtain ⟨hrel, hknown⟩ := inl_rel (Γ := Γ) (hp := hp) hhl hok hΓ hm hh hb hG fn hR'
      have hRm : ∀ r, r ∈ R' → ∃ i b, hpOf hl i = some b ∧ β i = some r ∧ r.ro = b.ro ∧ ∃ j v, w.cell? ⟨r.blk, j, none⟩ = some v := fun r hr => by
        rw [hR', List.mem_filterMap] at hr
        obtain ⟨i, hi, hβ⟩ := hr
        obtain ⟨b, hb'⟩ := hpOf_key hi
        obtain ⟨r', e1, e2, e3, e4, e5, e6⟩ := hknown i b hb'
        rw [e2] at hβ
        cases hβ
        exact ⟨i, b, hb', e1, e3, e6⟩
      -- of these, what may be written
      obtain ⟨R2, hR2⟩ : ∃ R2, R2 = R'.filter fun r => !r.ro := ⟨_, rfl⟩
      have hR2m : ∀ r, r ∈ R2 → ∃ i b, hpOf hl i = some b ∧ β i = some r ∧ r.ro = false ∧ b.ro = false ∧ ∃ j v, w.cell? ⟨r.blk, j, none⟩ = some v := fun r hr => by
        rw [hR2, List.mem_filter] at hr
        obtain ⟨i, b, e1, e2, e3, e4⟩ := hRm r hr.1
        have : r.ro = false := by simpa using hr.2
        exact ⟨i, b, e1, e2, this, by rw [← e3]; exact this, e4⟩
      have hrel2 : Rel { w0 := w, R := R2, gl := gl, gr := [] } ρ (beIn β c3.id hl) (inlSt fn xs hl) { tmps := vs.toArray ++ Array.replicate (fn.ntmps - vs.toArray.size) undef, defers := [] } w := by
        refine ⟨hrel.size, hrel.slot, hrel.df, hrel.hm, hrel.gm, hrel.gro, ⟨hrel.bo.apart, hrel.bo.place, fun i r hi => ?_, hrel.bo.sq⟩, Keep.refl _ _, hrel.gl, hrel.ra⟩
        obtain ⟨e1, e2, e3⟩ := beIn_some.1 hi
        cases hro : r.ro with
        | true => exact .inl rfl
        | false =>
          rcases e3 with e3 | e3
          · rw [hro] at e3; cases e3
          · right; right
            obtain ⟨b, hb'⟩ := hasB_some.1 e3
            refine ⟨r, ?_, rfl, Nat.le_refl _, Nat.le_refl _⟩
            rw [hR2, List.mem_filter]
            refine ⟨?_, by simp [hro]⟩
            rw [hR', List.mem_filterMap]
            exact ⟨i, List.mem_map.2 ⟨_, hpOf_mem' hb', rfl⟩, hi⟩
      have hapG : ∀ r, r ∈ R2 → ∀ (g : Nat) (us : List Value), gl[g]? = some us → r.apart (gRg g us) := fun r hr g us hgu => by
        obtain ⟨i, b, e1, e2, e3, _⟩ := hR2m r hr
        refine hb.apartW (fun e => ?_) e2 (hG.2 g us hgu) e3
        subst e
        rw [hG.2 _ us hgu] at e2
        cases e2
        cases e3
      have hGl : ∀ w', Keep R2 w w' → Laid gl w' := by
        intro w' hk g us hgu
        obtain ⟨e1, e2⟩ := hG.1 g us hgu
        refine ⟨by have := hk.size; omega, fun j v hj => ?_⟩
        obtain ⟨e3, e4⟩ := e2 j v hj
        refine ⟨(hk.cell _ e1 fun r hr hin => ?_).trans e3, e4⟩
        have := hapG r hr g us hgu
        have hlt := (List.getElem?_eq_some_iff.1 hj).1
        unfold inRg at hin
        unfold Rg.apart gRg at this
        simp only at hin this
        omega
      have hfresh : Fresh (beIn β c3.id hl) c3 := fun i hi => by
        cases hx : beIn β c3.id hl i with
        | none => rfl
        | some r => have := (beIn_some.1 hx).2.1; omega
      have hK' : LoopsOk Φ { k with base := c3.id } := hK
      refine ⟨callable_of hf hn (by rw [hbody]; rfl), ?_⟩
      have hrun := exec_ok (x := { w0 := w, R := R2, gl := gl, gr := [] }) hH hGl { k with base := c3.id } hK' body ρ _ _ _ O _ h5 g5 (beIn β c3.id hl) _ w hrel2 hfresh
        (bodyPost P fn fun e w' => ∃ v, e = .returned v ∧ RPost N R ρ β w c3.id c'.id { s := s, w := inlW c3.id σ.hp old } v w') fun e a' w' K hk hO => ?_
      · exact calls_of_wp hf hbody hrun
      · obtain ⟨hKK, β', hE, hR, hF⟩ := endSt_snd k.keep O _ _ _ _ h7 g7 (beIn β c3.id hl) c5 K a' w' hO
        obtain ⟨us, hus, hum⟩ := rAll_snd (P := P) (x := { w0 := w, R := R2, gl := gl, gr := [] }) σ fn.results.toList _ _ _ _ h9 g9 β' a' w' hR
        have hres := results_run hus
        have hfin : a'.defers = [] ∧ ∃ v, (results fn a'.tmps).run P w' = .ok v w' ∧ ∃ v', Ending.returned v = .returned v' ∧ RPost N R ρ β w c3.id c'.id { s := s, w := inlW c3.id σ.hp old } v' w' :=
          ⟨hR.df, _, hres, _, rfl, inl_post hok hold hend (tupS_mt hts hum) hb hN hG hfr hknown hR2m hE hR (fun i hi => hF i (by omega))⟩
        rcases hKK with rfl | rfl
        · rw [kdOf_n hk]
          exact hfin
        · cases e <;> simp only [kdOf, Option.some.injEq] at hk <;> (try (cases hk; done))
          exact hfin
    · simp [M.fail] at h14
  · simp [M.fail] at h4
end
end Go.Proofs.YtalnndmnnffnmaaGreat.Sx
