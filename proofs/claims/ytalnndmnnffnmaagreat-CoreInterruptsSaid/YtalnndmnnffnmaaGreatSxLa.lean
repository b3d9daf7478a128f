/-
  SX, part La: calls through functions' values, functions that capture addresses, all operations together. No condition.
-/
import Derived.Test.YtalnndmnnffnmaaGreatSxL
set_option linter.unusedVariables false
set_option linter.unusedSimpArgs false
namespace Go.Proofs.YtalnndmnnffnmaaGreat.Sx
open Go

/-- Numbers of stretches only rise. -/
def M.mono {α : Type} (m : M α) : M α := fun c =>
  match m c with
  | some (x, c', o) => if Nat.ble c.id c'.id then some (x, c', o) else none
  | none => none
theorem mono_inv {α : Type} {m : M α} {c : Ctr} {r : α × Ctr × List Em} (h : M.mono m c = some r) : m c = some r ∧ c.id ≤ r.2.1.id := by
  simp only [M.mono] at h
  cases h1 : m c with
  | none => rw [h1] at h; cases h
  | some p =>
    obtain ⟨x, c1, o1⟩ := p
    rw [h1] at h
    simp only at h
    split at h
    · rename_i hle
      simp only [Nat.ble_eq] at hle
      simp only [Option.some.injEq] at h
      subst h
      exact ⟨rfl, hle⟩
    · cases h
theorem Snd.mono' {α : Type} {Φ : Funs} {ρ : Env} {m : M α} {p : α → Prop} (h : Snd Φ ρ m p) : Snd Φ ρ (M.mono m) p :=
  fun c x c' o he hg => h c x c' o (mono_inv he).1 hg
theorem Fresh.le {β : Beta} {c c' : Ctr} (h : Fresh β c) (hc : c.id ≤ c'.id) : Fresh β c' := fun i hi => h i (by omega)

def getId : M Nat := fun c => some (c.id, c, [])
def capS (l : List (Nat × Nat)) : List S := l.map fun p => .one false [.ptr [] p.1 p.2]
theorem capS_mt {β : Beta} {ρ : Env} : ∀ {l : List (Nat × Nat)} {vs : List Value}, capMt β l vs → mtAll β ρ (capS l) vs
  | [], [], _ => trivial
  | p :: l, v :: vs, ⟨⟨r, hr, hv⟩, h2⟩ => ⟨⟨_, rfl, r, by simpa [pick] using hr, by simpa [pick] using hv⟩, capS_mt h2⟩
theorem mtAll_append {β : Beta} {ρ : Env} {ys : List S} {us : List Value} (h2 : mtAll β ρ ys us) : ∀ {xs : List S} {vs : List Value}, mtAll β ρ xs vs → mtAll β ρ (xs ++ ys) (vs ++ us)
  | [], [], _ => h2
  | _ :: _, _ :: _, ⟨h, h1⟩ => ⟨h, mtAll_append h2 h1⟩

/-! ### Two ways' answers as one -/
def wBlk (Γ : Gd) (hp : Hp) (l : List (Nat × Blk)) (id : Nat) : Option Blk :=
  match hpOf l id with
  | some b => some b
  | none => match hp id with
    | some b => if Gd.sub b.g Γ then some b else none
    | none => none
def muxW (Γ : Gd) (hp : Hp) (lo hi : Nat) (b : B) (w1 w2 : List (Nat × Blk)) : List Nat → M (List (Nat × Blk))
  | [] => pure []
  | i :: l => do
    let r ← muxW Γ hp lo hi b w1 w2 l
    match hp i with
    | none => if Nat.ble lo i && Nat.blt i hi then pure r else M.fail
    | some _ => match wBlk Γ hp w1 i, wBlk Γ hp w2 i with
      | some b1, some b2 =>
        if b1.ro == b2.ro && b1.cells.length == b2.cells.length then do
          let z ← muxL b b1.cells b2.cells
          pure ((i, { g := [], ro := b1.ro, cells := z }) :: r)
        else M.fail
      | _, _ => M.fail
theorem blkMt_mux {ρ : Env} {b : B} {b1 b2 : Blk} {z : List C} (hro : b1.ro = b2.ro) (hlen : b1.cells.length = b2.cells.length) (hz : z.length = b1.cells.length)
    (hc : ∀ β w k o, (if b.d ρ then cellsAt β ρ w k o b1.cells else cellsAt β ρ w k o b2.cells) → cellsAt β ρ w k o z) {β : Beta} {w : World} {i : Nat} (h : if b.d ρ then blkMt β ρ w i b1 else blkMt β ρ w i b2) :
    blkMt β ρ w i { g := [], ro := b1.ro, cells := z } := by
  split at h
  · rename_i hb
    obtain ⟨r, hr, hl, hro', hca, hf⟩ := h
    exact ⟨r, hr, by simp only; omega, hro', hc β w _ _ (by rw [if_pos hb]; exact hca), fun h0 j hj => hf h0 j (by simp only at hj; omega)⟩
  · rename_i hb
    obtain ⟨r, hr, hl, hro', hca, hf⟩ := h
    exact ⟨r, hr, by simp only; omega, by simp only; rw [hro]; exact hro', hc β w _ _ (by rw [if_neg hb]; exact hca), fun h0 j hj => hf (by simp only at h0; rw [← hro]; exact h0) j (by simp only at hj; omega)⟩
section
variable {Φ : Funs} {ρ : Env}
theorem muxW_snd (Γ : Gd) (hp : Hp) (lo hi : Nat) (b : B) (w1 w2 : List (Nat × Blk)) : ∀ (l : List Nat), Snd Φ ρ (muxW Γ hp lo hi b w1 w2 l) (fun r =>
    (∀ i, i ∈ l → (hp i).isSome = true → i ∈ r.map (·.1)) ∧ (∀ i, i ∈ l → hp i = none → lo ≤ i ∧ i < hi) ∧
    ∀ β w, (if b.d ρ then (∀ i bk, i ∈ l → wBlk Γ hp w1 i = some bk → blkMt β ρ w i bk) else (∀ i bk, i ∈ l → wBlk Γ hp w2 i = some bk → blkMt β ρ w i bk)) → ∀ p, p ∈ r → blkMt β ρ w p.1 p.2)
  | [] => Snd.pure ⟨fun i h => (by cases h), fun i h => (by cases h), fun β w _ p h => (by cases h)⟩
  | i :: l => by
    unfold muxW
    refine Snd.bind (muxW_snd Γ hp lo hi b w1 w2 l) fun r ⟨h1, h2, h3⟩ => ?_
    have h3' : ∀ β w, (if b.d ρ then (∀ j bk, j ∈ i :: l → wBlk Γ hp w1 j = some bk → blkMt β ρ w j bk) else (∀ j bk, j ∈ i :: l → wBlk Γ hp w2 j = some bk → blkMt β ρ w j bk)) → ∀ p, p ∈ r → blkMt β ρ w p.1 p.2 := fun β w h p hp => by
      refine h3 β w ?_ p hp
      split
      · rename_i hb; rw [if_pos hb] at h; exact fun j bk hj => h j bk (by simp [hj])
      · rename_i hb; rw [if_neg hb] at h; exact fun j bk hj => h j bk (by simp [hj])
    split
    · rename_i hn
      split
      · rename_i hc
        simp only [Bool.and_eq_true, Nat.ble_eq, Nat.blt_eq] at hc
        refine Snd.pure ⟨fun j hj hs => ?_, fun j hj hs => ?_, h3'⟩
        · rcases List.mem_cons.1 hj with rfl | hj
          · rw [hn] at hs; cases hs
          · exact h1 j hj hs
        · rcases List.mem_cons.1 hj with rfl | hj
          · exact hc
          · exact h2 j hj hs
      · exact Snd.fail
    · rename_i b0 hn
      split
      · rename_i b1 b2 hb1 hb2
        split
        · rename_i hc
          simp only [Bool.and_eq_true, beq_iff_eq] at hc
          refine Snd.bind (muxL_snd b b1.cells b2.cells) fun z hz => Snd.pure ⟨fun j hj hs => ?_, fun j hj hs => ?_, fun β w h p hp => ?_⟩
          · rcases List.mem_cons.1 hj with rfl | hj
            · simp
            · simp only [List.map_cons, List.mem_cons]; exact .inr (h1 j hj hs)
          · rcases List.mem_cons.1 hj with rfl | hj
            · rw [hn] at hs; cases hs
            · exact h2 j hj hs
          · rcases List.mem_cons.1 hp with rfl | hp
            · refine blkMt_mux (b := b) hc.1 hc.2 hz.1 hz.2.2.2 ?_
              split
              · rename_i hb; rw [if_pos hb] at h; exact h i b1 (by simp) hb1
              · rename_i hb; rw [if_neg hb] at h; exact h i b2 (by simp) hb2
            · exact h3' β w h p hp
        · exact Snd.fail
      · exact Snd.fail
end
def dedupN : List Nat → List Nat
  | [] => []
  | i :: l => if (dedupN l).contains i then dedupN l else i :: dedupN l
theorem mem_dedupN : ∀ {l : List Nat} {i : Nat}, i ∈ l → i ∈ dedupN l
  | j :: l, i, h => by
    unfold dedupN
    rcases List.mem_cons.1 h with rfl | h
    · split
      · rename_i hc; simpa using hc
      · simp
    · have := mem_dedupN h
      split
      · exact this
      · simp [this]
def mergeRes (Γ : Gd) (hp : Hp) (lo hi : Nat) (b : B) (r1 r2 : Res) : M Res := do
  let s ← muxS b r1.s r2.s
  let w ← muxW Γ hp lo hi b r1.w r2.w (dedupN (r1.w.map (·.1) ++ r2.w.map (·.1)))
  pure { s := s, w := w }
theorem Step.keepB {N : Nat} {R : List Rg} {β β' : Beta} {ρ : Env} {w w' : World} {ids : List Nat} {lo hi : Nat} (h : Step N R β w ids lo hi β' w') (hb : BetaOk N R β w) {i : Nat} (hi : i ∉ ids) {b : Blk} (hm : blkMt β ρ w i b) : blkMt β' ρ w' i b := by
  obtain ⟨W, hW, hk⟩ := h.kp
  refine blkMt_keep h.ext hb hk (fun r q hr hq => ?_) hm
  obtain ⟨id', hid', hβ, hro, _⟩ := hW r hr
  exact hb.apartW (i := id') (j := i) (fun e => hi (e ▸ hid')) hβ hq hro
theorem hpOf_mem' : ∀ {l : List (Nat × Blk)} {id : Nat} {b : Blk}, hpOf l id = some b → (id, b) ∈ l
  | [], _, _, h => by simp [hpOf] at h
  | (i, c) :: l, id, b, h => by
    unfold hpOf at h
    split at h
    · rename_i he
      simp only [beq_iff_eq] at he
      simp only [Option.some.injEq] at h
      subst he; subst h
      simp
    · simp [hpOf_mem' h]
theorem hpOf_none : ∀ {l : List (Nat × Blk)} {id : Nat}, hpOf l id = none → id ∉ l.map (·.1)
  | [], _, _ => by simp
  | (i, c) :: l, id, h => by
    unfold hpOf at h
    split at h
    · cases h
    · rename_i he
      simp only [List.map_cons, List.mem_cons, not_or]
      exact ⟨fun e => he (by simp [e]), hpOf_none h⟩
/-- One of both ways was taken: what is known of both holds. -/
theorem merge_post {N : Nat} {R : List Rg} {ρ : Env} {β : Beta} {w w' : World} {Γ : Gd} {hp : Hp} (hΓ : Gd.d ρ Γ = true) (hh : heapMt β ρ hp w) (hb : BetaOk N R β w) {lo hi lo1 hi1 : Nat} (hlo : lo ≤ lo1) (hhi : hi1 ≤ hi)
    (hfr : ∀ i, lo ≤ i → i < hi → β i = none) {rk : Res} {s : S} {ws : List (Nat × Blk)} {all : List Nat} (hall : ∀ i, i ∈ rk.w.map (·.1) → i ∈ all) {v : Value} (hr : RPost N R ρ β w lo1 hi1 rk v w')
    (hs : ∀ β v, rk.s.mt β ρ v → s.mt β ρ v) (h1 : ∀ i, i ∈ all → (hp i).isSome = true → i ∈ ws.map (·.1)) (h2 : ∀ i, i ∈ all → hp i = none → lo ≤ i ∧ i < hi)
    (h3 : ∀ β w, (∀ i bk, i ∈ all → wBlk Γ hp rk.w i = some bk → blkMt β ρ w i bk) → ∀ p, p ∈ ws → blkMt β ρ w p.1 p.2) : RPost N R ρ β w lo hi { s := s, w := ws } v w' := by
  obtain ⟨β', hst, hsm, hbl⟩ := hr
  obtain ⟨W, hW, hk⟩ := hst.kp
  refine ⟨β', ⟨hst.ext, hst.bo, ⟨W, fun r hr => ?_, hk⟩, fun i hi => hst.dom i (by omega)⟩, hs _ _ hsm, h3 β' w' fun i bk hi hbk => ?_⟩
  · obtain ⟨id, hid, hβ, hro, hl⟩ := hW r hr
    refine ⟨id, ?_, hβ, hro, hl⟩
    refine h1 id (hall id hid) ?_
    cases hx : hp id with
    | some b => rfl
    | none =>
      obtain ⟨g1, g2⟩ := h2 id (hall id hid) hx
      rw [hfr id g1 g2] at hβ
      cases hβ
  · unfold wBlk at hbk
    split at hbk
    · rename_i b hb'
      simp only [Option.some.injEq] at hbk
      subst hbk
      exact hbl _ (hpOf_mem' hb')
    · rename_i hn
      split at hbk
      · rename_i b hb'
        split at hbk
        · rename_i hg
          simp only [Option.some.injEq] at hbk
          subst hbk
          exact hst.keepB hb (hpOf_none hn) (hh i b hb' (Gd.sub_d hg hΓ))
        · cases hbk
      · cases hbk

/-- A call of one of several functions, by conditions; the last one, if no condition holds. -/
def callAlt (H : Hnd) (hp : Hp) (xs : List S) (d : FV) : List (B × FV) → Gd → M Res
  | [], Γ => match d with
    | some p => H p.1 Γ hp (xs ++ capS p.2)
    | none => M.fail
  | (b, none) :: l, Γ => do
    let nb ← mkNot b
    oblige nb
    callAlt H hp xs d l Γ
  | (b, some p) :: l, Γ => if l.isEmpty && d.isNone then do
      oblige b
      H p.1 Γ hp (xs ++ capS p.2)
    else do
      let lo ← getId
      let r1 ← M.mono (M.under [(b, true)] (H p.1 (Γ ++ [(b, true)]) hp (xs ++ capS p.2)))
      let r2 ← M.mono (M.under [(b, false)] (callAlt H hp xs d l (Γ ++ [(b, false)])))
      let hi ← getId
      M.mono (mergeRes Γ hp lo hi b r1 r2)
theorem mkNot_id {b x : B} {c c' : Ctr} {o : List Em} (h : mkNot b c = some (x, c', o)) : c'.id = c.id := by
  unfold mkNot at h
  split at h
  · simp only [Pure.pure, M.pure, Option.some.injEq, Prod.mk.injEq] at h
    rw [h.2.1]
  · simp only [newB, Option.some.injEq, Prod.mk.injEq] at h
    rw [← h.2.1]
theorem oblige_id {b : B} {x : Unit} {c c' : Ctr} {o : List Em} (h : oblige b c = some (x, c', o)) : c'.id = c.id := by
  unfold oblige at h
  split at h <;> (simp only [Option.some.injEq, Prod.mk.injEq] at h; rw [h.2.1])
section
variable {P : Program} {Φ : Funs} {gl : Gl} {hp : Hp} {ρ : Env}
/-- What a function's value leads to. -/
def AltPost (P : Program) (N : Nat) (R : List Rg) (ρ : Env) (β : Beta) (w : World) (lo hi : Nat) (res : Res) (vs : List Value) (v : Value) : Prop :=
  ∃ g ws, v = .func (.func g) #[] (ws : List Value).toArray ∧ (∀ args w, (callFunc g args).run P w = .ok (.enter g args) w) ∧ Calls P g (vs ++ ws).toArray w fun e w' => ∃ u, e = .returned u ∧ RPost N R ρ β w lo hi res u w'
theorem hnd_alt {H : Hnd} (hH : HOk P Φ gl H) {p : Nat × List (Nat × Nat)} {Γ : Gd} {xs : List S} {c c' : Ctr} {res : Res} {out : List Em} (h : H p.1 Γ hp (xs ++ capS p.2) c = some (res, c', out)) (hg : Good Φ ρ out) (hΓ : Gd.d ρ Γ = true)
    {N : Nat} {R : List Rg} {β : Beta} {w : World} {vs : List Value} (hm : mtAll β ρ xs vs) (hh : heapMt β ρ hp w) (hb : BetaOk N R β w) (hN : N ≤ w.heap.size) (hG : GB gl β w) (hf : ∀ i, c.id ≤ i → i < c'.id → β i = none) {v : Value} (hv : fvMt β (some p) v) :
    AltPost P N R ρ β w c.id c'.id res vs v := by
  obtain ⟨ws, rfl, hc⟩ := hv
  obtain ⟨h1, h2⟩ := hH _ _ _ _ _ _ _ _ _ h hg hΓ N R β w (vs ++ ws) (mtAll_append (capS_mt hc) hm) hh hb hN hG hf
  exact ⟨p.1, ws, rfl, h1, h2⟩
theorem callAlt_ok {H : Hnd} (hH : HOk P Φ gl H) (xs : List S) (d : FV) : ∀ (l : List (B × FV)) (Γ : Gd) {c c' : Ctr} {res : Res} {out : List Em}, callAlt H hp xs d l Γ c = some (res, c', out) → Good Φ ρ out → Gd.d ρ Γ = true →
    ∀ {N : Nat} {R : List Rg} {β : Beta} {w : World} {vs : List Value}, mtAll β ρ xs vs → heapMt β ρ hp w → BetaOk N R β w → N ≤ w.heap.size → GB gl β w → (∀ i, c.id ≤ i → i < c'.id → β i = none) → ∀ {v : Value}, fvMt β (pickF ρ l d) v →
    AltPost P N R ρ β w c.id c'.id res vs v
  | [], Γ, c, c', res, out, h, hg, hΓ, N, R, β, w, vs, hm, hh, hb, hN, hG, hf, v, hv => by
    unfold callAlt at h
    split at h
    · exact hnd_alt hH h hg hΓ hm hh hb hN hG hf hv
    · simp [M.fail] at h
  | (b, none) :: l, Γ, c, c', res, out, h, hg, hΓ, N, R, β, w, vs, hm, hh, hb, hN, hG, hf, v, hv => by
    unfold callAlt at h
    obtain ⟨nb, c1, o1, c2, o2, y, h1, h2, he⟩ := M.bind_inv h
    simp only [Prod.mk.injEq] at he
    obtain ⟨rfl, rfl, rfl⟩ := he
    obtain ⟨u, c3, o3, c4, o4, y, h3, h4, he⟩ := M.bind_inv h2
    simp only [Prod.mk.injEq] at he
    obtain ⟨rfl, rfl, rfl⟩ := he
    simp only [Good.append] at hg
    have e1 := mkNot_snd b _ _ _ _ h1 hg.1
    have e2 := oblige_snd nb _ _ _ _ h3 hg.2.1
    have hbf : b.d ρ = false := by
      rw [e1] at e2
      simpa using e2
    have i1 := mkNot_id h1
    have i2 := oblige_id h3
    have hv' : fvMt β (pickF ρ l d) v := by
      unfold pickF at hv
      rw [if_neg (by simp [hbf])] at hv
      exact hv
    rw [← i1, ← i2]
    exact callAlt_ok hH xs d l Γ h4 hg.2.2 hΓ hm hh hb hN hG (fun i g1 g2 => hf i (by omega) g2) hv'
  | (b, some p) :: l, Γ, c, c', res, out, h, hg, hΓ, N, R, β, w, vs, hm, hh, hb, hN, hG, hf, v, hv => by
    unfold callAlt at h
    split at h
    · rename_i hc
      obtain ⟨u, c1, o1, c2, o2, y, h1, h2, he⟩ := M.bind_inv h
      simp only [Prod.mk.injEq] at he
      obtain ⟨rfl, rfl, rfl⟩ := he
      simp only [Good.append] at hg
      have e2 : b.d ρ = true := oblige_snd b _ _ _ _ h1 hg.1
      have i2 := oblige_id h1
      have hv' : fvMt β (some p) v := by
        unfold pickF at hv
        rw [if_pos e2] at hv
        exact hv
      rw [← i2]
      exact hnd_alt hH h2 hg.2 hΓ hm hh hb hN hG (fun i g1 g2 => hf i (by omega) g2) hv'
    · obtain ⟨lo, c1, o1, c2, o2, y, h1, h2, he⟩ := M.bind_inv h
      simp only [Prod.mk.injEq] at he
      obtain ⟨rfl, rfl, rfl⟩ := he
      simp only [getId, Option.some.injEq, Prod.mk.injEq] at h1
      obtain ⟨rfl, rfl, rfl⟩ := h1
      obtain ⟨r1, c3, o3, c4, o4, y, h3, h4, he⟩ := M.bind_inv h2
      simp only [Prod.mk.injEq] at he
      obtain ⟨rfl, rfl, rfl⟩ := he
      obtain ⟨r2, c5, o5, c6, o6, y, h5, h6, he⟩ := M.bind_inv h4
      simp only [Prod.mk.injEq] at he
      obtain ⟨rfl, rfl, rfl⟩ := he
      obtain ⟨hi, c7, o7, c8, o8, y, h7, h8, he⟩ := M.bind_inv h6
      simp only [Prod.mk.injEq] at he
      obtain ⟨rfl, rfl, rfl⟩ := he
      simp only [getId, Option.some.injEq, Prod.mk.injEq] at h7
      obtain ⟨rfl, rfl, rfl⟩ := h7
      simp only [Good.append] at hg
      obtain ⟨h3, le3⟩ := mono_inv h3
      obtain ⟨h5, le5⟩ := mono_inv h5
      simp only at le3 le5
      obtain ⟨x3, k3, q3, h3u, he⟩ := under_inv h3
      simp only [Prod.mk.injEq] at he
      obtain ⟨rfl, rfl, rfl⟩ := he
      obtain ⟨x5, k5, q5, h5u, he⟩ := under_inv h5
      simp only [Prod.mk.injEq] at he
      obtain ⟨rfl, rfl, rfl⟩ := he
      obtain ⟨h8, le8⟩ := mono_inv h8
      simp only at le8
      unfold mergeRes at h8
      obtain ⟨s, c9, o9, c10, o10, y, h9, h10, he⟩ := M.bind_inv h8
      simp only [Prod.mk.injEq] at he
      obtain ⟨rfl, rfl, rfl⟩ := he
      obtain ⟨ws, c11, o11, c12, o12, y, h11, h12, he⟩ := M.bind_inv h10
      simp only [Prod.mk.injEq] at he
      obtain ⟨rfl, rfl, rfl⟩ := he
      have he := M.pure_inv h12
      simp only [Prod.mk.injEq] at he
      obtain ⟨rfl, rfl, rfl⟩ := he
      simp only [Good.append] at hg
      obtain ⟨_, g3, g5, _, g9, g11, _⟩ := hg
      have hs := muxS_snd b _ _ _ _ _ _ h9 g9
      obtain ⟨w1, w2, w3⟩ := muxW_snd _ _ _ _ _ _ _ _ _ _ _ _ h11 g11
      simp only at hs w1 w2 w3
      have hfr : ∀ i, c.id ≤ i → i < c5.id → β i = none := fun i g1 g2 => hf i g1 (by omega)
      cases hbd : b.d ρ
      · have hv' : fvMt β (pickF ρ l d) v := by
          unfold pickF at hv
          rw [if_neg (by simp [hbd])] at hv
          exact hv
        have hgd : Gd.d ρ [(b, false)] = true := by simp [hbd]
        obtain ⟨g, us, rfl, hc1, hc2⟩ := callAlt_ok hH xs d l _ h5u (Good.under hgd g5) (by simp [hΓ, hbd]) hm hh hb hN hG (fun i g1 g2 => hfr i (by omega) g2) hv'
        refine ⟨g, us, rfl, hc1, Calls.mono hc2 fun e w' ⟨u, hu, hp'⟩ => ⟨u, hu, ?_⟩⟩
        refine merge_post hΓ hh hb (hi := c'.id) (by omega) (by omega) hf (all := dedupN (r1.w.map (·.1) ++ r2.w.map (·.1))) (fun i hi => mem_dedupN (by simp only [List.mem_append]; exact .inr hi)) hp' (fun β v h => hs β v (by rw [if_neg (by simp [hbd])]; exact h)) w1 (fun i h1 h2 => by have := w2 i h1 h2; omega) (fun β w h => w3 β w (by rw [if_neg (by simp [hbd])]; exact h))
      · have hv' : fvMt β (some p) v := by
          unfold pickF at hv
          rw [if_pos hbd] at hv
          exact hv
        have hgd : Gd.d ρ [(b, true)] = true := by simp [hbd]
        obtain ⟨g, us, rfl, hc1, hc2⟩ := hnd_alt hH h3u (Good.under hgd g3) (by simp [hΓ, hbd]) hm hh hb hN hG (fun i g1 g2 => hfr i (by omega) (by omega)) hv'
        refine ⟨g, us, rfl, hc1, Calls.mono hc2 fun e w' ⟨u, hu, hp'⟩ => ⟨u, hu, ?_⟩⟩
        refine merge_post hΓ hh hb (hi := c'.id) (by omega) (by omega) hf (all := dedupN (r1.w.map (·.1) ++ r2.w.map (·.1))) (fun i hi => mem_dedupN (by simp only [List.mem_append]; exact .inl hi)) hp' (fun β v h => hs β v (by rw [if_pos hbd]; exact h)) w1 (fun i h1 h2 => by have := w2 i h1 h2; omega) (fun β w h => w3 β w (by rw [if_pos hbd]; exact h))
end

def fnOf (f : S) : Option (List (B × FV) × FV) :=
  match f with
  | .one false [c] => asFn c
  | _ => none
theorem fnOf_spec {f : S} {p : List (B × FV) × FV} (h : fnOf f = some p) : ∃ c, f = .one false [c] ∧ asFn c = some p := by
  unfold fnOf at h
  split at h
  · exact ⟨_, rfl, h⟩
  · cases h
def xCallV (H : Hnd) (Γ : Gd) (hp : Hp) (f : S) (xs : List S) : M Res :=
  match fnOf f with
  | some p => callAlt H hp xs p.2 p.1 Γ
  | none => M.fail
def capsOf : List S → Option (List (Nat × Nat))
  | [] => some []
  | .one false [.ptr [] id off] :: l => (capsOf l).map ((id, off) :: ·)
  | _ => none
def xMakeFunc (fn : Fn) (first : List Operand) (caps : List S) : M S :=
  match fn with
  | .func f => if first.isEmpty then do
      let l ← lift (capsOf caps)
      pure (.one false [.fn [] (some (f, l))])
    else M.fail
  | _ => M.fail
section
variable {P : Program} {Φ : Funs} {gl : Gl} {Γ : Gd} {hp : Hp} {rv : Operand → SV} {dst : Option Tmp} {ty : TypeId} {pos : String} {after : Array Edge} {guard : Option (Nat × Bool)}
theorem capsOf_mt {β : Beta} {ρ : Env} : ∀ {l : List S} {ps : List (Nat × Nat)} {vs : List Value}, capsOf l = some ps → mtAll β ρ l vs → capMt β ps vs
  | [], ps, vs, h, hm => by
    simp only [capsOf, Option.some.injEq] at h
    subst h
    cases vs with
    | nil => trivial
    | cons _ _ => exact hm.elim
  | s :: l, ps, vs, h, hm => by
    unfold capsOf at h
    split at h
    · rename_i e; cases e
    · rename_i id off l' e
      simp only [List.cons.injEq] at e
      obtain ⟨rfl, rfl⟩ := e
      cases vs with
      | nil => exact hm.elim
      | cons v vs =>
        obtain ⟨h1, h2⟩ := hm
        cases hc : capsOf l with
        | none => rw [hc] at h; simp at h
        | some r =>
          rw [hc] at h
          simp only [Option.map_some, Option.some.injEq] at h
          subst h
          obtain ⟨r', hr', hv⟩ := mt_cell (s := .one false [.ptr [] id off]) rfl h1
          exact ⟨⟨r', by simpa [pick] using hr', by simpa [pick] using hv⟩, capsOf_mt hc h2⟩
    · cases h
/-- A known text's part, between known places. -/
def bndOf (d : Nat) : Option S → Option Nat
  | none => some d
  | some (.one false [.int _ (.c (.ofNat n))]) => some n
  | _ => none
def xSliceS (P : Program) (t : TypeId) (x : S) (lo hi : Option S) : M S :=
  match P.underlying t, x with
  | some .string, .one false [.val (.string s)] => match bndOf 0 lo, bndOf s.size hi with
    | some l, some h => if Nat.ble l h && Nat.ble h s.size then pure (.one false [.val (.string (s.extract l h))]) else M.fail
    | _, _ => M.fail
  | _, _ => M.fail
def optMt (β : Beta) (ρ : Env) : Option S → Option Value → Prop
  | none, none => True
  | some s, some v => s.mt β ρ v
  | _, _ => False
theorem bndOf_run {P : Program} {β : Beta} {ρ : Env} {d n y : Nat} {o : Option S} {v : Option Value} (h : bndOf d o = some n) (hm : optMt β ρ o v) (hy : n ≤ y) (code : BoundsCode) (w : World) :
    (v = none ∧ n = d) ∨ ∃ u, v = some u ∧ (Instr.sliceBound u y code).run P w = .ok n w := by
  unfold bndOf at h
  split at h
  · simp only [Option.some.injEq] at h
    cases v with
    | none => exact .inl ⟨rfl, h.symm⟩
    | some _ => exact hm.elim
  · rename_i k m
    simp only [Option.some.injEq] at h
    subst h
    cases v with
    | none => exact hm.elim
    | some u =>
      right
      obtain ⟨hu, _⟩ := mt_int rfl hm
      refine ⟨u, rfl, ?_⟩
      subst hu
      unfold Instr.sliceBound
      simp [asIntOf, hy]
  · cases h
theorem pure_slice {ρ : Env} (hΓ : Gd.d ρ Γ = true) (t : TypeId) (x : Operand) (lo hi : Option Operand) :
    Snd Φ ρ (xSliceS P t (rs Γ (rv x)) (lo.map fun x => rs Γ (rv x)) (hi.map fun x => rs Γ (rv x))) (Pure P Γ hp rv ⟨dst, .slice t x lo hi none, ty, pos, after, guard⟩ ρ) := by
  unfold xSliceS
  split
  · rename_i s hu hx1
    split
    · rename_i l h hl hh
      split
      · rename_i hc
        simp only [Bool.and_eq_true, Nat.ble_eq] at hc
        refine Snd.pure fun β ac w hx _ _ => ?_
        have hv := (mt_cell hx1 (rs_mt hΓ (hx x (by simp [Op.operands])))).1
        have e1 : optMt β ρ (lo.map fun x => rs Γ (rv x)) (lo.map ac.eval) := by
          cases lo with
          | none => trivial
          | some z => exact rs_mt hΓ (hx z (by simp [Op.operands]))
        have e2 : optMt β ρ (hi.map fun x => rs Γ (rv x)) (hi.map ac.eval) := by
          cases hi with
          | none => trivial
          | some z => exact rs_mt hΓ (hx z (by simp [Op.operands]))
        have k1 := bndOf_run (P := P) hl e1 (y := h) hc.1 .sliceB w
        have k2 := bndOf_run (P := P) hh e2 (y := s.size) hc.2 .sliceAlen w
        refine ⟨.string (s.extract l h), ?_, mt_of_cell ⟨rfl, rfl⟩⟩
        simp only [execOp, Instr.sliceAt, Instr.slice, Instr.sliceBounds, hv]
        rcases k1 with ⟨k1, rfl⟩ | ⟨u1, k1, r1⟩
        · rcases k2 with ⟨k2, rfl⟩ | ⟨u2, k2, r2⟩
          · rw [k1, k2]; simp [underlying, hu]
          · rw [k1, k2]; simp [underlying, hu, r2]
        · rcases k2 with ⟨k2, rfl⟩ | ⟨u2, k2, r2⟩
          · rw [k1, k2]; simp [underlying, hu, r1]
          · rw [k1, k2]; simp [underlying, hu, r1, r2]
      · exact Snd.fail
    · exact Snd.fail
  · exact Snd.fail
theorem pure_makeFunc {ρ : Env} (hΓ : Gd.d ρ Γ = true) (fn : Fn) (first captured : Array Operand) :
    Snd Φ ρ (xMakeFunc fn first.toList (captured.toList.map fun x => rs Γ (rv x))) (Pure P Γ hp rv ⟨dst, .makeFunc fn first captured, ty, pos, after, guard⟩ ρ) := by
  unfold xMakeFunc
  cases fn with
  | func f =>
    simp only []
    split
    · rename_i he
      have hfe : first = #[] := by
        simp only [List.isEmpty_iff] at he
        apply Array.toList_inj.1; simpa using he
      subst hfe
      refine Snd.bind (lift_snd _) fun l hl => Snd.pure fun β ac w hx hh hq => ?_
      have hm := mtAll_map (β := β) (ρ := ρ) (f := fun x => rs Γ (rv x)) (ev := ac.eval) (l := captured.toList) fun x hxm => rs_mt hΓ (hx x (by simp [Op.operands]; simpa using hxm))
      refine ⟨.func (.func f) #[] (captured.map ac.eval), by simp [execOp, Instr.makeFunc], mt_of_cell ⟨captured.toList.map ac.eval, ?_, capsOf_mt hl hm⟩⟩
      congr 1
      apply Array.toList_inj.1; simp
    · exact Snd.fail
  | _ => exact Snd.fail
theorem ok_callH {H : Hnd} (hH : HOk P Φ gl H) (f : Nat) (args : Array Operand) (argTypes : Array TypeId) :
    LOk P Φ (GB gl) Γ hp rv ⟨dst, .call { callee := .value (.func f), args := args, argTypes := argTypes }, ty, pos, after, guard⟩ (H f Γ hp (args.toList.map fun x => rs Γ (rv x))) := by
  intro ρ c res c' out he hg hΓ N R β a w hx hh hb hN hG hf
  have hops : ∀ x, x ∈ args.toList → x ∈ (Op.call { callee := .value (.func f), args := args, argTypes := argTypes }).operands := fun x hx => by
    simp [Op.operands, Call.operands]; exact .inr (by simpa using hx)
  obtain ⟨h1, h2⟩ := hH f Γ hp _ ρ c res c' out he hg hΓ N R β w (args.toList.map a.eval) (mtAll_map (f := fun x => rs Γ (rv x)) (ev := a.eval) fun x hxm => rs_mt hΓ (hx x (hops x hxm))) hh hb hN hG hf
  have hargs : (args.toList.map a.eval).toArray = args.map a.eval := by
    apply Array.toList_inj.1; simp
  rw [hargs] at h2
  refine OpG.calls (f := f) (args := args.map a.eval) (w' := w) ?_ h2
  have := h1 (args.map a.eval) w
  simp [execOp, resolve, Act.eval, Deferred.ofValue, invoke, this]
theorem ok_callV {H : Hnd} (hH : HOk P Φ gl H) (x : Operand) (args : Array Operand) (argTypes : Array TypeId) :
    LOk P Φ (GB gl) Γ hp rv ⟨dst, .call { callee := .value x, args := args, argTypes := argTypes }, ty, pos, after, guard⟩ (xCallV H Γ hp (rs Γ (rv x)) (args.toList.map fun x => rs Γ (rv x))) := by
  intro ρ c res c' out he hg hΓ N R β a w hx hh hb hN hG hf
  cases hfn : fnOf (rs Γ (rv x)) with
  | none => simp [xCallV, hfn, M.fail] at he
  | some p =>
      simp only [xCallV, hfn] at he
      obtain ⟨cc, hcc, hp'⟩ := fnOf_spec hfn
      have hops : ∀ y, y ∈ args.toList → y ∈ (Op.call { callee := .value x, args := args, argTypes := argTypes }).operands := fun y hy => by
        simp [Op.operands, Call.operands]; exact .inr (by simpa using hy)
      have hv := asFn_mt hp' (mt_cell hcc (rs_mt hΓ (hx x (by simp [Op.operands, Call.operands]))))
      obtain ⟨g, ws, hve, h1, h2⟩ := callAlt_ok hH _ _ _ _ he hg hΓ (mtAll_map (f := fun x => rs Γ (rv x)) (ev := a.eval) fun x hxm => rs_mt hΓ (hx x (hops x hxm))) hh hb hN hG hf hv
      have hargs : (args.toList.map a.eval ++ ws).toArray = args.map a.eval ++ ws.toArray := by
        apply Array.toList_inj.1; simp
      rw [hargs] at h2
      refine OpG.calls (f := g) (args := args.map a.eval ++ ws.toArray) (w' := w) ?_ h2
      have := h1 (args.map a.eval ++ ws.toArray) w
      simp [execOp, resolve, hve, Deferred.ofValue, invoke, this]

def opx (P : Program) (X : Hnd) (Γ : Gd) (hp : Hp) (rv : Operand → SV) : Op → M Res
  | .move x => do pure { s := ← pure (rs Γ (rv x)), w := [] }
  | .assign x => do pure { s := ← pure (rs Γ (rv x)), w := [] }
  | .pick c a b => do pure { s := ← xPick Γ (rv c) (rv a) (rv b), w := [] }
  | .alloc t => xAlloc P t
  | .box t x => xBox (rs Γ (rv x))
  | .build t parts => do pure { s := ← xBuild P t (parts.toList.map fun p => (p.1, rs Γ (rv p.2))), w := [] }
  | .buildSlice t n parts => xBuildSlice P t n (parts.toList.map fun p => (p.1, rs Γ (rv p.2)))
  | .load t x => do pure { s := ← xLoad P Γ hp t (rs Γ (rv x)), w := [] }
  | .store t x y => xStore P Γ hp t (rs Γ (rv x)) (rs Γ (rv y))
  | .nilCheck x => do pure { s := ← xNil (rs Γ (rv x)), w := [] }
  | .binOp op t x y _ => do pure { s := ← xBinA P op t (rs Γ (rv x)) (rs Γ (rv y)), w := [] }
  | .unOp op _ x => do pure { s := ← xUn op (rs Γ (rv x)), w := [] }
  | .convert src dst x => do pure { s := ← xConv P src dst (rs Γ (rv x)), w := [] }
  | .fieldAddr t x f => do pure { s := ← xFieldAddr P t f (rs Γ (rv x)), w := [] }
  | .field t x f => do pure { s := ← xField P t f (rs Γ (rv x)), w := [] }
  | .indexAddr t x i => do pure { s := ← xIndexAddr P t (rs Γ (rv x)) (rs Γ (rv i)), w := [] }
  | .index t x i => do pure { s := ← xIndex P t (rs Γ (rv x)) (rs Γ (rv i)), w := [] }
  | .extract x i => do pure { s := ← xExtract i (rs Γ (rv x)), w := [] }
  | .call { callee := .value (.func f), args, argTypes } => X f Γ hp (args.toList.map fun x => rs Γ (rv x))
  | .call { callee := .value (.tmp t), args, argTypes } => xCallV X Γ hp (rs Γ (rv (.tmp t))) (args.toList.map fun x => rs Γ (rv x))
  | .slice t x lo hi none => do pure { s := ← xSliceS P t (rs Γ (rv x)) (lo.map fun x => rs Γ (rv x)) (hi.map fun x => rs Γ (rv x)), w := [] }
  | .makeFunc fn first captured => do pure { s := ← xMakeFunc fn first.toList (captured.toList.map fun x => rs Γ (rv x)), w := [] }
  | .call { callee := .builtin b, args, argTypes } => do pure { s := ← xBuiltin P b argTypes (args.toList.map fun x => rs Γ (rv x)), w := [] }
  | _ => M.fail
theorem opx_ok {X : Hnd} (hX : HOk P Φ gl X) (o : Oper) : LOk P Φ (GB gl) Γ hp rv o (opx P X Γ hp rv o.op) := by
  obtain ⟨dst, op, ty, pos, after, guard⟩ := o
  cases op with
  | move x => exact LOk.of_pure fun ρ h => pure_move h _
  | assign x => exact LOk.of_pure fun ρ h => pure_assign h _
  | pick c a b => exact LOk.of_pure fun ρ h => pure_pick h _ _ _
  | alloc t => exact ok_alloc _
  | box t x => exact ok_box _ _
  | build t parts => exact LOk.of_pure fun ρ h => pure_build h _ _
  | buildSlice t n parts => exact ok_buildSlice _ _ _
  | load t x => exact LOk.of_pure fun ρ h => pure_load h _ _
  | store t x y => exact ok_store _ _ _
  | nilCheck x => exact LOk.of_pure fun ρ h => pure_nil h _
  | binOp op t x y t' => exact LOk.of_pure fun ρ h => pure_binA h _ _ _ _ _
  | unOp op t x => exact LOk.of_pure fun ρ h => pure_un h _ _ _
  | convert src d x => exact LOk.of_pure fun ρ h => pure_conv h _ _ _
  | fieldAddr t x f => exact LOk.of_pure fun ρ h => pure_fieldAddr h _ _ _
  | field t x f => exact LOk.of_pure fun ρ h => pure_field h _ _ _
  | indexAddr t x i => exact LOk.of_pure fun ρ h => pure_indexAddr h _ _ _
  | index t x i => exact LOk.of_pure fun ρ h => pure_index h _ _ _
  | extract x i => exact LOk.of_pure fun ρ h => pure_extract h _ _
  | slice t x lo hi mx => cases mx with
    | none => exact LOk.of_pure fun ρ h => pure_slice h _ _ _ _
    | some m => exact LOk.fail
  | makeFunc fn first captured => exact LOk.of_pure fun ρ h => pure_makeFunc h _ _ _
  | call c =>
    obtain ⟨callee, args, argTypes⟩ := c
    cases callee with
    | value f =>
      cases f with
      | func f => exact ok_callH hX _ _ _
      | tmp t => exact ok_callV hX _ _ _
      | _ => exact LOk.fail
    | builtin b => exact LOk.of_pure fun ρ h => pure_builtin h _ _ _
    | invoke r m => exact LOk.fail
  | _ => exact LOk.fail
end
end Go.Proofs.YtalnndmnnffnmaaGreat.Sx
