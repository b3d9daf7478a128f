/-
  Merged texts (SxJ, SxK, SxCx, SxSo, SxL, SxLa, SxM). No condition.
-/
import Derived.Shelf.SlSortCmp.NoneTotal
import Derived.Laws.Slices
import Derived.Test.YtgbgibbonhklgaaCm2
set_option linter.unusedVariables false
set_option linter.unusedSimpArgs false
namespace Go.Proofs.Ytgbgibbonhklgaa.Sx
open Go

/-- An address argument: its block, where in it, how many cells. -/
abbrev PP := List (Nat × Nat × Nat)

def ptrOf : S → Option (Nat × Nat)
  | .one false [.ptr [] id off] => some (id, off)
  | _ => none
theorem ptrOf_spec {s : S} {p : Nat × Nat} (h : ptrOf s = some p) : s = .one false [.ptr [] p.1 p.2] := by
  unfold ptrOf at h
  split at h
  · cases h; rfl
  · cases h
def valOf : S → Option (Bool × List C)
  | .one agg cs => some (agg, cs)
  | _ => none
theorem valOf_spec {s : S} {p : Bool × List C} (h : valOf s = some p) : s = .one p.1 p.2 := by
  unfold valOf at h
  split at h
  · cases h; rfl
  · cases h
def takeArgs (Γ : Gd) (hp : Hp) : List Sh → List S → Option (List A × List B × PP)
  | [], [] => some ([], [], [])
  | .val agg l :: ss, x :: xs => match valOf x, takeArgs Γ hp ss xs with
    | some (agg', cs), some (aS, bs, pp) => match takeC Γ hp l cs with
      | some (a, b) => if agg == agg' && (agg || l.length == 1) then some (a ++ aS, b ++ bs, pp) else none
      | none => none
    | _, _ => none
  | .ptr l :: ss, x :: xs => match ptrOf x, takeArgs Γ hp ss xs with
    | some (id, off), some (aS, bs, pp) => match (ldC Γ hp id off l.length).bind (takeC Γ hp l) with
      | some (a, b) => if chk Γ hp l.length id off then some (a ++ aS, b ++ bs, (id, off, l.length) :: pp) else none
      | none => none
    | _, _ => none
  | _, _ => none
/-- Are there rows (1), or other slices (2), among the arguments? -/
def hotA (hp : Hp) (k : Nat) : List Sh → List S → Bool
  | .val _ l :: ss, x :: xs => (match valOf x with | some (_, cs) => hotL hp k l cs | none => false) || hotA hp k ss xs
  | _ :: ss, _ :: xs => hotA hp k ss xs
  | _, _ => false

def ppR (β : Beta) : PP → List Rg → Prop
  | [], [] => True
  | p :: pp, q :: ps => (∃ r, β p.1 = some r ∧ q = { blk := r.blk, off := r.off + p.2.1, len := p.2.2, ro := false } ∧ p.2.1 + p.2.2 ≤ r.len ∧ r.ro = false ∧ r.row = false) ∧ ppR β pp ps
  | _, _ => False

def mtAll (β : Beta) (ρ : Env) : List S → List Value → Prop
  | [], [] => True
  | s :: ss, v :: vs => s.mt β ρ v ∧ mtAll β ρ ss vs
  | _, _ => False

theorem chk_spec {Γ : Gd} {hp : Hp} {ρ : Env} {β : Beta} {w : World} (hΓ : Gd.d ρ Γ = true) (hh : heapMt β ρ hp w) {n i o : Nat} (h : chk Γ hp n i o = true) :
    ∃ b r, hp i = some b ∧ Gd.d ρ b.g = true ∧ β i = some r ∧ o + n ≤ r.len ∧ (r.ro = false ∧ r.row = false) ∧ ∀ j, j < n → w.frozen? ⟨r.blk, r.off + o + j, none⟩ = false := by
  unfold chk at h
  split at h
  · rename_i b hb
    simp only [Bool.and_eq_true, Bool.not_eq_true', Nat.ble_eq, Option.isNone_iff_eq_none] at h
    obtain ⟨h, hvn⟩ := h
    have hg := Gd.sub_d h.1.1 hΓ
    obtain ⟨r, hr, hrow, hl, hro, hc, hf⟩ := (blkMt_cs hvn).1 (hh i b hb hg)
    refine ⟨b, r, hb, hg, hr, by omega, ⟨hro.trans h.1.2, hrow⟩, fun j hj => ?_⟩
    rw [Nat.add_assoc]
    exact hf h.1.2 _ (by omega)
  · cases h

theorem takeArgs_flat {Γ : Gd} {hp : Hp} {ρ : Env} {β : Beta} {w : World} (hΓ : Gd.d ρ Γ = true) (hh : heapMt β ρ hp w) (hsq : SqOk β w) : ∀ {ss : List Sh} {xs : List S} {vs : List Value} {aS : List A} {bs : List B} {pp : PP},
    takeArgs Γ hp ss xs = some (aS, bs, pp) → mtAll β ρ xs vs → ∃ ps, flatArgs ss vs w = some (aS.map (A.d ρ), bs.map (B.d ρ), ps) ∧ ppR β pp ps ∧ frzL ps w ∧
      ∀ r, r ∈ argRgs ss vs w → ∃ i r0, β i = some r0 ∧ r.within r0 ∧ (r0.ro = true ∨ (r0.row = true ∧ hotA hp 1 ss xs = true) ∨ hotA hp 2 ss xs = true)
  | [], [], vs, aS, bs, pp, h, hm => by
    simp only [takeArgs, Option.some.injEq, Prod.mk.injEq] at h
    obtain ⟨rfl, rfl, rfl⟩ := h
    cases vs with
    | nil => exact ⟨[], rfl, trivial, fun r hr => (by cases hr), fun r hr => (by simp [argRgs] at hr)⟩
    | cons _ _ => exact hm.elim
  | .val agg l :: ss, x :: xs, vs, aS, bs, pp, h, hm => by
    cases vs with
    | nil => exact hm.elim
    | cons v vs =>
      obtain ⟨h1, h2⟩ := hm
      unfold takeArgs at h
      split at h
      · rename_i agg' cs as' bs' pp' hx hr
        split at h
        · rename_i a b ht
          split at h
          · rename_i hc
            simp only [Bool.and_eq_true, beq_iff_eq] at hc
            obtain ⟨rfl, hc⟩ := hc
            simp only [Option.some.injEq, Prod.mk.injEq] at h
            obtain ⟨rfl, rfl, rfl⟩ := h
            obtain ⟨ps, g1, g2, g3, g4⟩ := takeArgs_flat hΓ hh hsq hr h2
            rw [valOf_spec hx] at h1
            have hf : flat1 w [] agg l v = some (a.map (A.d ρ), b.map (B.d ρ)) ∧ ∀ r', r' ∈ rg1 w agg l v → ∃ i r0, β i = some r0 ∧ r'.within r0 ∧ (r0.ro = true ∨ (r0.row = true ∧ hotL hp 1 l cs = true) ∨ hotL hp 2 l cs = true) := by
              unfold flat1 rg1
              cases agg
              · obtain ⟨c, e, hcm⟩ := h1
                simp only at e
                subst e
                simp only [Bool.false_or, beq_iff_eq] at hc
                match l, hc, ht with
                | [ck], _, ht =>
                  simp only [Bool.false_eq_true, if_false]
                  exact takeC_flat hΓ hh hsq (vs := [v]) ht ⟨hcm, trivial⟩
              · obtain ⟨us, rfl, hcm⟩ := h1
                simp only [if_true]
                exact takeC_flat hΓ hh hsq ht hcm
            refine ⟨ps, ?_, g2, g3, fun r hr => ?_⟩
            · unfold flatArgs
              rw [hf.1, g1]
              simp
            · unfold argRgs at hr
              rw [List.mem_append] at hr
              unfold hotA
              rw [hx]
              rcases hr with hr | hr
              · obtain ⟨i, r0, e1, e2, e3⟩ := hf.2 r hr
                refine ⟨i, r0, e1, e2, ?_⟩
                rcases e3 with e3 | ⟨e3, e4⟩ | e3
                · exact .inl e3
                · exact .inr (.inl ⟨e3, by simp [e4]⟩)
                · exact .inr (.inr (by simp [e3]))
              · obtain ⟨i, r0, e1, e2, e3⟩ := g4 r hr
                refine ⟨i, r0, e1, e2, ?_⟩
                rcases e3 with e3 | ⟨e3, e4⟩ | e3
                · exact .inl e3
                · exact .inr (.inl ⟨e3, by simp [e4]⟩)
                · exact .inr (.inr (by simp [e3]))
          · cases h
        · cases h
      · cases h
  | .ptr l :: ss, x :: xs, vs, aS, bs, pp, h, hm => by
    cases vs with
    | nil => exact hm.elim
    | cons v vs =>
      obtain ⟨h1, h2⟩ := hm
      unfold takeArgs at h
      split at h
      · rename_i id off as' bs' pp' hx hr
        rw [ptrOf_spec hx] at h1
        split at h
        · rename_i a b ht
          split at h
          · rename_i hc
            simp only [Option.some.injEq, Prod.mk.injEq] at h
            obtain ⟨rfl, rfl, rfl⟩ := h
            obtain ⟨ps, g1, g2, g3, g4⟩ := takeArgs_flat hΓ hh hsq hr h2
            obtain ⟨bk, r, hb, hg, hβ, hle, hro, hf⟩ := chk_spec hΓ hh hc
            cases hl : ldC Γ hp id off l.length with
            | none => rw [hl] at ht; simp at ht
            | some cs =>
              rw [hl] at ht
              simp only [Option.bind_some] at ht
              obtain ⟨hlen, r', hr', hcs⟩ := ldC_spec hΓ hh hl
              rw [hβ] at hr'
              cases hr'
              obtain ⟨us, hul, hum, hu⟩ := cellsAt_values hcs
              obtain ⟨r'', hr'', hv⟩ := mt_cell (s := .one false [.ptr [] id off]) rfl h1
              simp only [pick] at hr'' hv
              rw [hβ] at hr''
              cases hr''
              refine ⟨{ blk := r.blk, off := r.off + off, len := l.length, ro := false } :: ps, ?_, ⟨⟨r, hβ, rfl, hle, hro⟩, g2⟩, ?_, fun r hr => ?_⟩
              · unfold flatArgs
                subst hv
                simp only [g1]
                have hrd : readCells w r.blk (r.off + off) l.length = some us := by
                  rw [← hlen, ← hul]; exact readCells_mk hu
                rw [hrd]
                simp only [Option.bind_some]
                rw [(takeC_flat hΓ hh hsq (ps := []) ht hum).1]
                simp
              · intro q hq j hj
                rcases List.mem_cons.1 hq with rfl | hq
                · exact hf j hj
                · exact g3 q hq j hj
              · simpa [hotA] using g4 r (by simpa [argRgs] using hr)
          · cases h
        · cases h
      · cases h
  | [], _ :: _, _, _, _, _, h, _ => by simp [takeArgs] at h
  | .val _ _ :: _, [], _, _, _, _, h, _ => by simp [takeArgs] at h
  | .ptr _ :: _, [], _, _, _, _, h, _ => by simp [takeArgs] at h

/-! ### The addresses lie apart -/
def apartS : PP → Bool
  | [] => true
  | p :: pp => (pp.all fun q => !(p.1 == q.1) || Nat.ble (p.2.1 + p.2.2) q.2.1 || Nat.ble (q.2.1 + q.2.2) p.2.1) && apartS pp
theorem ppR_mem {β : Beta} : ∀ {pp : PP} {ps : List Rg}, ppR β pp ps → ∀ q, q ∈ ps → ∃ p r, p ∈ pp ∧ β p.1 = some r ∧ q = { blk := r.blk, off := r.off + p.2.1, len := p.2.2, ro := false } ∧ p.2.1 + p.2.2 ≤ r.len ∧ r.ro = false ∧ r.row = false
  | [], [], _, q, h => by cases h
  | p :: pp, q' :: ps, ⟨h1, h2⟩, q, h => by
    rcases List.mem_cons.1 h with rfl | h
    · obtain ⟨r, hr⟩ := h1; exact ⟨p, r, by simp, hr⟩
    · obtain ⟨p', r, hp, hr⟩ := ppR_mem h2 q h; exact ⟨p', r, by simp [hp], hr⟩
theorem apartL_of {N : Nat} {R : List Rg} {Q : Rg → Prop} {β : Beta} {w : World} (hb : BetaOk N R Q β w) : ∀ {pp : PP} {ps : List Rg}, ppR β pp ps → apartS pp = true → apartL ps
  | [], [], _, _ => trivial
  | p :: pp, q :: ps, ⟨⟨r, hr, hq, hle, hro, _⟩, h2⟩, h => by
    unfold apartS at h
    simp only [Bool.and_eq_true, List.all_eq_true] at h
    refine ⟨fun q' hq' => ?_, apartL_of hb h2 h.2⟩
    obtain ⟨p', r', hp', hr', rfl, hle', _⟩ := ppR_mem h2 q' hq'
    subst hq
    have hs := h.1 p' hp'
    simp only [Bool.or_eq_true, Bool.not_eq_true', beq_eq_false_iff_ne, ne_eq, Nat.ble_eq] at hs
    unfold Rg.apart
    simp only
    by_cases e : p.1 = p'.1
    · rw [e] at hr
      rw [hr] at hr'
      cases hr'
      omega
    · have := (hb.apart _ _ _ _ e hr hr').resolve_left fun hh => by rw [hh.1] at hro; cases hro
      unfold Rg.apart at this
      omega

/-! ### What was there is forgotten; then what was answered is laid -/
def junkAll : Hp → PP → Option Hp
  | hp, [] => some hp
  | hp, (id, off, n) :: l => match hp id with
    | some b => if Nat.ble (off + n) b.cells.length && (vecOf b.cells).isNone then junkAll (hp.set id { b with cells := setAt b.cells off (List.replicate n .junk) }) l else none
    | none => none
theorem heapMt_set {β : Beta} {ρ : Env} {hp : Hp} {w : World} (hh : heapMt β ρ hp w) {id : Nat} {b : Blk} (hb : Gd.d ρ b.g = true → blkMt β ρ w id b) : heapMt β ρ (hp.set id b) w := by
  intro j bj hj hg
  unfold Hp.set at hj
  by_cases e : j = id
  · subst e
    simp only [BEq.rfl, if_true, Option.some.injEq] at hj
    subst hj
    exact hb hg
  · have : (j == id) = false := by simpa using e
    rw [this] at hj
    exact hh j bj hj hg
theorem junkAll_heap {β : Beta} {ρ : Env} {w : World} : ∀ {pp : PP} {hp hp0 : Hp}, junkAll hp pp = some hp0 → heapMt β ρ hp w → heapMt β ρ hp0 w
  | [], hp, hp0, h, hh => by simp only [junkAll, Option.some.injEq] at h; exact h ▸ hh
  | (id, off, n) :: l, hp, hp0, h, hh => by
    unfold junkAll at h
    split at h
    · rename_i b hb
      split at h
      · rename_i hle
        simp only [Bool.and_eq_true, Nat.ble_eq, Option.isNone_iff_eq_none] at hle
        obtain ⟨hle, hvn⟩ := hle
        refine junkAll_heap h (heapMt_set hh fun hg => ?_)
        have hm := hh id b hb hg
        refine blk_setAt hvn (by simpa using hle) hm (fun r hr => ?_) (fun _ _ _ _ _ => rfl) (fun _ _ _ => rfl)
        obtain ⟨r', hr', _, hl, _, hc, _⟩ := (blkMt_cs hvn).1 hm
        rw [hr] at hr'
        cases hr'
        rw [cellsAt_iff] at *
        intro j c hj
        rw [List.getElem?_replicate] at hj
        split at hj
        · rename_i hjn
          simp only [Option.some.injEq] at hj
          subst hj
          obtain ⟨v, hv, hm⟩ := hc (off + j) _ (List.getElem?_eq_getElem (by omega))
          exact ⟨v, by rw [Nat.add_assoc]; exact hv, C.mt_oneCell hm⟩
        · cases hj
      · cases h
    · cases h
def Junk (hp : Hp) (p : Nat × Nat × Nat) : Prop := ∀ b, hp p.1 = some b → ∀ j, p.2.1 ≤ j → j < p.2.1 + p.2.2 → b.cells[j]? = some .junk
theorem setAt_get {l z : List C} {off j : Nat} (hle : off + z.length ≤ l.length) : (setAt l off z)[j]? = if j < off then l[j]? else if j < off + z.length then z[j - off]? else l[j]? := by
  unfold setAt
  rw [List.append_assoc]
  split
  · rename_i h1
    rw [List.getElem?_append_left (by simp; omega), List.getElem?_take, if_pos h1]
  · rename_i h1
    rw [List.getElem?_append_right (by simp; omega)]
    simp only [List.length_take, Nat.min_eq_left (show off ≤ l.length by omega)]
    split
    · rename_i h2
      rw [List.getElem?_append_left (by omega)]
    · rename_i h2
      rw [List.getElem?_append_right (by omega), List.getElem?_drop]
      congr 1
      omega
theorem junkAll_junk : ∀ {pp : PP} {hp hp0 : Hp} {done : PP}, junkAll hp pp = some hp0 → (∀ p, p ∈ done → Junk hp p) → ∀ p, p ∈ done ++ pp → Junk hp0 p
  | [], hp, hp0, done, h, hd, p, hp' => by simp only [junkAll, Option.some.injEq] at h; subst h; exact hd p (by simpa using hp')
  | (id, off, n) :: l, hp, hp0, done, h, hd, p, hp' => by
    unfold junkAll at h
    split at h
    · rename_i b hb
      split at h
      · rename_i hle
        simp only [Bool.and_eq_true, Nat.ble_eq, Option.isNone_iff_eq_none] at hle
        obtain ⟨hle, hvn⟩ := hle
        refine junkAll_junk (done := done ++ [(id, off, n)]) h (fun q hq => ?_) p (by simpa using hp')
        intro b' hb' j h1 h2
        unfold Hp.set at hb'
        by_cases e : q.1 = id
        · rw [e] at hb'
          simp only [BEq.rfl, if_true, Option.some.injEq] at hb'
          subst hb'
          simp only
          rw [setAt_get (by simpa using hle)]
          simp only [List.length_replicate]
          rcases List.mem_append.1 hq with hq | hq
          · have := hd q hq b (by rw [e]; exact hb) j h1 h2
            split
            · exact this
            · split
              · rw [List.getElem?_replicate, if_pos (by omega)]
              · exact this
          · simp only [List.mem_singleton] at hq
            subst hq
            simp only at h1 h2
            rw [if_neg (by omega), if_pos h2, List.getElem?_replicate, if_pos (by omega)]
        · have : (q.1 == id) = false := by simpa using e
          rw [this] at hb'
          rcases List.mem_append.1 hq with hq | hq
          · exact hd q hq b' hb' j h1 h2
          · simp only [List.mem_singleton] at hq
            subst hq
            exact absurd rfl e
      · cases h
    · cases h
def lensOk : List (List CK) → List Rg → Prop
  | [], [] => True
  | l :: ls, r :: rs => r.len = l.length ∧ lensOk ls rs
  | _, _ => False
theorem flatArgs_lens {w : World} : ∀ {ss : List Sh} {vs : List Value} {is : List Int} {bs : List Bool} {ps : List Rg}, flatArgs ss vs w = some (is, bs, ps) → lensOk (ptrShapes ss) ps
  | [], [], is, bs, ps, h => by
    simp only [flatArgs, Option.some.injEq, Prod.mk.injEq] at h
    obtain ⟨_, _, rfl⟩ := h
    exact trivial
  | .val agg l :: ss, v :: vs, is, bs, ps, h => by
    unfold flatArgs at h
    split at h
    · rename_i i b is' bs' ps' h1 h2
      simp only [Option.some.injEq, Prod.mk.injEq] at h
      obtain ⟨_, _, rfl⟩ := h
      exact flatArgs_lens (ss := ss) h2
    · cases h
  | .ptr l :: ss, v :: vs, is, bs, ps, h => by
    unfold flatArgs at h
    split at h
    · rename_i b o is' bs' ps' h2
      split at h
      · simp only [Option.some.injEq, Prod.mk.injEq] at h
        obtain ⟨_, _, rfl⟩ := h
        exact ⟨rfl, flatArgs_lens h2⟩
      · cases h
    · cases h
  | [], _ :: _, _, _, _, h => by simp [flatArgs] at h
  | .val _ _ :: _, [], _, _, _, h => by simp [flatArgs] at h
  | .ptr _ :: _, [], _, _, _, h => by simp [flatArgs] at h
theorem flatPs_cells {w : World} : ∀ {ls : List (List CK)} {ps : List Rg} {f : Fl}, flatPs w ls ps = some f → lensOk ls ps → ∀ q, q ∈ ps → ∀ j, j < q.len → ∃ v, w.cell? ⟨q.blk, q.off + j, none⟩ = some v ∧ oneCell v = true
  | [], [], f, h, _, q, hq, _, _ => by cases hq
  | l :: ls, r :: rs, f, h, ⟨hl, hls⟩, q, hq, j, hj => by
    unfold flatPs at h
    split at h
    · rename_i i b is bs h1 h2
      rcases List.mem_cons.1 hq with rfl | hq
      · cases hr : readCells w q.blk q.off l.length with
        | none => rw [hr] at h1; simp at h1
        | some vs =>
          rw [hr] at h1
          simp only [Option.bind_some] at h1
          obtain ⟨g1, g2⟩ := readCells_get hr
          have hlt : j < vs.length := by omega
          exact ⟨vs[j], g2 j _ (List.getElem?_eq_getElem hlt), flatC_oneCell h1 _ (List.getElem_mem hlt)⟩
      · exact flatPs_cells h2 hls q hq j hj
    · cases h
  | [], _ :: _, f, h, _, _, _, _, _ => by simp [flatPs] at h
  | _ :: _, [], f, h, _, _, _, _, _ => by simp [flatPs] at h

/-- Behind the call: what is known, but for what the addresses reach. -/
theorem junk_move {N : Nat} {R : List Rg} {Q : Rg → Prop} {β : Beta} {ρ : Env} {w w' : World} {hp : Hp} {pp : PP} {ps : List Rg} (hb : BetaOk N R Q β w) (hh : heapMt β ρ hp w) (hj : ∀ p, p ∈ pp → Junk hp p) (hpp : ppR β pp ps) (hk : Keep ps w w')
    (hc : ∀ q, q ∈ ps → ∀ j, j < q.len → ∃ v, w'.cell? ⟨q.blk, q.off + j, none⟩ = some v ∧ oneCell v = true) : heapMt β ρ hp w' := by
  intro id b hb' hg
  cases hv : vecOf b.cells with
  | some y =>
    have hm := hh id b hb' hg
    have hm2 := blkMt_jk (β := β) (β' := β) (ρ := ρ) (w := w) (w' := w') (p := fun _ => true) (Mv.of hb (ExtP.refl _ β)) (.inr rfl) (fun r hr j hj => ?_) hm
    · rwa [Blk.jk_true] at hm2
    · obtain ⟨_, r1, _, _, hr1, hrow, _⟩ := (blkMt_row hv).1 hm
      rw [hr] at hr1
      cases hr1
      have hpl := (hb.place id r hr).resolve_left (by omega)
      refine ⟨hk.cell _ hpl fun q hq hi => ?_, hk.frz _ hpl⟩
      obtain ⟨p, r', hp', hr', rfl, hle, hro', hrow'⟩ := ppR_mem hpp q hq
      unfold inRg at hi
      simp only at hi
      have hne : p.1 ≠ id := fun e => by rw [e, hr] at hr'; cases hr'; rw [hrow] at hrow'; cases hrow'
      have := (hb.apart _ _ _ _ hne hr' hr).resolve_left fun hh => by rw [hh.1] at hro'; cases hro'
      unfold Rg.apart at this
      omega
  | none =>
  obtain ⟨r, hr, hrow, hl, hro, hcs, hf⟩ := (blkMt_cs hv).1 (hh id b hb' hg)
  by_cases h00 : b.cells.length = 0
  · exact (blkMt_cs hv).2 ⟨r, hr, hrow, hl, hro, by rw [List.eq_nil_of_length_eq_zero h00]; trivial, fun _ j hj => by omega⟩
  have hpl := (hb.place id r hr).resolve_left (by omega)
  refine (blkMt_cs hv).2 ⟨r, hr, hrow, hl, hro, ?_, fun h0 j hj => (hk.frz _ hpl).trans (hf h0 j hj)⟩
  rw [cellsAt_iff] at *
  intro j c hjc
  have hjl := (List.getElem?_eq_some_iff.1 hjc).1
  by_cases hin : ∃ q, q ∈ ps ∧ inRg q ⟨r.blk, r.off + j, none⟩
  · obtain ⟨q, hq, hi⟩ := hin
    obtain ⟨p, r', hp', hr', rfl, hle, hro', _⟩ := ppR_mem hpp q hq
    unfold inRg at hi
    simp only at hi
    have hid : p.1 = id := by
      apply Classical.byContradiction
      intro hne
      have := (hb.apart _ _ _ _ hne hr' hr).resolve_left fun hh => by rw [hh.1] at hro'; cases hro'
      unfold Rg.apart at this
      omega
    subst hid
    rw [hr] at hr'
    cases hr'
    have := hj p hp' b hb' j (by omega) (by omega)
    rw [hjc] at this
    simp only [Option.some.injEq] at this
    subst this
    obtain ⟨v, hv, ho⟩ := hc _ hq (j - p.2.1) (by simp only; omega)
    simp only at hv
    rw [show r.off + p.2.1 + (j - p.2.1) = r.off + j by omega] at hv
    exact ⟨v, hv, ho⟩
  · obtain ⟨v, hv, hm⟩ := hcs j c hjc
    exact ⟨v, (hk.cell _ hpl fun q hq hi => hin ⟨q, hq, hi⟩).trans hv, hm⟩

def fillAll (FI : Nat → A) (FB : Nat → B) : Hp → PP → List (List CK) → Nat → Nat → Option Hp
  | hp, [], [], _, _ => some hp
  | hp, (id, off, n) :: l, ck :: cks, i, b => match hp id with
    | some bk => if Nat.ble (off + ck.length) bk.cells.length && (vecOf bk.cells).isNone && noSl ck then fillAll FI FB (hp.set id { bk with cells := setAt bk.cells off (freshC FI FB [] ck i b) }) l cks (i + nI ck) (b + nB ck) else none
    | none => none
  | _, _, _, _, _ => none
theorem getD_append_left {α : Type} (l m : List α) (j : Nat) (d : α) (h : j < l.length) : (l ++ m).getD j d = l.getD j d := by
  simp [List.getD_eq_getElem?_getD, List.getElem?_append_left h]
theorem getD_append_right {α : Type} (l m : List α) (j : Nat) (d : α) : (l ++ m).getD (l.length + j) d = m.getD j d := by
  rw [List.getD_eq_getElem?_getD, List.getElem?_append_right (by omega), Nat.add_sub_cancel_left, ← List.getD_eq_getElem?_getD]
def sumI : List (List CK) → Nat
  | [] => 0
  | l :: ls => nI l + sumI ls
def sumB : List (List CK) → Nat
  | [] => 0
  | l :: ls => nB l + sumB ls
theorem flatPs_len {w : World} : ∀ {ls : List (List CK)} {ps : List Rg} {f : Fl}, flatPs w ls ps = some f → f.1.length = sumI ls ∧ f.2.length = sumB ls
  | [], [], f, h => by simp only [flatPs, Option.some.injEq] at h; subst h; exact ⟨rfl, rfl⟩
  | l :: ls, r :: rs, f, h => by
    unfold flatPs at h
    split at h
    · rename_i i b is bs h1 h2
      simp only [Option.some.injEq] at h
      subst h
      cases hr : readCells w r.blk r.off l.length with
      | none => rw [hr] at h1; simp at h1
      | some vs =>
        rw [hr] at h1
        simp only [Option.bind_some] at h1
        have e1 := flatC_len h1
        have e2 := flatPs_len h2
        simp only [sumI, sumB, List.length_append] at e1 e2 ⊢
        omega
    · cases h
  | [], _ :: _, f, h => by simp [flatPs] at h
  | _ :: _, [], f, h => by simp [flatPs] at h
theorem fillAll_heap {FI : Nat → A} {FB : Nat → B} {β : Beta} {ρ : Env} {w : World} : ∀ {pp : PP} {ps : List Rg} {ls : List (List CK)} {hp hp1 : Hp} {i b : Nat} {f : Fl}, fillAll FI FB hp pp ls i b = some hp1 → ppR β pp ps → flatPs w ls ps = some f →
    (∀ j, j < sumI ls → (FI (i + j)).d ρ = f.1.getD j 0) → (∀ j, j < sumB ls → (FB (b + j)).d ρ = f.2.getD j false) → heapMt β ρ hp w → heapMt β ρ hp1 w
  | [], [], [], hp, hp1, i, b, f, h, _, _, _, _, hh => by simp only [fillAll, Option.some.injEq] at h; exact h ▸ hh
  | (id, off, n) :: pp, q :: ps, ck :: cks, hp, hp1, i, b, f, h, ⟨⟨r, hr, hq, hle2, hro, _⟩, hpp⟩, hf, hi, hbo, hh => by
    unfold fillAll at h
    split at h
    · rename_i bk hbk
      split at h
      · rename_i hle
        simp only [Bool.and_eq_true, Nat.ble_eq, Option.isNone_iff_eq_none] at hle
        obtain ⟨⟨hle, hvn⟩, hns⟩ := hle
        unfold flatPs at hf
        split at hf
        · rename_i i1 b1 is bs h1 h2
          simp only [Option.some.injEq] at hf
          subst hf
          cases hrd : readCells w q.blk q.off ck.length with
          | none => rw [hrd] at h1; simp at h1
          | some vs =>
            rw [hrd] at h1
            simp only [Option.bind_some] at h1
            have e1 := flatC_len h1
            have hm := freshC_mt (FI := FI) (FB := FB) (β := β) (ρ := ρ) (w := w) (ps := []) (pp := []) trivial (i := i) (b := b) h1 (fun r hr => by rw [rgC_noSl (by unfold noSl at hns; simpa using hns)] at hr; cases hr)
              (fun j hj => by have := hi j (by simp only [sumI]; omega); rwa [getD_append_left _ _ _ _ (by simp only at e1; omega)] at this)
              (fun j hj => by have := hbo j (by simp only [sumB]; omega); rwa [getD_append_left _ _ _ _ (by simp only at e1; omega)] at this)
            refine fillAll_heap h hpp h2 (fun j hj => ?_) (fun j hj => ?_) (heapMt_set hh fun hg => ?_)
            · have := hi (nI ck + j) (by simp only [sumI]; omega)
              rw [show i + nI ck + j = i + (nI ck + j) by omega, this]
              simp only at e1
              rw [← e1.1, getD_append_right]
            · have := hbo (nB ck + j) (by simp only [sumB]; omega)
              rw [show b + nB ck + j = b + (nB ck + j) by omega, this]
              simp only at e1
              rw [← e1.2.1, getD_append_right]
            · refine blk_setAt hvn (by rw [freshC_length]; exact hle) (hh id bk hbk hg) (fun r' hr' => ?_) (fun _ _ _ _ _ => rfl) (fun _ _ _ => rfl)
              simp only at hr hq hr'
              rw [hr] at hr'
              cases hr'
              subst hq
              exact cellsAt_of_read hrd hm
        · cases hf
      · cases h
    · cases h
  | [], [], _ :: _, _, _, _, _, _, h, _, _, _, _, _ => by simp [fillAll] at h
  | _ :: _, _, [], _, _, _, _, _, h, _, _, _, _, _ => by simp [fillAll] at h
  | [], _ :: _, _, _, _, _, _, _, _, hpp, _, _, _, _ => hpp.elim
  | _ :: _, [], _ :: _, _, _, _, _, _, _, hpp, _, _, _, _ => hpp.elim

/-! ### The answer -/
def freshT (FI : Nat → A) (FB : Nat → B) (pp : List (Nat × Nat)) : List (Bool × List CK) → Nat → Nat → List (Bool × List C)
  | [], _, _ => []
  | p :: l, i, b => (p.1, freshC FI FB pp p.2 i b) :: freshT FI FB pp l (i + nI p.2) (b + nB p.2)
def freshS (FI : Nat → A) (FB : Nat → B) (pp : List (Nat × Nat)) (s : Sum) (i b : Nat) : S :=
  if s.tup then .tup (freshT FI FB pp s.res i b) else match s.res with
    | [p] => .one p.1 (freshC FI FB pp p.2 i b)
    | _ => .any
def resI : List (Bool × List CK) → Nat
  | [] => 0
  | p :: l => nI p.2 + resI l
def resB : List (Bool × List CK) → Nat
  | [] => 0
  | p :: l => nB p.2 + resB l
theorem flat1_inv {w : World} {ps : List Rg} {agg : Bool} {l : List CK} {v : Value} {f : Fl} (h : flat1 w ps agg l v = some f) : (∃ vs, flatC w ps l vs = some f ∧ (if agg then v = .agg vs.toArray else vs = [v]) ∧ rg1 w agg l v = rgC w l vs) := by
  unfold flat1 at h
  cases agg
  · simp only [Bool.false_eq_true, if_false] at h
    split at h
    · exact ⟨[v], h, by simp, by simp [rg1]⟩
    · cases h
  · simp only [if_true] at h
    split at h
    · rename_i vs; exact ⟨vs.toList, h, by simp, by simp [rg1]⟩
    · cases h
theorem fresh1_mt {FI : Nat → A} {FB : Nat → B} {β : Beta} {ρ : Env} {w : World} {ps : List Rg} {pp : List (Nat × Nat)} (hpp : ppOk β pp ps) {agg : Bool} {l : List CK} {v : Value} {f : Fl} {i b : Nat} (h : flat1 w ps agg l v = some f) (hsl : ∀ r, r ∈ rg1 w agg l v → ∃ i, β i = some r)
    (hi : ∀ j, j < nI l → (FI (i + j)).d ρ = f.1.getD j 0) (hb : ∀ j, j < nB l → (FB (b + j)).d ρ = f.2.getD j false) : mt1 β ρ agg (freshC FI FB pp l i b) v ∧ f.1.length = nI l ∧ f.2.length = nB l := by
  obtain ⟨vs, hf, hv, hrg⟩ := flat1_inv h
  have hm := freshC_mt hpp hf (fun r hr => hsl r (by rw [hrg]; exact hr)) hi hb
  have hl := flatC_len hf
  refine ⟨?_, hl.1, hl.2.1⟩
  unfold mt1
  cases agg
  · simp only [Bool.false_eq_true, if_false] at hv ⊢
    subst hv
    match hc : freshC FI FB pp l i b, hm with
    | [c], hm => exact ⟨c, rfl, hm.1⟩
  · simp only [if_true] at hv ⊢
    exact ⟨vs.toArray, hv, by simpa using hm⟩
theorem freshT_mt {FI : Nat → A} {FB : Nat → B} {β : Beta} {ρ : Env} {w : World} {ps : List Rg} {pp : List (Nat × Nat)} (hpp : ppOk β pp ps) : ∀ {l : List (Bool × List CK)} {vs : List Value} {f : Fl} {i b : Nat}, flatTup w ps l vs = some f → (∀ r, r ∈ rgTup w l vs → ∃ i, β i = some r) →
    (∀ j, j < resI l → (FI (i + j)).d ρ = f.1.getD j 0) → (∀ j, j < resB l → (FB (b + j)).d ρ = f.2.getD j false) → mtT β ρ (freshT FI FB pp l i b) vs ∧ f.1.length = resI l ∧ f.2.length = resB l
  | [], [], f, i, b, h, _, _, _ => by simp only [flatTup, Option.some.injEq] at h; subst h; exact ⟨trivial, rfl, rfl⟩
  | p :: l, v :: vs, f, i, b, h, hsl, hi, hb => by
    unfold flatTup at h
    split at h
    · rename_i i1 b1 is bs h1 h2
      simp only [Option.some.injEq] at h
      subst h
      have hl : i1.length = nI p.2 ∧ b1.length = nB p.2 := by
        obtain ⟨us, hf, _, _⟩ := flat1_inv h1
        have := flatC_len hf
        exact ⟨this.1, this.2.1⟩
      obtain ⟨g1, _, _⟩ := fresh1_mt (ρ := ρ) (i := i) (b := b) hpp h1 (fun r hr => hsl r (by unfold rgTup; simp [hr]))
        (fun j hj => by have := hi j (by simp only [resI]; omega); rwa [getD_append_left _ _ _ _ (by omega)] at this)
        (fun j hj => by have := hb j (by simp only [resB]; omega); rwa [getD_append_left _ _ _ _ (by omega)] at this)
      obtain ⟨g2, g3, g4⟩ := freshT_mt (i := i + nI p.2) (b := b + nB p.2) hpp h2 (fun r hr => hsl r (by unfold rgTup; simp [hr]))
        (fun j hj => by
          have := hi (nI p.2 + j) (by simp only [resI]; omega)
          rw [show i + nI p.2 + j = i + (nI p.2 + j) by omega, this, ← hl.1, getD_append_right])
        (fun j hj => by
          have := hb (nB p.2 + j) (by simp only [resB]; omega)
          rw [show b + nB p.2 + j = b + (nB p.2 + j) by omega, this, ← hl.2, getD_append_right])
      refine ⟨⟨g1, g2⟩, ?_, ?_⟩
      · simp only [resI, List.length_append] at g3 ⊢; omega
      · simp only [resB, List.length_append] at g4 ⊢; omega
    · cases h
  | [], _ :: _, f, _, _, h, _, _, _ => by simp [flatTup] at h
  | _ :: _, [], f, _, _, h, _, _, _ => by simp [flatTup] at h
theorem freshS_mt {FI : Nat → A} {FB : Nat → B} {β : Beta} {ρ : Env} {w : World} {ps : List Rg} {pp : List (Nat × Nat)} (hpp : ppOk β pp ps) {s : Sum} {v : Value} {f : Fl} {i b : Nat} (h : flatRes w ps s v = some f) (hsl : ∀ r, r ∈ resRgs w s v → ∃ i, β i = some r)
    (hi : ∀ j, j < resI s.res → (FI (i + j)).d ρ = f.1.getD j 0) (hb : ∀ j, j < resB s.res → (FB (b + j)).d ρ = f.2.getD j false) : (freshS FI FB pp s i b).mt β ρ v ∧ f.1.length = resI s.res ∧ f.2.length = resB s.res := by
  unfold flatRes at h
  unfold resRgs at hsl
  unfold freshS
  split at h
  · rename_i ht
    rw [if_pos ht] at hsl ⊢
    split at h
    · rename_i vs
      obtain ⟨g1, g2⟩ := freshT_mt (i := i) (b := b) hpp h hsl hi hb
      exact ⟨⟨vs, rfl, g1⟩, g2⟩
    · cases h
  · rename_i ht
    rw [if_neg ht] at hsl ⊢
    split at h
    · rename_i p hres
      rw [hres] at hi hb hsl ⊢
      simp only [resI, resB, Nat.add_zero] at hi hb ⊢
      exact fresh1_mt hpp h hsl hi hb
    · cases h
end Go.Proofs.Ytgbgibbonhklgaa.Sx
namespace Go.Proofs.Ytgbgibbonhklgaa.Sx
open Go

def newCall (f : Nat) (ai : List A) (ab : List B) (ni nb : Nat) : M (Nat × Nat) := fun c =>
  some ((c.i, c.b), { c with i := c.i + ni, b := c.b + nb }, [.call f ai ab c.i ni c.b nb])
theorem newCall_snd {Φ : Funs} {ρ : Env} (f : Nat) (ai : List A) (ab : List B) (ni nb : Nat) : Snd Φ ρ (newCall f ai ab ni nb) (fun p =>
    (∀ j, j < ni → ρ.i (p.1 + j) = (Φ f (ai.map (A.d ρ)) (ab.map (B.d ρ))).1.getD j 0) ∧ (∀ j, j < nb → ρ.b (p.2 + j) = (Φ f (ai.map (A.d ρ)) (ab.map (B.d ρ))).2.getD j false)) := by
  intro c x c' o he hg
  simp only [newCall, Option.some.injEq, Prod.mk.injEq] at he
  obtain ⟨rfl, rfl, rfl⟩ := he
  exact hg (.call f ai ab c.i ni c.b nb) (by simp)

abbrev Sums := Nat → Option Sum

/-- All functions that have a contract keep it, and can be called. -/
def AllOk (P : Program) (Φ : Funs) (gl : Gl) (X : Sums) : Prop :=
  ∀ f s, X f = some s → (match s.sl with | none => Contract P gl f s (Φ f) | some p => TabContract P gl f p) ∧ (∀ args w, (callFunc f args).run P w = .ok (.enter f args) w) ∧
    ∀ S, s.inl = some S → s.pre = false ∧ ∀ is bs, Φ f is bs = S.run Fun0 false is bs

/-! ### What a callee does, written out -/
def A.sub (is : List A) : A → A
  | .v n => is.getD n (.c 0)
  | .c k => .c k
def B.sub (bs : List B) : B → B
  | .v n => bs.getD n (.c false)
  | .c k => .c k
def mkTab (l : List Int) (a : A) : M A :=
  match a with
  | .c k => pure (.c (l.getD k.toNat 0))
  | a => newI (.tab l a)
theorem mkTab_snd {Φ : Funs} {ρ : Env} (l : List Int) (a : A) : Snd Φ ρ (mkTab l a) (fun x => x.d ρ = l.getD (a.d ρ).toNat 0) := by
  unfold mkTab
  split
  · exact Snd.pure rfl
  · exact newI_snd _
def instI (is : List A) (bs : List B) : RI → M A
  | .ar op k a b => mkAr op k (a.sub is) (b.sub is)
  | .cv k a => mkCv k (a.sub is)
  | .ite c a b => mkIteI (c.sub bs) (a.sub is) (b.sub is)
  | .mn a b => mkMn (a.sub is) (b.sub is)
  | .mx a b => mkMx (a.sub is) (b.sub is)
  | .tab l a => mkTab l (a.sub is)
  | .get q a s k => mkGet (q.sub is) (a.sub is) s k
  | .lenq q s => mkLenq (q.sub is) s
  | .rep n s => mkRep (n.sub is) s
  | .setq q a s k x => mkSetq (q.sub is) (a.sub is) s k (x.sub is)
  | .cat p q => mkCat (p.sub is) (q.sub is)
  | .sub q a b s => mkSub (q.sub is) (a.sub is) (b.sub is) s
  | .lst l => mkLst (l.map fun a => a.sub is)
  | .b2i b => mkB2i (b.sub bs)
def instB (is : List A) (bs : List B) : RB → M B
  | .cm op a b => mkCm op (a.sub is) (b.sub is)
  | .not a => mkNot (a.sub bs)
  | .and a b => mkAnd (a.sub bs) (b.sub bs)
  | .or a b => mkOr (a.sub bs) (b.sub bs)
  | .eqb a b => mkEqb (a.sub bs) (b.sub bs)
  | .ite c a b => mkIteB (c.sub bs) (a.sub bs) (b.sub bs)
  | .getb q a s k => mkGetb (q.sub is) (a.sub is) s k
def instE : List Em → List A → List B → M (List A × List B)
  | [], is, bs => pure (is, bs)
  | .di _ r :: l, is, bs => do
    let a ← instI is bs r
    instE l (is ++ [a]) bs
  | .db _ r :: l, is, bs => do
    let b ← instB is bs r
    instE l is (bs ++ [b])
  | .ob _ _ :: l, is, bs => instE l is bs
  | .call _ _ _ _ _ _ _ :: _, _, _ => M.fail
def instS (S : Smry) (ai : List A) (ab : List B) : M ((Nat → A) × (Nat → B)) := do
  let p ← instE S.em ai ab
  pure (fun j => (S.ri.getD j (.c 0)).sub p.1, fun j => (S.rb.getD j (.c false)).sub p.2)
theorem map_getD {α β : Type} (f : α → β) (l : List α) (n : Nat) (d : α) : (l.map f).getD n (f d) = f (l.getD n d) := by
  simp only [List.getD_eq_getElem?_getD, List.getElem?_map]
  cases l[n]? <;> rfl
section
variable {Φ : Funs} {ρ : Env}
theorem A.sub_d (is : List A) (bs : List Bool) (a : A) : (a.sub is).d ρ = a.d (envOf (is.map (A.d ρ)) bs) := by
  cases a with
  | v n => exact (map_getD (A.d ρ) is n (.c 0)).symm
  | c k => rfl
theorem B.sub_d (is : List Int) (bs : List B) (a : B) : (a.sub bs).d ρ = a.d (envOf is (bs.map (B.d ρ))) := by
  cases a with
  | v n => exact (map_getD (B.d ρ) bs n (.c false)).symm
  | c k => rfl
theorem instI_snd (is : List A) (bs : List B) (r : RI) : Snd Φ ρ (instI is bs r) (fun x => x.d ρ = r.d (envOf (is.map (A.d ρ)) (bs.map (B.d ρ)))) := by
  have h1 := fun a => A.sub_d (ρ := ρ) is (bs.map (B.d ρ)) a
  have h2 := fun a => B.sub_d (ρ := ρ) (is.map (A.d ρ)) bs a
  cases r with
  | ar op k a b => exact (mkAr_snd _ _ _ _).mono fun x hx => by rw [hx, h1, h1]; rfl
  | cv k a => exact (mkCv_snd _ _).mono fun x hx => by rw [hx, h1]; rfl
  | ite c a b => exact (mkIteI_snd _ _ _).mono fun x hx => by rw [hx, h1, h1, h2]; rfl
  | mn a b => exact (mkMn_snd _ _).mono fun x hx => by rw [hx, h1, h1]; rfl
  | mx a b => exact (mkMx_snd _ _).mono fun x hx => by rw [hx, h1, h1]; rfl
  | tab l a => exact (mkTab_snd _ _).mono fun x hx => by rw [hx, h1]; rfl
  | get q a s k => exact (mkGet_snd _ _ _ _).mono fun x hx => by rw [hx]; simp only [RI.d, h1]
  | lenq q s => exact (mkLenq_snd _ _).mono fun x hx => by rw [hx]; simp only [RI.d, h1]
  | rep n s => exact (mkRep_snd _ _).mono fun x hx => by rw [hx]; simp only [RI.d, h1]
  | setq q a s k x => exact (mkSetq_snd _ _ _ _ _).mono fun x hx => by rw [hx]; simp only [RI.d, h1]
  | cat p q => exact (mkCat_snd _ _).mono fun x hx => by rw [hx]; simp only [RI.d, h1]
  | sub q a b s => exact (mkSub_snd _ _ _ _).mono fun x hx => by rw [hx]; simp only [RI.d, h1]
  | lst l => exact (mkLst_snd _).mono fun x hx => by rw [hx, List.map_map]; simp only [RI.d]; congr 2; funext a; exact h1 a
  | b2i b => exact (mkB2i_snd _).mono fun x hx => by rw [hx]; simp only [RI.d, h2]
theorem instB_snd (is : List A) (bs : List B) (r : RB) : Snd Φ ρ (instB is bs r) (fun x => x.d ρ = r.d (envOf (is.map (A.d ρ)) (bs.map (B.d ρ)))) := by
  have h1 := fun a => A.sub_d (ρ := ρ) is (bs.map (B.d ρ)) a
  have h2 := fun a => B.sub_d (ρ := ρ) (is.map (A.d ρ)) bs a
  cases r with
  | cm op a b => exact (mkCm_snd _ _ _).mono fun x hx => by rw [hx, h1, h1]; rfl
  | not a => exact (mkNot_snd _).mono fun x hx => by rw [hx, h2]; rfl
  | and a b => exact (mkAnd_snd _ _).mono fun x hx => by rw [hx, h2, h2]; rfl
  | or a b => exact (mkOr_snd _ _).mono fun x hx => by rw [hx, h2, h2]; rfl
  | eqb a b => exact (mkEqb_snd _ _).mono fun x hx => by rw [hx, h2, h2]; rfl
  | ite c a b => exact (mkIteB_snd _ _ _).mono fun x hx => by rw [hx, h2, h2, h2]; rfl
  | getb q a s k => exact (mkGetb_snd _ _ _ _).mono fun x hx => by rw [hx]; simp only [RB.d, h1]
theorem instE_snd : ∀ (l : List Em) (is : List A) (bs : List B), Snd Φ ρ (instE l is bs) (fun p => (p.1.map (A.d ρ), p.2.map (B.d ρ)) = evEm Fun0 l (is.map (A.d ρ)) (bs.map (B.d ρ)))
  | [], is, bs => Snd.pure rfl
  | .di _ r :: l, is, bs => by
    unfold instE
    refine Snd.bind (instI_snd is bs r) fun a ha => (instE_snd l _ _).mono fun p hp => ?_
    rw [hp, evEm, List.map_append, List.map_singleton, ha]
  | .db _ r :: l, is, bs => by
    unfold instE
    refine Snd.bind (instB_snd is bs r) fun a ha => (instE_snd l _ _).mono fun p hp => ?_
    rw [hp, evEm, List.map_append, List.map_singleton, ha]
  | .ob _ _ :: l, is, bs => by
    unfold instE
    exact (instE_snd l _ _).mono fun p hp => by rw [hp, evEm]
  | .call _ _ _ _ _ _ _ :: _, _, _ => Snd.fail
theorem instS_snd (S : Smry) (ai : List A) (ab : List B) : Snd Φ ρ (instS S ai ab) (fun p =>
    (∀ j, (p.1 j).d ρ = (S.run Fun0 false (ai.map (A.d ρ)) (ab.map (B.d ρ))).1.getD j 0) ∧ (∀ j, (p.2 j).d ρ = (S.run Fun0 false (ai.map (A.d ρ)) (ab.map (B.d ρ))).2.getD j false)) := by
  unfold instS
  refine Snd.bind (instE_snd S.em ai ab) fun p hp => Snd.pure ⟨fun j => ?_, fun j => ?_⟩
  · simp only [Smry.run, ← hp]
    rw [A.sub_d p.1 (p.2.map (B.d ρ))]
    exact (map_getD (A.d (envOf (p.1.map (A.d ρ)) (p.2.map (B.d ρ)))) S.ri j (.c 0)).symm
  · simp only [Smry.run, ← hp, Bool.false_eq_true, if_false, List.nil_append]
    rw [B.sub_d (p.1.map (A.d ρ)) p.2]
    exact (map_getD (B.d (envOf (p.1.map (A.d ρ)) (p.2.map (B.d ρ)))) S.rb j (.c false)).symm
end
def callM (s : Sum) (f : Nat) (ai : List A) (ab : List B) (ni nb : Nat) : M ((Nat → A) × (Nat → B)) :=
  match s.inl with
  | some S => instS S ai ab
  | none => do
    let n ← newCall f ai ab ni nb
    pure (fun j => .v (n.1 + j), fun j => .v (n.2 + j))

def ppIds : PP → List Nat
  | [] => []
  | p :: l => if (ppIds l).contains p.1 then ppIds l else p.1 :: ppIds l
theorem ppIds_mem : ∀ {pp : PP} {p : Nat × Nat × Nat}, p ∈ pp → p.1 ∈ ppIds pp
  | q :: l, p, h => by
    unfold ppIds
    rcases List.mem_cons.1 h with rfl | h
    · split
      · rename_i hc; simpa using hc
      · simp
    · have := ppIds_mem h
      split
      · exact this
      · simp [this]

def nSlR : List (Bool × List CK) → Nat
  | [] => 0
  | p :: l => nSl p.2 + nSlR l
def xCall0 (X : Sums) (Γ : Gd) (hp : Hp) (f : Nat) (xs : List S) : M Res := do
  let s ← lift (X f)
  let t ← lift (takeArgs Γ hp s.args xs)
  let hp0 ← lift (junkAll hp t.2.2)
  if apartS t.2.2 && s.sl.isNone && ((ptrShapes s.args).all fun l => !l.isEmpty) && (nSlR s.res == 0 || !(hotA hp 1 s.args xs || hotA hp 2 s.args xs)) && (t.2.2.isEmpty || !hotA hp 2 s.args xs) then do
    let ls := ptrShapes s.args
    let pb := if s.pre then 1 else 0
    let n ← callM s f t.1 t.2.1 (resI s.res + sumI ls) (pb + (resB s.res + sumB ls))
    oblige (if s.pre then n.2 0 else .c true)
    let hp1 ← lift (fillAll n.1 n.2 hp0 t.2.2 ls (resI s.res) (pb + resB s.res))
    if gOk Γ hp1 (ppIds t.2.2) then
      pure { s := freshS n.1 n.2 (t.2.2.map fun p => (p.1, p.2.1)) s 0 pb, w := collectW hp1 (ppIds t.2.2) }
    else M.fail
  else M.fail
def newIds (k : Nat) : M Unit := fun c => some ((), { c with id := c.id + k }, [])
def xCall (X : Sums) (Γ : Gd) (hp : Hp) (f : Nat) (xs : List S) : M Res := do
  let s ← lift (X f)
  let r ← sameId (xCall0 X Γ hp f xs)
  newIds (nSlR s.res)
  pure r

/-! ### Slices that are answered get numbers -/
def bindL (β : Beta) : Nat → List Rg → Beta
  | _, [] => β
  | lo, r :: rs => bindL (β.set lo r) (lo + 1) rs
theorem bindL_ok {N : Nat} {R : List Rg} {Q : Rg → Prop} {w : World} : ∀ {rs : List Rg} {β : Beta} {lo : Nat}, BetaOk N R Q β w →
    (∀ r, r ∈ rs → r.ro = true ∧ r.row = false ∧ (r.len = 0 ∨ r.blk < w.heap.size) ∧ (N ≤ r.blk ∨ Q r) ∧ (∀ ks l, r.sq = some (ks, l) → l.length = r.len ∧ seqAt w r.blk r.off ks l) ∧ ∀ j q, β j = some q → q.ro = false → r.apart q) →
    (∀ i, lo ≤ i → i < lo + rs.length → β i = none) →
    BetaOk N R Q (bindL β lo rs) w ∧ (∀ i r, β i = some r → bindL β lo rs i = some r) ∧ (∀ i, (i < lo ∨ lo + rs.length ≤ i) → bindL β lo rs i = β i) ∧ ∀ r, r ∈ rs → ∃ i, bindL β lo rs i = some r
  | [], β, lo, hb, _, _ => ⟨hb, fun _ _ h => h, fun _ _ => rfl, by simp⟩
  | r :: rs, β, lo, hb, h, hf => by
    obtain ⟨h1, h2, h3, h4, h5, h6⟩ := h r (by simp)
    have hb1 : BetaOk N R Q (β.set lo r) w := hb.bind (W := []) (by simp) (Keep.refl _ _) (fun j q hj hq => by
      cases e : q.ro
      · exact .inr (h6 j q hq e)
      · exact .inl ⟨h1, rfl⟩) h3 (.inl h1) (fun ks l hs => ⟨h1, h2, h5 ks l hs⟩) (fun _ => h4) (fun e => by rw [h2] at e; cases e)
    obtain ⟨g1, g2, g3, g4⟩ := bindL_ok (lo := lo + 1) (rs := rs) hb1 (fun q hq => by
      obtain ⟨k1, k2, k3, k4, k5, k6⟩ := h q (by simp [hq])
      refine ⟨k1, k2, k3, k4, k5, fun j p hp hro => ?_⟩
      unfold Beta.set at hp
      split at hp
      · cases hp; rw [h1] at hro; cases hro
      · exact k6 j p hp hro) (fun i hi hi2 => by
      rw [Beta.set_other _ _ (by omega)]
      exact hf i (by omega) (by simp; omega))
    refine ⟨g1, fun i q hi => g2 i q ?_, fun i hi => ?_, fun q hq => ?_⟩
    · by_cases e : i = lo
      · subst e
        have := hf i (Nat.le_refl _) (by simp)
        rw [hi] at this
        cases this
      · rw [Beta.set_other _ _ e]; exact hi
    · simp only [List.length_cons] at hi
      show bindL (β.set lo r) (lo + 1) rs i = β i
      rw [g3 i (by omega), Beta.set_other _ _ (by omega)]
    · rcases List.mem_cons.1 hq with rfl | hq
      · exact ⟨lo, g2 lo q (Beta.set_same _ _ _)⟩
      · exact g4 q hq
theorem rgC_len {w : World} : ∀ {l : List CK} {vs : List Value}, (rgC w l vs).length ≤ nSl l
  | [], _ => by simp [rgC]
  | .sl ks :: l, [] => by simp [rgC]
  | .int _ :: l, [] => by simp [rgC]
  | .bool :: l, [] => by simp [rgC]
  | .pt _ _ :: l, [] => by simp [rgC]
  | .str :: l, [] => by simp [rgC]
  | .sl ks :: l, v :: vs => by
    have := rgC_len (w := w) (l := l) (vs := vs)
    unfold rgC nSl
    rw [List.length_append]
    split <;> simp <;> omega
  | .int _ :: l, v :: vs => by have := rgC_len (w := w) (l := l) (vs := vs); unfold rgC nSl; exact this
  | .bool :: l, v :: vs => by have := rgC_len (w := w) (l := l) (vs := vs); unfold rgC nSl; exact this
  | .pt _ _ :: l, v :: vs => by have := rgC_len (w := w) (l := l) (vs := vs); unfold rgC nSl; exact this
  | .str :: l, v :: vs => by have := rgC_len (w := w) (l := l) (vs := vs); unfold rgC nSl; exact this
theorem rg1_len {w : World} {agg : Bool} {l : List CK} {v : Value} : (rg1 w agg l v).length ≤ nSl l := by
  unfold rg1
  split
  · split
    · exact rgC_len
    · simp
  · exact rgC_len
theorem resRgs_len {w : World} {s : Sum} {v : Value} : (resRgs w s v).length ≤ nSlR s.res := by
  unfold resRgs
  have : ∀ (l : List (Bool × List CK)) (vs : List Value), (rgTup w l vs).length ≤ nSlR l := by
    intro l
    induction l with
    | nil => intro vs; simp [rgTup]
    | cons p l ih =>
      intro vs
      cases vs with
      | nil => simp [rgTup]
      | cons v vs =>
        unfold rgTup nSlR
        rw [List.length_append]
        have h1 := rg1_len (w := w) (agg := p.1) (l := p.2) (v := v)
        have h2 := ih vs
        omega
  split
  · split
    · exact this _ _
    · simp
  · split
    · rename_i p hp
      rw [hp]
      unfold nSlR
      have := rg1_len (w := w) (agg := p.1) (l := p.2) (v := v)
      omega
    · simp
theorem rg1_sq {w : World} {agg : Bool} {l : List CK} {v : Value} {r : Rg} (h : r ∈ rg1 w agg l v) : r.ro = true ∧ r.row = false ∧ ∃ ks q, r.sq = some (ks, q) ∧ q.length = r.len ∧ seqAt w r.blk r.off ks q := by
  unfold rg1 at h
  split at h
  · split at h
    · exact rgC_sq h
    · cases h
  · exact rgC_sq h
theorem resRgs_sq {w : World} {s : Sum} {v : Value} {r : Rg} (h : r ∈ resRgs w s v) : r.ro = true ∧ r.row = false ∧ ∃ ks q, r.sq = some (ks, q) ∧ q.length = r.len ∧ seqAt w r.blk r.off ks q := by
  unfold resRgs at h
  have : ∀ (l : List (Bool × List CK)) (vs : List Value), r ∈ rgTup w l vs → r.ro = true ∧ r.row = false ∧ ∃ ks q, r.sq = some (ks, q) ∧ q.length = r.len ∧ seqAt w r.blk r.off ks q := by
    intro l
    induction l with
    | nil => intro vs h; simp [rgTup] at h
    | cons p l ih =>
      intro vs h
      cases vs with
      | nil => simp [rgTup] at h
      | cons v vs =>
        unfold rgTup at h
        rcases List.mem_append.1 h with h | h
        · exact rg1_sq h
        · exact ih vs h
  split at h
  · split at h
    · exact this _ _ h
    · cases h
  · split at h
    · exact rg1_sq h
    · cases h
theorem rg_place {w : World} {r : Rg} {ks : List CK} {q : List Int} (h1 : q.length = r.len) (h2 : seqAt w r.blk r.off ks q) : r.len = 0 ∨ r.blk < w.heap.size := by
  by_cases h : r.len = 0
  · exact .inl h
  · obtain ⟨ck, v, _, e2, _⟩ := h2 0 _ (List.getElem?_eq_getElem (show 0 < q.length by omega))
    exact .inr (World.block_lt_of_cell? w _ e2)

def tabBlk (p : IntKind × List Int) : Blk := { g := [], ro := true, cells := p.2.map fun n => .int p.1 (.c n) }
def xCallT (p : IntKind × List Int) (xs : List S) : M Res := if xs.isEmpty then do
    let id ← newId
    pure { s := .one false [.sli id 0 p.2.length p.2.length], w := [(id, tabBlk p)] }
  else M.fail
def xCallA (X : Sums) (Γ : Gd) (hp : Hp) (f : Nat) (xs : List S) : M Res := match (X f).bind (·.sl) with
  | some p => xCallT p xs
  | none => xCall X Γ hp f xs

theorem ppOk_of {β : Beta} : ∀ {pp : PP} {ps : List Rg}, ppR β pp ps → ppOk β (pp.map fun p => (p.1, p.2.1)) ps
  | [], [], _ => trivial
  | p :: pp, q :: ps, ⟨⟨r, hr, hq, _, _, _⟩, h⟩ => ⟨⟨r, hr, by rw [hq], by rw [hq]⟩, ppOk_of h⟩
theorem flatArgs_mem' {w : World} : ∀ {ss : List Sh} {vs : List Value} {is : List Int} {bs : List Bool} {ps : List Rg}, flatArgs ss vs w = some (is, bs, ps) → ((ptrShapes ss).all fun l => !l.isEmpty) = true →
    ∀ r, r ∈ ps → (r.ro = false ∧ r.sq = none ∧ r.row = false) ∧ ∃ v, w.cell? ⟨r.blk, r.off, none⟩ = some v
  | [], [], is, bs, ps, h, _, r, hr => by
    simp only [flatArgs, Option.some.injEq, Prod.mk.injEq] at h
    obtain ⟨_, _, rfl⟩ := h
    cases hr
  | .val agg l :: ss, v :: vs, is, bs, ps, h, hne, r, hr => by
    unfold flatArgs at h
    split at h
    · rename_i h2
      simp only [Option.some.injEq, Prod.mk.injEq] at h
      obtain ⟨_, _, rfl⟩ := h
      exact flatArgs_mem' (ss := ss) h2 hne r hr
    · cases h
  | .ptr l :: ss, v :: vs, is, bs, ps, h, hne, r, hr => by
    simp only [ptrShapes, List.all_cons, Bool.and_eq_true, Bool.not_eq_true'] at hne
    unfold flatArgs at h
    split at h
    · rename_i b o is' bs' ps' h2
      split at h
      · rename_i i bb h1
        simp only [Option.some.injEq, Prod.mk.injEq] at h
        obtain ⟨_, _, rfl⟩ := h
        rcases List.mem_cons.1 hr with rfl | hr
        · refine ⟨⟨rfl, rfl, rfl⟩, ?_⟩
          cases hrd : readCells w b o l.length with
          | none => rw [hrd] at h1; simp at h1
          | some us =>
            obtain ⟨e1, e2⟩ := readCells_get hrd
            have hpos : 0 < us.length := by
              rw [e1]
              cases l with
              | nil => simp at hne
              | cons _ _ => simp
            exact ⟨us[0], by have := e2 0 _ (List.getElem?_eq_getElem hpos); simpa using this⟩
        · exact flatArgs_mem' (ss := ss) h2 hne.2 r hr
      · cases h
    · cases h
  | [], _ :: _, _, _, _, h, _, _, _ => by simp [flatArgs] at h
  | .val _ _ :: _, [], _, _, _, h, _, _, _ => by simp [flatArgs] at h
  | .ptr _ :: _, [], _, _, _, h, _, _, _ => by simp [flatArgs] at h
theorem mtAll_map {β : Beta} {ρ : Env} {f : Operand → S} {ev : Operand → Value} : ∀ {l : List Operand}, (∀ x, x ∈ l → (f x).mt β ρ (ev x)) → mtAll β ρ (l.map f) (l.map ev)
  | [], _ => trivial
  | x :: l, h => ⟨h x (by simp), mtAll_map fun y hy => h y (by simp [hy])⟩
theorem getD_tail (l : List Bool) (j : Nat) : l.tail.getD j false = l.getD (1 + j) false := by
  cases l with
  | nil => simp
  | cons x l => simp [Nat.add_comm 1 j]

section
variable {P : Program} {Φ : Funs} {gl : Gl} {Γ : Gd} {hp : Hp} {rv : Operand → SV} {dst : Option Tmp} {ty : TypeId} {pos : String} {after : Array Edge} {guard : Option (Nat × Bool)}

theorem callM_snd {X : Sums} (hX : AllOk P Φ gl X) {f : Nat} {s : Sum} (hs : X f = some s) (ρ : Env) (ai : List A) (ab : List B) (ni nb : Nat) : Snd Φ ρ (callM s f ai ab ni nb) (fun p =>
    (∀ j, j < ni → (p.1 j).d ρ = (Φ f (ai.map (A.d ρ)) (ab.map (B.d ρ))).1.getD j 0) ∧ (∀ j, j < nb → (p.2 j).d ρ = (Φ f (ai.map (A.d ρ)) (ab.map (B.d ρ))).2.getD j false)) := by
  unfold callM
  split
  · rename_i S hS
    have h := ((hX f s hs).2.2 S hS).2
    exact (instS_snd S ai ab).mono fun p hp => ⟨fun j _ => by rw [hp.1, h], fun j _ => by rw [hp.2, h]⟩
  · exact Snd.bind (newCall_snd f ai ab ni nb) fun n hn => Snd.pure ⟨hn.1, hn.2⟩
/-- A call with such arguments can be made, and comes to such a post. -/
def CallTo (P : Program) (gl : Gl) (hp : Hp) (f : Nat) (xs : List S) (ρ : Env) (Post : Nat → List Rg → (Rg → Prop) → Beta → World → Value → World → Prop) : Prop :=
  ∀ (N : Nat) (R : List Rg) (Q : Rg → Prop) (β : Beta) (w : World) (vs : List Value), mtAll β ρ xs vs → heapMt β ρ hp w → BetaOk N R Q β w → N ≤ w.heap.size → GB gl β w →
    (∀ args w, (callFunc f args).run P w = .ok (.enter f args) w) ∧ Calls P f vs.toArray w fun e w' => ∃ v, e = .returned v ∧ Post N R Q β w v w'
theorem call_snd {X : Sums} (hX : AllOk P Φ gl X) (f : Nat) (xs : List S) (ρ : Env) (hΓ : Gd.d ρ Γ = true) : Snd Φ ρ (xCall0 X Γ hp f xs) (fun res => CallTo P gl hp f xs ρ (fun N R Q β w v w' => ∀ s, X f = some s → ∀ lo hi, lo + nSlR s.res ≤ hi → (∀ i, lo ≤ i → i < hi → β i = none) → RPost N R Q ρ β w lo hi res v w')) := by
  unfold xCall0
  refine Snd.bind (lift_snd _) fun s hs => Snd.bind (lift_snd _) fun t ht => Snd.bind (lift_snd _) fun hp0 hj => ?_
  obtain ⟨ai, ab, pp⟩ := t
  simp only at ht hj ⊢
  split
  · rename_i hap
    simp only [Bool.and_eq_true, Option.isNone_iff_eq_none] at hap
    obtain ⟨⟨⟨⟨hap, hsl⟩, hne0⟩, hhot⟩, hhot2⟩ := hap
    refine Snd.bind (callM_snd hX hs ρ ai ab _ _) fun n hn => Snd.bind (oblige_snd _) fun _ hpre => Snd.bind (lift_snd _) fun hp1 hf => ?_
    obtain ⟨n1, n2⟩ := n
    obtain ⟨hn1, hn2⟩ := hn
    simp only at hn1 hn2 hpre hf ⊢
    split
    · rename_i hgo
      refine Snd.pure fun N R Q β w vs hm hh hb hN hG => ?_
      obtain ⟨ps, hfl, hppr, hfz, hsli⟩ := takeArgs_flat hΓ hh hb.sq ht hm
      have hapl := apartL_of hb hppr hap
      obtain ⟨hcon, hcall, _⟩ := hX f s hs
      rw [hsl] at hcon
      have hlens := flatArgs_lens hfl
      have hc := hcon _ w _ _ ps hG.1 hfl hapl hfz (fun q hq g vs hgv => by
        obtain ⟨p', r', hp', hβ, rfl, hle, hro, _⟩ := ppR_mem hppr q hq
        have hβg := hG.2 g vs hgv
        have hne : p'.1 ≠ g := fun e => by
          rw [e, hβg] at hβ
          simp only [Option.some.injEq] at hβ
          rw [← hβ] at hro
          cases hro
        have := (hb.apart _ _ _ _ hne hβ hβg).resolve_left fun hh => by rw [hh.1] at hro; cases hro
        unfold Rg.apart at *
        simp only at *
        omega) (fun q hq r hr => by
        obtain ⟨p', r', hp', hβ, rfl, hle, hro, hrow⟩ := ppR_mem hppr q hq
        obtain ⟨i, r0, hi, hwi, hi0⟩ := hsli r hr
        have hne : p'.1 ≠ i := fun e => by
          rw [e, hi] at hβ
          simp only [Option.some.injEq] at hβ
          rcases hi0 with hi0 | ⟨hi0, _⟩ | hi0
          · rw [← hβ, hi0] at hro
            cases hro
          · rw [← hβ, hi0] at hrow
            cases hrow
          · rw [hi0] at hhot2
            cases pp with
            | nil => cases hp'
            | cons _ _ => simp at hhot2
        have := (hb.apart _ _ _ _ hne hβ hi).resolve_left fun hh => by rw [hh.1] at hro; cases hro
        unfold Rg.within at hwi
        unfold Rg.apart at *
        simp only at *
        omega) (fun hp => by
        have h0 := hn2 0 (by rw [if_pos hp]; omega)
        rw [hp] at hpre
        simp only [if_true] at hpre h0
        rw [h0] at hpre
        rw [← hpre]
        cases (Φ f (ai.map (A.d ρ)) (ab.map (B.d ρ))).2 <;> simp)
      refine ⟨hcall, ?_⟩
      · refine Calls.mono hc fun e w' he => ?_
        obtain ⟨v, rfl, hkeep, ⟨r, p, hr, hp2, ho1, ho2⟩, hrg⟩ := he
        refine ⟨v, rfl, fun s' hs' lo hi hlh hfree => ?_⟩
        rw [hs] at hs'
        cases hs'
        have hplen := flatPs_len hp2
        -- the answers' numbers
        have hrl : r.1.length = resI s.res ∧ r.2.length = resB s.res := by
          unfold flatRes at hr
          split at hr
          · split at hr
            · rename_i vs
              have : ∀ {l : List (Bool × List CK)} {vs : List Value} {f : Fl}, flatTup w' ps l vs = some f → f.1.length = resI l ∧ f.2.length = resB l := by
                intro l
                induction l with
                | nil => intro vs f h; cases vs <;> simp [flatTup] at h; subst h; exact ⟨rfl, rfl⟩
                | cons q l ih =>
                  intro vs f h
                  cases vs with
                  | nil => simp [flatTup] at h
                  | cons v vs =>
                    unfold flatTup at h
                    split at h
                    · rename_i i1 b1 is bs h1 h2
                      simp only [Option.some.injEq] at h
                      subst h
                      obtain ⟨us, hf1, _, _⟩ := flat1_inv h1
                      have e1 := flatC_len hf1
                      have e2 := ih h2
                      simp only [resI, resB, List.length_append] at e1 e2 ⊢
                      omega
                    · cases h
              exact this hr
            · cases hr
          · split at hr
            · rename_i q hq
              obtain ⟨us, hf1, _, _⟩ := flat1_inv hr
              have e1 := flatC_len hf1
              rw [hq]
              simp only [resI, resB]
              omega
            · cases hr
        have k1 : ∀ j, j < resI s.res → (n1 (0 + j)).d ρ = r.1.getD j 0 := fun j hj => by
          rw [Nat.zero_add, hn1 j (by omega), ho1, getD_append_left _ _ _ _ (by omega)]
        have k2 : ∀ j, j < resB s.res → (n2 ((if s.pre then 1 else 0) + j)).d ρ = r.2.getD j false := fun j hj => by
          rw [hn2 _ (by omega)]
          split at ho2
          · rename_i hp
            rw [if_pos hp, ← getD_tail, ho2, getD_append_left _ _ _ _ (by omega)]
          · rename_i hp
            rw [if_neg hp, Nat.zero_add, ho2, getD_append_left _ _ _ _ (by omega)]
        have k3 : ∀ j, j < sumI (ptrShapes s.args) → (n1 (resI s.res + j)).d ρ = p.1.getD j 0 := fun j hj => by
          rw [hn1 _ (by omega), ho1, ← hrl.1, getD_append_right]
        have k4 : ∀ j, j < sumB (ptrShapes s.args) → (n2 ((if s.pre then 1 else 0) + resB s.res + j)).d ρ = p.2.getD j false := fun j hj => by
          rw [Nat.add_assoc, hn2 _ (by omega)]
          split at ho2
          · rename_i hp
            rw [if_pos hp, ← getD_tail, ho2, ← hrl.2, getD_append_right]
          · rename_i hp
            rw [if_neg hp, Nat.zero_add, ho2, ← hrl.2, getD_append_right]
        have hh0 := junkAll_heap hj hh
        have hjk := junkAll_junk (done := []) hj (fun p hp => by cases hp)
        simp only [List.nil_append] at hjk
        have hh1 := junk_move hb hh0 hjk hppr hkeep (flatPs_cells hp2 hlens)
        have hh2 := fillAll_heap hf hppr hp2 k3 k4 hh1
        have hKW : Keep ((ppIds pp).filterMap β) w w' := by
          refine (Keep.refl _ w).trans hkeep fun q hq => ?_
          obtain ⟨p', r', hp', hβ, rfl, hle, _, _⟩ := ppR_mem hppr q hq
          exact .inr ⟨r', List.mem_filterMap.2 ⟨p'.1, ppIds_mem hp', hβ⟩, rfl, by simp, by simp only; omega⟩
        have hWW : ∀ q, q ∈ (ppIds pp).filterMap β → ∃ id, id ∈ (collectW hp1 (ppIds pp)).map (·.1) ∧ β id = some q ∧ q.ro = false ∧ ∃ j v, w.cell? ⟨q.blk, j, none⟩ = some v := by
          intro q hq
          rw [List.mem_filterMap] at hq
          obtain ⟨id, hid, hβ⟩ := hq
          have hsome : (hp1 id).isSome = true := by
            have := (List.all_eq_true.1 hgo) _ hid
            cases hx : hp1 id with
            | none => rw [hx] at this; cases this
            | some b => rfl
          refine ⟨id, collectW_ids hid hsome, hβ, ?_⟩
          have hlv := flatArgs_mem' hfl hne0
          have hmem : ∃ p, p ∈ pp ∧ p.1 = id := by
            clear hKW hgo hf hjk hj hap ht hppr hh0 hh1 hh2 hhot2 hsli
            induction pp with
            | nil => simp [ppIds] at hid
            | cons p pp ih =>
              unfold ppIds at hid
              split at hid
              · obtain ⟨q, hq, he⟩ := ih hid; exact ⟨q, by simp [hq], he⟩
              · rcases List.mem_cons.1 hid with rfl | hid
                · exact ⟨p, by simp, rfl⟩
                · obtain ⟨q, hq, he⟩ := ih hid; exact ⟨q, by simp [hq], he⟩
          obtain ⟨p', hp', rfl⟩ := hmem
          have : ∀ {pp : PP} {ps : List Rg}, ppR β pp ps → (∀ r, r ∈ ps → (r.ro = false ∧ r.sq = none ∧ r.row = false) ∧ ∃ v, w.cell? ⟨r.blk, r.off, none⟩ = some v) → ∀ p, p ∈ pp → ∃ r, β p.1 = some r ∧ r.ro = false ∧ ∃ j v, w.cell? ⟨r.blk, j, none⟩ = some v := by
            intro pp
            induction pp with
            | nil => intro ps _ _ p hp; cases hp
            | cons p0 pp ih =>
              intro ps h hl p hp
              cases ps with
              | nil => exact h.elim
              | cons q0 ps =>
                obtain ⟨⟨r, hr, hq0, _, hro, _⟩, h2⟩ := h
                rcases List.mem_cons.1 hp with rfl | hp
                · obtain ⟨_, v, hv⟩ := hl q0 (by simp)
                  rw [hq0] at hv
                  exact ⟨r, hr, hro, _, v, hv⟩
                · exact ih h2 (fun r hr => hl r (by simp [hr])) p hp
          obtain ⟨r', hr', hro⟩ := this hppr hlv p' hp'
          rw [hβ] at hr'
          cases hr'
          exact hro
        have hbk : BetaOk N R Q β w' := hb.keep (fun q hq => by obtain ⟨id, _, h1, h2, _⟩ := hWW q hq; exact ⟨id, h1, h2⟩) hKW
        have hlen := resRgs_len (w := w') (s := s) (v := v)
        obtain ⟨b1, b2, b3, b4⟩ := bindL_ok (rs := resRgs w' s v) (lo := lo) hbk (fun q hq => by
          obtain ⟨e1, e2, ks, l, e3, e4, e5⟩ := resRgs_sq hq
          have hcase : (w.heap.size ≤ q.blk) ∨ ∃ i r0, β i = some r0 ∧ q.within r0 ∧ r0.ro = true := by
            rcases hrg q hq with h | ⟨q', h1 | ⟨g, us, h1, rfl⟩, h2⟩
            · exact .inl h
            · obtain ⟨i, r0, k1, k2, k3⟩ := hsli q' h1
              refine .inr ⟨i, r0, k1, Rg.within_trans h2 k2, ?_⟩
              rcases k3 with k3 | ⟨_, k3⟩ | k3
              · exact k3
              · exfalso
                have hpos : nSlR s.res ≠ 0 := by
                  have : 0 < (resRgs w' s v).length := List.length_pos_of_mem hq
                  omega
                simp [k3, hpos] at hhot
              · exfalso
                have hpos : nSlR s.res ≠ 0 := by
                  have : 0 < (resRgs w' s v).length := List.length_pos_of_mem hq
                  omega
                simp [k3, hpos] at hhot
            · exact .inr ⟨g, _, hG.2 g us h1, h2, rfl⟩
          refine ⟨e1, e2, rg_place e4 e5, ?_, fun ks' l' hs' => ?_, fun j p' hj hro => ?_⟩
          · rcases hcase with h | ⟨i, r0, k1, k2, k3⟩
            · exact .inl (Nat.le_trans hN h)
            · rcases hb.rom i r0 k1 k3 with h | h
              · exact .inl (by rw [k2.1]; exact h)
              · exact .inr (hb.qs _ _ h k2)
          · rw [e3] at hs'
            cases hs'
            exact ⟨e4, e5⟩
          · rcases hcase with h | ⟨i, r0, k1, k2, k3⟩
            · exact hb.new_apart h hj
            · have hne : i ≠ j := fun e => by rw [e, hj] at k1; cases k1; rw [k3] at hro; cases hro
              exact Rg.within_apart k2 ((hb.apart i j r0 p' hne k1 hj).resolve_left fun hh => by rw [hh.2] at hro; cases hro)) (fun i hi1 hi2 => hfree i hi1 (by omega))
        have hmv : Mv (fun _ => true) β (bindL β lo (resRgs w' s v)) := Mv.of hb (fun i r hi _ => b2 i r hi)
        have hppr' : ppOk (bindL β lo (resRgs w' s v)) (pp.map fun p => (p.1, p.2.1)) ps := by
          have : ∀ {l : List (Nat × Nat)} {ps : List Rg}, ppOk β l ps → ppOk (bindL β lo (resRgs w' s v)) l ps := by
            intro l
            induction l with
            | nil => intro ps h; cases ps with | nil => trivial | cons _ _ => exact h.elim
            | cons p l ih =>
              intro ps h
              cases ps with
              | nil => exact h.elim
              | cons r ps => obtain ⟨⟨q, hq, h1⟩, h2⟩ := h; exact ⟨⟨q, b2 _ _ hq, h1⟩, ih h2⟩
          exact this (ppOk_of hppr)
        have hfr := freshS_mt (FI := n1) (FB := n2) (ρ := ρ) (i := 0) (b := if s.pre then 1 else 0) hppr' hr b4 k1 k2
        refine ⟨bindL β lo (resRgs w' s v), ⟨fun i r hi _ => b2 i r hi, b1, ⟨_, hWW, hKW⟩, fun i hi' _ => b3 i (by omega), by simp⟩, hfr.1, fun q hq => ?_⟩
        · obtain ⟨h1, h2⟩ := collectW_mem hq
          have := (List.all_eq_true.1 hgo) _ h1
          rw [h2] at this
          have hm := hh2 _ _ h2 (Gd.sub_d this hΓ)
          have hm2 := blkMt_jk hmv (w := w') (w' := w') (.inr rfl) (fun _ _ _ _ => ⟨rfl, rfl⟩) hm
          rwa [Blk.jk_true] at hm2
    · exact Snd.fail
  · exact Snd.fail

/-! ### All together -/
theorem ok_callT {X : Sums} (hX : AllOk P Φ gl X) (f : Nat) {s : Sum} {p : IntKind × List Int} (hs : X f = some s) (hsl : s.sl = some p) (xs : List S) {ρ : Env} {c c' : Ctr} {res : Res} {out : List Em} (he : xCallT p xs c = some (res, c', out)) {N : Nat} {R : List Rg} {Q : Rg → Prop} {β : Beta} {w : World} {vs : List Value}
    (hm : mtAll β ρ xs vs) (hb : BetaOk N R Q β w) (hN : N ≤ w.heap.size) (hG : GB gl β w) (hf : ∀ i, c.id ≤ i → i < c'.id → β i = none) :
    (∀ args w, (callFunc f args).run P w = .ok (.enter f args) w) ∧ Calls P f vs.toArray w fun e w' => ∃ v, e = .returned v ∧ RPost N R Q ρ β w c.id c'.id res v w' := by
  unfold xCallT at he
  split at he
  · rename_i hem
    simp only [newId, Bind.bind, M.bind, Pure.pure, M.pure, Option.some.injEq, Prod.mk.injEq] at he
    obtain ⟨rfl, rfl, rfl⟩ := he
    obtain ⟨hcon, hcall, _⟩ := hX f s hs
    rw [hsl] at hcon
    have hcon := hcon w hG.1
    have hargs : vs = [] := by
      simp only [List.isEmpty_iff] at hem
      subst hem
      cases vs with
      | nil => rfl
      | cons _ _ => exact hm.elim
    subst hargs
    refine ⟨hcall, ?_⟩
    · refine Calls.mono hcon fun e w' he => ?_
      obtain ⟨b, o, rfl, hkeep, hb1, hb2, hcells⟩ := he
      have hfree := hf c.id (Nat.le_refl _) (by simp)
      refine ⟨_, rfl, β.set c.id { blk := b, off := o, len := p.2.length, ro := true }, ⟨Beta.set_ext _ hfree, ?_, ⟨[], by simp, hkeep⟩, fun i hi _ => Beta.set_other _ _ (by simp only at hi; omega), by simp⟩, ⟨_, rfl, _, Beta.set_same _ _ _, by simp⟩, fun q hq => ?_⟩
      · exact hb.bind (W := []) (by simp) hkeep (fun j q _ hj => .inr (hb.new_apart hb1 hj)) (.inr hb2) (.inl rfl) (by simp) (fun _ => .inl (Nat.le_trans hN hb1)) (by simp)
      · simp only [List.mem_singleton] at hq
        subst hq
        refine blkMt_mk ⟨_, Beta.set_same _ _ _, rfl, by simp [tabBlk], rfl, ?_, fun h => by cases h⟩
        rw [cellsAt_iff]
        intro j cc hj
        simp only [tabBlk, List.getElem?_map] at hj
        cases hv : p.2[j]? with
        | none => rw [hv] at hj; simp at hj
        | some v =>
          rw [hv] at hj
          simp only [Option.map_some, Option.some.injEq] at hj
          subst hj
          obtain ⟨h1, h2⟩ := hcells j v hv
          exact ⟨_, h1, rfl, h2⟩
  · simp [M.fail] at he
/-- What calls functions: of a function, conditions, blocks and arguments it tells what comes of it. -/
abbrev Hnd := Nat → Gd → Hp → List S → M Res
def HOk (P : Program) (Φ : Funs) (gl : Gl) (H : Hnd) : Prop :=
  ∀ (f : Nat) (Γ : Gd) (hp : Hp) (xs : List S) (ρ : Env) (c : Ctr) (res : Res) (c' : Ctr) (out : List Em), H f Γ hp xs c = some (res, c', out) → Good Φ ρ out → Gd.d ρ Γ = true →
    ∀ (N : Nat) (R : List Rg) (Q : Rg → Prop) (β : Beta) (w : World) (vs : List Value), mtAll β ρ xs vs → heapMt β ρ hp w → BetaOk N R Q β w → N ≤ w.heap.size → GB gl β w → (∀ i, c.id ≤ i → i < c'.id → β i = none) →
    (∀ args w, (callFunc f args).run P w = .ok (.enter f args) w) ∧ Calls P f vs.toArray w fun e w' => ∃ v, e = .returned v ∧ RPost N R Q ρ β w c.id c'.id res v w'
/-- By contract. -/
def hnd0 (X : Sums) : Hnd := fun f Γ hp xs => xCallA X Γ hp f xs
theorem hnd0_ok {X : Sums} (hX : AllOk P Φ gl X) : HOk P Φ gl (hnd0 X) := by
  intro f Γ hp xs ρ c res c' out he hg hΓ N R Q β w vs hm hh hb hN hG hf
  unfold hnd0 xCallA at he
  have hnone : (∀ p, (X f).bind (·.sl) = some p → False) → (match (X f).bind (·.sl) with | some p => xCallT p xs | none => xCall X Γ hp f xs) = xCall X Γ hp f xs := fun h => by
    cases hh : (X f).bind (·.sl) with
    | none => rfl
    | some p => exact (h p hh).elim
  by_cases hc : ∃ p, (X f).bind (·.sl) = some p
  · obtain ⟨p, hp⟩ := hc
    rw [hp] at he
    cases hs : X f with
    | none => rw [hs] at hp; cases hp
    | some s =>
      rw [hs] at hp
      exact ok_callT hX f hs hp xs he hm hb hN hG hf
  · rw [hnone fun p hp => hc ⟨p, hp⟩] at he
    unfold xCall at he
    obtain ⟨s, hs, he⟩ := snd_lift_inv he
    obtain ⟨r, c1, o1, c2, o2, y, g1, g2, e1⟩ := M.bind_inv he
    obtain ⟨_, c3, o3, c4, o4, y2, g3, g4, e2⟩ := M.bind_inv g2
    have g4 := M.pure_inv g4
    simp only [newIds, Option.some.injEq, Prod.mk.injEq] at g3
    obtain ⟨_, rfl, rfl⟩ := g3
    simp only [Prod.mk.injEq] at g4 e2 e1
    obtain ⟨rfl, rfl, rfl⟩ := g4
    obtain ⟨rfl, rfl, rfl⟩ := e2
    obtain ⟨rfl, rfl, rfl⟩ := e1
    obtain ⟨g1, hid⟩ := sameId_inv g1
    obtain ⟨h1, h2⟩ := call_snd hX f xs ρ hΓ c _ _ _ g1 (Good.append.1 hg).1 N R Q β w vs hm hh hb hN hG
    exact ⟨h1, Calls.mono h2 fun e w' ⟨v, hv, hp⟩ => ⟨v, hv, hp s hs _ _ (by simp only; omega) hf⟩⟩

end
end Go.Proofs.Ytgbgibbonhklgaa.Sx
namespace Go.Proofs.Ytgbgibbonhklgaa.Sx
open Go Go.Shelf
def cloneM (P : Program) (t : TypeId) (Γ : Gd) (hp : Hp) (xs : List S) : M Res := match xs with
  | [x] => do
    let p ← lift (rowTy P t)
    let r ← sameId (do
      let r ← srcOf Γ hp p.1 x
      let b ← mkCm .leq r.2 (.c (appK p.2))
      oblige b
      pure r)
    appTo Γ hp p.1 p.2 (.one false [.emp]) r
  | _ => M.fail
def cloneH (P : Program) (f : Nat) (t : TypeId) (H : Hnd) : Hnd := fun g Γ hp xs => if g == f then cloneM P t Γ hp xs else H g Γ hp xs
theorem step_rowNew' {N : Nat} {R : List Rg} {Q : Rg → Prop} {β : Beta} {w w1 : World} {lo hi id : Nat} (hlo : lo ≤ id) (hhi : id < hi) (hn : β id = none) (hb : BetaOk N R Q β w) (hN : N ≤ w.heap.size) (len m : Nat) (o : Obj)
    (hk : Keep [] w w1) (hs : w.heap.size ≤ w1.heap.size) : Step N R Q β w [id] [] lo hi (β.set id (rowRg w1.heap.size len m)) (w1.alloc o) := by
  have hk2 : Keep [] w (w1.alloc o) := hk.trans (Keep.alloc [] w1 o) (by simp)
  refine ⟨Beta.set_ext _ hn, ?_, ⟨[], by simp, hk2⟩, fun i hi' _ => Beta.set_other _ _ (by omega), by simp⟩
  exact hb.bind (W := []) (by simp) hk2 (fun j q _ hj => .inr (hb.new_apart (by simp [rowRg, hs]) hj)) (.inr (by simp [rowRg])) (.inr (.inl (by simp [rowRg]; omega))) (by simp [rowRg]) (by simp [rowRg]) (by simp [rowRg])
theorem step_rowNil' {N : Nat} {R : List Rg} {Q : Rg → Prop} {β : Beta} {w w1 : World} {lo hi id : Nat} (hlo : lo ≤ id) (hhi : id < hi) (hn : β id = none) (hb : BetaOk N R Q β w) (hN : N ≤ w.heap.size) (hk : Keep [] w w1) :
    Step N R Q β w [id] [] lo hi (β.set id (rowRg w.heap.size 0 0)) w1 := by
  refine ⟨Beta.set_ext _ hn, ?_, ⟨[], by simp, hk⟩, fun i hi' _ => Beta.set_other _ _ (by omega), by simp⟩
  exact hb.bind (W := []) (by simp) hk (fun j q _ hj => .inr (hb.new_apart (by simp [rowRg]) hj)) (.inl rfl) (.inr (.inl (by simp [rowRg]; omega))) (by simp [rowRg]) (by simp [rowRg]) (by simp [rowRg])
section
variable {P : Program} {Φ : Funs} {gl : Gl} {H : Hnd}
theorem cloneH_ok (hH : HOk P Φ gl H) {r : Go.Shelf.Ren} (L : SlLaysE0.n41 P r) (hcl : ∀ args w, (callFunc (r.f 41) args).run P w = .ok (.enter (r.f 41) args) w) : HOk P Φ gl (cloneH P (r.f 41) (r.t 22) H) := by
  intro f Γ hp xs ρ c res c' out he hg hΓ N R Q β w vs hm hh hb hN hG hf
  unfold cloneH at he
  split at he
  case isFalse => exact hH f Γ hp xs ρ c res c' out he hg hΓ N R Q β w vs hm hh hb hN hG hf
  rename_i hfe
  have hfe : f = r.f 41 := by simpa using hfe
  subst hfe
  refine ⟨hcl, ?_⟩
  unfold cloneM at he
  split at he
  case h_2 => simp [M.fail] at he
  rename_i x
  obtain ⟨p, c1, o1, c2, o2, y, g1, g2, e1⟩ := M.bind_inv he
  simp only [Prod.mk.injEq] at e1
  obtain ⟨rfl, rfl, rfl⟩ := e1
  obtain ⟨p', hp', e1⟩ := lift_inv g1
  simp only [Prod.mk.injEq] at e1
  obtain ⟨rfl, rfl, rfl⟩ := e1
  obtain ⟨ks, bytes⟩ := p
  obtain ⟨e, i, z, T⟩ := rowTy_spec hp'
  have hee : e = r.t 23 := by
    have h1 := T.ut
    rw [L.t22] at h1
    simp only [Option.some.injEq, TypeDesc.slice.injEq] at h1
    exact h1.symm
  subst hee
  obtain ⟨rr, c3, o3, c4, o4, y, g3, g4, e1⟩ := M.bind_inv g2
  simp only [Prod.mk.injEq] at e1
  obtain ⟨rfl, rfl, rfl⟩ := e1
  obtain ⟨g3, hid⟩ := sameId_inv g3
  simp only [List.nil_append] at hg
  obtain ⟨hg3, hg4⟩ := Good.append.1 hg
  obtain ⟨hb0, hsrc⟩ := (show Snd Φ ρ (do
      let r ← srcOf Γ hp ks x
      let b ← mkCm .leq r.2 (.c (appK bytes))
      oblige b
      pure r : M (A × A)) (fun r => r.2.d ρ ≤ (appK bytes : Nat) ∧ ∀ β w v, x.mt β ρ v → heapMt β ρ hp w → SqOk β w → ∃ l m, r.1.d ρ = enc l ∧ r.2.d ρ = ((m : Nat) : Int) ∧ InR .i64 (m : Int) ∧ SrcOk w ks l m v) from
    Snd.bind (srcOf_snd hΓ T.klen x) fun r hr => Snd.bind (mkCm_snd _ _ _) fun b e1 => Snd.bind (oblige_snd b) fun _ e2 => Snd.pure ⟨by rw [e1] at e2; exact of_decide_eq_true e2, hr⟩) _ _ _ _ g3 hg3
  match vs, hm with
  | [v], hm =>
  obtain ⟨lx, m, hqx, hnx, hinm, p', capx, hvx, hlx, hpx⟩ := hsrc β w v hm.1 hh hb.sq
  subst hvx
  have hmK : m ≤ appK bytes := by omega
  unfold appTo at g4
  simp only [slmOf, empOf, asEmp, if_true] at g4
  unfold Sx.withId at g4
  obtain ⟨x1, c5, o5, c6, o6, y1, f1, f2, e1⟩ := M.bind_inv g4
  simp only [newId, Option.some.injEq, Prod.mk.injEq] at f1
  obtain ⟨rfl, rfl, rfl⟩ := f1
  obtain ⟨r3, c7, o7, c8, o8, y2, f3, f4, e2⟩ := M.bind_inv f2
  have f3 := M.pure_inv f3
  simp only [Prod.mk.injEq] at f3
  obtain ⟨rfl, rfl, rfl⟩ := f3
  obtain ⟨hi, c9, o9, c10, o10, y3, f5, f6, e3⟩ := M.bind_inv f4
  simp only [getId, Option.some.injEq, Prod.mk.injEq] at f5
  obtain ⟨rfl, rfl, rfl⟩ := f5
  split at f6
  case isFalse => cases f6
  have e4 := M.pure_inv f6
  simp only [Prod.mk.injEq] at e4 e3 e2 e1
  obtain ⟨rfl, rfl, rfl⟩ := e4
  obtain ⟨rfl, rfl, rfl⟩ := e3
  obtain ⟨rfl, rfl, rfl⟩ := e2
  obtain ⟨rfl, rfl, rfl⟩ := e1
  have hlo : c1.id ≤ c3.id := by omega
  have hhi : c3.id < c3.id + 1 := by omega
  have hfr := hf c3.id hlo hhi
  obtain ⟨hK, hK2⟩ := appK_le (n := 0) (m := m) (by omega) hmK T.b0
  cases p' with
  | none =>
    have hm0 : m = 0 := hpx.resolve_right fun ⟨_, _, h, _⟩ => by cases h
    subst hm0
    have hlx0 : lx = [] := List.eq_nil_of_length_eq_zero (by simpa using hlx)
    subst hlx0
    refine Calls.mono (clone_nil L 0 capx w) fun e u h => ?_
    obtain ⟨rfl, rfl⟩ := h
    exact ⟨_, rfl, _, step_rowNil hlo hhi hfr hb hN, slm_nil _ none, rowW_mt (row_nil T.ne _ hqx (by simpa using hnx))⟩
  | some a =>
    by_cases hm0 : m = 0
    · subst hm0
      have hlx0 : lx = [] := List.eq_nil_of_length_eq_zero (by simpa using hlx)
      subst hlx0
      refine Calls.mono (clone_run L T.info a 0 capx w _ _ (append_zero T _ _ 0 0 capx (Nat.le_refl _))) fun e u h => ?_
      obtain ⟨rfl, rfl⟩ := h
      exact ⟨_, rfl, _, step_rowNil' hlo hhi hfr hb hN (Keep.alloc [] w _), slm_nil _ _, rowW_mt (row_nil T.ne _ hqx (by simpa using hnx))⟩
    · obtain ⟨bx, ox, hpx, hsx⟩ := hpx.resolve_left hm0
      simp only [Option.some.injEq] at hpx
      subst hpx
      obtain ⟨news, hn1, hn2, hn3, hn4⟩ := seqAt_vals hsx
      have hcell : ∀ j u, news[j]? = some u → (w.alloc (.cells #[] (r.t 23))).cell? (Addr.add ⟨bx, ox, none⟩ j) = some u := fun j u hj => by
        rw [add_addr]
        exact Lib.cell?_alloc_some _ (hn2 j u hj)
      obtain ⟨cap2, hc2, _, hrun⟩ := append_new (P := P) (w := w.alloc (.cells #[] (r.t 23))) (ty := r.t 22) (p := some ⟨w.heap.size, 0, none⟩) (n := 0) (cap := 0) (m := m) (c := capx) (b := ⟨bx, ox, none⟩) T (olds := []) (news := news)
        (.inl ⟨rfl, rfl⟩) (by simp) (by rw [hn1, hlx]) hcell (by omega) hK
      have hrun := hrun.resolve_left (fun h => h.2 rfl)
      obtain ⟨a1, a2, a3⟩ := grown_arr T (olds := []) (news := news) (l := []) (lx := lx) (n := 0) (m := m) (cap := cap2) (by simp) (by simp) (by rw [hn1, hlx]) hlx hc2 (by simp) hn3 (by simp) hn4
      refine Calls.mono (clone_run L T.info ⟨bx, ox, none⟩ m capx w _ _ hrun) fun e u h => ?_
      obtain ⟨rfl, rfl⟩ := h
      have hk1 : Keep [] w (w.alloc (.cells #[] (r.t 23))).drew := (Keep.alloc [] w _).trans (Keep.drew [] _) (by simp)
      refine ⟨_, rfl, _, step_rowNew' (w1 := (w.alloc (.cells #[] (r.t 23))).drew) hlo hhi hfr hb hN (cap2 * ks.length) (0 + m) _ hk1 hk1.size, slm_new hc2, rowW_mt ?_⟩
      exact row_new (β := β) (ρ := ρ) (w := (w.alloc (.cells #[] (r.t 23))).drew) (id := c3.id) T.ne _ (r.t 23) a1 (by simpa using hlx) hc2 (by simpa using hqx) (by simpa using hnx) (by simpa using hinm) (by simpa using a2) a3
end
end Go.Proofs.Ytgbgibbonhklgaa.Sx
namespace Go.Proofs.Ytgbgibbonhklgaa.Sx
open Go Go.Shelf

/-! ### Pairs -/
def encR (p : Int × Int) : List Value := [.int .i64 p.1, .int .i64 p.2]
def cfR (x y : Int × Int) : Int := if x.1 < y.1 then -1 else if x.1 = y.1 then 0 else 1
theorem ltR (x y : Int × Int) : ltOf cfR x y = decide (x.1 < y.1) := by
  unfold ltOf cfR
  by_cases h : x.1 < y.1
  · simp [h]
  · by_cases h2 : x.1 = y.1 <;> simp [h, h2]
theorem swoR : Sort.SWO (ltOf cfR) :=
  ⟨fun x => by rw [ltR]; simp, fun x y z => by simp only [ltR, decide_eq_true_eq]; omega, fun x y z => by simp only [ltR, decide_eq_false_iff_not]; omega⟩
def pairs : List Int → List (Int × Int)
  | a :: b :: l => (a, b) :: pairs l
  | _ => []
def flat2 : List (Int × Int) → List Int
  | [] => []
  | p :: l => p.1 :: p.2 :: flat2 l
theorem pairs_len : ∀ {l : List Int} {n : Nat}, l.length = n * 2 → (pairs l).length = n
  | [], n, h => by simp at h; simp [pairs]; omega
  | [_], n, h => by simp at h; omega
  | a :: b :: l, 0, h => by simp at h
  | a :: b :: l, n + 1, h => by simp only [pairs, List.length_cons]; rw [pairs_len (n := n) (by simp at h; omega)]
theorem flat2_len : ∀ l : List (Int × Int), (flat2 l).length = l.length * 2
  | [] => rfl
  | p :: l => by simp only [flat2, List.length_cons, flat2_len l]; omega
theorem pairs_get : ∀ {l : List Int} {n i : Nat} {p : Int × Int}, l.length = n * 2 → (pairs l)[i]? = some p → l[i * 2]? = some p.1 ∧ l[i * 2 + 1]? = some p.2
  | [], n, i, p, _, h => by simp [pairs] at h
  | [_], n, i, p, h, _ => by simp at h; omega
  | a :: b :: l, 0, _, _, h, _ => by simp at h
  | a :: b :: l, n + 1, 0, p, h, hp => by simp [pairs] at hp; subst hp; exact ⟨rfl, rfl⟩
  | a :: b :: l, n + 1, i + 1, p, h, hp => by
    simp only [pairs, List.getElem?_cons_succ] at hp
    obtain ⟨h1, h2⟩ := pairs_get (l := l) (n := n) (by simp at h; omega) hp
    rw [show (i + 1) * 2 = i * 2 + 1 + 1 by omega]
    exact ⟨h1, h2⟩
theorem flat2_get : ∀ {l : List (Int × Int)} {i : Nat} {p : Int × Int}, l[i]? = some p → (flat2 l)[i * 2]? = some p.1 ∧ (flat2 l)[i * 2 + 1]? = some p.2
  | [], i, p, h => by simp at h
  | q :: l, 0, p, h => by simp at h; subst h; exact ⟨rfl, rfl⟩
  | q :: l, i + 1, p, h => by
    simp only [List.getElem?_cons_succ] at h
    obtain ⟨h1, h2⟩ := flat2_get h
    rw [show (i + 1) * 2 = i * 2 + 1 + 1 by omega]
    exact ⟨h1, h2⟩
/-- What slices.SortFunc makes of it. -/
def sortP (d : List (Int × Int)) : List (Int × Int) := (Sort.pdq (ltOf cfR) d.toArray 0 d.length (Lib.bitLen d.length) true true).toList
def sortF : Fun := fun is _ => ([enc (flat2 (sortP (pairs (dec (is.getD 0 0)))))], [])
theorem sortP_perm (d : List (Int × Int)) : (sortP d).Perm d ∧ Sort.SortedIn (ltOf cfR) 0 d.length (Sort.pdq (ltOf cfR) d.toArray 0 d.length (Lib.bitLen d.length) true true) := by
  obtain ⟨⟨h1, _, h3⟩, h4⟩ := Sort.pdq_sorts (ltOf cfR) swoR d.toArray 0 d.length (Lib.bitLen d.length) true true (Nat.zero_le _) (by simp) (.inl rfl)
  refine ⟨?_, h4⟩
  have e : ∀ (a : Array (Int × Int)) (n : Nat), a.size = n → (a.extract 0 n).toList = a.toList := fun a n h => by subst h; simp
  rw [e _ _ (by rw [h1]; simp), e _ _ (by simp)] at h3
  exact h3
theorem sortP_len (d : List (Int × Int)) : (sortP d).length = d.length := (sortP_perm d).1.length_eq

/-! ### The world behind it -/
theorem Keep.grow (W : List Rg) (w : World) (os : Array Obj) : Keep W w (Go.Sort.grow w os) :=
  Keep.of_blocks rfl rfl rfl (by simp [Go.Sort.grow]) fun k hk => by simp [Go.Sort.grow, Array.getElem?_append, hk]
theorem shape?_mapBlock (w : World) (b : Nat) (f : Array Value → Array Value) (hf : ∀ c, (f c).size = c.size) (k : Nat) : (Sort.mapBlock w b f).shape? k = w.shape? k := by
  simp only [Sort.mapBlock, World.shape?, Array.getElem?_modify]
  by_cases hb : b = k
  · simp only [hb, if_true]
    cases hh : w.heap[k]? with
    | none => simp
    | some x => cases x <;> simp [Sort.onCells, hf]
  · simp [hb]
theorem Keep.putRow {W : List Rg} {w : World} {r : Rg} (hr : r ∈ W) (d : Array Value) (hs : d.size ≤ r.len) : Keep W w (Sort.putRow id w r.blk r.off d) := by
  refine ⟨rfl, rfl, rfl, by simp, fun a ha hn => ?_, fun a ha => Sort.frozen?_putRow _ _ _ _ _ _, fun k hk => ?_, fun k hk hn => ?_⟩
  · refine Sort.cell?_putRow_other _ _ _ _ _ _ ?_
    have := hn r hr
    unfold inRg at this
    omega
  · exact shape?_mapBlock w r.blk _ (fun c => by simp [Sort.putCells]) k
  · by_cases h0 : r.len = 0
    · have hd : d = #[] := Array.eq_empty_of_size_eq_zero (by omega)
      subst hd
      unfold Sort.putRow
      rw [Sort.mapBlock_id]
      intro c e fr hc
      unfold Sort.putCells
      apply Array.ext_getElem?
      intro j
      simp only [Array.getElem?_mapIdx]
      cases c[j]? with
      | none => rfl
      | some x => simp only [Option.map_some]; rw [if_neg (by simp)]
    · have := hn r hr h0
      simp only [Sort.putRow, Sort.mapBlock, Array.getElem?_modify]
      rw [if_neg this]
def ks2 : List CK := [.int .i64, .int .i64]
theorem ks2_get (j : Nat) : ks2[j % ks2.length]? = some (.int .i64) := by
  have : j % 2 = 0 ∨ j % 2 = 1 := by omega
  show ks2[j % 2]? = _
  rcases this with h | h <;> rw [h] <;> rfl
theorem encR_get (p : Int × Int) (j : Nat) (h : j < 2) : (encR p)[j]! = .int .i64 (if j = 0 then p.1 else p.2) := by
  match j, h with
  | 0, _ => rfl
  | 1, _ => rfl
theorem flatK_get {d : List (Int × Int)} {j : Nat} {x : Int} (hx : (flat2 d)[j]? = some x) : (Sort.flatK encR 2 d.toArray)[j]! = .int .i64 x := by
  have hj : j < d.length * 2 := by rw [← flat2_len]; exact (List.getElem?_eq_some_iff.1 hx).1
  have hi : j / 2 < d.length := by omega
  rw [Sort.get_flatK _ _ _ _ (by simpa using hj), encR_get _ _ (by omega)]
  obtain ⟨h1, h2⟩ := flat2_get (List.getElem?_eq_getElem hi)
  have e : d.toArray[j / 2]! = d[j / 2] := by simp [hi]
  rw [e]
  have : j % 2 = 0 ∨ j % 2 = 1 := by omega
  rcases this with h | h
  · rw [h, if_pos rfl]
    rw [show j / 2 * 2 = j by omega, hx] at h1
    cases h1; rfl
  · rw [h, if_neg (by omega)]
    rw [show j / 2 * 2 + 1 = j by omega, hx] at h2
    cases h2; rfl
theorem pairs_flat : ∀ {l : List Int} {n : Nat}, l.length = n * 2 → flat2 (pairs l) = l
  | [], _, _ => rfl
  | [_], n, h => by simp at h; omega
  | a :: b :: l, 0, h => by simp at h
  | a :: b :: l, n + 1, h => by simp only [pairs, flat2]; rw [pairs_flat (n := n) (by simp at h; omega)]
theorem flat2_mem {x : Int} : ∀ {d : List (Int × Int)}, x ∈ flat2 d ↔ ∃ p, p ∈ d ∧ (x = p.1 ∨ x = p.2)
  | [] => by simp [flat2]
  | p :: d => by
    simp only [flat2, List.mem_cons, flat2_mem (d := d)]
    constructor
    · rintro (h | h | ⟨q, hq, h⟩)
      · exact ⟨p, .inl rfl, .inl h⟩
      · exact ⟨p, .inl rfl, .inr h⟩
      · exact ⟨q, .inr hq, h⟩
    · rintro ⟨q, rfl | hq, h⟩
      · rcases h with h | h
        · exact .inl h
        · exact .inr (.inl h)
      · exact .inr (.inr ⟨q, hq, h⟩)
def cmpN (c : C) : Option Nat := match c with
  | .fn [] (some (g, [])) => some g
  | _ => none
theorem cmpN_spec {c : C} {g : Nat} (h : cmpN c = some g) : c = .fn [] (some (g, [])) := by
  unfold cmpN at h
  split at h
  · cases h; rfl
  · cases h
def isCmp (c : C) (g : Nat) : Bool := match cmpN c with
  | some h => Nat.beq h g
  | none => false
theorem isCmp_spec {c : C} {g : Nat} (h : isCmp c g = true) : c = .fn [] (some (g, [])) := by
  unfold isCmp at h
  split at h
  · rename_i e
    rw [Nat.beq_eq] at h
    subst h
    exact cmpN_spec e
  · cases h
/-- Sorts a row of pairs by the function g. -/
def sortM (f g : Nat) (Γ : Gd) (hp : Hp) (xs : List S) : M Res := match xs with
  | [.one false [.slm id ks], .one false [c]] =>
    if cksEq ks ks2 && isCmp c g then do
      let r ← lift (rowOf Γ hp id ks)
      let b ← mkCm .leq r.2 (.c 2305843009213693952)
      oblige b
      let p ← newCall f [r.1, r.2] [] 1 0
      pure { s := .tup [], w := [(id, { g := [], ro := false, cells := [.vec ks (.v p.1) r.2] })] }
    else M.fail
  | _ => M.fail
def sortH (f g : Nat) (H : Hnd) : Hnd := fun h Γ hp xs => if h == f then sortM f g Γ hp xs else H h Γ hp xs
section
variable {P : Program} {Φ : Funs} {gl : Gl} {H : Hnd}
set_option maxHeartbeats 2000000 in
theorem sortH_ok (hH : HOk P Φ gl H) {r : Go.Shelf.Ren} (L : SlLaysF0.n6 P r) (hcl : ∀ args w, (callFunc (r.f 6) args).run P w = .ok (.enter (r.f 6) args) w) (aE : ∀ w, (isAgg (r.t 24)).run P w = .ok true w) (zE : ∀ w, (Go.sizeOf (r.t 24)).run P w = .ok 2 w)
    {g : Nat} (hy : g ≠ yieldN) (eg : ∀ args w, (callFunc g args).run P w = .ok (.enter g args) w) (hC : ∀ blk off size w, CmpLays P g #[] encR 2 cfR blk off size w) (hΦ : Φ (r.f 6) = sortF) : HOk P Φ gl (sortH (r.f 6) g H) := by
  intro f Γ hp xs ρ c res c' out he hg hΓ N R Q β w vs hm hh hb hN hG hf
  unfold sortH at he
  split at he
  case isFalse => exact hH f Γ hp xs ρ c res c' out he hg hΓ N R Q β w vs hm hh hb hN hG hf
  rename_i hfe
  have hfe : f = r.f 6 := by simpa using hfe
  subst hfe
  refine ⟨hcl, ?_⟩
  unfold sortM at he
  split at he
  case h_2 => simp [M.fail] at he
  rename_i id ks cc
  split at he
  case isFalse => simp [M.fail] at he
  rename_i hc
  rw [Bool.and_eq_true] at hc
  obtain ⟨hks, hfn⟩ := hc
  have hks : ks = ks2 := cksEq_sound hks
  subst hks
  obtain rfl : cc = .fn [] (some (g, [])) := isCmp_spec hfn
  obtain ⟨rr, c1, o1, c2, o2, y, g1, g2, e1⟩ := M.bind_inv he
  simp only [Prod.mk.injEq] at e1
  obtain ⟨rfl, rfl, rfl⟩ := e1
  obtain ⟨rr', hrr, e1⟩ := lift_inv g1
  simp only [Prod.mk.injEq] at e1
  obtain ⟨rfl, rfl, rfl⟩ := e1
  rw [List.nil_append] at hg
  obtain ⟨hle, p, hcall, hres⟩ := (show Snd Φ ρ (do
      let b ← mkCm .leq rr.2 (.c 2305843009213693952)
      oblige b
      let p ← newCall (r.f 6) [rr.1, rr.2] [] 1 0
      pure { s := .tup [], w := [(id, { g := [], ro := false, cells := [.vec ks2 (.v p.1) rr.2] })] } : M Res) (fun res => rr.2.d ρ ≤ 2305843009213693952 ∧ ∃ p : Nat × Nat, ρ.i (p.1 + 0) = (Φ (r.f 6) [rr.1.d ρ, rr.2.d ρ] []).1.getD 0 0 ∧ res = { s := .tup [], w := [(id, { g := [], ro := false, cells := [.vec ks2 (.v p.1) rr.2] })] }) from
    Snd.bind (mkCm_snd _ _ _) fun b e1 => Snd.bind (oblige_snd b) fun _ e2 => Snd.bind (newCall_snd _ _ _ _ _) fun p hp => Snd.pure ⟨by rw [e1] at e2; exact of_decide_eq_true e2, p, hp.1 0 (by omega), rfl⟩) _ _ _ _ g2 hg
  subst hres
  rw [Nat.add_zero, hΦ] at hcall
  match vs, hm with
  | [v1, v2], ⟨m1, m2, _⟩ =>
  obtain ⟨v1', hv1, m1⟩ : ∃ c, [C.slm id ks2] = [c] ∧ c.mt β ρ v1 := m1
  cases hv1
  obtain ⟨v2', hv2, m2⟩ : ∃ c, [C.fn [] (some (g, []))] = [c] ∧ c.mt β ρ v2 := m2
  cases hv2
  obtain ⟨ws, rfl, hcap⟩ : ∃ ws : List Value, v2 = fvVal g ws ∧ capMt β [] ws := m2
  have hws : ws = [] := by
    cases ws with
    | nil => rfl
    | cons _ _ => exact hcap.elim
  subst hws
  rw [fvVal_ne hy]
  obtain ⟨rg, cap, p1, hr1, hrow, hlen, hrn, rfl, hp1⟩ := m1
  obtain ⟨rg', cap', l, hr2, _, hro, hne, hlen', hrn', hq, hn, hin, hll, hsq, hcells⟩ := rowOf_spec hΓ (q := rr.1) (n := rr.2) hrr hh
  rw [hr1] at hr2
  cases hr2
  have hll2 : l.length = rg.rn * 2 := hll
  have hlen2 : rg.len = cap * 2 := hlen
  have hpl := pairs_len hll2
  have hval : ρ.i p.1 = enc (flat2 (sortP (pairs l))) := by
    rw [hcall]
    show enc (flat2 (sortP (pairs (dec (rr.1.d ρ))))) = _
    rw [hq, dec_enc]
  by_cases h0 : rg.rn = 0
  · -- nothing to sort
    have hl0 : l = [] := List.eq_nil_of_length_eq_zero (by omega)
    subst hl0
    rw [h0]
    refine Calls.mono (AnyF.slices_SortFunc_none L p1 cap _ w) fun e u h => ?_
    obtain ⟨rfl, rfl⟩ := h
    have hs0 : sortP (pairs ([] : List Int)) = [] := List.eq_nil_of_length_eq_zero (by rw [sortP_len]; rfl)
    rw [hs0] at hval
    refine ⟨_, rfl, β, Step.refl hb _ _ _, ⟨#[], rfl, trivial⟩, rowW_mt ⟨rg, cap, [], hr1, hrow, hro, hne, hlen, hrn, hval, hn, hin, by rw [h0]; rfl, fun j x hj => by simp at hj, hcells⟩⟩
  · have hcap0 : cap ≠ 0 := by omega
    have hp1 := hp1.resolve_left hcap0
    subst hp1
    -- what the row holds
    have hH : Sort.HoldsK encR 2 w rg.blk rg.off (pairs l).toArray := by
      intro j hj
      have hj2 : j < rg.rn * 2 := by simpa [hpl] using hj
      have hjl : j < l.length := by omega
      obtain ⟨ck, v, e1, e2, e3⟩ := hsq j _ (List.getElem?_eq_getElem hjl)
      rw [ks2_get] at e1
      cases e1
      refine ⟨?_, (hcells j (by omega)).2⟩
      rw [e2, e3.1]
      have : (flat2 (pairs l))[j]? = some l[j] := by rw [pairs_flat hll2]; exact List.getElem?_eq_getElem hjl
      rw [flatK_get this]; rfl
    have hblk : rg.blk < w.heap.size := by
      obtain ⟨⟨u, hu, _⟩, _⟩ := hcells 0 (by omega)
      exact World.block_lt_of_cell? w ⟨rg.blk, rg.off + 0, none⟩ hu
    have hsz : (pairs l).toArray.size = rg.rn := by simp [hpl]
    have hbig : (pairs l).toArray.size < 4611686018427387904 := by rw [hsz]; rw [hn] at hle; omega
    have hone : ∀ x, ∀ v ∈ encR x, v.oneCell' = true := by
      intro x v hv
      simp only [encR, List.mem_cons, List.not_mem_nil, or_false] at hv
      rcases hv with rfl | rfl <;> rfl
    have hrun := AnyQ.slices_SortFunc_eq L 2 aE zE encR (fun _ => rfl) hone cfR swoR g #[] rg.blk rg.off cap (pairs l).toArray w eg (hC _ _ _ _) hH hblk hbig
    rw [hsz] at hrun
    refine Calls.mono hrun fun e u h => ?_
    obtain ⟨rfl, n, os, rfl⟩ := h
    have hD : (Sort.pdq (ltOf cfR) (pairs l).toArray 0 rg.rn (Lib.bitLen rg.rn) true true) = (sortP (pairs l)).toArray := by
      unfold sortP; rw [hpl]
    rw [hD]
    have hsl : (sortP (pairs l)).length = rg.rn := by rw [sortP_len, hpl]
    have hfl : (flat2 (sortP (pairs l))).length = rg.rn * 2 := by rw [flat2_len, hsl]
    have hfs : (Sort.flatK encR 2 (sortP (pairs l)).toArray).size = rg.rn * 2 := by rw [Sort.size_flatK]; simp [hsl]
    have hk1 : Keep [rg] w (Sort.ahead w n) := Keep.of_blocks rfl rfl rfl (Nat.le_refl _) fun _ _ => rfl
    have hk2 : Keep [rg] (Sort.ahead w n) (Sort.putRowK encR 2 (Sort.ahead w n) rg.blk rg.off (sortP (pairs l)).toArray) := Keep.putRow (by simp) _ (by rw [hfs]; omega)
    have hcov : ∀ (N : Nat) q, q ∈ [rg] → Cov [rg] N q := fun N q hq => by
      rw [List.mem_singleton.1 hq]; exact .inr ⟨rg, by simp, rfl, Nat.le_refl _, Nat.le_refl _⟩
    have hk3 : Keep [rg] w (sortWorldK encR 2 w rg.blk rg.off n (sortP (pairs l)).toArray os) := (hk1.trans hk2 (hcov _)).trans (Keep.grow [rg] _ os) (hcov _)
    have hcell : ∀ (j : Nat) (x : Int), (flat2 (sortP (pairs l)))[j]? = some x → (sortWorldK encR 2 w rg.blk rg.off n (sortP (pairs l)).toArray os).cell? ⟨rg.blk, rg.off + j, none⟩ = some (.int .i64 x) := fun j x hx => by
      have hj := (List.getElem?_eq_some_iff.1 hx).1
      have e1 := (Keep.grow [] (Sort.putRowK encR 2 (Sort.ahead w n) rg.blk rg.off (sortP (pairs l)).toArray) os).cell ⟨rg.blk, rg.off + j, none⟩ (by simpa [Sort.putRowK] using hblk) (by simp)
      refine e1.trans ?_
      have e2 := Sort.cell?_putRow _root_.id (Sort.ahead w n) rg.blk rg.off (Sort.flatK encR 2 (pairs l).toArray) (Sort.flatK encR 2 (sortP (pairs l)).toArray) hH (by rw [hfs, Sort.size_flatK]; simp [hpl]) j (by rw [hfs]; omega)
      rw [flatK_get hx] at e2
      exact e2
    have hmem : ∀ x, x ∈ flat2 (sortP (pairs l)) → x ∈ l := fun x hx => by
      obtain ⟨q, hq, hx⟩ := flat2_mem.1 hx
      rw [← pairs_flat hll2]
      exact flat2_mem.2 ⟨q, (sortP_perm _).1.mem_iff.1 hq, hx⟩
    refine ⟨_, rfl, β, ⟨ExtP.refl _ β, hb.keep (W := [rg]) (fun r' hr' => List.mem_singleton.1 hr' ▸ ⟨_, hr1, hro⟩) hk3, ⟨[rg], fun r' hr' => ?_, hk3⟩, fun _ _ _ => rfl, by simp⟩, ⟨#[], rfl, trivial⟩,
      rowW_mt ⟨rg, cap, flat2 (sortP (pairs l)), hr1, hrow, hro, hne, hlen, hrn, hval, hn, hin, hfl, fun j x hj => ?_, fun j hj => ?_⟩⟩
    · rw [List.mem_singleton.1 hr']
      obtain ⟨⟨u, hu, _⟩, _⟩ := hcells 0 (by omega)
      exact ⟨id, by simp [rowW], hr1, hro, _, u, hu⟩
    · obtain ⟨i, hi⟩ := List.mem_iff_getElem?.1 (hmem x (List.mem_of_getElem? hj))
      obtain ⟨ck, v, e1, e2, e3⟩ := hsq i x hi
      rw [ks2_get] at e1
      cases e1
      exact ⟨_, _, ks2_get j, hcell j x hj, rfl, e3.2⟩
    · have hpl2 : rg.blk < w.heap.size := hblk
      refine ⟨?_, (hk3.frz _ hpl2).trans (hcells j hj).2⟩
      by_cases hj2 : j < rg.rn * 2
      · exact ⟨_, hcell j _ (List.getElem?_eq_getElem (by omega)), rfl⟩
      · obtain ⟨u, hu, ho⟩ := (hcells j hj).1
        refine ⟨u, ?_, ho⟩
        have e1 := (Keep.grow [] (Sort.putRowK encR 2 (Sort.ahead w n) rg.blk rg.off (sortP (pairs l)).toArray) os).cell ⟨rg.blk, rg.off + j, none⟩ (by simpa [Sort.putRowK] using hblk) (by simp)
        refine e1.trans ((Sort.cell?_putRow_other _root_.id (Sort.ahead w n) rg.blk rg.off _ ⟨rg.blk, rg.off + j, none⟩ (.inr (.inr ?_))).trans hu)
        rw [hfs]
        show rg.off + rg.rn * 2 ≤ rg.off + j
        omega
end
end Go.Proofs.Ytgbgibbonhklgaa.Sx
namespace Go.Proofs.Ytgbgibbonhklgaa.Sx
open Go

abbrev Hl := List (Nat × Blk)
def hpOf : Hl → Hp
  | [], _ => none
  | (i, b) :: l, id => if i == id then some b else hpOf l id

/-- A loop over a function: is no jump pending; which one. -/
structure Js where
  b : B := .c true
  a : A := .c 0
structure St where
  tm : List SV
  hp : Hl
  rb : List Nat := []
  js : Js := {}
/-- A loop over a function that is under way: its record's block; the record; which jumps may be pending; is a round under way. -/
structure LpRec where
  l : Nat
  rc : Loop
  jl : List Code
  fix : Option LoopState := none
def pickJ : List Code → Nat → Code
  | [], _ => .ret
  | [c], _ => c
  | c :: l, 0 => c
  | _ :: l, n + 1 => pickJ l n
def LpRec.at (r : LpRec) (b : Bool) (n : Int) : Loop :=
  match r.fix with
  | some st => { r.rc with state := st, pending := none }
  | none => if b then { r.rc with state := .ready, pending := none } else { r.rc with state := .done, pending := some (pickJ r.jl n.toNat) }

/-- What never changes in a walk: the world at the beginning, what may be written, how many package-level variables are known. -/
def ghOf : Gl → Nat → Hl
  | [], _ => []
  | vs :: l, g => (g, { g := [], ro := true, cells := vs.map ofC }) :: ghOf l (g + 1)
structure Cx where
  w0 : World
  R : List Rg
  gl : Gl
  gr : List Rg
  Q : Rg → Prop
  b0 : Beta
  gi : Nat → Nat
  lr : Option LpRec := none
  ds : List Nat := []
  rl : Option Nat := none
def Cx.ng (x : Cx) : Nat := x.gl.length
def Cx.gh (x : Cx) : Hl := ghOf x.gl 0
def hpX (gh : Hl) (ng : Nat) (hp : Hl) : Hp := fun i => if Nat.blt i ng then hpOf gh i else hpOf hp i

/-- Deferred calls: marks of loops over functions alone, whose blocks are open, and empty. -/
def Marks (N : Nat) (w : World) : List Deferred → Prop
  | [] => True
  | d :: l => ∃ D, d = { target := .collected D, args := #[] } ∧ N ≤ D ∧ w.heap[D]? = some (.deferred (some [])) ∧ (∀ e, e ∈ l → e.target ≠ .collected D) ∧ Marks N w l
structure Lk (x : Cx) (ρ : Env) (js : Js) (dl : List Deferred) (w : World) : Prop where
  rc : ∀ r, x.lr = some r → x.w0.heap.size ≤ r.l ∧ w.heap[r.l]? = some (.loop (r.at (js.b.d ρ) (js.a.d ρ)))
  ds : ∀ D, D ∈ x.ds → x.w0.heap.size ≤ D ∧ w.heap[D]? = some (.deferred (some []))
  ma : Marks x.w0.heap.size w dl
  nm : x.lr.isSome = true → dl = []
theorem Marks.imp {N : Nat} {w w' : World} (h : ∀ D : Nat, w.heap[D]? = some (.deferred (some [])) → w'.heap[D]? = some (.deferred (some []))) : ∀ {l : List Deferred}, Marks N w l → Marks N w' l
  | [], _ => trivial
  | _ :: _, ⟨D, h1, h2, h3, h4, h5⟩ => ⟨D, h1, h2, h D h3, h4, Marks.imp h h5⟩
theorem Lk.imp {x : Cx} {ρ : Env} {js : Js} {dl : List Deferred} {w w' : World} (hd : ∀ D : Nat, w.heap[D]? = some (.deferred (some [])) → w'.heap[D]? = some (.deferred (some []))) (hl : ∀ (l : Nat) (r : Loop), w.heap[l]? = some (.loop r) → w'.heap[l]? = some (.loop r))
    (h : Lk x ρ js dl w) : Lk x ρ js dl w' := ⟨fun r hr => ⟨(h.rc r hr).1, hl _ _ (h.rc r hr).2⟩, fun D hD => ⟨(h.ds D hD).1, hd D (h.ds D hD).2⟩, h.ma.imp hd, h.nm⟩
theorem Lk.keep {x : Cx} {ρ : Env} {js : Js} {dl : List Deferred} {w w' : World} {W : List Rg} (hk : Keep W w w') (hW : ∀ r, r ∈ W → ∃ j v, w.cell? ⟨r.blk, j, none⟩ = some v) (h : Lk x ρ js dl w) : Lk x ρ js dl w' := by
  have key : ∀ (k : Nat) (o : Obj), w.heap[k]? = some o → (∀ c e f, o ≠ .cells c e f) → w'.heap[k]? = some o := fun k o hk0 hc => by
    rw [hk.blk k (Array.getElem?_eq_some_iff.1 hk0).1 fun r hr _ e => ?_]
    · exact hk0
    · obtain ⟨j, v, hv⟩ := hW r hr
      subst e
      unfold World.cell? at hv
      rw [hk0] at hv
      cases o <;> simp at hv
      exact hc _ _ _ rfl
  exact h.imp (fun D hD => key D _ hD (fun c e f h => by cases h)) (fun l r hl => key l _ hl (fun c e f h => by cases h))
theorem Lk.nil {x : Cx} {ρ : Env} {w : World} (h1 : x.lr = none) (h2 : x.ds = []) (js : Js) : Lk x ρ js [] w := ⟨fun r hr => (by rw [h1] at hr; cases hr), fun D hD => (by rw [h2] at hD; cases hD), trivial, fun _ => rfl⟩
theorem Lk.js {x : Cx} {ρ ρ' : Env} {js js' : Js} {dl : List Deferred} {w : World} (hb : js'.b.d ρ' = js.b.d ρ) (ha : js'.a.d ρ' = js.a.d ρ) (h : Lk x ρ js dl w) : Lk x ρ' js' dl w := ⟨fun r hr => by rw [hb, ha]; exact h.rc r hr, h.ds, h.ma, h.nm⟩
structure Rel (x : Cx) (ρ : Env) (β : Beta) (σ : St) (a : Act) (w : World) : Prop where
  size : a.tmps.size = σ.tm.length
  slot : ∀ (t : Nat) (v : SV), σ.tm[t]? = some v → v.mt β ρ (a.tmps.getD t undef)
  df : Lk x ρ σ.js a.defers w
  hm : heapMt β ρ (hpOf σ.hp) w
  gm : heapMt β ρ (hpOf x.gh) w
  gro : ∀ id b, hpOf x.gh id = some b → b.ro = true
  bo : BetaOk x.w0.heap.size x.R x.Q β w
  kp : Keep x.R x.w0 w
  gl : ∀ (g : Nat) (vs : List Value), x.gl[g]? = some vs → β g = some (gRg g vs)
  ra : ∀ (j : Nat) (r : Rg), x.gr[j]? = some r → r.row = false ∧ β (x.gi j) = some r
  eb : ExtP (fun i => !σ.rb.contains i) x.b0 β

def ev (ng : Nat) (σ : St) : Operand → SV
  | .tmp t => σ.tm.getD t anySV
  | .const v => { g := [], s := ofV v }
  | .global g => if Nat.blt g ng then { g := [], s := .one false [.ptr [] g 0] } else anySV
  | .func f => if f == yieldN then { g := [], s := .one false [.val (.func (.func f) #[] #[])] } else { g := [], s := .one false [.fn [] (some (f, []))] }
theorem anySV_mt {β : Beta} {ρ : Env} (v : Value) : anySV.mt β ρ v := ⟨fun _ => trivial, fun h => (by cases h)⟩
theorem ev_mt {x : Cx} {ρ : Env} {β : Beta} {σ : St} {a : Act} {w : World} (h : Rel x ρ β σ a w) (o : Operand) : (ev x.ng σ o).mt β ρ (a.eval o) := by
  cases o with
  | tmp t =>
    show (σ.tm.getD t anySV).mt β ρ (a.tmps.getD t undef)
    rw [List.getD_eq_getElem?_getD]
    cases ht : σ.tm[t]? with
    | none => exact anySV_mt _
    | some v => exact h.slot t v ht
  | const v => exact ⟨fun _ => ofV_mt v, fun h => (by cases h)⟩
  | global g =>
    show (if Nat.blt g x.ng then ({ g := [], s := .one false [.ptr [] g 0] } : SV) else anySV).mt β ρ (.pointer (some ⟨g, 0, none⟩))
    split
    · rename_i hg
      simp only [Nat.blt_eq] at hg
      exact ⟨fun _ => ⟨_, rfl, _, h.gl g _ (List.getElem?_eq_getElem hg), by simp [pick, gRg]⟩, fun h => (by cases h)⟩
    · exact anySV_mt _
  | func f =>
    show (if f == yieldN then ({ g := [], s := .one false [.val (.func (.func f) #[] #[])] } : SV) else { g := [], s := .one false [.fn [] (some (f, []))] }).mt β ρ (.func (.func f) #[] #[])
    split
    · exact ⟨fun _ => ⟨_, rfl, rfl, rfl⟩, fun h => (by cases h)⟩
    · rename_i hf
      exact ⟨fun _ => ⟨_, rfl, [], (fvVal_ne (by simpa using hf) []).symm, trivial⟩, fun h => (by cases h)⟩

theorem Rel.hx {x : Cx} {ρ : Env} {β : Beta} {σ : St} {a : Act} {w : World} (h : Rel x ρ β σ a w) : heapMt β ρ (hpX x.gh x.ng σ.hp) w := by
  intro id b hb hg
  unfold hpX at hb
  split at hb
  · exact h.gm id b hb hg
  · exact h.hm id b hb hg

/-! ### Conditions under which an operation runs -/
def normG : Gd → Option Gd
  | [] => some []
  | (b, k) :: g => match normG g with
    | none => none
    | some g' => match b with
      | .c x => if x == k then some g' else none
      | b => some ((b, k) :: g')
theorem normG_none {ρ : Env} : ∀ {g : Gd}, normG g = none → Gd.d ρ g = false
  | [], h => by simp [normG] at h
  | (b, k) :: g, h => by
    unfold normG at h
    rw [Gd.d_cons]
    split at h
    · rename_i h1
      simp [normG_none (ρ := ρ) h1]
    · split at h
      · rename_i x
        split at h
        · cases h
        · rename_i hx
          have : (x == k) = false := by simpa using hx
          simp [this]
      · cases h
theorem normG_some {ρ : Env} : ∀ {g g' : Gd}, normG g = some g' → Gd.d ρ g' = Gd.d ρ g
  | [], g', h => by simp only [normG, Option.some.injEq] at h; subst h; rfl
  | (b, k) :: g, g', h => by
    unfold normG at h
    rw [Gd.d_cons]
    split at h
    · cases h
    · rename_i g1 h1
      have ih := normG_some (ρ := ρ) h1
      split at h
      · rename_i x
        split at h
        · rename_i hx
          simp only [Option.some.injEq] at h
          subst h
          simp only [beq_iff_eq] at hx
          simp [ih, hx]
        · cases h
      · simp only [Option.some.injEq] at h
        subst h
        simp [ih]

def gdOf (ops : Array Oper) (σ : St) (o : Oper) : Option Gd :=
  match o.guard with
  | none => some []
  | some (j, want) => match (ops[j]?).bind (·.dst) with
    | none => none
    | some t => match σ.tm[t]? with
      | some { g := g, s := .one false [.bool b] } => some (g ++ [(b, want)])
      | some { g := (.c true, false) :: _, s := _ } => some [(.c true, false)]
      | _ => none
theorem gdOf_wanted {x : Cx} {ρ : Env} {β : Beta} {σ : St} {a : Act} {w : World} (h : Rel x ρ β σ a w) {ops : Array Oper} {o : Oper} {g : Gd} (hg : gdOf ops σ o = some g) :
    Region.wanted o (yielded ops a.tmps) = Gd.d ρ g := by
  unfold gdOf at hg
  unfold Region.wanted
  split at hg
  · rename_i h1
    simp only [Option.some.injEq] at hg
    subst hg
    rw [h1]
    rfl
  · rename_i j want h1
    rw [h1]
    simp only
    split at hg
    · cases hg
    · rename_i t ht
      split at hg
      · rename_i g' b hsv
        simp only [Option.some.injEq] at hg
        subst hg
        have hlt : t < a.tmps.size := by rw [h.size]; exact (List.getElem?_eq_some_iff.1 hsv).1
        have hm := h.slot t _ hsv
        unfold yielded
        rw [ht]
        simp only [Option.bind_some]
        have hget : a.tmps[t]? = some (a.tmps.getD t undef) := by simp [hlt]
        rw [hget]
        cases hgd : Gd.d ρ g'
        · have := hm.2 hgd
          rw [this]
          simp [undef, hgd]
        · have := mt_bool rfl (hm.1 hgd)
          rw [this]
          simp [hgd]
      · rename_i g' sg' hsv
        simp only [Option.some.injEq] at hg
        subst hg
        have hlt : t < a.tmps.size := by rw [h.size]; exact (List.getElem?_eq_some_iff.1 hsv).1
        have hm := h.slot t _ hsv
        unfold yielded
        rw [ht]
        simp only [Option.bind_some]
        have hget : a.tmps[t]? = some (a.tmps.getD t undef) := by simp [hlt]
        rw [hget]
        have hgd : ∀ l : Gd, Gd.d ρ ((.c true, false) :: l) = false := fun l => by rw [Gd.d_cons]; rfl
        rw [hm.2 (hgd _), hgd]
        simp [undef]
      · cases hg

def gAtom : Gd → M B
  | [] => pure (.c true)
  | (b, k) :: g => do
    let x ← (if k then pure b else mkNot b)
    let y ← gAtom g
    mkAnd x y
theorem gAtom_snd {Φ : Funs} {ρ : Env} : ∀ g, Snd Φ ρ (gAtom g) (fun b => b.d ρ = Gd.d ρ g)
  | [] => Snd.pure rfl
  | (b, k) :: g => by
    unfold gAtom
    refine Snd.bind (p := fun x => x.d ρ = (b.d ρ == k)) ?_ fun x hx => Snd.bind (gAtom_snd g) fun y hy => (mkAnd_snd x y).mono fun z hz => ?_
    · cases k
      · simp only [Bool.false_eq_true, if_false]
        exact (mkNot_snd b).mono fun z hz => by rw [hz]; cases b.d ρ <;> rfl
      · simp only [if_true]
        exact Snd.pure (by cases b.d ρ <;> rfl)
    · rw [hz, hx, hy, Gd.d_cons]

/-! ### Two blocks' cells aS one; what moved is forgotten -/
def muxBl (b : B) (x y : List C) : M (List C) :=
  match vecOf x, vecOf y with
  | some p, some q => if cksEq p.1 q.1 then do
      let s ← mkIteI b p.2.1 q.2.1
      let n ← mkIteI b p.2.2 q.2.2
      pure [.vec p.1 s n]
    else M.fail
  | none, none => muxL b x y
  | _, _ => M.fail
theorem muxBl_snd {Φ : Funs} {ρ : Env} (b : B) (x y : List C) : Snd Φ ρ (muxBl b x y) (fun z => z.length = x.length ∧ x.length = y.length ∧ ∀ β w id g g' ro, (if b.d ρ then blkMt β ρ w id { g := g, ro := ro, cells := x } else blkMt β ρ w id { g := g, ro := ro, cells := y }) → blkMt β ρ w id { g := g', ro := ro, cells := z }) := by
  unfold muxBl
  split
  · rename_i p q hp hq
    split
    · rename_i hk
      have hk := cksEq_sound hk
      refine Snd.bind (mkIteI_snd b _ _) fun s hs => Snd.bind (mkIteI_snd b _ _) fun n hn => Snd.pure ?_
      have ep := vecOf_spec hp
      have eq := vecOf_spec hq
      refine ⟨by rw [ep]; rfl, by rw [ep, eq]; rfl, fun β w id g g' ro h => ?_⟩
      refine (blkMt_row (x := (p.1, s, n)) rfl).2 ?_
      split at h
      · rename_i hb
        obtain ⟨h0, r, cap, l, h1, h2, h3, h4, h5, h6, h7, h8, h9, h10⟩ := (blkMt_row hp).1 h
        exact ⟨h0, r, cap, l, h1, h2, h3, h4, h5, h6, by rw [hs, if_pos hb]; exact h7, by rw [hn, if_pos hb]; exact h8, by rw [hn, if_pos hb]; exact h9, h10⟩
      · rename_i hb
        obtain ⟨h0, r, cap, l, h1, h2, h3, h4, h5, h6, h7, h8, h9, h10⟩ := (blkMt_row hq).1 h
        rw [← hk] at h4 h5 h10
        exact ⟨h0, r, cap, l, h1, h2, h3, h4, h5, h6, by rw [hs, if_neg hb]; exact h7, by rw [hn, if_neg hb]; exact h8, by rw [hn, if_neg hb]; exact h9, h10⟩
    · exact Snd.fail
  · rename_i hp hq
    refine (muxL_snd b x y).mono fun z hz => ⟨hz.1, hz.2.1, fun β w id g g' ro h => ?_⟩
    obtain ⟨z1, z2, _, z4⟩ := hz
    refine blkMt_mk ?_
    split at h
    · rename_i hb
      obtain ⟨r, hr, h1, h2, h3, h4, h5⟩ := (blkMt_cs hp).1 h
      exact ⟨r, hr, h1, by simp only at h2 ⊢; omega, h3, z4 _ _ _ _ (by rw [if_pos hb]; exact h4), fun h0 j hj => h5 h0 j (by simp only at hj ⊢; omega)⟩
    · rename_i hb
      obtain ⟨r, hr, h1, h2, h3, h4, h5⟩ := (blkMt_cs hq).1 h
      exact ⟨r, hr, h1, by simp only at h2 ⊢; omega, h3, z4 _ _ _ _ (by rw [if_neg hb]; exact h4), fun h0 j hj => h5 h0 j (by simp only at hj ⊢; omega)⟩
  · exact Snd.fail
/-- Blocks differ in what is known alone. -/
theorem blkMt_g {β : Beta} {ρ : Env} {w : World} {id : Nat} {b b' : Blk} (h1 : b.ro = b'.ro) (h2 : b.cells = b'.cells) (h : blkMt β ρ w id b) : blkMt β ρ w id b' := by
  unfold blkMt at *
  rw [← h1, ← h2]
  exact h
def pOf (rb : List Nat) : Nat → Bool := fun i => !rb.contains i
def jkTm (rb : List Nat) (tm : List SV) : List SV := if rb.isEmpty then tm else tm.map (SV.jk (pOf rb))
def jkHp (rb : List Nat) (hp : Hl) : Hl := if rb.isEmpty then hp else hp.map fun p => (p.1, p.2.jk (pOf rb))
theorem pOf_nil : pOf [] = fun _ => true := by funext i; simp [pOf]
theorem jkTm_get {rb : List Nat} {tm : List SV} {t : Nat} : (jkTm rb tm)[t]? = (tm[t]?).map (SV.jk (pOf rb)) := by
  unfold jkTm
  cases rb with
  | nil =>
    simp only [List.isEmpty_nil, if_true, pOf_nil]
    cases tm[t]? with
    | none => rfl
    | some v => simp [SV.jk_true]
  | cons x l => simp
theorem jkTm_len {rb : List Nat} {tm : List SV} : (jkTm rb tm).length = tm.length := by
  unfold jkTm; split <;> simp
theorem jkHp_of {rb : List Nat} : ∀ {hp : Hl} {id : Nat}, hpOf (jkHp rb hp) id = (hpOf hp id).map (Blk.jk (pOf rb)) := by
  intro hp id
  unfold jkHp
  cases rb with
  | nil =>
    simp only [List.isEmpty_nil, if_true, pOf_nil]
    cases hpOf hp id with
    | none => rfl
    | some b => simp [Blk.jk_true]
  | cons x l =>
    simp only [List.isEmpty_cons, Bool.false_eq_true, if_false]
    induction hp with
    | nil => rfl
    | cons p hp ih =>
      obtain ⟨i, b⟩ := p
      simp only [List.map_cons, hpOf]
      split
      · rfl
      · exact ih

/-! ### Blocks laid behind an operation -/
def isNew (hp : Hl) (id : Nat) : Bool := match hpOf hp id with | some _ => false | none => true
def layB (Γ : Gd) (sel : B) (hp : Hl) : List (Nat × Blk) → M Hl
  | [] => pure hp
  | (id, b) :: l => do
    let hp' ← layB Γ sel hp l
    if Γ.isEmpty then pure ((id, b) :: hp') else
    match hpOf hp id with
    | none => if b.g.isEmpty then pure ((id, { b with g := Γ }) :: hp') else M.fail
    | some old => if b.g.isEmpty && Gd.sub Γ old.g then pure ((id, { b with g := Γ }) :: hp') else do
      let z ← muxBl sel b.cells old.cells
      if Gd.sub old.g b.g && Gd.sub b.g old.g && b.ro == old.ro then pure ((id, { old with cells := z }) :: hp') else M.fail
theorem layB_step {ρ : Env} {hp hp' : Hl} {id : Nat} {b b' : Blk} {l : List (Nat × Blk)}
    (hih : ∀ (β : Beta) (w : World) (keep : Nat → Prop), (∀ p, p ∈ l → blkMt β ρ w p.1 p.2) → (∀ id b, hpOf hp id = some b → id ∉ l.map (·.1) → keep id → Gd.d ρ b.g = true → blkMt β ρ w id b) →
        ∀ id b, hpOf hp' id = some b → keep id → Gd.d ρ b.g = true → blkMt β ρ w id b)
    (hb' : ∀ (β : Beta) (w : World), blkMt β ρ w id b → Gd.d ρ b'.g = true → blkMt β ρ w id b') (β : Beta) (w : World) (keep : Nat → Prop) (h1 : ∀ p, p ∈ (id, b) :: l → blkMt β ρ w p.1 p.2)
    (h2 : ∀ i c, hpOf hp i = some c → i ∉ ((id, b) :: l).map (·.1) → keep i → Gd.d ρ c.g = true → blkMt β ρ w i c) : ∀ i c, hpOf ((id, b') :: hp') i = some c → keep i → Gd.d ρ c.g = true → blkMt β ρ w i c := by
  intro i c hc hk hg
  unfold hpOf at hc
  split at hc
  · rename_i he
    simp only [beq_iff_eq] at he
    subst he
    simp only [Option.some.injEq] at hc
    subst hc
    exact hb' β w (h1 (id, b) (List.mem_cons.2 (.inl rfl))) hg
  · rename_i he
    have hne : i ≠ id := by intro e; subst e; simp at he
    exact hih β w (fun i => keep i ∧ i ≠ id) (fun p hp => h1 p (by simp [hp])) (fun i c hc hn hk hg => h2 i c hc (by simp only [List.map_cons, List.mem_cons, not_or]; exact ⟨hk.2, hn⟩) hk.1 hg) i c hc ⟨hk, hne⟩ hg
/-- It ran: what it wrote is known; what it did not write stays. -/
theorem layB_ran' {Φ : Funs} {ρ : Env} {Γ : Gd} {sel : B} (hΓ : Gd.d ρ Γ = true) (hsel : sel.d ρ = true) {hp : Hl} : ∀ (l : List (Nat × Blk)),
    Snd Φ ρ (layB Γ sel hp l) (fun hp' => ∀ (β : Beta) (w : World) (keep : Nat → Prop), (∀ p, p ∈ l → blkMt β ρ w p.1 p.2) → (∀ id b, hpOf hp id = some b → id ∉ l.map (·.1) → keep id → Gd.d ρ b.g = true → blkMt β ρ w id b) →
        ∀ id b, hpOf hp' id = some b → keep id → Gd.d ρ b.g = true → blkMt β ρ w id b)
  | [] => Snd.pure fun β w keep _ h id b hb hk hg => h id b hb (by simp) hk hg
  | (id, b) :: l => by
    unfold layB
    refine Snd.bind (layB_ran' hΓ hsel l) fun hp' hih => ?_
    split
    · exact Snd.pure (layB_step hih fun β w h _ => h)
    · split
      · split
        · exact Snd.pure (layB_step hih fun β w h _ => h)
        · exact Snd.fail
      · rename_i old hold
        split
        · exact Snd.pure (layB_step hih fun β w h _ => h)
        refine Snd.bind (muxBl_snd sel b.cells old.cells) fun z hz => ?_
        split
        · rename_i hc
          simp only [Bool.and_eq_true, beq_iff_eq] at hc
          obtain ⟨⟨_, hs2⟩, hro⟩ := hc
          refine Snd.pure (layB_step hih fun β w h hg => ?_)
          have := hz.2.2 β w id [] old.g old.ro (by rw [if_pos hsel]; exact blkMt_g hro rfl h)
          exact this
        · exact Snd.fail
theorem layB_ran {Φ : Funs} {ρ : Env} {Γ : Gd} {sel : B} (hΓ : Gd.d ρ Γ = true) (hsel : sel.d ρ = true) {hp : Hl} (l : List (Nat × Blk)) :
    Snd Φ ρ (layB Γ sel hp l) (fun hp' => ∀ (β : Beta) (w : World), (∀ p, p ∈ l → blkMt β ρ w p.1 p.2) → (∀ id b, hpOf hp id = some b → id ∉ l.map (·.1) → Gd.d ρ b.g = true → blkMt β ρ w id b) → heapMt β ρ (hpOf hp') w) :=
  (layB_ran' hΓ hsel l).mono fun hp' h β w h1 h2 id b hb hg => h β w (fun _ => True) h1 (fun id b hb hn _ hg => h2 id b hb hn hg) id b hb trivial hg
/-- It did not run: all stays. -/
theorem layB_idle {Φ : Funs} {ρ : Env} {Γ : Gd} {sel : B} (hΓ : Gd.d ρ Γ = false) (hsel : sel.d ρ = false) {hp : Hl} : ∀ (l : List (Nat × Blk)),
    Snd Φ ρ (layB Γ sel hp l) (fun hp' => ∀ β w, heapMt β ρ (hpOf hp) w → heapMt β ρ (hpOf hp') w)
  | [] => Snd.pure fun β w h => h
  | (id, b) :: l => by
    unfold layB
    refine Snd.bind (layB_idle hΓ hsel l) fun hp' hih => ?_
    have hne : Γ.isEmpty = false := by cases Γ; simp at hΓ; rfl
    rw [hne]
    simp only [Bool.false_eq_true, if_false]
    split
    · split
      · refine Snd.pure fun β w h i c hc hg => ?_
        unfold hpOf at hc
        split at hc
        · simp only [Option.some.injEq] at hc
          subst hc
          simp only at hg
          rw [hΓ] at hg
          cases hg
        · exact hih β w h i c hc hg
      · exact Snd.fail
    · rename_i old hold
      split
      · refine Snd.pure fun β w h i c hc hg => ?_
        unfold hpOf at hc
        split at hc
        · simp only [Option.some.injEq] at hc
          subst hc
          simp only at hg
          rw [hΓ] at hg
          cases hg
        · exact hih β w h i c hc hg
      refine Snd.bind (muxBl_snd sel b.cells old.cells) fun z hz => ?_
      split
      · refine Snd.pure fun β w h i c hc hg => ?_
        unfold hpOf at hc
        split at hc
        · rename_i he
          simp only [beq_iff_eq] at he
          subst he
          simp only [Option.some.injEq] at hc
          subst hc
          exact hz.2.2 β w id old.g old.g old.ro (by rw [if_neg (by simp [hsel])]; exact h id old hold hg)
        · exact hih β w h i c hc hg
      · exact Snd.fail

/-! ### One operation on a frame -/
def undefSV : SV := { g := [(.c true, false)], s := .any }
theorem undefSV_mt {β : Beta} {ρ : Env} : undefSV.mt β ρ undef := ⟨fun h => (by cases h), fun _ => rfl⟩
def setT (tm : List SV) (dst : Option Tmp) (v : SV) : Option (List SV) :=
  match dst with
  | none => some tm
  | some d => if Nat.blt d tm.length then some (tm.set d v) else none
theorem put_tmps (a : Act) (d : Option Tmp) (v : Value) : (a.put d v).defers = a.defers ∧ (a.put d v).tmps.size = a.tmps.size := by
  cases d <;> simp [Act.put]
theorem Lk.put {x : Cx} {ρ : Env} {js : Js} {a : Act} {w : World} (h : Lk x ρ js a.defers w) (d : Option Tmp) (v : Value) : Lk x ρ js (a.put d v).defers w := by
  rw [(put_tmps a d v).1]; exact h
theorem slot_put {β : Beta} {ρ : Env} {a : Act} {tm tm' : List SV} {dst : Option Tmp} {sv : SV} {v : Value} (hs : a.tmps.size = tm.length) (h : ∀ (t : Nat) (x : SV), tm[t]? = some x → x.mt β ρ (a.tmps.getD t undef))
    (ht : setT tm dst sv = some tm') (hv : sv.mt β ρ v) : (a.put dst v).tmps.size = tm'.length ∧ ∀ (t : Nat) (x : SV), tm'[t]? = some x → x.mt β ρ ((a.put dst v).tmps.getD t undef) := by
  unfold setT at ht
  cases dst with
  | none =>
    simp only [Option.some.injEq] at ht
    subst ht
    exact ⟨hs, h⟩
  | some d =>
    simp only at ht
    split at ht
    · rename_i hd
      simp only [Nat.blt_eq] at hd
      simp only [Option.some.injEq] at ht
      subst ht
      refine ⟨by simp [Act.put, hs], fun t x hx => ?_⟩
      rw [List.getElem?_set] at hx
      simp only [Act.put]
      split at hx
      · rename_i e
        subst e
        simp only [Option.some.injEq] at hx
        subst hx
        simpa [hs, hd] using hv
      · rename_i e
        have := h t x hx
        simpa [Array.getElem?_setIfInBounds_ne e] using this
    · cases ht

/-- The next stretches' numbers are free. -/
def Fresh (β : Beta) (c : Ctr) : Prop := ∀ i, c.id ≤ i → β i = none

end Go.Proofs.Ytgbgibbonhklgaa.Sx
namespace Go.Proofs.Ytgbgibbonhklgaa.Sx
open Go

/-- Numbers of stretches only rise. -/
def M.mono {α : Type} (m : M α) : M α := fun c =>
  match m c with
  | some (x, c', o) => if Nat.ble c.id c'.id then some (x, c', o) else none
  | none => none
theorem mono_inv {α : Type} {m : M α} {c : Ctr} {r : α × Ctr × List Em} (h : M.mono m c = some r) : m c = some r ∧ c.id ≤ r.2.1.id := by
  simp only [M.mono] at h
  cases h1 : m c with
  | none => rw [h1] at h; cases h
  | some p =>
    obtain ⟨x, c1, o1⟩ := p
    rw [h1] at h
    simp only at h
    split at h
    · rename_i hle
      simp only [Nat.ble_eq] at hle
      simp only [Option.some.injEq] at h
      subst h
      exact ⟨rfl, hle⟩
    · cases h
theorem Snd.mono' {α : Type} {Φ : Funs} {ρ : Env} {m : M α} {p : α → Prop} (h : Snd Φ ρ m p) : Snd Φ ρ (M.mono m) p :=
  fun c x c' o he hg => h c x c' o (mono_inv he).1 hg
theorem Fresh.le {β : Beta} {c c' : Ctr} (h : Fresh β c) (hc : c.id ≤ c'.id) : Fresh β c' := fun i hi => h i (by omega)

def capS (l : List (Nat × Nat)) : List S := l.map fun p => .one false [.ptr [] p.1 p.2]
theorem capS_mt {β : Beta} {ρ : Env} : ∀ {l : List (Nat × Nat)} {vs : List Value}, capMt β l vs → mtAll β ρ (capS l) vs
  | [], [], _ => trivial
  | p :: l, v :: vs, ⟨⟨r, hr, hv⟩, h2⟩ => ⟨⟨_, rfl, r, by simpa [pick] using hr, by simpa [pick] using hv⟩, capS_mt h2⟩
theorem mtAll_append {β : Beta} {ρ : Env} {ys : List S} {us : List Value} (h2 : mtAll β ρ ys us) : ∀ {xs : List S} {vs : List Value}, mtAll β ρ xs vs → mtAll β ρ (xs ++ ys) (vs ++ us)
  | [], [], _ => h2
  | _ :: _, _ :: _, ⟨h, h1⟩ => ⟨h, mtAll_append h2 h1⟩

/-! ### Two ways' answers aS one -/
def wBlk (Γ : Gd) (hp : Hp) (l : List (Nat × Blk)) (id : Nat) : Option Blk :=
  match hpOf l id with
  | some b => some b
  | none => match hp id with
    | some b => if Gd.sub b.g Γ then some b else none
    | none => none
def muxW (Γ : Gd) (hp : Hp) (lo hi : Nat) (b : B) (w1 w2 : List (Nat × Blk)) : List Nat → M (List (Nat × Blk))
  | [] => pure []
  | i :: l => do
    let r ← muxW Γ hp lo hi b w1 w2 l
    match hp i with
    | none => if Nat.ble lo i && Nat.blt i hi then pure r else M.fail
    | some _ => match wBlk Γ hp w1 i, wBlk Γ hp w2 i with
      | some b1, some b2 =>
        if b1.ro == b2.ro && b1.cells.length == b2.cells.length then do
          let z ← muxBl b b1.cells b2.cells
          pure ((i, { g := [], ro := b1.ro, cells := z }) :: r)
        else M.fail
      | _, _ => M.fail
section
variable {Φ : Funs} {ρ : Env}
theorem muxW_snd (Γ : Gd) (hp : Hp) (lo hi : Nat) (b : B) (w1 w2 : List (Nat × Blk)) : ∀ (l : List Nat), Snd Φ ρ (muxW Γ hp lo hi b w1 w2 l) (fun r =>
    (∀ i, i ∈ l → (hp i).isSome = true → i ∈ r.map (·.1)) ∧ (∀ i, i ∈ l → hp i = none → lo ≤ i ∧ i < hi) ∧
    ∀ β w, (if b.d ρ then (∀ i bk, i ∈ l → wBlk Γ hp w1 i = some bk → blkMt β ρ w i bk) else (∀ i bk, i ∈ l → wBlk Γ hp w2 i = some bk → blkMt β ρ w i bk)) → ∀ p, p ∈ r → blkMt β ρ w p.1 p.2)
  | [] => Snd.pure ⟨fun i h => (by cases h), fun i h => (by cases h), fun β w _ p h => (by cases h)⟩
  | i :: l => by
    unfold muxW
    refine Snd.bind (muxW_snd Γ hp lo hi b w1 w2 l) fun r ⟨h1, h2, h3⟩ => ?_
    have h3' : ∀ β w, (if b.d ρ then (∀ j bk, j ∈ i :: l → wBlk Γ hp w1 j = some bk → blkMt β ρ w j bk) else (∀ j bk, j ∈ i :: l → wBlk Γ hp w2 j = some bk → blkMt β ρ w j bk)) → ∀ p, p ∈ r → blkMt β ρ w p.1 p.2 := fun β w h p hp => by
      refine h3 β w ?_ p hp
      split
      · rename_i hb; rw [if_pos hb] at h; exact fun j bk hj => h j bk (by simp [hj])
      · rename_i hb; rw [if_neg hb] at h; exact fun j bk hj => h j bk (by simp [hj])
    split
    · rename_i hn
      split
      · rename_i hc
        simp only [Bool.and_eq_true, Nat.ble_eq, Nat.blt_eq] at hc
        refine Snd.pure ⟨fun j hj hs => ?_, fun j hj hs => ?_, h3'⟩
        · rcases List.mem_cons.1 hj with rfl | hj
          · rw [hn] at hs; cases hs
          · exact h1 j hj hs
        · rcases List.mem_cons.1 hj with rfl | hj
          · exact hc
          · exact h2 j hj hs
      · exact Snd.fail
    · rename_i b0 hn
      split
      · rename_i b1 b2 hb1 hb2
        split
        · rename_i hc
          simp only [Bool.and_eq_true, beq_iff_eq] at hc
          refine Snd.bind (muxBl_snd b b1.cells b2.cells) fun z hz => Snd.pure ⟨fun j hj hs => ?_, fun j hj hs => ?_, fun β w h p hp => ?_⟩
          · rcases List.mem_cons.1 hj with rfl | hj
            · simp
            · simp only [List.map_cons, List.mem_cons]; exact .inr (h1 j hj hs)
          · rcases List.mem_cons.1 hj with rfl | hj
            · rw [hn] at hs; cases hs
            · exact h2 j hj hs
          · rcases List.mem_cons.1 hp with rfl | hp
            · refine hz.2.2 β w i [] [] b1.ro ?_
              split
              · rename_i hb; rw [if_pos hb] at h; exact blkMt_g rfl rfl (h i b1 (by simp) hb1)
              · rename_i hb; rw [if_neg hb] at h; exact blkMt_g hc.1.symm rfl (h i b2 (by simp) hb2)
            · exact h3' β w h p hp
        · exact Snd.fail
      · exact Snd.fail
end
def dedupN : List Nat → List Nat
  | [] => []
  | i :: l => if (dedupN l).contains i then dedupN l else i :: dedupN l
theorem mem_dedupN : ∀ {l : List Nat} {i : Nat}, i ∈ l → i ∈ dedupN l
  | j :: l, i, h => by
    unfold dedupN
    rcases List.mem_cons.1 h with rfl | h
    · split
      · rename_i hc; simpa using hc
      · simp
    · have := mem_dedupN h
      split
      · exact this
      · simp [this]
def noRb (r1 r2 : Res) : Option Unit := if r1.rb.isEmpty && r2.rb.isEmpty then some () else none
theorem noRb_spec {r1 r2 : Res} {u : Unit} (h : noRb r1 r2 = some u) : r1.rb = [] ∧ r2.rb = [] := by
  unfold noRb at h
  split at h
  · rename_i hc; simpa using hc
  · cases h
def mergeRes (Γ : Gd) (hp : Hp) (lo hi : Nat) (b : B) (r1 r2 : Res) : M Res := do
  let s ← muxS b r1.s r2.s
  let w ← muxW Γ hp lo hi b r1.w r2.w (dedupN (r1.w.map (·.1) ++ r2.w.map (·.1)))
  let _ ← lift (noRb r1 r2)
  pure { s := s, w := w }
theorem Step.keepB {N : Nat} {R : List Rg} {Q : Rg → Prop} {β β' : Beta} {ρ : Env} {w w' : World} {ids : List Nat} {lo hi : Nat} (h : Step N R Q β w ids [] lo hi β' w') (hb : BetaOk N R Q β w) {i : Nat} (hi : i ∉ ids) {b : Blk} (hm : blkMt β ρ w i b) : blkMt β' ρ w' i b := by
  obtain ⟨W, hW, hk⟩ := h.kp
  refine blkMt_keep' (fun i r h1 _ => h.ext i r h1 (.inr (by simp))) hb hk (fun r q hr hq => ?_) hm
  obtain ⟨id', hid', hβ, hro, _⟩ := hW r hr
  exact hb.apartW (i := id') (j := i) (fun e => hi (e ▸ hid')) hβ hq hro
theorem hpOf_mem' : ∀ {l : List (Nat × Blk)} {id : Nat} {b : Blk}, hpOf l id = some b → (id, b) ∈ l
  | [], _, _, h => by simp [hpOf] at h
  | (i, c) :: l, id, b, h => by
    unfold hpOf at h
    split at h
    · rename_i he
      simp only [beq_iff_eq] at he
      simp only [Option.some.injEq] at h
      subst he; subst h
      simp
    · simp [hpOf_mem' h]
theorem hpOf_none : ∀ {l : List (Nat × Blk)} {id : Nat}, hpOf l id = none → id ∉ l.map (·.1)
  | [], _, _ => by simp
  | (i, c) :: l, id, h => by
    unfold hpOf at h
    split at h
    · cases h
    · rename_i he
      simp only [List.map_cons, List.mem_cons, not_or]
      exact ⟨fun e => he (by simp [e]), hpOf_none h⟩
/-- One of both ways was taken: what is known of both holds. -/
theorem merge_post {N : Nat} {R : List Rg} {Q : Rg → Prop} {ρ : Env} {β : Beta} {w w' : World} {Γ : Gd} {hp : Hp} (hΓ : Gd.d ρ Γ = true) (hh : heapMt β ρ hp w) (hb : BetaOk N R Q β w) {lo hi lo1 hi1 : Nat} (hlo : lo ≤ lo1) (hhi : hi1 ≤ hi)
    (hfr : ∀ i, lo ≤ i → i < hi → β i = none) {rk : Res} (hrb : rk.rb = []) {s : S} {ws : List (Nat × Blk)} {all : List Nat} (hall : ∀ i, i ∈ rk.w.map (·.1) → i ∈ all) {v : Value} (hr : RPost N R Q ρ β w lo1 hi1 rk v w')
    (hs : ∀ β v, rk.s.mt β ρ v → s.mt β ρ v) (h1 : ∀ i, i ∈ all → (hp i).isSome = true → i ∈ ws.map (·.1)) (h2 : ∀ i, i ∈ all → hp i = none → lo ≤ i ∧ i < hi)
    (h3 : ∀ β w, (∀ i bk, i ∈ all → wBlk Γ hp rk.w i = some bk → blkMt β ρ w i bk) → ∀ p, p ∈ ws → blkMt β ρ w p.1 p.2) : RPost N R Q ρ β w lo hi { s := s, w := ws } v w' := by
  obtain ⟨β', hst, hsm, hbl⟩ := hr
  rw [hrb] at hst
  obtain ⟨W, hW, hk⟩ := hst.kp
  refine ⟨β', ⟨hst.ext, hst.bo, ⟨W, fun r hr => ?_, hk⟩, fun i hi _ => hst.dom i (by omega) (by simp), by simp⟩, hs _ _ hsm, h3 β' w' fun i bk hi hbk => ?_⟩
  · obtain ⟨id, hid, hβ, hro, hl⟩ := hW r hr
    refine ⟨id, ?_, hβ, hro, hl⟩
    refine h1 id (hall id hid) ?_
    cases hx : hp id with
    | some b => rfl
    | none =>
      obtain ⟨g1, g2⟩ := h2 id (hall id hid) hx
      rw [hfr id g1 g2] at hβ
      cases hβ
  · unfold wBlk at hbk
    split at hbk
    · rename_i b hb'
      simp only [Option.some.injEq] at hbk
      subst hbk
      exact hbl _ (hpOf_mem' hb')
    · rename_i hn
      split at hbk
      · rename_i b hb'
        split at hbk
        · rename_i hg
          simp only [Option.some.injEq] at hbk
          subst hbk
          exact hst.keepB hb (hpOf_none hn) (hh i b hb' (Gd.sub_d hg hΓ))
        · cases hbk
      · cases hbk

/-- But for what hands a loop's body its turn. -/
def hY (H : Hnd) : Hnd := fun f Γ hp xs => if f == yieldN then M.fail else H f Γ hp xs
/-- A call of one of several functions, by conditions; the last one, if no condition holds. -/
def callAlt (H : Hnd) (hp : Hp) (xs : List S) (d : FV) : List (B × FV) → Gd → M Res
  | [], Γ => match d with
    | some p => hY H p.1 Γ hp (xs ++ capS p.2)
    | none => M.fail
  | (b, none) :: l, Γ => do
    let nb ← mkNot b
    oblige nb
    callAlt H hp xs d l Γ
  | (b, some p) :: l, Γ => if l.isEmpty && d.isNone then do
      oblige b
      hY H p.1 Γ hp (xs ++ capS p.2)
    else do
      let lo ← getId
      let r1 ← M.mono (M.under [(b, true)] (hY H p.1 (Γ ++ [(b, true)]) hp (xs ++ capS p.2)))
      let r2 ← M.mono (M.under [(b, false)] (callAlt H hp xs d l (Γ ++ [(b, false)])))
      let hi ← getId
      M.mono (mergeRes Γ hp lo hi b r1 r2)
theorem mkNot_id {b x : B} {c c' : Ctr} {o : List Em} (h : mkNot b c = some (x, c', o)) : c'.id = c.id := by
  unfold mkNot at h
  split at h
  · simp only [Pure.pure, M.pure, Option.some.injEq, Prod.mk.injEq] at h
    rw [h.2.1]
  · simp only [newB, Option.some.injEq, Prod.mk.injEq] at h
    rw [← h.2.1]
theorem oblige_id {b : B} {x : Unit} {c c' : Ctr} {o : List Em} (h : oblige b c = some (x, c', o)) : c'.id = c.id := by
  unfold oblige at h
  split at h <;> (simp only [Option.some.injEq, Prod.mk.injEq] at h; rw [h.2.1])
section
variable {P : Program} {Φ : Funs} {gl : Gl} {hp : Hp} {ρ : Env}
/-- What a function's value leads to. -/
def AltPost (P : Program) (N : Nat) (R : List Rg) (Q : Rg → Prop) (ρ : Env) (β : Beta) (w : World) (lo hi : Nat) (res : Res) (vs : List Value) (v : Value) : Prop :=
  ∃ g ws, v = .func (.func g) #[] (ws : List Value).toArray ∧ (∀ args w, (callFunc g args).run P w = .ok (.enter g args) w) ∧ Calls P g (vs ++ ws).toArray w fun e w' => ∃ u, e = .returned u ∧ RPost N R Q ρ β w lo hi res u w'
theorem hnd_alt {H : Hnd} (hH : HOk P Φ gl H) {p : Nat × List (Nat × Nat)} {Γ : Gd} {xs : List S} {c c' : Ctr} {res : Res} {out : List Em} (h : hY H p.1 Γ hp (xs ++ capS p.2) c = some (res, c', out)) (hg : Good Φ ρ out) (hΓ : Gd.d ρ Γ = true)
    {N : Nat} {R : List Rg} {Q : Rg → Prop} {β : Beta} {w : World} {vs : List Value} (hm : mtAll β ρ xs vs) (hh : heapMt β ρ hp w) (hb : BetaOk N R Q β w) (hN : N ≤ w.heap.size) (hG : GB gl β w) (hf : ∀ i, c.id ≤ i → i < c'.id → β i = none) {v : Value} (hv : fvMt β (some p) v) :
    AltPost P N R Q ρ β w c.id c'.id res vs v := by
  unfold hY at h
  split at h
  · simp [M.fail] at h
  rename_i hy
  simp only [beq_iff_eq] at hy
  obtain ⟨ws, rfl, hc⟩ := hv
  rw [fvVal_ne hy]
  obtain ⟨h1, h2⟩ := hH _ _ _ _ _ _ _ _ _ h hg hΓ N R Q β w (vs ++ ws) (mtAll_append (capS_mt hc) hm) hh hb hN hG hf
  exact ⟨p.1, ws, rfl, h1, h2⟩
theorem callAlt_ok {H : Hnd} (hH : HOk P Φ gl H) (xs : List S) (d : FV) : ∀ (l : List (B × FV)) (Γ : Gd) {c c' : Ctr} {res : Res} {out : List Em}, callAlt H hp xs d l Γ c = some (res, c', out) → Good Φ ρ out → Gd.d ρ Γ = true →
    ∀ {N : Nat} {R : List Rg} {Q : Rg → Prop} {β : Beta} {w : World} {vs : List Value}, mtAll β ρ xs vs → heapMt β ρ hp w → BetaOk N R Q β w → N ≤ w.heap.size → GB gl β w → (∀ i, c.id ≤ i → i < c'.id → β i = none) → ∀ {v : Value}, fvMt β (pickF ρ l d) v →
    AltPost P N R Q ρ β w c.id c'.id res vs v
  | [], Γ, c, c', res, out, h, hg, hΓ, N, R, Q, β, w, vs, hm, hh, hb, hN, hG, hf, v, hv => by
    unfold callAlt at h
    split at h
    · exact hnd_alt hH h hg hΓ hm hh hb hN hG hf hv
    · simp [M.fail] at h
  | (b, none) :: l, Γ, c, c', res, out, h, hg, hΓ, N, R, Q, β, w, vs, hm, hh, hb, hN, hG, hf, v, hv => by
    unfold callAlt at h
    obtain ⟨nb, c1, o1, c2, o2, y, h1, h2, he⟩ := M.bind_inv h
    simp only [Prod.mk.injEq] at he
    obtain ⟨rfl, rfl, rfl⟩ := he
    obtain ⟨u, c3, o3, c4, o4, y, h3, h4, he⟩ := M.bind_inv h2
    simp only [Prod.mk.injEq] at he
    obtain ⟨rfl, rfl, rfl⟩ := he
    simp only [Good.append] at hg
    have e1 := mkNot_snd b _ _ _ _ h1 hg.1
    have e2 := oblige_snd nb _ _ _ _ h3 hg.2.1
    have hbf : b.d ρ = false := by
      rw [e1] at e2
      simpa using e2
    have i1 := mkNot_id h1
    have i2 := oblige_id h3
    have hv' : fvMt β (pickF ρ l d) v := by
      unfold pickF at hv
      rw [if_neg (by simp [hbf])] at hv
      exact hv
    rw [← i1, ← i2]
    exact callAlt_ok hH xs d l Γ h4 hg.2.2 hΓ hm hh hb hN hG (fun i g1 g2 => hf i (by omega) g2) hv'
  | (b, some p) :: l, Γ, c, c', res, out, h, hg, hΓ, N, R, Q, β, w, vs, hm, hh, hb, hN, hG, hf, v, hv => by
    unfold callAlt at h
    split at h
    · rename_i hc
      obtain ⟨u, c1, o1, c2, o2, y, h1, h2, he⟩ := M.bind_inv h
      simp only [Prod.mk.injEq] at he
      obtain ⟨rfl, rfl, rfl⟩ := he
      simp only [Good.append] at hg
      have e2 : b.d ρ = true := oblige_snd b _ _ _ _ h1 hg.1
      have i2 := oblige_id h1
      have hv' : fvMt β (some p) v := by
        unfold pickF at hv
        rw [if_pos e2] at hv
        exact hv
      rw [← i2]
      exact hnd_alt hH h2 hg.2 hΓ hm hh hb hN hG (fun i g1 g2 => hf i (by omega) g2) hv'
    · obtain ⟨lo, c1, o1, c2, o2, y, h1, h2, he⟩ := M.bind_inv h
      simp only [Prod.mk.injEq] at he
      obtain ⟨rfl, rfl, rfl⟩ := he
      simp only [getId, Option.some.injEq, Prod.mk.injEq] at h1
      obtain ⟨rfl, rfl, rfl⟩ := h1
      obtain ⟨r1, c3, o3, c4, o4, y, h3, h4, he⟩ := M.bind_inv h2
      simp only [Prod.mk.injEq] at he
      obtain ⟨rfl, rfl, rfl⟩ := he
      obtain ⟨r2, c5, o5, c6, o6, y, h5, h6, he⟩ := M.bind_inv h4
      simp only [Prod.mk.injEq] at he
      obtain ⟨rfl, rfl, rfl⟩ := he
      obtain ⟨hi, c7, o7, c8, o8, y, h7, h8, he⟩ := M.bind_inv h6
      simp only [Prod.mk.injEq] at he
      obtain ⟨rfl, rfl, rfl⟩ := he
      simp only [getId, Option.some.injEq, Prod.mk.injEq] at h7
      obtain ⟨rfl, rfl, rfl⟩ := h7
      simp only [Good.append] at hg
      obtain ⟨h3, le3⟩ := mono_inv h3
      obtain ⟨h5, le5⟩ := mono_inv h5
      simp only at le3 le5
      obtain ⟨x3, k3, q3, h3u, he⟩ := under_inv h3
      simp only [Prod.mk.injEq] at he
      obtain ⟨rfl, rfl, rfl⟩ := he
      obtain ⟨x5, k5, q5, h5u, he⟩ := under_inv h5
      simp only [Prod.mk.injEq] at he
      obtain ⟨rfl, rfl, rfl⟩ := he
      obtain ⟨h8, le8⟩ := mono_inv h8
      simp only at le8
      unfold mergeRes at h8
      obtain ⟨s, c9, o9, c10, o10, y, h9, h10, he⟩ := M.bind_inv h8
      simp only [Prod.mk.injEq] at he
      obtain ⟨rfl, rfl, rfl⟩ := he
      obtain ⟨ws, c11, o11, c12, o12, y, h11, h12, he⟩ := M.bind_inv h10
      simp only [Prod.mk.injEq] at he
      obtain ⟨rfl, rfl, rfl⟩ := he
      obtain ⟨u0, hrb, h12⟩ := snd_lift_inv h12
      obtain ⟨hrb1, hrb2⟩ := noRb_spec hrb
      have he := M.pure_inv h12
      simp only [Prod.mk.injEq] at he
      obtain ⟨rfl, rfl, rfl⟩ := he
      simp only [Good.append] at hg
      obtain ⟨_, g3, g5, _, g9, g11, _⟩ := hg
      have hs := muxS_snd b _ _ _ _ _ _ h9 g9
      obtain ⟨w1, w2, w3⟩ := muxW_snd _ _ _ _ _ _ _ _ _ _ _ _ h11 g11
      simp only at hs w1 w2 w3
      have hfr : ∀ i, c.id ≤ i → i < c5.id → β i = none := fun i g1 g2 => hf i g1 (by omega)
      cases hbd : b.d ρ
      · have hv' : fvMt β (pickF ρ l d) v := by
          unfold pickF at hv
          rw [if_neg (by simp [hbd])] at hv
          exact hv
        have hgd : Gd.d ρ [(b, false)] = true := by simp [hbd]
        obtain ⟨g, us, rfl, hc1, hc2⟩ := callAlt_ok hH xs d l _ h5u (Good.under hgd g5) (by simp [hΓ, hbd]) hm hh hb hN hG (fun i g1 g2 => hfr i (by omega) g2) hv'
        refine ⟨g, us, rfl, hc1, Calls.mono hc2 fun e w' ⟨u, hu, hp'⟩ => ⟨u, hu, ?_⟩⟩
        refine merge_post hΓ hh hb (hi := c'.id) (by omega) (by omega) hf hrb2 (all := dedupN (r1.w.map (·.1) ++ r2.w.map (·.1))) (fun i hi => mem_dedupN (by simp only [List.mem_append]; exact .inr hi)) hp' (fun β v h => hs β v (by rw [if_neg (by simp [hbd])]; exact h)) w1 (fun i h1 h2 => by have := w2 i h1 h2; omega) (fun β w h => w3 β w (by rw [if_neg (by simp [hbd])]; exact h))
      · have hv' : fvMt β (some p) v := by
          unfold pickF at hv
          rw [if_pos hbd] at hv
          exact hv
        have hgd : Gd.d ρ [(b, true)] = true := by simp [hbd]
        obtain ⟨g, us, rfl, hc1, hc2⟩ := hnd_alt hH h3u (Good.under hgd g3) (by simp [hΓ, hbd]) hm hh hb hN hG (fun i g1 g2 => hfr i (by omega) (by omega)) hv'
        refine ⟨g, us, rfl, hc1, Calls.mono hc2 fun e w' ⟨u, hu, hp'⟩ => ⟨u, hu, ?_⟩⟩
        refine merge_post hΓ hh hb (hi := c'.id) (by omega) (by omega) hf hrb1 (all := dedupN (r1.w.map (·.1) ++ r2.w.map (·.1))) (fun i hi => mem_dedupN (by simp only [List.mem_append]; exact .inl hi)) hp' (fun β v h => hs β v (by rw [if_pos hbd]; exact h)) w1 (fun i h1 h2 => by have := w2 i h1 h2; omega) (fun β w h => w3 β w (by rw [if_pos hbd]; exact h))
end

def fnOf (f : S) : Option (List (B × FV) × FV) :=
  match f with
  | .one false [c] => asFn c
  | _ => none
theorem fnOf_spec {f : S} {p : List (B × FV) × FV} (h : fnOf f = some p) : ∃ c, f = .one false [c] ∧ asFn c = some p := by
  unfold fnOf at h
  split at h
  · exact ⟨_, rfl, h⟩
  · cases h
def xCallV (H : Hnd) (Γ : Gd) (hp : Hp) (f : S) (xs : List S) : M Res :=
  match fnOf f with
  | some p => callAlt H hp xs p.2 p.1 Γ
  | none => M.fail
def capsOf : List S → Option (List (Nat × Nat))
  | [] => some []
  | .one false [.ptr [] id off] :: l => (capsOf l).map ((id, off) :: ·)
  | _ => none
def xMakeFunc (fn : Fn) (first : List Operand) (caps : List S) : M S :=
  match fn with
  | .func f => if first.isEmpty && !(f == yieldN) then do
      let l ← lift (capsOf caps)
      pure (.one false [.fn [] (some (f, l))])
    else M.fail
  | _ => M.fail
section
variable {P : Program} {Φ : Funs} {gl : Gl} {Γ : Gd} {hp : Hp} {rv : Operand → SV} {dst : Option Tmp} {ty : TypeId} {pos : String} {after : Array Edge} {guard : Option (Nat × Bool)}
theorem capsOf_mt {β : Beta} {ρ : Env} : ∀ {l : List S} {ps : List (Nat × Nat)} {vs : List Value}, capsOf l = some ps → mtAll β ρ l vs → capMt β ps vs
  | [], ps, vs, h, hm => by
    simp only [capsOf, Option.some.injEq] at h
    subst h
    cases vs with
    | nil => trivial
    | cons _ _ => exact hm.elim
  | s :: l, ps, vs, h, hm => by
    unfold capsOf at h
    split at h
    · rename_i e; cases e
    · rename_i id off l' e
      simp only [List.cons.injEq] at e
      obtain ⟨rfl, rfl⟩ := e
      cases vs with
      | nil => exact hm.elim
      | cons v vs =>
        obtain ⟨h1, h2⟩ := hm
        cases hc : capsOf l with
        | none => rw [hc] at h; simp at h
        | some r =>
          rw [hc] at h
          simp only [Option.map_some, Option.some.injEq] at h
          subst h
          obtain ⟨r', hr', hv⟩ := mt_cell (s := .one false [.ptr [] id off]) rfl h1
          exact ⟨⟨r', by simpa [pick] using hr', by simpa [pick] using hv⟩, capsOf_mt hc h2⟩
    · cases h
/-- A known text's part, between known places. -/
def bndOf (d : Nat) : Option S → Option Nat
  | none => some d
  | some (.one false [.int _ (.c (.ofNat n))]) => some n
  | _ => none
def xSliceS (P : Program) (t : TypeId) (x : S) (lo hi : Option S) : M S :=
  match P.underlying t, x with
  | some .string, .one false [.val (.string s)] => match bndOf 0 lo, bndOf s.size hi with
    | some l, some h => if Nat.ble l h && Nat.ble h s.size then pure (.one false [.val (.string (s.extract l h))]) else M.fail
    | _, _ => M.fail
  | _, _ => M.fail
def optMt (β : Beta) (ρ : Env) : Option S → Option Value → Prop
  | none, none => True
  | some s, some v => s.mt β ρ v
  | _, _ => False
theorem bndOf_run {P : Program} {β : Beta} {ρ : Env} {d n y : Nat} {o : Option S} {v : Option Value} (h : bndOf d o = some n) (hm : optMt β ρ o v) (hy : n ≤ y) (code : BoundsCode) (w : World) :
    (v = none ∧ n = d) ∨ ∃ u, v = some u ∧ (Instr.sliceBound u y code).run P w = .ok n w := by
  unfold bndOf at h
  split at h
  · simp only [Option.some.injEq] at h
    cases v with
    | none => exact .inl ⟨rfl, h.symm⟩
    | some _ => exact hm.elim
  · rename_i k m
    simp only [Option.some.injEq] at h
    subst h
    cases v with
    | none => exact hm.elim
    | some u =>
      right
      obtain ⟨hu, _⟩ := mt_int rfl hm
      refine ⟨u, rfl, ?_⟩
      subst hu
      unfold Instr.sliceBound
      simp [asIntOf, hy]
  · cases h
theorem pure_slice {ρ : Env} (hΓ : Gd.d ρ Γ = true) (t : TypeId) (x : Operand) (lo hi : Option Operand) :
    Snd Φ ρ (xSliceS P t (rs Γ (rv x)) (lo.map fun x => rs Γ (rv x)) (hi.map fun x => rs Γ (rv x))) (Pure P Γ hp rv ⟨dst, .slice t x lo hi none, ty, pos, after, guard⟩ ρ) := by
  unfold xSliceS
  split
  · rename_i s hu hx1
    split
    · rename_i l h hl hh
      split
      · rename_i hc
        simp only [Bool.and_eq_true, Nat.ble_eq] at hc
        refine Snd.pure fun β ac w hx _ _ => ?_
        have hv := (mt_cell hx1 (rs_mt hΓ (hx x (by simp [Op.operands])))).1
        have e1 : optMt β ρ (lo.map fun x => rs Γ (rv x)) (lo.map ac.eval) := by
          cases lo with
          | none => trivial
          | some z => exact rs_mt hΓ (hx z (by simp [Op.operands]))
        have e2 : optMt β ρ (hi.map fun x => rs Γ (rv x)) (hi.map ac.eval) := by
          cases hi with
          | none => trivial
          | some z => exact rs_mt hΓ (hx z (by simp [Op.operands]))
        have k1 := bndOf_run (P := P) hl e1 (y := h) hc.1 .sliceB w
        have k2 := bndOf_run (P := P) hh e2 (y := s.size) hc.2 .sliceAlen w
        refine ⟨.string (s.extract l h), ?_, mt_of_cell ⟨rfl, rfl⟩⟩
        simp only [execOp, Instr.sliceAt, Instr.slice, Instr.sliceBounds, hv]
        rcases k1 with ⟨k1, rfl⟩ | ⟨u1, k1, r1⟩
        · rcases k2 with ⟨k2, rfl⟩ | ⟨u2, k2, r2⟩
          · rw [k1, k2]; simp [underlying, hu]
          · rw [k1, k2]; simp [underlying, hu, r2]
        · rcases k2 with ⟨k2, rfl⟩ | ⟨u2, k2, r2⟩
          · rw [k1, k2]; simp [underlying, hu, r1]
          · rw [k1, k2]; simp [underlying, hu, r1, r2]
      · exact Snd.fail
    · exact Snd.fail
  · exact Snd.fail
/-! ### A part of a slice that is only read -/
def bndA (d : A) : Option S → Option A
  | none => some d
  | some (.one false [.int _ a]) => some a
  | _ => none
theorem bndA_run {P : Program} {β : Beta} {ρ : Env} {d a : A} {y : Nat} {o : Option S} {v : Option Value} (h : bndA d o = some a) (hm : optMt β ρ o v) (h0 : 0 ≤ a.d ρ) (hy : a.d ρ ≤ y) (code : BoundsCode) (w : World) :
    (v = none ∧ a = d) ∨ ∃ u, v = some u ∧ (Instr.sliceBound u y code).run P w = .ok (a.d ρ).toNat w := by
  unfold bndA at h
  split at h
  · cases h
    cases v with
    | none => exact .inl ⟨rfl, rfl⟩
    | some u => exact hm.elim
  · cases h
    cases v with
    | none => exact hm.elim
    | some u =>
      have hi := (mt_int rfl hm).1
      refine .inr ⟨u, rfl, ?_⟩
      rw [hi]
      simp [Instr.sliceBound, asIntOf, h0, hy]
  · cases h
/-- The first bytes of a string. -/
def xSlStr (P : Program) (t : TypeId) (q : A) (hi : S) : M S :=
  match P.underlying t, hi with
  | some .string, .one false [.int _ a] => do
    let b1 ← mkCm .geq a (.c 0)
    oblige b1
    let n ← mkLenq q 1
    let b2 ← mkCm .leq a n
    oblige b2
    let q' ← mkSub q (.c 0) a 1
    pure (.one false [.str q'])
  | _, _ => M.fail
theorem bytesI_take (s : ByteArray) (n : Nat) : bytesI (s.extract 0 n) = (bytesI s).take n := by
  unfold bytesI
  rw [ByteArray.data_extract, Array.toList_extract, ← List.map_take]
  simp
theorem pure_slStr {ρ : Env} (hΓ : Gd.d ρ Γ = true) (t : TypeId) (x y : Operand) {q : A} (hx1 : rs Γ (rv x) = .one false [.str q]) :
    Snd Φ ρ (xSlStr P t q (rs Γ (rv y))) (Pure P Γ hp rv ⟨dst, .slice t x none (some y) none, ty, pos, after, guard⟩ ρ) := by
  unfold xSlStr
  split
  · rename_i k a hu hy
    refine Snd.bind (mkCm_snd _ _ _) fun b1 e1 => Snd.bind (oblige_snd b1) fun _ e2 => Snd.bind (mkLenq_snd _ _) fun n hn => Snd.bind (mkCm_snd _ _ _) fun b2 e3 => Snd.bind (oblige_snd b2) fun _ e4 =>
      Snd.bind (mkSub_snd _ _ _ _) fun q' hq' => Snd.pure fun β ac w hx _ hsq => ?_
    rw [e1] at e2
    rw [e3] at e4
    replace e2 : 0 ≤ a.d ρ := of_decide_eq_true e2
    replace e4 : a.d ρ ≤ n.d ρ := of_decide_eq_true e4
    obtain ⟨s, hv, g2, g3⟩ := mt_cell hx1 (rs_mt hΓ (hx x (by simp [Op.operands])))
    obtain ⟨hi, g4⟩ := mt_int hy (rs_mt hΓ (hx y (by simp [Op.operands])))
    have hnd : n.d ρ = (s.size : Int) := by rw [hn]; simp only [RI.d, g2, encS_len, Nat.div_one]
    rw [hnd] at e4
    refine ⟨.string (s.extract 0 (a.d ρ).toNat), ?_, mt_of_cell ⟨_, rfl, ?_, ?_⟩⟩
    · have := run_slice_string_h (P := P) w t s hu k (a.d ρ) e2 e4
      simp only [execOp, Option.map_none, Option.map_some, hv, hi, Sem.run_bind]
      simp [run_sliceAt_string w t _ none (some (Value.int k (a.d ρ))) none hu, this]
    · rw [hq', g2]
      unfold encS
      rw [dec_enc, bytesI_take]
      simp [A.d]
    · have hsz : (s.extract 0 (a.d ρ).toNat).size ≤ s.size := by
        simp [ByteArray.size_extract]
        omega
      have h9 : (s.size : Int) ≤ 9223372036854775807 := g3.2
      exact ⟨by show (-9223372036854775808 : Int) ≤ _; omega, by show _ ≤ (9223372036854775807 : Int); omega⟩
  · exact Snd.fail
def xSliceX (P : Program) (t : TypeId) (x : S) (lo hi : Option S) : M S :=
  match x with
  | .one false [.slx ks q n] => do
    let e ← lift (sliceElem P t)
    let s ← lift (sizeN P e)
    let a ← lift (bndA (.c 0) lo)
    let b ← lift (bndA n hi)
    if s == ks.length then do
      let b1 ← mkCm .geq a (.c 0)
      oblige b1
      let b2 ← mkCm .leq a b
      oblige b2
      let b3 ← mkCm .leq b n
      oblige b3
      let q' ← mkSub q a b ks.length
      let n' ← mkAr .sub .i64 b a
      pure (.one false [.slx ks q' n'])
    else M.fail
  | .one false [.str q] => (match lo, hi with
    | none, some h => xSlStr P t q h
    | _, _ => M.fail)
  | x => xSliceS P t x lo hi
theorem pure_sliceX {ρ : Env} (hΓ : Gd.d ρ Γ = true) (t : TypeId) (x : Operand) (lo hi : Option Operand) :
    Snd Φ ρ (xSliceX P t (rs Γ (rv x)) (lo.map fun x => rs Γ (rv x)) (hi.map fun x => rs Γ (rv x))) (Pure P Γ hp rv ⟨dst, .slice t x lo hi none, ty, pos, after, guard⟩ ρ) := by
  unfold xSliceX
  split
  · rename_i ks q n hx1
    refine Snd.bind (lift_snd _) fun e he => Snd.bind (lift_snd _) fun s hs => Snd.bind (lift_snd _) fun a ha => Snd.bind (lift_snd _) fun b hb => ?_
    split
    · rename_i hk
      simp only [beq_iff_eq] at hk
      subst hk
      refine Snd.bind (mkCm_snd _ _ _) fun b1 e1 => Snd.bind (oblige_snd b1) fun _ e2 => Snd.bind (mkCm_snd _ _ _) fun b2 e3 => Snd.bind (oblige_snd b2) fun _ e4 => Snd.bind (mkCm_snd _ _ _) fun b3 e5 => Snd.bind (oblige_snd b3) fun _ e6 =>
        Snd.bind (mkSub_snd _ _ _ _) fun q' hq' => Snd.bind (mkAr_snd _ _ _ _) fun n' hn' => Snd.pure fun β ac w hx _ hsq => ?_
      rw [e1] at e2
      rw [e3] at e4
      rw [e5] at e6
      replace e2 : 0 ≤ a.d ρ := of_decide_eq_true e2
      replace e4 : a.d ρ ≤ b.d ρ := of_decide_eq_true e4
      replace e6 : b.d ρ ≤ n.d ρ := of_decide_eq_true e6
      obtain ⟨h0, hin, p, cap, hv, hcap, h3⟩ := mt_cell hx1 (rs_mt hΓ (hx x (by simp [Op.operands])))
      obtain ⟨m, hm⟩ := Int.eq_ofNat_of_zero_le h0
      obtain ⟨la, hla⟩ := Int.eq_ofNat_of_zero_le e2
      obtain ⟨hb', hhb⟩ := Int.eq_ofNat_of_zero_le (Int.le_trans e2 e4)
      rw [hm, Int.toNat_natCast] at hv hcap
      have u1 : optMt β ρ (lo.map fun x => rs Γ (rv x)) (lo.map ac.eval) := by
        cases lo with
        | none => trivial
        | some z => exact rs_mt hΓ (hx z (by simp [Op.operands]))
      have u2 : optMt β ρ (hi.map fun x => rs Γ (rv x)) (hi.map ac.eval) := by
        cases hi with
        | none => trivial
        | some z => exact rs_mt hΓ (hx z (by simp [Op.operands]))
      have hu : P.underlying t = some (.slice e) := by
        unfold sliceElem at he
        split at he
        · rename_i hu; simp only [Option.some.injEq] at he; subst he; exact hu
        · cases he
      have k1 := bndA_run (P := P) ha u1 (y := hb') e2 (by omega) .sliceB w
      have k2 := bndA_run (P := P) hb u2 (y := cap) (by omega) (by omega) .sliceAcap w
      rw [hla, Int.toNat_natCast] at k1
      rw [hhb, Int.toNat_natCast] at k2
      have hnd : n'.d ρ = ((hb' - la : Nat) : Int) := by
        rw [hn', hhb, hla]
        show IntKind.wrap .i64 _ = _
        rw [IntKind.wrap_i64]
        have h9 : (m : Int) ≤ 9223372036854775807 := by have h8 := hin.2; rw [hm] at h8; exact h8
        omega
      refine ⟨.slice (if cap = la then p else p.map (·.add (la * ks.length))) (hb' - la) (cap - la), ?_, mt_of_cell ?_⟩
      · have hrun : (Instr.sliceBounds true m cap (lo.map ac.eval) (hi.map ac.eval) none).run P w = .ok (la, hb', cap) w := by
          unfold Instr.sliceBounds
          rcases k2 with ⟨k2, rfl⟩ | ⟨u2, k2, r2⟩
          · have : m = hb' := by rw [hm] at hhb; exact_mod_cast hhb
            subst this
            rcases k1 with ⟨k1, rfl⟩ | ⟨u1, k1, r1⟩
            · have : la = 0 := by have : (0 : Int) = la := hla; omega
              subst this
              rw [k1, k2]; simp
            · rw [k1, k2]; simp [r1]
          · rcases k1 with ⟨k1, rfl⟩ | ⟨u1, k1, r1⟩
            · have : la = 0 := by have : (0 : Int) = la := hla; omega
              subst this
              rw [k1, k2]; simp [r2]
            · rw [k1, k2]; simp [r1, r2]
        simp only [execOp, Instr.sliceAt, Instr.slice, hv, Sem.run_bind, run_underlying hu, Result.andThen_ok]
        simp [hrun, sizeN_spec hs w]
      · show slxMt β ks (q'.d ρ) (n'.d ρ) _
        rw [hnd]
        refine ⟨by omega, ⟨?_, ?_⟩, _, cap - la, by rw [Int.toNat_natCast], by rw [Int.toNat_natCast]; omega, ?_⟩
        · show (-9223372036854775808 : Int) ≤ _; omega
        · show _ ≤ (9223372036854775807 : Int)
          have h9 := hin.2
          rw [hm] at h9
          have h9' : (m : Int) ≤ 9223372036854775807 := h9
          omega
        · rw [hq', hla, hhb, Int.toNat_natCast, Int.toNat_natCast, Int.toNat_natCast]
          by_cases hz : hb' - la = 0
          · left; rw [hz]; simp
          · right
            rcases h3 with ⟨_, e0⟩ | ⟨i, r, o, l, hr, hs1, hqe, hl, hp⟩
            · omega
            · rw [hm, Int.toNat_natCast] at hl
              obtain ⟨L, j, g1, g2, g3, g4⟩ := hs1
              have hmul1 : hb' * ks.length ≤ m * ks.length := Nat.mul_le_mul_right _ (by omega)
              have hmul2 : la * ks.length + (hb' - la) * ks.length = hb' * ks.length := by rw [← Nat.add_mul]; congr 1; omega
              have hlen : ((l.drop (la * ks.length)).take ((hb' - la) * ks.length)).length = (hb' - la) * ks.length := by
                rw [List.length_take, List.length_drop, hl]; omega
              refine ⟨i, r, o + la * ks.length, (l.drop (la * ks.length)).take ((hb' - la) * ks.length), hr, ⟨L, j + la, g1, by rw [g2, Nat.add_mul], by rw [hlen]; omega, fun i' x hx' => ?_⟩, by rw [hqe, dec_enc], hlen, ?_⟩
              · rw [List.getElem?_take] at hx'
                split at hx'
                · rw [List.getElem?_drop] at hx'
                  have := g4 _ _ hx'
                  rwa [← Nat.add_assoc] at this
                · cases hx'
              · rw [if_neg (by omega), hp]
                simp only [Option.map_some, Option.some.injEq]
                rw [add_lit, Nat.add_assoc]
    · exact Snd.fail
  · rename_i q hx1
    cases lo with
    | some z => exact Snd.fail
    | none =>
      cases hi with
      | none => exact Snd.fail
      | some y => exact pure_slStr hΓ t x y hx1
  · exact pure_slice hΓ t x lo hi
theorem pure_makeFunc {ρ : Env} (hΓ : Gd.d ρ Γ = true) (fn : Fn) (first captured : Array Operand) :
    Snd Φ ρ (xMakeFunc fn first.toList (captured.toList.map fun x => rs Γ (rv x))) (Pure P Γ hp rv ⟨dst, .makeFunc fn first captured, ty, pos, after, guard⟩ ρ) := by
  unfold xMakeFunc
  cases fn with
  | func f =>
    simp only []
    split
    · rename_i he
      simp only [Bool.and_eq_true, Bool.not_eq_true', beq_eq_false_iff_ne] at he
      have hfe : first = #[] := by
        have he := he.1
        simp only [List.isEmpty_iff] at he
        apply Array.toList_inj.1; simpa using he
      subst hfe
      refine Snd.bind (lift_snd _) fun l hl => Snd.pure fun β ac w hx hh hq => ?_
      have hm := mtAll_map (β := β) (ρ := ρ) (f := fun x => rs Γ (rv x)) (ev := ac.eval) (l := captured.toList) fun x hxm => rs_mt hΓ (hx x (by simp [Op.operands]; simpa using hxm))
      refine ⟨.func (.func f) #[] (captured.map ac.eval), by simp [execOp, Instr.makeFunc], mt_of_cell ⟨captured.toList.map ac.eval, ?_, capsOf_mt hl hm⟩⟩
      simp only
      rw [fvVal_ne he.2]
      congr 1
      apply Array.toList_inj.1; simp
    · exact Snd.fail
  | _ => exact Snd.fail
theorem ok_callH {H : Hnd} (hH : HOk P Φ gl H) (f : Nat) (args : Array Operand) (argTypes : Array TypeId) :
    LOk P Φ (GB gl) Γ hp rv ⟨dst, .call { callee := .value (.func f), args := args, argTypes := argTypes }, ty, pos, after, guard⟩ (H f Γ hp (args.toList.map fun x => rs Γ (rv x))) := by
  intro ρ c res c' out he hg hΓ N R Q β a w hx hh hb hN hG hf
  have hops : ∀ x, x ∈ args.toList → x ∈ (Op.call { callee := .value (.func f), args := args, argTypes := argTypes }).operands := fun x hx => by
    simp [Op.operands, Call.operands]; exact .inr (by simpa using hx)
  obtain ⟨h1, h2⟩ := hH f Γ hp _ ρ c res c' out he hg hΓ N R Q β w (args.toList.map a.eval) (mtAll_map (f := fun x => rs Γ (rv x)) (ev := a.eval) fun x hxm => rs_mt hΓ (hx x (hops x hxm))) hh hb hN hG hf
  have hargs : (args.toList.map a.eval).toArray = args.map a.eval := by
    apply Array.toList_inj.1; simp
  rw [hargs] at h2
  refine OpG.calls (f := f) (args := args.map a.eval) (w' := w) ?_ h2
  have := h1 (args.map a.eval) w
  simp [execOp, resolve, Act.eval, Deferred.ofValue, invoke, this]
theorem ok_callV {H : Hnd} (hH : HOk P Φ gl H) (x : Operand) (args : Array Operand) (argTypes : Array TypeId) :
    LOk P Φ (GB gl) Γ hp rv ⟨dst, .call { callee := .value x, args := args, argTypes := argTypes }, ty, pos, after, guard⟩ (xCallV H Γ hp (rs Γ (rv x)) (args.toList.map fun x => rs Γ (rv x))) := by
  intro ρ c res c' out he hg hΓ N R Q β a w hx hh hb hN hG hf
  cases hfn : fnOf (rs Γ (rv x)) with
  | none => simp [xCallV, hfn, M.fail] at he
  | some p =>
      simp only [xCallV, hfn] at he
      obtain ⟨cc, hcc, hp'⟩ := fnOf_spec hfn
      have hops : ∀ y, y ∈ args.toList → y ∈ (Op.call { callee := .value x, args := args, argTypes := argTypes }).operands := fun y hy => by
        simp [Op.operands, Call.operands]; exact .inr (by simpa using hy)
      have hv := asFn_mt hp' (mt_cell hcc (rs_mt hΓ (hx x (by simp [Op.operands, Call.operands]))))
      obtain ⟨g, ws, hve, h1, h2⟩ := callAlt_ok hH _ _ _ _ he hg hΓ (mtAll_map (f := fun x => rs Γ (rv x)) (ev := a.eval) fun x hxm => rs_mt hΓ (hx x (hops x hxm))) hh hb hN hG hf hv
      have hargs : (args.toList.map a.eval ++ ws).toArray = args.map a.eval ++ ws.toArray := by
        apply Array.toList_inj.1; simp
      rw [hargs] at h2
      refine OpG.calls (f := g) (args := args.map a.eval ++ ws.toArray) (w' := w) ?_ h2
      have := h1 (args.map a.eval ++ ws.toArray) w
      simp [execOp, resolve, hve, Deferred.ofValue, invoke, this]

def opx (P : Program) (X : Hnd) (Γ : Gd) (hp : Hp) (rv : Operand → SV) : Op → M Res
  | .move x => do pure { s := ← pure (rs Γ (rv x)), w := [] }
  | .assign x => do pure { s := ← pure (rs Γ (rv x)), w := [] }
  | .pick c a b => do pure { s := ← xPick Γ (rv c) (rv a) (rv b), w := [] }
  | .alloc t => xAlloc P t
  | .box t x => xBox (rs Γ (rv x))
  | .build t parts => do pure { s := ← xBuild P t (parts.toList.map fun p => (p.1, rs Γ (rv p.2))), w := [] }
  | .buildSlice t n parts => xBuildSlice0 P t n (parts.toList.map fun p => (p.1, rs Γ (rv p.2)))
  | .load t x => do pure { s := ← xLoad P Γ hp t (rs Γ (rv x)), w := [] }
  | .store t x y => xStoreR P Γ hp t (rs Γ (rv x)) (rs Γ (rv y))
  | .makeSlice t l c => xMakeSlice P t (rs Γ (rv l)) (rs Γ (rv c))
  | .nilCheck x => do pure { s := ← xNil (rs Γ (rv x)), w := [] }
  | .binOp op t x y _ => do pure { s := ← xBinA P op t (rs Γ (rv x)) (rs Γ (rv y)), w := [] }
  | .unOp op _ x => do pure { s := ← xUn op (rs Γ (rv x)), w := [] }
  | .convert src dst x => do pure { s := ← xConvX P Γ hp src dst (rs Γ (rv x)), w := [] }
  | .fieldAddr t x f => do pure { s := ← xFieldAddr P t f (rs Γ (rv x)), w := [] }
  | .field t x f => do pure { s := ← xField P t f (rs Γ (rv x)), w := [] }
  | .indexAddr t x i => do pure { s := ← xIndexAddr P Γ hp t (rs Γ (rv x)) (rs Γ (rv i)), w := [] }
  | .index t x i => do pure { s := ← xIndex P t (rs Γ (rv x)) (rs Γ (rv i)), w := [] }
  | .extract x i => do pure { s := ← xExtract i (rs Γ (rv x)), w := [] }
  | .call { callee := .value (.func f), args, argTypes } => X f Γ hp (args.toList.map fun x => rs Γ (rv x))
  | .call { callee := .value (.tmp t), args, argTypes } => xCallV X Γ hp (rs Γ (rv (.tmp t))) (args.toList.map fun x => rs Γ (rv x))
  | .slice t x lo hi none => do pure { s := ← xSliceX P t (rs Γ (rv x)) (lo.map fun x => rs Γ (rv x)) (hi.map fun x => rs Γ (rv x)), w := [] }
  | .makeFunc fn first captured => do pure { s := ← xMakeFunc fn first.toList (captured.toList.map fun x => rs Γ (rv x)), w := [] }
  | .call { callee := .builtin .append, args, argTypes } => xAppend P Γ hp argTypes (args.toList.map fun x => rs Γ (rv x))
  | .call { callee := .builtin b, args, argTypes } => do pure { s := ← xBuiltin P Γ hp b argTypes (args.toList.map fun x => rs Γ (rv x)), w := [] }
  | _ => M.fail
theorem opx_ok {X : Hnd} (hX : HOk P Φ gl X) (o : Oper) : LOk P Φ (GB gl) Γ hp rv o (opx P X Γ hp rv o.op) := by
  obtain ⟨dst, op, ty, pos, after, guard⟩ := o
  cases op with
  | move x => exact LOk.of_pure fun ρ h => pure_move h _
  | assign x => exact LOk.of_pure fun ρ h => pure_assign h _
  | pick c a b => exact LOk.of_pure fun ρ h => pure_pick h _ _ _
  | alloc t => exact ok_alloc _
  | box t x => exact ok_box _ _
  | build t parts => exact LOk.of_pure fun ρ h => pure_build h _ _
  | buildSlice t n parts => exact ok_buildSlice0 _ _ _
  | load t x => exact LOk.of_pure fun ρ h => pure_load h _ _
  | store t x y => exact ok_storeR _ _ _
  | makeSlice t l c => exact ok_makeSlice _ _ _
  | nilCheck x => exact LOk.of_pure fun ρ h => pure_nil h _
  | binOp op t x y t' => exact LOk.of_pure fun ρ h => pure_binA h _ _ _ _ _
  | unOp op t x => exact LOk.of_pure fun ρ h => pure_un h _ _ _
  | convert src d x => exact LOk.of_pure fun ρ h => pure_convX h _ _ _
  | fieldAddr t x f => exact LOk.of_pure fun ρ h => pure_fieldAddr h _ _ _
  | field t x f => exact LOk.of_pure fun ρ h => pure_field h _ _ _
  | indexAddr t x i => exact LOk.of_pure fun ρ h => pure_indexAddr h _ _ _
  | index t x i => exact LOk.of_pure fun ρ h => pure_index h _ _ _
  | extract x i => exact LOk.of_pure fun ρ h => pure_extract h _ _
  | slice t x lo hi mx => cases mx with
    | none => exact LOk.of_pure fun ρ h => pure_sliceX h _ _ _ _
    | some m => exact LOk.fail
  | makeFunc fn first captured => exact LOk.of_pure fun ρ h => pure_makeFunc h _ _ _
  | call c =>
    obtain ⟨callee, args, argTypes⟩ := c
    cases callee with
    | value f =>
      cases f with
      | func f => exact ok_callH hX _ _ _
      | tmp t => exact ok_callV hX _ _ _
      | _ => exact LOk.fail
    | builtin b =>
      cases b with
      | append => exact ok_append _ _
      | _ => exact LOk.of_pure fun ρ h => pure_builtin h _ _ _
    | invoke r m => exact LOk.fail
  | _ => exact LOk.fail
end
end Go.Proofs.Ytgbgibbonhklgaa.Sx
namespace Go.Proofs.Ytgbgibbonhklgaa.Sx
open Go


def uniN (l m : List Nat) : List Nat := if l.isEmpty then m else l ++ m.filter fun i => !l.contains i
theorem mem_uniN {l m : List Nat} {i : Nat} : i ∈ uniN l m ↔ i ∈ l ∨ i ∈ m := by
  unfold uniN
  split
  · rename_i h; simp only [List.isEmpty_iff] at h; subst h; simp
  · simp only [List.mem_append, List.mem_filter]
    constructor
    · rintro (h | h)
      · exact .inl h
      · exact .inr h.1
    · rintro (h | h)
      · exact .inl h
      · by_cases h2 : i ∈ l
        · exact .inl h2
        · exact .inr ⟨h, by simpa using h2⟩
theorem pOf_true {rb : List Nat} {i : Nat} : pOf rb i = true ↔ i ∉ rb := by simp [pOf]
theorem ExtP.pmono {p q : Nat → Bool} {β β' : Beta} (h : ExtP p β β') (hp : ∀ i, q i = true → p i = true) : ExtP q β β' := fun i r h1 h2 => h i r h1 (h2.imp (fun x => x) (hp i))
theorem ExtP.uni {r1 r2 : List Nat} {β γ δ : Beta} (h1 : ExtP (pOf r2) β γ) (h2 : ExtP (pOf r1) γ δ) : ExtP (pOf (uniN r1 r2)) β δ := fun i r hi hr => by
  rcases hr with hr | hr
  · exact h2 i r (h1 i r hi (.inl hr)) (.inl hr)
  · rw [pOf_true, mem_uniN] at hr
    exact h2 i r (h1 i r hi (.inr (pOf_true.2 fun e => hr (.inr e)))) (.inr (pOf_true.2 fun e => hr (.inl e)))
def opS (P : Program) (X : Hnd) (gh : Hl) (ng : Nat) (ops : Array Oper) (o : Oper) (σ : St) : M St := do
  let g ← lift (gdOf ops σ o)
  match normG g with
  | none => do
    let tm ← lift (setT σ.tm o.dst undefSV)
    pure { tm := tm, hp := σ.hp, rb := σ.rb, js := σ.js }
  | some Γ => do
    let r ← M.mono (M.under Γ (opx P X Γ (hpX gh ng σ.hp) (ev ng σ) o.op))
    let tm ← lift (setT (jkTm r.rb σ.tm) o.dst { g := Γ, s := r.s })
    let hp ← M.mono (do
      let sel ← (if r.w.isEmpty || Γ.isEmpty then pure (.c (Γ.isEmpty)) else gAtom Γ)
      layB Γ sel (jkHp r.rb σ.hp) r.w)
    pure { tm := tm, hp := hp, rb := uniN r.rb σ.rb, js := σ.js }
def regL (P : Program) (X : Hnd) (gh : Hl) (ng : Nat) (ops : Array Oper) : List Oper → St → M St
  | [], σ => pure σ
  | o :: l, σ => do
    let σ' ← opS P X gh ng ops o σ
    regL P X gh ng ops l σ'

section
variable {P : Program} {Φ : Funs} {X : Hnd} {x : Cx} {ρ : Env}

theorem ofC_ids (v : Value) : (ofC v).ids = [] := by
  unfold ofC
  split
  · split <;> rfl
  · rfl
  · rfl
theorem ghOf_ids : ∀ {gl : Gl} {g id : Nat} {b : Blk}, hpOf (ghOf gl g) id = some b → ∀ (j : Nat) (c : C), b.cells[j]? = some c → c.ids = []
  | [], g, id, b, h, j, c, hj => by simp [ghOf, hpOf] at h
  | vs :: l, g, id, b, h, j, c, hj => by
    unfold ghOf hpOf at h
    split at h
    · cases h
      rw [List.getElem?_map, Option.map_eq_some_iff] at hj
      obtain ⟨v, _, rfl⟩ := hj
      exact ofC_ids v
    · exact ghOf_ids h j c hj
theorem opS_sound (hX : HOk P Φ x.gl X) (hG : ∀ w, Keep x.R x.w0 w → Laid x.gl w) {ops : Array Oper} {o : Oper} {σ σ' : St} {c c' : Ctr} {out : List Em} (h : opS P X x.gh x.ng ops o σ c = some (σ', c', out)) (hg : Good Φ ρ out)
    {β : Beta} {a : Act} {w : World} (hR : Rel x ρ β σ a w) (hf : Fresh β c) (next : Act → World → Prop) (Q : Exit → Act → World → Prop)
    (hn : ∀ β' a' w', Ext β β' → Rel x ρ β' σ' a' w' → Fresh β' c' → next a' w') :
    if Region.wanted o (yielded ops a.tmps) then o.wp P a w next Q else next (a.put o.dst undef) w := by
  unfold opS at h
  obtain ⟨g, c1, o1, c2, o2, y, h1, h2, he⟩ := M.bind_inv h
  obtain ⟨g', hgd, he1⟩ := lift_inv h1
  simp only [Prod.mk.injEq] at he1 he
  obtain ⟨rfl, rfl, rfl⟩ := he1
  obtain ⟨rfl, rfl, rfl⟩ := he
  rw [gdOf_wanted hR hgd]
  cases hno : normG g with
  | none =>
    rw [hno] at h2
    rw [normG_none (ρ := ρ) hno]
    simp only [Bool.false_eq_true, if_false]
    obtain ⟨tm, c3, o3, c4, o4, y, h3, h4, he⟩ := M.bind_inv h2
    obtain ⟨tm', ht, he3⟩ := lift_inv h3
    simp only [Prod.mk.injEq] at he3 he
    obtain ⟨rfl, rfl, rfl⟩ := he3
    have he4 := M.pure_inv h4
    simp only [Prod.mk.injEq] at he4
    obtain ⟨rfl, rfl, rfl⟩ := he4
    obtain ⟨rfl, rfl, rfl⟩ := he
    obtain ⟨s1, s2⟩ := slot_put (dst := o.dst) hR.size hR.slot ht undefSV_mt
    exact hn β _ w (Ext.refl β) ⟨s1, s2, hR.df.put _ _, hR.hm, hR.gm, hR.gro, hR.bo, hR.kp, hR.gl, hR.ra, hR.eb⟩ hf
  | some Γ =>
    rw [hno] at h2
    obtain ⟨r, c3, o3, c4, o4, y, h3, h4, he⟩ := M.bind_inv h2
    obtain ⟨h3, hle1⟩ := mono_inv h3
    obtain ⟨r', c3', o3', h3', he3⟩ := under_inv h3
    simp only [Prod.mk.injEq] at he3 he
    obtain ⟨rfl, rfl, rfl⟩ := he3
    obtain ⟨tm, c5, o5, c6, o6, y', h5, h6, he'⟩ := M.bind_inv h4
    obtain ⟨tm', ht, he5⟩ := lift_inv h5
    simp only [Prod.mk.injEq] at he5 he'
    obtain ⟨rfl, rfl, rfl⟩ := he5
    obtain ⟨hp, c7, o7, c8, o8, y'', h7, h8, he''⟩ := M.bind_inv h6
    obtain ⟨h7, hle2⟩ := mono_inv h7
    have he8 := M.pure_inv h8
    simp only [Prod.mk.injEq] at he8 he''
    obtain ⟨rfl, rfl, rfl⟩ := he8
    obtain ⟨rfl, rfl, rfl⟩ := he''
    obtain ⟨rfl, rfl, rfl⟩ := he'
    obtain ⟨rfl, rfl, rfl⟩ := he
    simp only [List.nil_append, List.append_nil] at hg
    rw [Good.append] at hg
    obtain ⟨hg1, hg2⟩ := hg
    have hΓe := normG_some (ρ := ρ) hno
    obtain ⟨sel, c9, o9, c10, o10, y3, h9, h10, he3⟩ := M.bind_inv h7
    simp only [Prod.mk.injEq] at he3
    obtain ⟨rfl, rfl, rfl⟩ := he3
    rw [Good.append] at hg2
    have hsel : (sel.d ρ = Gd.d ρ Γ) ∨ r.w = [] := by
      split at h9
      · rename_i hc
        have he := M.pure_inv h9
        simp only [Prod.mk.injEq] at he
        obtain ⟨rfl, _⟩ := he
        simp only [Bool.or_eq_true, List.isEmpty_iff] at hc
        rcases hc with h | h
        · exact .inr h
        · left; rw [h]; rfl
      · exact .inl (gAtom_snd Γ _ _ _ _ h9 hg2.1)
    simp only at hle1 hle2
    cases hgg : Gd.d ρ g
    · simp only [Bool.false_eq_true, if_false]
      rw [hgg] at hΓe
      have hlay : ∀ β w, heapMt β ρ (hpOf (jkHp r.rb σ.hp)) w → heapMt β ρ (hpOf hp) w := by
        rcases hsel with hsel | hsel
        · exact layB_idle (Φ := Φ) hΓe (by rw [hsel, hΓe]) r.w _ _ _ _ h10 hg2.2
        · rw [hsel] at h10
          have he := M.pure_inv h10
          simp only [Prod.mk.injEq] at he
          obtain ⟨rfl, _⟩ := he
          exact fun β w h => h
      have hmv : Mv (pOf r.rb) β β := Mv.of hR.bo (ExtP.refl _ _)
      obtain ⟨s1, s2⟩ := slot_put (v := undef) (dst := o.dst) (hR.size.trans jkTm_len.symm) (fun t y hy => by
        rw [jkTm_get, Option.map_eq_some_iff] at hy
        obtain ⟨u, hu, rfl⟩ := hy
        exact SV.jk_mt hmv (hR.slot t u hu)) ht ⟨fun h => (by simp only at h; rw [hΓe] at h; cases h), fun _ => rfl⟩
      refine hn β _ w (Ext.refl β) ⟨s1, s2, hR.df.put _ _, hlay β w ?_, hR.gm, hR.gro, hR.bo, hR.kp, hR.gl, hR.ra, ?_⟩ (hf.le (by omega))
      · intro id b hb hbg
        rw [jkHp_of, Option.map_eq_some_iff] at hb
        obtain ⟨b0, hb0, rfl⟩ := hb
        have hm0 := hR.hm id b0 hb0 hbg
        have : ∀ p, Mv p β β := fun p => Mv.of hR.bo (ExtP.refl _ _)
        cases hv : vecOf b0.cells with
        | none => exact blkMt_jk hmv (.inl hv) (fun _ _ _ _ => ⟨rfl, rfl⟩) hm0
        | some y =>
          have e : (b0.jk (pOf r.rb)).cells = b0.cells := by
            have e1 := vecOf_spec hv
            unfold Blk.jk jkL
            simp only
            rw [e1]
            simp [vec_jk]
          exact blkMt_g (b := b0) (b' := b0.jk (pOf r.rb)) rfl e.symm hm0
      · exact ExtP.uni hR.eb (ExtP.refl _ _)
    · simp only [if_true]
      rw [hgg] at hΓe
      have hg1' := Good.under hΓe hg1
      have hlok := opx_ok (Γ := Γ) (hp := hpX x.gh x.ng σ.hp) (rv := ev x.ng σ) hX o ρ _ _ _ _ h3' hg1' hΓe x.w0.heap.size x.R x.Q β a w (fun z _ => ev_mt hR z) hR.hx hR.bo hR.kp.size ⟨hG w hR.kp, hR.gl⟩
        (fun i hi _ => hf i hi)
      refine hlok next Q fun v w' hpost => ?_
      obtain ⟨β', hst, hsv, hbl⟩ := hpost
      have hlay : ∀ (β : Beta) (w : World), (∀ p, p ∈ r.w → blkMt β ρ w p.1 p.2) → (∀ id b, hpOf (jkHp r.rb σ.hp) id = some b → id ∉ r.w.map (·.1) → Gd.d ρ b.g = true → blkMt β ρ w id b) → heapMt β ρ (hpOf hp) w := by
        rcases hsel with hsel | hsel
        · exact layB_ran (Φ := Φ) hΓe (by rw [hsel, hΓe]) r.w _ _ _ _ h10 hg2.2
        · rw [hsel] at h10 ⊢
          have he := M.pure_inv h10
          simp only [Prod.mk.injEq] at he
          obtain ⟨rfl, _⟩ := he
          exact fun β w _ h id b hb hg => h id b hb (by simp) hg
      obtain ⟨W, hW, hkW⟩ := hst.kp
      have hmv : Mv (pOf r.rb) β β' := Mv.of hR.bo hst.ext
      obtain ⟨s1, s2⟩ := slot_put (v := v) (β := β') (dst := o.dst) (hR.size.trans jkTm_len.symm) (fun t y hy => by
        rw [jkTm_get, Option.map_eq_some_iff] at hy
        obtain ⟨u, hu, rfl⟩ := hy
        exact SV.jk_mt hmv (hR.slot t u hu)) ht ⟨fun _ => hsv, fun h => (by simp only at h; rw [hΓe] at h; cases h)⟩
      refine hn β' _ w' hst.ext.ext ⟨s1, s2, (hR.df.keep hkW (fun r hr => by obtain ⟨_, _, _, _, h⟩ := hW r hr; exact h)).put _ _, hlay β' w' hbl fun id b hb hni hbg => ?_, fun id b hb hbg => ?_, hR.gro, hst.bo, hR.kp.trans hkW fun r hr => ?_, fun g vs hg => hst.ext.at (hR.gl g vs hg) rfl, fun j r hr => ⟨(hR.ra j r hr).1, hst.ext.at (hR.ra j r hr).2 (hR.ra j r hr).1⟩, ExtP.uni hR.eb hst.ext⟩ (fun i hi => ?_)
      · rw [jkHp_of, Option.map_eq_some_iff] at hb
        obtain ⟨b0, hb0, rfl⟩ := hb
        refine blkMt_keep hst.ext hR.bo hkW (.inr (pOf_true.2 fun e => hni (hst.rbs id e).1)) (fun r q hr hq => ?_) (hR.hm id b0 hb0 hbg)
        obtain ⟨id', hid', hβ', hro, _⟩ := hW r hr
        exact hR.bo.apartW (i := id') (j := id) (fun e => hni (e ▸ hid')) hβ' hq hro
      · have hgm := hR.gm id b hb hbg
        have hgr := hR.gro _ b hb
        have hvn : vecOf b.cells = none := by
          cases hv : vecOf b.cells with
          | none => rfl
          | some y => have := ((blkMt_row hv).1 hgm).1; rw [hgr] at this; cases this
        have hm2 := blkMt_keep hst.ext hR.bo hkW (id := id) (.inl hvn) (fun r q hr hq => ?_) hgm
        · obtain ⟨q', hq', hrow, hl', hro', hcs, hfz⟩ := (blkMt_cs hvn).1 hgm
          refine (blkMt_cs hvn).2 ⟨q', hst.ext.at hq' hrow, hrow, hl', hro', ?_, fun h0 => by rw [hgr] at h0; cases h0⟩
          obtain ⟨q2, hq2, _, _, _, hcs2, _⟩ := (blkMt_cs (b := b.jk (pOf r.rb)) (by unfold Blk.jk; simp only; rw [vecOf_jk]; exact hvn)).1 hm2
          rw [hst.ext.at hq' hrow] at hq2
          cases hq2
          rw [cellsAt_iff] at hcs2 ⊢
          intro j cc hj
          obtain ⟨v1, hv1, _⟩ := hcs2 j (cc.jk (pOf r.rb)) (by unfold Blk.jk jkL; simp [hj])
          rw [cellsAt_iff] at hcs
          obtain ⟨v2, hv2, hm3⟩ := hcs j cc hj
          have hids := ghOf_ids hb j cc hj
          refine ⟨v1, hv1, ?_⟩
          have : v1 = v2 := by
            by_cases hlen : q'.len = 0
            · have := (List.getElem?_eq_some_iff.1 hj).1; omega
            · have hpl := (hR.bo.place id q' hq').resolve_left hlen
              have hk1 := hkW.cell ⟨q'.blk, q'.off + j, none⟩ hpl (fun r hr hi => by
                obtain ⟨id', hid', hβ', hro, _⟩ := hW r hr
                have hne : id' ≠ id := fun e => by subst e; rw [hβ'] at hq'; cases hq'; rw [hro] at hro'; rw [hgr] at hro'; cases hro'
                have hap := hR.bo.apartW hne hβ' hq' hro
                have hjl := (List.getElem?_eq_some_iff.1 hj).1
                unfold inRg at hi
                unfold Rg.apart at hap
                simp only at hi
                omega)
              rw [hv1, hv2] at hk1
              exact Option.some.inj hk1
          subst this
          exact C.mt_ids (p := pOf r.rb) hmv.h hmv.sq (by rw [hids]; rfl) hm3
        · obtain ⟨id', hid', hβ', hro, _⟩ := hW r hr
          refine hR.bo.apartW (fun e => ?_) hβ' hq hro
          subst e
          obtain ⟨q', hq', _, _, hro', _⟩ := (blkMt_cs hvn).1 hgm
          rw [hβ'] at hq'
          cases hq'
          rw [hro, hgr] at hro'
          cases hro'
      · obtain ⟨id', hid', hβ', hro, _⟩ := hW r hr
        rcases hR.bo.may id' r hβ' with h | h
        · rw [hro] at h; cases h
        · exact h
      · by_cases hir : i ∈ r.rb
        · obtain ⟨_, _, q, hq, _⟩ := hst.rbs i hir
          rw [hf i (by omega)] at hq
          cases hq
        · rw [hst.dom i (.inr (by omega)) hir]
          exact hf i (by omega)

theorem regL_sound (hX : HOk P Φ x.gl X) (hG : ∀ w, Keep x.R x.w0 w → Laid x.gl w) {ops : Array Oper} {Q : Exit → Act → World → Prop} : ∀ (l : List Oper) {σ σ' : St} {c c' : Ctr} {out : List Em}, regL P X x.gh x.ng ops l σ c = some (σ', c', out) → Good Φ ρ out →
    ∀ {β : Beta} {a : Act} {w : World}, Rel x ρ β σ a w → Fresh β c → (∀ β' a' w', Ext β β' → Rel x ρ β' σ' a' w' → Fresh β' c' → Q .normal a' w') → wpList P ops Q l a w
  | [], σ, σ', c, c', out, h, hg, β, a, w, hR, hf, hn => by
    have he := M.pure_inv h
    simp only [Prod.mk.injEq] at he
    obtain ⟨rfl, rfl, rfl⟩ := he
    exact hn β a w (Ext.refl β) hR hf
  | o :: l, σ, σ', c, c', out, h, hg, β, a, w, hR, hf, hn => by
    obtain ⟨σ1, c1, o1, c2, o2, y, h1, h2, he⟩ := M.bind_inv h
    simp only [Prod.mk.injEq] at he
    obtain ⟨rfl, rfl, rfl⟩ := he
    rw [Good.append] at hg
    refine wpList_step fun K hK => ?_
    refine opS_sound hX hG h1 hg.1 hR hf K Q fun β' a' w' he' hR' hf' => hK _ _ ?_
    exact regL_sound hX hG l h2 hg.2 hR' hf' fun β'' a'' w'' he'' hR'' hf'' => hn β'' a'' w'' (he'.trans he'') hR'' hf''
end

/-! ### Two frames aS one -/
def muxSV (sel : B) (u v : SV) : M SV :=
  if u.g.isEmpty && v.g.isEmpty then do pure { g := [], s := ← muxS sel u.s v.s } else pure anySV
def muxTm (sel : B) : List Bool → List SV → List SV → M (List SV)
  | _, [], [] => pure []
  | k, u :: us, v :: vs => do
    let z ← (if k.headD false then muxSV sel u v else pure anySV)
    let zs ← muxTm sel k.tail us vs
    pure (z :: zs)
  | _, _, _ => M.fail
def dedup : List Nat → List Nat
  | [] => []
  | i :: l => if l.contains i then dedup l else i :: dedup l
def muxHp (sel : B) (h1 h2 : Hl) : List Nat → M Hl
  | [] => pure []
  | i :: l => do
    let r ← muxHp sel h1 h2 l
    match hpOf h1 i, hpOf h2 i with
    | some b1, some b2 =>
      if b1.g.isEmpty && b2.g.isEmpty && b1.ro == b2.ro && b1.cells.length == b2.cells.length && (vecOf b1.cells).isSome == (vecOf b2.cells).isSome then do
        let z ← muxBl sel b1.cells b2.cells
        pure ((i, { g := [], ro := b1.ro, cells := z }) :: r)
      else pure r
    | _, _ => pure r
def muxJs (sel : B) (u v : Js) : M Js :=
  if u.b.eq v.b && u.a.eq v.a then pure u else do
    let b ← mkIteB sel u.b v.b
    let a ← mkIteI sel u.a v.a
    pure { b := b, a := a }
theorem muxJs_snd {Φ : Funs} {ρ : Env} (sel : B) (u v : Js) : Snd Φ ρ (muxJs sel u v) (fun z => z.b.d ρ = (if sel.d ρ then u.b.d ρ else v.b.d ρ) ∧ z.a.d ρ = if sel.d ρ then u.a.d ρ else v.a.d ρ) := by
  unfold muxJs
  split
  · rename_i h
    simp only [Bool.and_eq_true] at h
    exact Snd.pure ⟨by rw [B.eq_sound h.1]; simp, by rw [A.eq_sound h.2]; simp⟩
  · exact Snd.bind (mkIteB_snd sel u.b v.b) fun b hb => Snd.bind (mkIteI_snd sel u.a v.a) fun a ha => Snd.pure ⟨hb, ha⟩
def muxSt (keep : List Bool) (sel : B) (u v : St) : M St := do
  let tm ← muxTm sel keep u.tm v.tm
  let hp ← muxHp sel u.hp v.hp (dedup (u.hp.map (·.1)))
  let js ← muxJs sel u.js v.js
  pure { tm := tm, hp := hp, rb := uniN u.rb v.rb, js := js }

section
variable {Φ : Funs} {x : Cx} {ρ : Env}
theorem muxSV_snd (sel : B) (u v : SV) : Snd Φ ρ (muxSV sel u v) (fun z => ∀ β y, (if sel.d ρ then u.mt β ρ y else v.mt β ρ y) → z.mt β ρ y) := by
  unfold muxSV
  split
  · rename_i hc
    simp only [Bool.and_eq_true, List.isEmpty_iff] at hc
    refine Snd.bind (muxS_snd sel u.s v.s) fun s hs => Snd.pure fun β y h => ⟨fun _ => hs β y ?_, fun h => (by cases h)⟩
    split at h
    · rename_i hb; rw [if_pos hb]; exact h.1 (by rw [hc.1]; rfl)
    · rename_i hb; rw [if_neg hb]; exact h.1 (by rw [hc.2]; rfl)
  · exact Snd.pure fun β y _ => anySV_mt y
theorem muxTm_snd (sel : B) : ∀ (k : List Bool) (us vs : List SV), Snd Φ ρ (muxTm sel k us vs) (fun zs => zs.length = us.length ∧ us.length = vs.length ∧ ∀ (t : Nat) (z : SV), zs[t]? = some z → ∃ u v, us[t]? = some u ∧ vs[t]? = some v ∧
    ∀ β y, (if sel.d ρ then u.mt β ρ y else v.mt β ρ y) → z.mt β ρ y)
  | k, [], [] => by
    unfold muxTm
    exact Snd.pure ⟨rfl, rfl, fun t z h => by simp at h⟩
  | k, u :: us, v :: vs => by
    unfold muxTm
    refine Snd.bind (p := fun z => ∀ β y, (if sel.d ρ then u.mt β ρ y else v.mt β ρ y) → z.mt β ρ y) ?_ fun z hz => Snd.bind (muxTm_snd sel k.tail us vs) fun zs hzs => Snd.pure ?_
    · split
      · exact muxSV_snd sel u v
      · exact Snd.pure fun β y _ => anySV_mt y
    · obtain ⟨h1, h2, h3⟩ := hzs
      refine ⟨by simp [h1], by simp [h2], fun t q hq => ?_⟩
      cases t with
      | zero => simp at hq; subst hq; exact ⟨u, v, by simp, by simp, hz⟩
      | succ t => simp at hq; simpa using h3 t q hq
  | k, [], _ :: _ => by unfold muxTm; exact Snd.fail
  | k, _ :: _, [] => by unfold muxTm; exact Snd.fail
theorem muxHp_snd (sel : B) (h1 h2 : Hl) : ∀ (l : List Nat), Snd Φ ρ (muxHp sel h1 h2 l) (fun r => ∀ β w, (if sel.d ρ then heapMt β ρ (hpOf h1) w else heapMt β ρ (hpOf h2) w) → heapMt β ρ (hpOf r) w)
  | [] => Snd.pure fun β w _ id b hb => by simp [hpOf] at hb
  | i :: l => by
    unfold muxHp
    refine Snd.bind (muxHp_snd sel h1 h2 l) fun r hr => ?_
    split
    · rename_i b1 b2 hb1 hb2
      split
      · rename_i hc
        simp only [Bool.and_eq_true, List.isEmpty_iff, beq_iff_eq] at hc
        obtain ⟨⟨⟨⟨hg1, hg2⟩, hro⟩, hlen⟩, _⟩ := hc
        refine Snd.bind (muxBl_snd sel b1.cells b2.cells) fun z hz => Snd.pure fun β w h id b hb hg => ?_
        unfold hpOf at hb
        split at hb
        · rename_i he
          simp only [beq_iff_eq] at he
          subst he
          simp only [Option.some.injEq] at hb
          subst hb
          refine hz.2.2 β w _ [] [] b1.ro ?_
          by_cases hs : sel.d ρ = true
          · rw [if_pos hs] at h ⊢
            exact blkMt_g rfl rfl (h _ b1 hb1 (by rw [hg1]; rfl))
          · rw [if_neg hs] at h ⊢
            exact blkMt_g hro.symm rfl (h _ b2 hb2 (by rw [hg2]; rfl))
        · exact hr β w h id b hb hg
      · exact Snd.pure hr
    · exact Snd.pure hr
theorem muxSt_snd (keep : List Bool) (sel : B) (u v : St) : Snd Φ ρ (muxSt keep sel u v) (fun z => ∀ β a w, (if sel.d ρ then Rel x ρ β u a w else Rel x ρ β v a w) → Rel x ρ β z a w) := by
  unfold muxSt
  refine Snd.bind (muxTm_snd sel keep u.tm v.tm) fun tm htm => Snd.bind (muxHp_snd sel u.hp v.hp _) fun hp hhp => Snd.bind (muxJs_snd sel u.js v.js) fun js hjs => Snd.pure fun β a w h => ?_
  obtain ⟨h1, h2, h3⟩ := htm
  have hm := hhp β w (by
    split at h
    · rename_i hs; rw [if_pos hs]; exact h.hm
    · rename_i hs; rw [if_neg hs]; exact h.hm)
  have hsl : ∀ (t : Nat) (z : SV), tm[t]? = some z → z.mt β ρ (a.tmps.getD t undef) := fun t z hz => by
    obtain ⟨p, q, hp, hq, hpq⟩ := h3 t z hz
    refine hpq β _ ?_
    split at h
    · rename_i hs; rw [if_pos hs]; exact h.slot t p hp
    · rename_i hs; rw [if_neg hs]; exact h.slot t q hq
  split at h
  · rename_i hs
    exact ⟨by rw [h.size, h1], hsl, h.df.js (by rw [hjs.1, if_pos hs]) (by rw [hjs.2, if_pos hs]), hm, h.gm, h.gro, h.bo, h.kp, h.gl, h.ra, ExtP.pmono h.eb fun i hi => by
      have h1 := pOf_true.1 hi
      rw [mem_uniN] at h1
      exact pOf_true.2 fun e => h1 (.inl e)⟩
  · rename_i hs
    exact ⟨by rw [h.size, h1, h2], hsl, h.df.js (by rw [hjs.1, if_neg hs]) (by rw [hjs.2, if_neg hs]), hm, h.gm, h.gro, h.bo, h.kp, h.gl, h.ra, ExtP.pmono h.eb fun i hi => by
      have h1 := pOf_true.1 hi
      rw [mem_uniN] at h1
      exact pOf_true.2 fun e => h1 (.inr e)⟩
end

end Go.Proofs.Ytgbgibbonhklgaa.Sx
