/-
  SX, part J: the operation that calls a function, by its contract. No condition.
-/
import Derived.Test.YtalnndmnnffnmaaGreatSxI
set_option linter.unusedVariables false
set_option linter.unusedSimpArgs false
namespace Go.Proofs.YtalnndmnnffnmaaGreat.Sx
open Go

/-! ### Slices that are handed in -/
theorem seq_read {w : World} {b : Nat} {ks : List CK} : ∀ {l : List Int} {o j : Nat}, (∀ (i : Nat) (n : Int), l[i]? = some n → ∃ ck v, ks[(j + i) % ks.length]? = some ck ∧ w.cell? ⟨b, o + i, none⟩ = some v ∧ ckv ck n v) →
    ∃ us, readCells w b o l.length = some us ∧ decVs ks j us = some l
  | [], o, j, _ => ⟨[], rfl, rfl⟩
  | n :: l, o, j, h => by
    obtain ⟨ck, v, h1, h2, h3⟩ := h 0 n (by simp)
    rw [Nat.add_zero] at h1 h2
    obtain ⟨us, g1, g2⟩ := seq_read (ks := ks) (l := l) (o := o + 1) (j := j + 1) fun i m hm => by
      obtain ⟨ck, v, h1, h2, h3⟩ := h (i + 1) m (by simpa using hm)
      exact ⟨ck, v, by rw [show j + 1 + i = j + (i + 1) by omega]; exact h1, by rw [show o + 1 + i = o + (i + 1) by omega]; exact h2, h3⟩
    refine ⟨v :: us, ?_, ?_⟩
    · simp only [List.length_cons, readCells, h2, g1]
    · unfold decVs
      rw [h1, g2]
      cases ck with
      | int k =>
        obtain ⟨rfl, h4⟩ := h3
        simp [decV, inR_mk h4]
      | bool =>
        obtain ⟨h4, rfl⟩ := h3
        rcases h4 with rfl | rfl <;> simp [decV]
      | str =>
        obtain ⟨s, rfl, rfl, h4⟩ := h3
        simp [decV, inR_mk h4]
      | pt _ _ => exact h3.elim
theorem seq_of_read {w : World} {b : Nat} {ks : List CK} : ∀ {us : List Value} {l : List Int} {o j : Nat}, decVs ks j us = some l → (∀ i v, us[i]? = some v → w.cell? ⟨b, o + i, none⟩ = some v) → us.length = l.length ∧
    ∀ (i : Nat) (n : Int), l[i]? = some n → ∃ ck v, ks[(j + i) % ks.length]? = some ck ∧ w.cell? ⟨b, o + i, none⟩ = some v ∧ ckv ck n v
  | [], l, o, j, h, _ => by simp only [decVs, Option.some.injEq] at h; subst h; exact ⟨rfl, fun i n h => by simp at h⟩
  | v :: us, l, o, j, h, hc => by
    unfold decVs at h
    split at h
    · rename_i ck l' h1 h2
      cases hd : decV ck v with
      | none => rw [hd] at h; simp at h
      | some m =>
        rw [hd] at h
        simp only [Option.map_some, Option.some.injEq] at h
        subst h
        obtain ⟨e1, e2⟩ := seq_of_read (b := b) (w := w) (o := o + 1) h2 (fun i v hv => by rw [show o + 1 + i = o + (i + 1) by omega]; exact hc (i + 1) v (by simpa using hv))
        refine ⟨by simp [e1], fun i n hn => ?_⟩
        cases i with
        | zero =>
          simp at hn
          subst hn
          refine ⟨ck, v, by simpa using h1, hc 0 v (by simp), ?_⟩
          cases ck with
          | int k =>
            cases v <;> simp only [decV] at hd <;> (try (cases hd; done))
            split at hd
            · rename_i hk
              simp only [Bool.and_eq_true, beq_iff_eq] at hk
              obtain ⟨rfl, hk⟩ := hk
              cases hd
              exact ⟨rfl, inR_spec hk⟩
            · cases hd
          | bool =>
            cases v <;> simp only [decV, Option.some.injEq] at hd <;> (try (cases hd; done))
            rename_i bb
            subst hd
            cases bb
            · exact ⟨.inl rfl, rfl⟩
            · exact ⟨.inr rfl, rfl⟩
          | str =>
            cases v <;> simp only [decV] at hd <;> (try (cases hd; done))
            rename_i s
            split at hd
            · rename_i hk
              simp only [Option.some.injEq] at hd
              exact ⟨s, rfl, hd.symm, inR_spec hk⟩
            · cases hd
          | pt _ _ => simp [decV] at hd
        | succ i =>
          obtain ⟨ck, v, g1, g2, g3⟩ := e2 i n (by simpa using hn)
          exact ⟨ck, v, by rw [show j + (i + 1) = j + 1 + i by omega]; exact g1, by rw [show o + (i + 1) = o + 1 + i by omega]; exact g2, g3⟩
    · cases h
theorem flatSl_of {β : Beta} {ρ : Env} {w : World} (hq : SqOk β w) {id : Nat} {ks : List CK} {q len : A} {v : Value} (h : (C.slx id ks q len).mt β ρ v) :
    ∃ l r, flatSl w ks v = some (l, len.d ρ, r) ∧ enc l = q.d ρ ∧ ∀ r', r = some r' → ∃ i r0, β i = some r0 ∧ r0.ro = true ∧ r'.blk = r0.blk ∧ r'.off = r0.off ∧ r'.len = r0.len := by
  obtain ⟨h1, h2, h3⟩ := h
  rcases h3 with ⟨e1, e2, p, cap, rfl⟩ | ⟨r, cap, l, hr, hs, e1, e2, e3, rfl⟩
  · refine ⟨[], none, ?_, e1.symm, fun r' hr' => by cases hr'⟩
    simp [flatSl, e2]
  · obtain ⟨g1, g2, g3⟩ := hq id r ks l hr hs
    obtain ⟨us, k1, k2⟩ := seq_read (j := 0) (fun i n hn => by simpa using g3 i n hn)
    refine ⟨l, some { blk := r.blk, off := r.off, len := (len.d ρ).toNat * ks.length, ro := true, sq := some (ks, l) }, ?_, e1.symm, fun r' hr' => ⟨id, r, hr, g1, ?_⟩⟩
    · unfold flatSl
      have hn0 : ((len.d ρ).toNat == 0) = false := by simp; omega
      have hin : inR .i64 ((len.d ρ).toNat : Int) = true := by rw [Int.toNat_of_nonneg h1]; exact inR_mk h2
      rw [e3] at k1
      simp only [hn0, Bool.false_eq_true, if_false, hin, if_true, k1, Option.bind_some, k2]
      rw [Int.toNat_of_nonneg h1]
    · simp only [Option.some.injEq] at hr'
      subst hr'
      exact ⟨rfl, rfl, by simp only; omega⟩
theorem flatSl_mt {β : Beta} {ρ : Env} {w : World} {id : Nat} {ks : List CK} {q len : A} {v : Value} {l : List Int} {n : Int} {r : Option Rg} (h : flatSl w ks v = some (l, n, r)) (hr : ∀ r', r = some r' → β id = some r') (hq : q.d ρ = enc l) (hn : len.d ρ = n) :
    (C.slx id ks q len).mt β ρ v := by
  unfold flatSl at h
  split at h
  · rename_i p len' cap
    split at h
    · rename_i h0
      simp only [beq_iff_eq] at h0
      subst h0
      simp only [Option.some.injEq, Prod.mk.injEq] at h
      obtain ⟨rfl, rfl, rfl⟩ := h
      exact ⟨by rw [hn]; decide, by rw [hn]; unfold InR; decide, .inl ⟨hq, hn, p, cap, rfl⟩⟩
    · rename_i h0
      simp only [beq_iff_eq] at h0
      split at h
      · rename_i b o
        split at h
        · rename_i hin
          split at h
          · rename_i l' hl
            simp only [Option.some.injEq, Prod.mk.injEq] at h
            obtain ⟨rfl, rfl, rfl⟩ := h
            cases hrd : readCells w b o (len' * ks.length) with
            | none => rw [hrd] at hl; simp at hl
            | some us =>
              rw [hrd] at hl
              simp only [Option.bind_some] at hl
              obtain ⟨g1, g2⟩ := readCells_get hrd
              obtain ⟨g3, g4⟩ := seq_of_read (b := b) (o := o) (w := w) hl g2
              refine ⟨by rw [hn]; omega, by rw [hn]; exact inR_spec hin, .inr ⟨_, cap, l', hr _ rfl, rfl, hq, by rw [hn]; omega, by rw [hn, Int.toNat_natCast]; omega, by rw [hn, Int.toNat_natCast]⟩⟩
          · cases h
        · cases h
      · cases h
  · cases h
theorem flatSl_sq {w : World} {ks : List CK} {v : Value} {l : List Int} {n : Int} {r : Rg} (h : flatSl w ks v = some (l, n, some r)) : r.ro = true ∧ r.sq = some (ks, l) ∧ l.length = r.len ∧ seqAt w r.blk r.off ks l ∧ (ks ≠ [] → r.blk < w.heap.size) := by
  unfold flatSl at h
  split at h
  · rename_i p len' cap
    split at h
    · simp only [Option.some.injEq, Prod.mk.injEq] at h
      cases h.2.2
    · rename_i h0
      simp only [beq_iff_eq] at h0
      split at h
      · rename_i b o
        split at h
        · split at h
          · rename_i l' hl
            simp only [Option.some.injEq, Prod.mk.injEq] at h
            obtain ⟨rfl, rfl, rfl⟩ := h
            cases hrd : readCells w b o (len' * ks.length) with
            | none => rw [hrd] at hl; simp at hl
            | some us =>
              rw [hrd] at hl
              simp only [Option.bind_some] at hl
              obtain ⟨g1, g2⟩ := readCells_get hrd
              obtain ⟨g3, g4⟩ := seq_of_read (b := b) (o := o) (w := w) hl g2
              refine ⟨rfl, rfl, by simp only; omega, fun i n hn => by simpa using g4 i n hn, fun hk => ?_⟩
              have : 0 < ks.length := List.length_pos_iff.2 hk
              have : 0 < len' * ks.length := Nat.mul_pos (by omega) this
              have hu := g2 0 _ (List.getElem?_eq_getElem (by omega))
              exact World.block_lt_of_cell? w _ hu
          · cases h
        · cases h
      · cases h
  · cases h

/-- An address argument: its block, where in it, how many cells. -/
abbrev PP := List (Nat × Nat × Nat)

def takeArgs (Γ : Gd) (hp : Hp) : List Sh → List S → Option (List A × List B × PP)
  | [], [] => some ([], [], [])
  | .val agg l :: ss, .one agg' cs :: xs => match takeC l cs, takeArgs Γ hp ss xs with
    | some (a, b), some (as, bs, pp) => if agg == agg' && (agg || l.length == 1) then some (a ++ as, b ++ bs, pp) else none
    | _, _ => none
  | .ptr l :: ss, .one false [.ptr [] id off] :: xs => match (ldC Γ hp id off l.length).bind (takeC l), takeArgs Γ hp ss xs with
    | some (a, b), some (as, bs, pp) => if chk Γ hp l.length id off then some (a ++ as, b ++ bs, (id, off, l.length) :: pp) else none
    | _, _ => none
  | .sli ks :: ss, .one false [.slx id ks' q len] :: xs => match takeArgs Γ hp ss xs with
    | some (as, bs, pp) => if cksEq ks ks' then some (q :: len :: as, bs, pp) else none
    | none => none
  | _, _ => none

def ppR (β : Beta) : PP → List Rg → Prop
  | [], [] => True
  | p :: pp, q :: ps => (∃ r, β p.1 = some r ∧ q = { blk := r.blk, off := r.off + p.2.1, len := p.2.2, ro := false } ∧ p.2.1 + p.2.2 ≤ r.len ∧ r.ro = false) ∧ ppR β pp ps
  | _, _ => False

def mtAll (β : Beta) (ρ : Env) : List S → List Value → Prop
  | [], [] => True
  | s :: ss, v :: vs => s.mt β ρ v ∧ mtAll β ρ ss vs
  | _, _ => False

theorem chk_spec {Γ : Gd} {hp : Hp} {ρ : Env} {β : Beta} {w : World} (hΓ : Gd.d ρ Γ = true) (hh : heapMt β ρ hp w) {n i o : Nat} (h : chk Γ hp n i o = true) :
    ∃ b r, hp i = some b ∧ Gd.d ρ b.g = true ∧ β i = some r ∧ o + n ≤ r.len ∧ r.ro = false ∧ ∀ j, j < n → w.frozen? ⟨r.blk, r.off + o + j, none⟩ = false := by
  unfold chk at h
  split at h
  · rename_i b hb
    simp only [Bool.and_eq_true, Bool.not_eq_true', Nat.ble_eq] at h
    have hg := Gd.sub_d h.1.1 hΓ
    obtain ⟨r, hr, hl, hro, hc, hf⟩ := hh i b hb hg
    refine ⟨b, r, hb, hg, hr, by omega, hro.trans h.1.2, fun j hj => ?_⟩
    rw [Nat.add_assoc]
    exact hf h.1.2 _ (by omega)
  · cases h

theorem takeArgs_flat {Γ : Gd} {hp : Hp} {ρ : Env} {β : Beta} {w : World} (hΓ : Gd.d ρ Γ = true) (hh : heapMt β ρ hp w) (hsq : SqOk β w) : ∀ {ss : List Sh} {xs : List S} {vs : List Value} {as : List A} {bs : List B} {pp : PP},
    takeArgs Γ hp ss xs = some (as, bs, pp) → mtAll β ρ xs vs → ∃ ps, flatArgs ss vs w = some (as.map (A.d ρ), bs.map (B.d ρ), ps) ∧ ppR β pp ps ∧ frzL ps w ∧
      ∀ r, some r ∈ sliRgs ss vs w → ∃ i r0, β i = some r0 ∧ r0.ro = true ∧ r.blk = r0.blk ∧ r.off = r0.off ∧ r.len = r0.len
  | [], [], vs, as, bs, pp, h, hm => by
    simp only [takeArgs, Option.some.injEq, Prod.mk.injEq] at h
    obtain ⟨rfl, rfl, rfl⟩ := h
    cases vs with
    | nil => exact ⟨[], rfl, trivial, fun r hr => (by cases hr), fun r hr => (by simp [sliRgs] at hr)⟩
    | cons _ _ => exact hm.elim
  | .val agg l :: ss, .one agg' cs :: xs, vs, as, bs, pp, h, hm => by
    cases vs with
    | nil => exact hm.elim
    | cons v vs =>
      obtain ⟨h1, h2⟩ := hm
      unfold takeArgs at h
      split at h
      · rename_i a b as' bs' pp' ht hr
        split at h
        · rename_i hc
          simp only [Bool.and_eq_true, beq_iff_eq] at hc
          obtain ⟨rfl, hc⟩ := hc
          simp only [Option.some.injEq, Prod.mk.injEq] at h
          obtain ⟨rfl, rfl, rfl⟩ := h
          obtain ⟨ps, g1, g2, g3, g4⟩ := takeArgs_flat hΓ hh hsq hr h2
          have hf : flat1 [] agg l v = some (a.map (A.d ρ), b.map (B.d ρ)) := by
            unfold flat1
            cases agg
            · obtain ⟨c, rfl, hcm⟩ := h1
              simp only [Bool.false_or, beq_iff_eq] at hc
              match l, hc, ht with
              | [ck], _, ht =>
                simp only [Bool.false_eq_true, if_false]
                exact takeC_flat (vs := [v]) ht ⟨hcm, trivial⟩
            · obtain ⟨us, rfl, hcm⟩ := h1
              simp only [if_true]
              exact takeC_flat ht hcm
          refine ⟨ps, ?_, g2, g3, fun r hr => g4 r (by simpa [sliRgs] using hr)⟩
          unfold flatArgs
          rw [hf, g1]
          simp
        · cases h
      · cases h
  | .ptr l :: ss, .one false [.ptr [] id off] :: xs, vs, as, bs, pp, h, hm => by
    cases vs with
    | nil => exact hm.elim
    | cons v vs =>
      obtain ⟨h1, h2⟩ := hm
      unfold takeArgs at h
      split at h
      · rename_i a b as' bs' pp' ht hr
        split at h
        · rename_i hc
          simp only [Option.some.injEq, Prod.mk.injEq] at h
          obtain ⟨rfl, rfl, rfl⟩ := h
          obtain ⟨ps, g1, g2, g3, g4⟩ := takeArgs_flat hΓ hh hsq hr h2
          obtain ⟨bk, r, hb, hg, hβ, hle, hro, hf⟩ := chk_spec hΓ hh hc
          cases hl : ldC Γ hp id off l.length with
          | none => rw [hl] at ht; simp at ht
          | some cs =>
            rw [hl] at ht
            simp only [Option.bind_some] at ht
            obtain ⟨hlen, r', hr', hcs⟩ := ldC_spec hΓ hh hl
            rw [hβ] at hr'
            cases hr'
            obtain ⟨us, hul, hum, hu⟩ := cellsAt_values hcs
            obtain ⟨r'', hr'', hv⟩ := mt_cell (s := .one false [.ptr [] id off]) rfl h1
            simp only [pick] at hr'' hv
            rw [hβ] at hr''
            cases hr''
            refine ⟨{ blk := r.blk, off := r.off + off, len := l.length, ro := false } :: ps, ?_, ⟨⟨r, hβ, rfl, hle, hro⟩, g2⟩, ?_, fun r hr => g4 r (by simpa [sliRgs] using hr)⟩
            · unfold flatArgs
              subst hv
              simp only [g1]
              have hrd : readCells w r.blk (r.off + off) l.length = some us := by
                rw [← hlen, ← hul]; exact readCells_mk hu
              rw [hrd]
              simp only [Option.bind_some]
              rw [takeC_flat ht hum]
              simp
            · intro q hq j hj
              rcases List.mem_cons.1 hq with rfl | hq
              · exact hf j hj
              · exact g3 q hq j hj
        · cases h
      · cases h
  | .sli ks :: ss, .one false [.slx id ks' q len] :: xs, vs, as, bs, pp, h, hm => by
    cases vs with
    | nil => exact hm.elim
    | cons v vs =>
      obtain ⟨h1, h2⟩ := hm
      unfold takeArgs at h
      split at h
      · rename_i as' bs' pp' hr
        split at h
        · rename_i hk
          have := cksEq_sound hk
          subst this
          simp only [Option.some.injEq, Prod.mk.injEq] at h
          obtain ⟨rfl, rfl, rfl⟩ := h
          obtain ⟨ps, g1, g2, g3, g4⟩ := takeArgs_flat hΓ hh hsq hr h2
          obtain ⟨l, r, k1, k2, k3⟩ := flatSl_of hsq (mt_cell (s := .one false [.slx id ks q len]) rfl h1)
          refine ⟨ps, ?_, g2, g3, fun r' hr' => ?_⟩
          · unfold flatArgs
            rw [k1, g1]
            simp [k2]
          · unfold sliRgs at hr'
            rw [k1] at hr'
            rcases List.mem_cons.1 hr' with e | hr'
            · exact k3 r' e.symm
            · exact g4 r' hr'
        · cases h
      · cases h
  | [], _ :: _, _, _, _, _, h, _ => by simp [takeArgs] at h
  | .val _ _ :: _, [], _, _, _, _, h, _ => by simp [takeArgs] at h
  | .sli _ :: _, [], _, _, _, _, h, _ => by simp [takeArgs] at h
  | .sli _ :: _, .tup _ :: _, _, _, _, _, h, _ => by simp [takeArgs] at h
  | .sli _ :: _, .any :: _, _, _, _, _, h, _ => by simp [takeArgs] at h
  | .sli _ :: _, .one true _ :: _, _, _, _, _, h, _ => by simp [takeArgs] at h
  | .sli _ :: _, .one false [] :: _, _, _, _, _, h, _ => by simp [takeArgs] at h
  | .sli _ :: _, .one false (.int _ _ :: _) :: _, _, _, _, _, h, _ => by simp [takeArgs] at h
  | .sli _ :: _, .one false (.bool _ :: _) :: _, _, _, _, _, h, _ => by simp [takeArgs] at h
  | .sli _ :: _, .one false (.ptr _ _ _ :: _) :: _, _, _, _, _, h, _ => by simp [takeArgs] at h
  | .sli _ :: _, .one false (.pix _ _ _ _ _ _ :: _) :: _, _, _, _, _, h, _ => by simp [takeArgs] at h
  | .sli _ :: _, .one false (.sli _ _ _ _ :: _) :: _, _, _, _, _, h, _ => by simp [takeArgs] at h
  | .sli _ :: _, .one false (.pxq _ _ _ _ _ :: _) :: _, _, _, _, _, h, _ => by simp [takeArgs] at h
  | .sli _ :: _, .one false (.val _ :: _) :: _, _, _, _, _, h, _ => by simp [takeArgs] at h
  | .sli _ :: _, .one false (.str _ :: _) :: _, _, _, _, _, h, _ => by simp [takeArgs] at h
  | .sli _ :: _, .one false (.fn _ _ :: _) :: _, _, _, _, _, h, _ => by simp [takeArgs] at h
  | .sli _ :: _, .one false (.mp _ :: _) :: _, _, _, _, _, h, _ => by simp [takeArgs] at h
  | .sli _ :: _, .one false (.junk :: _) :: _, _, _, _, _, h, _ => by simp [takeArgs] at h
  | .sli _ :: _, .one false (.slx _ _ _ _ :: _ :: _) :: _, _, _, _, _, h, _ => by simp [takeArgs] at h
  | .ptr _ :: _, .one false (.slx _ _ _ _ :: _) :: _, _, _, _, _, h, _ => by simp [takeArgs] at h
  | .ptr _ :: _, .one false (.pxq _ _ _ _ _ :: _) :: _, _, _, _, _, h, _ => by simp [takeArgs] at h
  | .ptr _ :: _, [], _, _, _, _, h, _ => by simp [takeArgs] at h
  | .val _ _ :: _, .tup _ :: _, _, _, _, _, h, _ => by simp [takeArgs] at h
  | .val _ _ :: _, .any :: _, _, _, _, _, h, _ => by simp [takeArgs] at h
  | .ptr _ :: _, .tup _ :: _, _, _, _, _, h, _ => by simp [takeArgs] at h
  | .ptr _ :: _, .any :: _, _, _, _, _, h, _ => by simp [takeArgs] at h
  | .ptr _ :: _, .one true _ :: _, _, _, _, _, h, _ => by simp [takeArgs] at h
  | .ptr _ :: _, .one false [] :: _, _, _, _, _, h, _ => by simp [takeArgs] at h
  | .ptr _ :: _, .one false (.int _ _ :: _) :: _, _, _, _, _, h, _ => by simp [takeArgs] at h
  | .ptr _ :: _, .one false (.bool _ :: _) :: _, _, _, _, _, h, _ => by simp [takeArgs] at h
  | .ptr _ :: _, .one false (.pix _ _ _ _ _ _ :: _) :: _, _, _, _, _, h, _ => by simp [takeArgs] at h
  | .ptr _ :: _, .one false (.sli _ _ _ _ :: _) :: _, _, _, _, _, h, _ => by simp [takeArgs] at h
  | .ptr _ :: _, .one false (.val _ :: _) :: _, _, _, _, _, h, _ => by simp [takeArgs] at h
  | .ptr _ :: _, .one false (.junk :: _) :: _, _, _, _, _, h, _ => by simp [takeArgs] at h
  | .ptr _ :: _, .one false (.ptr (_ :: _) _ _ :: _) :: _, _, _, _, _, h, _ => by simp [takeArgs] at h
  | .ptr _ :: _, .one false (.ptr [] _ _ :: _ :: _) :: _, _, _, _, _, h, _ => by simp [takeArgs] at h

/-! ### The addresses lie apart -/
def apartS : PP → Bool
  | [] => true
  | p :: pp => (pp.all fun q => !(p.1 == q.1) || Nat.ble (p.2.1 + p.2.2) q.2.1 || Nat.ble (q.2.1 + q.2.2) p.2.1) && apartS pp
theorem ppR_mem {β : Beta} : ∀ {pp : PP} {ps : List Rg}, ppR β pp ps → ∀ q, q ∈ ps → ∃ p r, p ∈ pp ∧ β p.1 = some r ∧ q = { blk := r.blk, off := r.off + p.2.1, len := p.2.2, ro := false } ∧ p.2.1 + p.2.2 ≤ r.len ∧ r.ro = false
  | [], [], _, q, h => by cases h
  | p :: pp, q' :: ps, ⟨h1, h2⟩, q, h => by
    rcases List.mem_cons.1 h with rfl | h
    · obtain ⟨r, hr⟩ := h1; exact ⟨p, r, by simp, hr⟩
    · obtain ⟨p', r, hp, hr⟩ := ppR_mem h2 q h; exact ⟨p', r, by simp [hp], hr⟩
theorem apartL_of {N : Nat} {R : List Rg} {β : Beta} {w : World} (hb : BetaOk N R β w) : ∀ {pp : PP} {ps : List Rg}, ppR β pp ps → apartS pp = true → apartL ps
  | [], [], _, _ => trivial
  | p :: pp, q :: ps, ⟨⟨r, hr, hq, hle, hro⟩, h2⟩, h => by
    unfold apartS at h
    simp only [Bool.and_eq_true, List.all_eq_true] at h
    refine ⟨fun q' hq' => ?_, apartL_of hb h2 h.2⟩
    obtain ⟨p', r', hp', hr', rfl, hle', _⟩ := ppR_mem h2 q' hq'
    subst hq
    have hs := h.1 p' hp'
    simp only [Bool.or_eq_true, Bool.not_eq_true', beq_eq_false_iff_ne, ne_eq, Nat.ble_eq] at hs
    unfold Rg.apart
    simp only
    by_cases e : p.1 = p'.1
    · rw [e] at hr
      rw [hr] at hr'
      cases hr'
      omega
    · have := (hb.apart _ _ _ _ e hr hr').resolve_left fun hh => by rw [hh.1] at hro; cases hro
      unfold Rg.apart at this
      omega

/-! ### What was there is forgotten; then what was answered is laid -/
def junkAll : Hp → PP → Option Hp
  | hp, [] => some hp
  | hp, (id, off, n) :: l => match hp id with
    | some b => if Nat.ble (off + n) b.cells.length then junkAll (hp.set id { b with cells := setAt b.cells off (List.replicate n .junk) }) l else none
    | none => none
theorem heapMt_set {β : Beta} {ρ : Env} {hp : Hp} {w : World} (hh : heapMt β ρ hp w) {id : Nat} {b : Blk} (hb : Gd.d ρ b.g = true → blkMt β ρ w id b) : heapMt β ρ (hp.set id b) w := by
  intro j bj hj hg
  unfold Hp.set at hj
  by_cases e : j = id
  · subst e
    simp only [BEq.rfl, if_true, Option.some.injEq] at hj
    subst hj
    exact hb hg
  · have : (j == id) = false := by simpa using e
    rw [this] at hj
    exact hh j bj hj hg
theorem junkAll_heap {β : Beta} {ρ : Env} {w : World} : ∀ {pp : PP} {hp hp0 : Hp}, junkAll hp pp = some hp0 → heapMt β ρ hp w → heapMt β ρ hp0 w
  | [], hp, hp0, h, hh => by simp only [junkAll, Option.some.injEq] at h; exact h ▸ hh
  | (id, off, n) :: l, hp, hp0, h, hh => by
    unfold junkAll at h
    split at h
    · rename_i b hb
      split at h
      · rename_i hle
        simp only [Nat.ble_eq] at hle
        refine junkAll_heap h (heapMt_set hh fun hg => ?_)
        have hm := hh id b hb hg
        refine blk_setAt (by simpa using hle) hm (fun r hr => ?_) (fun _ _ _ _ _ => rfl) (fun _ _ _ => rfl)
        obtain ⟨r', hr', hl, _, hc, _⟩ := hm
        rw [hr] at hr'
        cases hr'
        rw [cellsAt_iff] at *
        intro j c hj
        rw [List.getElem?_replicate] at hj
        split at hj
        · rename_i hjn
          simp only [Option.some.injEq] at hj
          subst hj
          obtain ⟨v, hv, hm⟩ := hc (off + j) _ (List.getElem?_eq_getElem (by omega))
          exact ⟨v, by rw [Nat.add_assoc]; exact hv, C.mt_oneCell hm⟩
        · cases hj
      · cases h
    · cases h
def Junk (hp : Hp) (p : Nat × Nat × Nat) : Prop := ∀ b, hp p.1 = some b → ∀ j, p.2.1 ≤ j → j < p.2.1 + p.2.2 → b.cells[j]? = some .junk
theorem setAt_get {l z : List C} {off j : Nat} (hle : off + z.length ≤ l.length) : (setAt l off z)[j]? = if j < off then l[j]? else if j < off + z.length then z[j - off]? else l[j]? := by
  unfold setAt
  rw [List.append_assoc]
  split
  · rename_i h1
    rw [List.getElem?_append_left (by simp; omega), List.getElem?_take, if_pos h1]
  · rename_i h1
    rw [List.getElem?_append_right (by simp; omega)]
    simp only [List.length_take, Nat.min_eq_left (show off ≤ l.length by omega)]
    split
    · rename_i h2
      rw [List.getElem?_append_left (by omega)]
    · rename_i h2
      rw [List.getElem?_append_right (by omega), List.getElem?_drop]
      congr 1
      omega
theorem junkAll_junk : ∀ {pp : PP} {hp hp0 : Hp} {done : PP}, junkAll hp pp = some hp0 → (∀ p, p ∈ done → Junk hp p) → ∀ p, p ∈ done ++ pp → Junk hp0 p
  | [], hp, hp0, done, h, hd, p, hp' => by simp only [junkAll, Option.some.injEq] at h; subst h; exact hd p (by simpa using hp')
  | (id, off, n) :: l, hp, hp0, done, h, hd, p, hp' => by
    unfold junkAll at h
    split at h
    · rename_i b hb
      split at h
      · rename_i hle
        simp only [Nat.ble_eq] at hle
        refine junkAll_junk (done := done ++ [(id, off, n)]) h (fun q hq => ?_) p (by simpa using hp')
        intro b' hb' j h1 h2
        unfold Hp.set at hb'
        by_cases e : q.1 = id
        · rw [e] at hb'
          simp only [BEq.rfl, if_true, Option.some.injEq] at hb'
          subst hb'
          simp only
          rw [setAt_get (by simpa using hle)]
          simp only [List.length_replicate]
          rcases List.mem_append.1 hq with hq | hq
          · have := hd q hq b (by rw [e]; exact hb) j h1 h2
            split
            · exact this
            · split
              · rw [List.getElem?_replicate, if_pos (by omega)]
              · exact this
          · simp only [List.mem_singleton] at hq
            subst hq
            simp only at h1 h2
            rw [if_neg (by omega), if_pos h2, List.getElem?_replicate, if_pos (by omega)]
        · have : (q.1 == id) = false := by simpa using e
          rw [this] at hb'
          rcases List.mem_append.1 hq with hq | hq
          · exact hd q hq b' hb' j h1 h2
          · simp only [List.mem_singleton] at hq
            subst hq
            exact absurd rfl e
      · cases h
    · cases h
def lensOk : List (List CK) → List Rg → Prop
  | [], [] => True
  | l :: ls, r :: rs => r.len = l.length ∧ lensOk ls rs
  | _, _ => False
theorem flatArgs_lens {w : World} : ∀ {ss : List Sh} {vs : List Value} {is : List Int} {bs : List Bool} {ps : List Rg}, flatArgs ss vs w = some (is, bs, ps) → lensOk (ptrShapes ss) ps
  | [], [], is, bs, ps, h => by
    simp only [flatArgs, Option.some.injEq, Prod.mk.injEq] at h
    obtain ⟨_, _, rfl⟩ := h
    exact trivial
  | .val agg l :: ss, v :: vs, is, bs, ps, h => by
    unfold flatArgs at h
    split at h
    · rename_i i b is' bs' ps' h1 h2
      simp only [Option.some.injEq, Prod.mk.injEq] at h
      obtain ⟨_, _, rfl⟩ := h
      exact flatArgs_lens (ss := ss) h2
    · cases h
  | .ptr l :: ss, v :: vs, is, bs, ps, h => by
    unfold flatArgs at h
    split at h
    · rename_i b o is' bs' ps' h2
      split at h
      · simp only [Option.some.injEq, Prod.mk.injEq] at h
        obtain ⟨_, _, rfl⟩ := h
        exact ⟨rfl, flatArgs_lens h2⟩
      · cases h
    · cases h
  | .sli ks :: ss, v :: vs, is, bs, ps, h => by
    unfold flatArgs at h
    split at h
    · rename_i l n r is' bs' ps' h1 h2
      simp only [Option.some.injEq, Prod.mk.injEq] at h
      obtain ⟨_, _, rfl⟩ := h
      exact flatArgs_lens (ss := ss) h2
    · cases h
  | .sli _ :: _, [], _, _, _, h => by simp [flatArgs] at h
  | [], _ :: _, _, _, _, h => by simp [flatArgs] at h
  | .val _ _ :: _, [], _, _, _, h => by simp [flatArgs] at h
  | .ptr _ :: _, [], _, _, _, h => by simp [flatArgs] at h
theorem flatPs_cells {w : World} : ∀ {ls : List (List CK)} {ps : List Rg} {f : Fl}, flatPs w ls ps = some f → lensOk ls ps → ∀ q, q ∈ ps → ∀ j, j < q.len → ∃ v, w.cell? ⟨q.blk, q.off + j, none⟩ = some v ∧ oneCell v = true
  | [], [], f, h, _, q, hq, _, _ => by cases hq
  | l :: ls, r :: rs, f, h, ⟨hl, hls⟩, q, hq, j, hj => by
    unfold flatPs at h
    split at h
    · rename_i i b is bs h1 h2
      rcases List.mem_cons.1 hq with rfl | hq
      · cases hr : readCells w q.blk q.off l.length with
        | none => rw [hr] at h1; simp at h1
        | some vs =>
          rw [hr] at h1
          simp only [Option.bind_some] at h1
          obtain ⟨g1, g2⟩ := readCells_get hr
          have hlt : j < vs.length := by omega
          exact ⟨vs[j], g2 j _ (List.getElem?_eq_getElem hlt), flatC_oneCell h1 _ (List.getElem_mem hlt)⟩
      · exact flatPs_cells h2 hls q hq j hj
    · cases h
  | [], _ :: _, f, h, _, _, _, _, _ => by simp [flatPs] at h
  | _ :: _, [], f, h, _, _, _, _, _ => by simp [flatPs] at h

/-- Behind the call: what is known, but for what the addresses reach. -/
theorem junk_move {N : Nat} {R : List Rg} {β : Beta} {ρ : Env} {w w' : World} {hp : Hp} {pp : PP} {ps : List Rg} (hb : BetaOk N R β w) (hh : heapMt β ρ hp w) (hj : ∀ p, p ∈ pp → Junk hp p) (hpp : ppR β pp ps) (hk : Keep ps w w')
    (hc : ∀ q, q ∈ ps → ∀ j, j < q.len → ∃ v, w'.cell? ⟨q.blk, q.off + j, none⟩ = some v ∧ oneCell v = true) : heapMt β ρ hp w' := by
  intro id b hb' hg
  obtain ⟨r, hr, hl, hro, hcs, hf⟩ := hh id b hb' hg
  have hpl := hb.place id r hr
  refine ⟨r, hr, hl, hro, ?_, fun h0 j hj => (hk.frz _ hpl).trans (hf h0 j hj)⟩
  rw [cellsAt_iff] at *
  intro j c hjc
  have hjl := (List.getElem?_eq_some_iff.1 hjc).1
  by_cases hin : ∃ q, q ∈ ps ∧ inRg q ⟨r.blk, r.off + j, none⟩
  · obtain ⟨q, hq, hi⟩ := hin
    obtain ⟨p, r', hp', hr', rfl, hle, hro'⟩ := ppR_mem hpp q hq
    unfold inRg at hi
    simp only at hi
    have hid : p.1 = id := by
      apply Classical.byContradiction
      intro hne
      have := (hb.apart _ _ _ _ hne hr' hr).resolve_left fun hh => by rw [hh.1] at hro'; cases hro'
      unfold Rg.apart at this
      omega
    subst hid
    rw [hr] at hr'
    cases hr'
    have := hj p hp' b hb' j (by omega) (by omega)
    rw [hjc] at this
    simp only [Option.some.injEq] at this
    subst this
    obtain ⟨v, hv, ho⟩ := hc _ hq (j - p.2.1) (by simp only; omega)
    simp only at hv
    rw [show r.off + p.2.1 + (j - p.2.1) = r.off + j by omega] at hv
    exact ⟨v, hv, ho⟩
  · obtain ⟨v, hv, hm⟩ := hcs j c hjc
    exact ⟨v, (hk.cell _ hpl fun q hq hi => hin ⟨q, hq, hi⟩).trans hv, hm⟩

def fillAll (FI : Nat → A) (FB : Nat → B) : Hp → PP → List (List CK) → Nat → Nat → Option Hp
  | hp, [], [], _, _ => some hp
  | hp, (id, off, n) :: l, ck :: cks, i, b => match hp id with
    | some bk => if Nat.ble (off + ck.length) bk.cells.length then fillAll FI FB (hp.set id { bk with cells := setAt bk.cells off (freshC FI FB [] ck i b) }) l cks (i + nI ck) (b + nB ck) else none
    | none => none
  | _, _, _, _, _ => none
theorem getD_append_left {α : Type} (l m : List α) (j : Nat) (d : α) (h : j < l.length) : (l ++ m).getD j d = l.getD j d := by
  simp [List.getD_eq_getElem?_getD, List.getElem?_append_left h]
theorem getD_append_right {α : Type} (l m : List α) (j : Nat) (d : α) : (l ++ m).getD (l.length + j) d = m.getD j d := by
  rw [List.getD_eq_getElem?_getD, List.getElem?_append_right (by omega), Nat.add_sub_cancel_left, ← List.getD_eq_getElem?_getD]
def sumI : List (List CK) → Nat
  | [] => 0
  | l :: ls => nI l + sumI ls
def sumB : List (List CK) → Nat
  | [] => 0
  | l :: ls => nB l + sumB ls
theorem flatPs_len {w : World} : ∀ {ls : List (List CK)} {ps : List Rg} {f : Fl}, flatPs w ls ps = some f → f.1.length = sumI ls ∧ f.2.length = sumB ls
  | [], [], f, h => by simp only [flatPs, Option.some.injEq] at h; subst h; exact ⟨rfl, rfl⟩
  | l :: ls, r :: rs, f, h => by
    unfold flatPs at h
    split at h
    · rename_i i b is bs h1 h2
      simp only [Option.some.injEq] at h
      subst h
      cases hr : readCells w r.blk r.off l.length with
      | none => rw [hr] at h1; simp at h1
      | some vs =>
        rw [hr] at h1
        simp only [Option.bind_some] at h1
        have e1 := flatC_len h1
        have e2 := flatPs_len h2
        simp only [sumI, sumB, List.length_append] at e1 e2 ⊢
        omega
    · cases h
  | [], _ :: _, f, h => by simp [flatPs] at h
  | _ :: _, [], f, h => by simp [flatPs] at h
theorem fillAll_heap {FI : Nat → A} {FB : Nat → B} {β : Beta} {ρ : Env} {w : World} : ∀ {pp : PP} {ps : List Rg} {ls : List (List CK)} {hp hp1 : Hp} {i b : Nat} {f : Fl}, fillAll FI FB hp pp ls i b = some hp1 → ppR β pp ps → flatPs w ls ps = some f →
    (∀ j, j < sumI ls → (FI (i + j)).d ρ = f.1.getD j 0) → (∀ j, j < sumB ls → (FB (b + j)).d ρ = f.2.getD j false) → heapMt β ρ hp w → heapMt β ρ hp1 w
  | [], [], [], hp, hp1, i, b, f, h, _, _, _, _, hh => by simp only [fillAll, Option.some.injEq] at h; exact h ▸ hh
  | (id, off, n) :: pp, q :: ps, ck :: cks, hp, hp1, i, b, f, h, ⟨⟨r, hr, hq, hle2, hro⟩, hpp⟩, hf, hi, hbo, hh => by
    unfold fillAll at h
    split at h
    · rename_i bk hbk
      split at h
      · rename_i hle
        simp only [Nat.ble_eq] at hle
        unfold flatPs at hf
        split at hf
        · rename_i i1 b1 is bs h1 h2
          simp only [Option.some.injEq] at hf
          subst hf
          cases hrd : readCells w q.blk q.off ck.length with
          | none => rw [hrd] at h1; simp at h1
          | some vs =>
            rw [hrd] at h1
            simp only [Option.bind_some] at h1
            have e1 := flatC_len h1
            have hm := freshC_mt (FI := FI) (FB := FB) (β := β) (ρ := ρ) (ps := []) (pp := []) trivial (i := i) (b := b) h1
              (fun j hj => by have := hi j (by simp only [sumI]; omega); rwa [getD_append_left _ _ _ _ (by simp only at e1; omega)] at this)
              (fun j hj => by have := hbo j (by simp only [sumB]; omega); rwa [getD_append_left _ _ _ _ (by simp only at e1; omega)] at this)
            refine fillAll_heap h hpp h2 (fun j hj => ?_) (fun j hj => ?_) (heapMt_set hh fun hg => ?_)
            · have := hi (nI ck + j) (by simp only [sumI]; omega)
              rw [show i + nI ck + j = i + (nI ck + j) by omega, this]
              simp only at e1
              rw [← e1.1, getD_append_right]
            · have := hbo (nB ck + j) (by simp only [sumB]; omega)
              rw [show b + nB ck + j = b + (nB ck + j) by omega, this]
              simp only at e1
              rw [← e1.2.1, getD_append_right]
            · refine blk_setAt (by rw [freshC_length]; exact hle) (hh id bk hbk hg) (fun r' hr' => ?_) (fun _ _ _ _ _ => rfl) (fun _ _ _ => rfl)
              simp only at hr hq hr'
              rw [hr] at hr'
              cases hr'
              subst hq
              exact cellsAt_of_read hrd hm
        · cases hf
      · cases h
    · cases h
  | [], [], _ :: _, _, _, _, _, _, h, _, _, _, _, _ => by simp [fillAll] at h
  | _ :: _, _, [], _, _, _, _, _, h, _, _, _, _, _ => by simp [fillAll] at h
  | [], _ :: _, _, _, _, _, _, _, _, hpp, _, _, _, _ => hpp.elim
  | _ :: _, [], _ :: _, _, _, _, _, _, _, hpp, _, _, _, _ => hpp.elim

/-! ### The answer -/
def freshT (FI : Nat → A) (FB : Nat → B) (pp : List (Nat × Nat)) : List (Bool × List CK) → Nat → Nat → List (Bool × List C)
  | [], _, _ => []
  | p :: l, i, b => (p.1, freshC FI FB pp p.2 i b) :: freshT FI FB pp l (i + nI p.2) (b + nB p.2)
def freshS (FI : Nat → A) (FB : Nat → B) (pp : List (Nat × Nat)) (s : Sum) (i b : Nat) : S :=
  if s.tup then .tup (freshT FI FB pp s.res i b) else match s.res with
    | [p] => .one p.1 (freshC FI FB pp p.2 i b)
    | _ => .any
def resI : List (Bool × List CK) → Nat
  | [] => 0
  | p :: l => nI p.2 + resI l
def resB : List (Bool × List CK) → Nat
  | [] => 0
  | p :: l => nB p.2 + resB l
theorem flat1_inv {ps : List Rg} {agg : Bool} {l : List CK} {v : Value} {f : Fl} (h : flat1 ps agg l v = some f) : (∃ vs, flatC ps l vs = some f ∧ (if agg then v = .agg vs.toArray else vs = [v])) := by
  unfold flat1 at h
  cases agg
  · simp only [Bool.false_eq_true, if_false] at h
    split at h
    · exact ⟨[v], h, by simp⟩
    · cases h
  · simp only [if_true] at h
    split at h
    · rename_i vs; exact ⟨vs.toList, h, by simp⟩
    · cases h
theorem fresh1_mt {FI : Nat → A} {FB : Nat → B} {β : Beta} {ρ : Env} {ps : List Rg} {pp : List (Nat × Nat)} (hpp : ppOk β pp ps) {agg : Bool} {l : List CK} {v : Value} {f : Fl} {i b : Nat} (h : flat1 ps agg l v = some f)
    (hi : ∀ j, j < nI l → (FI (i + j)).d ρ = f.1.getD j 0) (hb : ∀ j, j < nB l → (FB (b + j)).d ρ = f.2.getD j false) : mt1 β ρ agg (freshC FI FB pp l i b) v ∧ f.1.length = nI l ∧ f.2.length = nB l := by
  obtain ⟨vs, hf, hv⟩ := flat1_inv h
  have hm := freshC_mt hpp hf hi hb
  have hl := flatC_len hf
  refine ⟨?_, hl.1, hl.2.1⟩
  unfold mt1
  cases agg
  · simp only [Bool.false_eq_true, if_false] at hv ⊢
    subst hv
    match hc : freshC FI FB pp l i b, hm with
    | [c], hm => exact ⟨c, rfl, hm.1⟩
  · simp only [if_true] at hv ⊢
    exact ⟨vs.toArray, hv, by simpa using hm⟩
theorem freshT_mt {FI : Nat → A} {FB : Nat → B} {β : Beta} {ρ : Env} {ps : List Rg} {pp : List (Nat × Nat)} (hpp : ppOk β pp ps) : ∀ {l : List (Bool × List CK)} {vs : List Value} {f : Fl} {i b : Nat}, flatTup ps l vs = some f →
    (∀ j, j < resI l → (FI (i + j)).d ρ = f.1.getD j 0) → (∀ j, j < resB l → (FB (b + j)).d ρ = f.2.getD j false) → mtT β ρ (freshT FI FB pp l i b) vs ∧ f.1.length = resI l ∧ f.2.length = resB l
  | [], [], f, i, b, h, _, _ => by simp only [flatTup, Option.some.injEq] at h; subst h; exact ⟨trivial, rfl, rfl⟩
  | p :: l, v :: vs, f, i, b, h, hi, hb => by
    unfold flatTup at h
    split at h
    · rename_i i1 b1 is bs h1 h2
      simp only [Option.some.injEq] at h
      subst h
      have hl : i1.length = nI p.2 ∧ b1.length = nB p.2 := by
        obtain ⟨us, hf, _⟩ := flat1_inv h1
        have := flatC_len hf
        exact ⟨this.1, this.2.1⟩
      obtain ⟨g1, _, _⟩ := fresh1_mt (ρ := ρ) (i := i) (b := b) hpp h1
        (fun j hj => by have := hi j (by simp only [resI]; omega); rwa [getD_append_left _ _ _ _ (by omega)] at this)
        (fun j hj => by have := hb j (by simp only [resB]; omega); rwa [getD_append_left _ _ _ _ (by omega)] at this)
      obtain ⟨g2, g3, g4⟩ := freshT_mt (i := i + nI p.2) (b := b + nB p.2) hpp h2
        (fun j hj => by
          have := hi (nI p.2 + j) (by simp only [resI]; omega)
          rw [show i + nI p.2 + j = i + (nI p.2 + j) by omega, this, ← hl.1, getD_append_right])
        (fun j hj => by
          have := hb (nB p.2 + j) (by simp only [resB]; omega)
          rw [show b + nB p.2 + j = b + (nB p.2 + j) by omega, this, ← hl.2, getD_append_right])
      refine ⟨⟨g1, g2⟩, ?_, ?_⟩
      · simp only [resI, List.length_append] at g3 ⊢; omega
      · simp only [resB, List.length_append] at g4 ⊢; omega
    · cases h
  | [], _ :: _, f, _, _, h, _, _ => by simp [flatTup] at h
  | _ :: _, [], f, _, _, h, _, _ => by simp [flatTup] at h
theorem freshS_mt {FI : Nat → A} {FB : Nat → B} {β : Beta} {ρ : Env} {ps : List Rg} {pp : List (Nat × Nat)} (hpp : ppOk β pp ps) {s : Sum} {v : Value} {f : Fl} {i b : Nat} (h : flatRes ps s v = some f)
    (hi : ∀ j, j < resI s.res → (FI (i + j)).d ρ = f.1.getD j 0) (hb : ∀ j, j < resB s.res → (FB (b + j)).d ρ = f.2.getD j false) : (freshS FI FB pp s i b).mt β ρ v ∧ f.1.length = resI s.res ∧ f.2.length = resB s.res := by
  unfold flatRes at h
  unfold freshS
  split at h
  · rename_i ht
    rw [if_pos ht]
    split at h
    · rename_i vs
      obtain ⟨g1, g2⟩ := freshT_mt (i := i) (b := b) hpp h hi hb
      exact ⟨⟨vs, rfl, g1⟩, g2⟩
    · cases h
  · rename_i ht
    rw [if_neg ht]
    split at h
    · rename_i p hres
      rw [hres] at hi hb ⊢
      simp only [resI, resB, Nat.add_zero] at hi hb ⊢
      exact fresh1_mt hpp h hi hb
    · cases h
end Go.Proofs.YtalnndmnnffnmaaGreat.Sx
