/-
  SX, part U: from a row's premises to a contract's, and back. No condition.
-/
import Derived.Test.YtalnndmnnffnmaaGreatSxT
import Derived.ProofKit
import Derived.WideKeyArgs
import Derived.LaidLaws
import Derived.Handed
import Derived.OpenShut
set_option linter.unusedVariables false
set_option linter.unusedSimpArgs false
namespace Go.Proofs.YtalnndmnnffnmaaGreat.Sx
open Go Go.ChangeShapes Go.WideShapes Go.ChangeAt Go.RowKit

/-! ### Which cells a type has -/
def ckFields (P : Program) (g : TypeId → Option (List CK)) : List Field → Nat → Option (List CK)
  | [], _ => some []
  | f :: fs, off => if f.offset == off then (match g f.type with
      | some l => if l.length == P.cellsOf f.type then (match ckFields P g fs (off + l.length) with
          | some r => some (l ++ r)
          | none => none) else none
      | none => none) else none
def repCK (l : List CK) : Nat → List CK
  | 0 => []
  | n + 1 => l ++ repCK l n
def ckOf (P : Program) : Nat → TypeId → Option (List CK)
  | 0, _ => none
  | n + 1, t => match P.underlying t with
    | some .bool => some [.bool]
    | some (.int k) => some [.int k]
    | some (.struct fs) => match ckFields P (ckOf P n) fs.toList 0 with
      | some l => if l.length == P.cellsOf t then some l else none
      | none => none
    | some (.array m e) => match ckOf P n e with
      | some l => if l.length == P.cellsOf e && m * l.length == P.cellsOf t then some (repCK l m) else none
      | none => none
    | _ => none
def shOf (P : Program) (t : TypeId) : Option Sh := match P.underlying t with
  | some .bool => some (.val false [.bool])
  | some (.int k) => some (.val false [.int k])
  | some (.struct _) => (ckOf P 8 t).map (.val true ·)
  | some (.array _ _) => (ckOf P 8 t).map (.val true ·)
  | some (.slice e) => match ckOf P 8 e with
    | some ks => if ks.length == P.cellsOf e && !ks.isEmpty then some (.sli ks) else none
    | none => none
  | _ => none
def shsOf (P : Program) : List TypeId → Option (List Sh)
  | [] => some []
  | t :: ts => match shOf P t, shsOf P ts with
    | some s, some ss => some (s :: ss)
    | _, _ => none

theorem flatC_append {ps : List Rg} : ∀ {l1 : List CK} {v1 : List Value} {l2 : List CK} {v2 : List Value} {f1 f2 : Fl}, flatC ps l1 v1 = some f1 → flatC ps l2 v2 = some f2 → ∃ f, flatC ps (l1 ++ l2) (v1 ++ v2) = some f
  | [], [], l2, v2, f1, f2, _, h2 => ⟨f2, h2⟩
  | .int k :: l1, v :: v1, l2, v2, f1, f2, h1, h2 => by
    unfold flatC at h1
    split at h1
    · rename_i k' n is bs hv
      split at h1
      · rename_i hc
        obtain ⟨f, hf⟩ := flatC_append hv h2
        refine ⟨(n :: f.1, f.2), ?_⟩
        simp only [List.cons_append, flatC, hf]
        rw [if_pos hc]
      · cases h1
    · cases h1
  | .bool :: l1, v :: v1, l2, v2, f1, f2, h1, h2 => by
    unfold flatC at h1
    split at h1
    · rename_i b is bs hv
      obtain ⟨f, hf⟩ := flatC_append hv h2
      exact ⟨(f.1, b :: f.2), by simp only [List.cons_append, flatC, hf]⟩
    · cases h1
  | .pt k o :: l1, v :: v1, l2, v2, f1, f2, h1, h2 => by
    unfold flatC at h1
    split at h1
    · rename_i a r is bs hr hv
      split at h1
      · rename_i hc
        obtain ⟨f, hf⟩ := flatC_append hv h2
        refine ⟨(f.1, f.2), ?_⟩
        simp only [List.cons_append, flatC, hf, hr]
        rw [if_pos hc]
      · cases h1
    · cases h1
  | .str :: l1, v :: v1, l2, v2, f1, f2, h1, h2 => by
    unfold flatC at h1
    split at h1
    · rename_i s is bs hv
      split at h1
      · rename_i hc
        obtain ⟨f, hf⟩ := flatC_append hv h2
        refine ⟨(encS s :: f.1, f.2), ?_⟩
        simp only [List.cons_append, flatC, hf]
        rw [if_pos hc]
      · cases h1
    · cases h1
  | .str :: _, [], _, _, _, _, h1, _ => by simp [flatC] at h1
  | [], _ :: _, _, _, _, _, h1, _ => by simp [flatC] at h1
  | .int _ :: _, [], _, _, _, _, h1, _ => by simp [flatC] at h1
  | .bool :: _, [], _, _, _, _, h1, _ => by simp [flatC] at h1
  | .pt _ _ :: _, [], _, _, _, _, h1, _ => by simp [flatC] at h1

section
variable {H : Type} {enc : TypeId × Value → H} {P : Program} {w : World} {base : Nat} {spare : Nat → Bool} {held : Bool}
theorem ckFields_flat {g : TypeId → Option (List CK)} {n : Nat} (hg : ∀ (t : TypeId) (l : List CK) (cs : List Value) (x : DataW H × List MemPlace), g t = some l → DataW.trod enc P w base spare held n t cs = some x → ∃ f, flatC [] l cs = some f) {cs : List Value} : ∀ {fs : List Field} {off : Nat} {l : List CK},
    ckFields P g fs off = some l → (∀ f, f ∈ fs → ∃ x, DataW.trod enc P w base spare held n f.type ((cs.drop f.offset).take (P.cellsOf f.type)) = some x) → ∃ f, flatC [] l ((cs.drop off).take l.length) = some f
  | [], off, l, h, _ => by
    simp only [ckFields, Option.some.injEq] at h
    subst h
    exact ⟨_, rfl⟩
  | f :: fs, off, l, h, hx => by
    unfold ckFields at h
    split at h
    · rename_i ho
      simp only [beq_iff_eq] at ho
      split at h
      · rename_i l1 hl1
        split at h
        · rename_i hlen
          simp only [beq_iff_eq] at hlen
          split at h
          · rename_i r hr
            simp only [Option.some.injEq] at h
            subst h
            obtain ⟨x, hx1⟩ := hx f (by simp)
            obtain ⟨f1, hf1⟩ := hg _ _ _ _ hl1 hx1
            obtain ⟨f2, hf2⟩ := ckFields_flat hg hr (fun g hm => hx g (by simp [hm]))
            obtain ⟨f3, hf3⟩ := flatC_append hf1 hf2
            refine ⟨f3, ?_⟩
            rw [List.length_append, List.take_add, List.drop_drop, ← ho, hlen]
            rw [← ho, hlen] at hf3
            exact hf3
          · cases h
        · cases h
      · cases h
    · cases h
theorem repCK_length (l : List CK) : ∀ m, (repCK l m).length = m * l.length
  | 0 => by simp [repCK]
  | m + 1 => by rw [repCK, List.length_append, repCK_length l m, Nat.add_mul]; omega
theorem repCK_flat {l : List CK} {cs : List Value} : ∀ {m off : Nat}, (∀ i, i < m → ∃ f, flatC [] l ((cs.drop (off + i * l.length)).take l.length) = some f) → ∃ f, flatC [] (repCK l m) ((cs.drop off).take (m * l.length)) = some f
  | 0, off, _ => ⟨_, by simp [repCK]; rfl⟩
  | m + 1, off, h => by
    obtain ⟨f1, hf1⟩ := h 0 (by omega)
    obtain ⟨f2, hf2⟩ := repCK_flat (l := l) (cs := cs) (m := m) (off := off + l.length) (fun i hi => by
      have := h (i + 1) (by omega)
      rwa [show off + (i + 1) * l.length = off + l.length + i * l.length by rw [Nat.add_mul]; omega] at this)
    simp only [Nat.zero_mul, Nat.add_zero] at hf1
    obtain ⟨f3, hf3⟩ := flatC_append hf1 hf2
    refine ⟨f3, ?_⟩
    rw [show (m + 1) * l.length = l.length + m * l.length by rw [Nat.add_mul]; omega, List.take_add, List.drop_drop]
    exact hf3
/-- What is read through a type of plain cells is numbers and bools. -/
theorem ckOf_flat : ∀ (m : Nat) (n : Nat) (t : TypeId) (l : List CK) (cs : List Value) (x : DataW H × List MemPlace), ckOf P m t = some l → DataW.trod enc P w base spare held n t cs = some x → ∃ f, flatC [] l cs = some f
  | 0, n, t, l, cs, x, h, _ => by simp [ckOf] at h
  | m + 1, n, t, l, cs, x, h, hx => by
    unfold ckOf at h
    split at h
    · rename_i ht
      simp only [Option.some.injEq] at h
      subst h
      obtain ⟨b, rfl, _⟩ := DataW.trod_bool ht hx
      exact ⟨_, rfl⟩
    · rename_i k ht
      simp only [Option.some.injEq] at h
      subst h
      obtain ⟨v, rfl, _, hwf⟩ := DataW.trod_int ht hx
      refine ⟨([v], []), ?_⟩
      have : inR k v = true := by simpa [Lit.wf, inR] using hwf
      simp [flatC, this]
    · rename_i fs ht
      split at h
      · rename_i l' hl
        split at h
        · rename_i hlen
          simp only [beq_iff_eq] at hlen
          simp only [Option.some.injEq] at h
          subst h
          obtain ⟨xs, n', rfl, _, hcs, hxl, hf⟩ := DataW.trod_struct ht hx
          have := ckFields_flat (cs := cs) (fun t l cs x h1 h2 => ckOf_flat m n' t l cs x h1 h2) hl (fun f hm => by
            obtain ⟨i, hi⟩ := List.getElem?_of_mem hm
            have hi' : fs[i]? = some f := by simpa using hi
            have := hf i f hi'
            have hlt : i < xs.length := by rw [hxl]; exact (Array.getElem?_eq_some_iff.1 hi').1
            exact ⟨xs[i], by rw [this]; exact List.getElem?_eq_getElem hlt⟩)
          simpa [hlen, ← hcs] using this
        · cases h
      · cases h
    · rename_i k e ht
      split at h
      · rename_i l' hl
        split at h
        · rename_i hc
          simp only [Bool.and_eq_true, beq_iff_eq] at hc
          simp only [Option.some.injEq] at h
          subst h
          obtain ⟨xs, n', rfl, _, hcs, hxl, hf⟩ := DataW.trod_array ht hx
          have := repCK_flat (l := l') (cs := cs) (m := k) (off := 0) (fun i hi => by
            have h1 := hf i hi
            have hlt : i < xs.length := by omega
            rw [List.getElem?_eq_getElem hlt] at h1
            rw [Nat.zero_add, hc.1]
            exact ckOf_flat m n' e l' _ _ hl h1)
          rw [hc.2, ← hcs] at this
          simpa using this
        · cases h
      · cases h
    · cases h

theorem flatC_dec : ∀ {l : List CK} {vs : List Value} {f : Fl}, flatC [] l vs = some f → vs.length = l.length ∧ ∀ (k : Nat) (ck : CK), l[k]? = some ck → ∃ v n, vs[k]? = some v ∧ decV ck v = some n
  | [], [], f, h => ⟨rfl, fun k ck hk => by simp at hk⟩
  | .int kd :: l, v :: vs, f, h => by
    unfold flatC at h
    split at h
    · rename_i k' n is bs hf
      split at h
      · rename_i hc
        obtain ⟨h1, h2⟩ := flatC_dec hf
        refine ⟨by simp [h1], fun k ck hk => ?_⟩
        cases k with
        | zero => simp at hk; subst hk; exact ⟨_, n, by simp; rfl, by simp only [decV]; rw [if_pos hc]⟩
        | succ k => simp at hk; simpa using h2 k ck hk
      · cases h
    · cases h
  | .bool :: l, v :: vs, f, h => by
    unfold flatC at h
    split at h
    · rename_i b is bs hf
      obtain ⟨h1, h2⟩ := flatC_dec hf
      refine ⟨by simp [h1], fun k ck hk => ?_⟩
      cases k with
      | zero => simp at hk; subst hk; exact ⟨_, _, by simp; rfl, rfl⟩
      | succ k => simp at hk; simpa using h2 k ck hk
    · cases h
  | .pt k o :: l, v :: vs, f, h => by
    unfold flatC at h
    split at h
    · rename_i a r is bs hr hf
      simp at hr
    · cases h
  | .str :: l, v :: vs, f, h => by
    unfold flatC at h
    split at h
    · rename_i s is bs hf
      split at h
      · rename_i hc
        obtain ⟨h1, h2⟩ := flatC_dec hf
        refine ⟨by simp [h1], fun k ck hk => ?_⟩
        cases k with
        | zero => simp at hk; subst hk; exact ⟨_, encS s, by simp; rfl, by simp only [decV]; rw [if_pos hc]⟩
        | succ k => simp at hk; simpa using h2 k ck hk
      · cases h
    · cases h
  | .str :: _, [], f, h => by simp [flatC] at h
  | [], _ :: _, f, h => by simp [flatC] at h
  | .int _ :: _, [], f, h => by simp [flatC] at h
  | .bool :: _, [], f, h => by simp [flatC] at h
  | .pt _ _ :: _, [], f, h => by simp [flatC] at h
theorem read_dec {ks : List CK} {b : Nat} {w : World} : ∀ {n o j : Nat}, (∀ i, i < n → ∃ ck v m, ks[(j + i) % ks.length]? = some ck ∧ w.cell? ⟨b, o + i, none⟩ = some v ∧ decV ck v = some m) → ∃ us l, readCells w b o n = some us ∧ decVs ks j us = some l
  | 0, o, j, _ => ⟨[], [], rfl, rfl⟩
  | n + 1, o, j, h => by
    obtain ⟨ck, v, m, h1, h2, h3⟩ := h 0 (by omega)
    rw [Nat.add_zero] at h1 h2
    obtain ⟨us, l, g1, g2⟩ := read_dec (ks := ks) (b := b) (w := w) (n := n) (o := o + 1) (j := j + 1) fun i hi => by
      obtain ⟨ck, v, m, h1, h2, h3⟩ := h (i + 1) (by omega)
      exact ⟨ck, v, m, by rw [show j + 1 + i = j + (i + 1) by omega]; exact h1, by rw [show o + 1 + i = o + (i + 1) by omega]; exact h2, h3⟩
    exact ⟨v :: us, m :: l, by simp only [readCells, h2, g1], by simp only [decVs, h1, g2, h3, Option.map_some]⟩
theorem cells?_get {w : World} {base : Nat} {a : Addr} {n : Nat} {cs : List Value} (h : w.cells? base a n = some cs) : ∀ k, k < n → ∃ v, cs[k]? = some v ∧ w.cell? (a.add k) = some v := by
  unfold World.cells? at h
  split at h
  · intro k hk
    have := mapM_some_get h k k (by simp [hk])
    have hl := mapM_some_length h
    simp at hl
    have hkl : k < cs.length := by omega
    exact ⟨cs[k], List.getElem?_eq_getElem hkl, by rw [this]; exact List.getElem?_eq_getElem hkl⟩
  · cases h
theorem flatSl_trod {fuel : Nat} {t e : TypeId} {ks : List CK} {v : Value} {x : DataW H × List MemPlace} (ht : P.underlying t = some (.slice e)) (hk : ckOf P 8 e = some ks) (hlen : ks.length = P.cellsOf e) (hne : ks ≠ [])
    (h : DataW.trod enc P w base spare held fuel t [v] = some x) : ∃ l n r, flatSl w ks v = some (l, n, r) := by
  rcases DataW.trod_slice ht h with ⟨h1, _⟩ | ⟨a, len, cap, elems, rest, n, rfl, h1, _, _, hl, hc, _, hel, _⟩
  · simp only [List.cons.injEq, and_true] at h1
    subst h1
    exact ⟨[], 0, none, by simp [flatSl]⟩
  · simp only [List.cons.injEq, and_true] at h1
    subst h1
    have hpos : 0 < ks.length := List.length_pos_iff.2 hne
    by_cases h0 : len = 0
    · subst h0
      exact ⟨[], 0, none, by simp [flatSl]⟩
    · -- an element's cells
      have cell : ∀ i, i < len → ∀ k, k < ks.length → ∃ ck v m, ks[k]? = some ck ∧ w.cell? ((a.add (i * P.cellsOf e)).add k) = some v ∧ decV ck v = some m := by
        intro i hi k hkl
        have h2 := hel i hi
        cases hcs : w.cells? base (a.add (i * P.cellsOf e)) (P.cellsOf e) with
        | none =>
          rw [hcs] at h2
          simp only [Option.bind_none] at h2
          have : elems[i]? = none := h2.symm
          rw [List.getElem?_eq_none_iff] at this
          omega
        | some cs =>
          rw [hcs] at h2
          simp only [Option.bind_some] at h2
          have hi' : i < elems.length := by omega
          rw [List.getElem?_eq_getElem hi'] at h2
          obtain ⟨f, hf⟩ := ckOf_flat 8 _ _ _ _ _ hk h2
          obtain ⟨g1, g2⟩ := flatC_dec hf
          obtain ⟨v, m, g3, g4⟩ := g2 k _ (List.getElem?_eq_getElem hkl)
          obtain ⟨v', g5, g6⟩ := cells?_get hcs k (by omega)
          rw [g3] at g5
          cases g5
          exact ⟨_, v, m, List.getElem?_eq_getElem hkl, g6, g4⟩
      have hspot : a.spot = none := by
        obtain ⟨ck, v, m, _, hv, _⟩ := cell 0 (by omega) 0 hpos
        simp only [Nat.zero_mul, Addr.add, if_true] at hv
        unfold World.cell? at hv
        split at hv
        · split at hv
          · cases hv
          · rename_i hs; simpa using hs
        · cases hv
      obtain ⟨b, o, sp⟩ := a
      simp only at hspot
      subst hspot
      obtain ⟨us, l, g1, g2⟩ := read_dec (ks := ks) (b := b) (w := w) (n := len * ks.length) (o := o) (j := 0) fun i hi => by
        have hdiv : i / ks.length < len := (Nat.div_lt_iff_lt_mul hpos).2 hi
        have hmod : i % ks.length < ks.length := Nat.mod_lt _ hpos
        obtain ⟨ck, v, m, k1, k2, k3⟩ := cell (i / ks.length) hdiv (i % ks.length) hmod
        refine ⟨ck, v, m, by rw [Nat.zero_add]; exact k1, ?_, k3⟩
        rw [add_lit, add_lit, ← hlen] at k2
        have := Nat.div_add_mod i ks.length
        rw [Nat.mul_comm] at this
        rwa [Nat.add_assoc, this] at k2
      have hin : inR .i64 (len : Int) = true := by
        refine inR_mk ⟨?_, ?_⟩
        · show -9223372036854775808 ≤ (len : Int); omega
        · show (len : Int) ≤ 9223372036854775807
          unfold maxLen at hc
          omega
      refine ⟨l, len, some { blk := b, off := o, len := len * ks.length, ro := true, sq := some (ks, l) }, ?_⟩
      unfold flatSl
      have : (len == 0) = false := by simpa using h0
      simp only [this, Bool.false_eq_true, if_false, hin, if_true, g1, Option.bind_some, g2]

theorem shOf_flat {r : Reach} {b0 : Nat} {t : TypeId} {s : Sh} {v : Value} {d : DataW H} {p : List MemPlace} (h : shOf P t = some s) (hv : Value.okWide P w r b0 t v) (hd : DataW.Trod enc P w base spare held t v d p) : (∃ agg l f, s = .val agg l ∧ flat1 [] agg l v = some f) ∨ ∃ ks l n r, s = .sli ks ∧ flatSl w ks v = some (l, n, r) := by
  obtain ⟨n, hn⟩ := hd
  unfold shOf at h
  split at h
  · rename_i ht
    simp only [Option.some.injEq] at h
    subst h
    obtain ⟨b, rfl⟩ := okWide_bool ht hv
    exact .inl ⟨_, _, _, rfl, rfl⟩
  · rename_i k ht
    simp only [Option.some.injEq] at h
    subst h
    obtain ⟨m, rfl⟩ := okWide_int ht hv
    obtain ⟨m', hm, _, hwf⟩ := DataW.trod_int ht hn
    have e : m = m' := by simpa [Value.cells] using hm
    subst e
    have : inR k m = true := by simpa [Lit.wf, inR] using hwf
    exact .inl ⟨_, _, ([m], []), rfl, by simp [flat1, flatC, this]⟩
  · rename_i fs ht
    cases hc : ckOf P 8 t with
    | none => rw [hc] at h; cases h
    | some l =>
      rw [hc] at h
      simp only [Option.map_some, Option.some.injEq] at h
      subst h
      obtain ⟨cs, rfl, _⟩ := okWide_struct ht hv
      obtain ⟨f, hf⟩ := ckOf_flat 8 _ _ _ _ _ hc hn
      exact .inl ⟨_, _, f, rfl, hf⟩
  · rename_i k e ht
    cases hc : ckOf P 8 t with
    | none => rw [hc] at h; cases h
    | some l =>
      rw [hc] at h
      simp only [Option.map_some, Option.some.injEq] at h
      subst h
      obtain ⟨f, hf⟩ := ckOf_flat 8 _ _ _ _ _ hc hn
      obtain ⟨_, _, _, _, hcs, _⟩ := DataW.trod_array ht hn
      have hagg : ∃ cs, v = .agg cs := by
        simp only [Value.okWide, ht] at hv
        obtain ⟨cs, h1, _⟩ := hv
        exact ⟨cs, h1⟩
      obtain ⟨cs, rfl⟩ := hagg
      exact .inl ⟨_, _, f, rfl, hf⟩
  · rename_i e ht
    cases hc : ckOf P 8 e with
    | none => rw [hc] at h; cases h
    | some ks =>
      rw [hc] at h
      simp only at h
      split at h
      · rename_i hk
        simp only [Bool.and_eq_true, beq_iff_eq, Bool.not_eq_true', List.isEmpty_eq_false_iff] at hk
        simp only [Option.some.injEq] at h
        subst h
        obtain ⟨a, len, cap, rfl⟩ := okWide_slice ht hv
        obtain ⟨l, m, q, hq⟩ := flatSl_trod ht hc hk.1 hk.2 hn
        exact .inr ⟨_, l, m, q, rfl, hq⟩
      · cases h
  · cases h

/-- All arguments, taken as numbers and bools. -/
theorem flat_of_trod {r : Reach} {b0 : Nat} : ∀ {ts : List TypeId} {ss : List Sh} {vs : List Value} {ds : List (DataW H)} {p : List MemPlace}, shsOf P ts = some ss → (∀ (j : Nat) t v, ts[j]? = some t → vs[j]? = some v → Value.okWide P w r b0 t v) →
    DataW.TrodAll enc P w base spare held ts vs ds p → ∃ is bs, flatArgs ss vs w = some (is, bs, []) ∧ ptrShapes ss = []
  | [], ss, vs, ds, p, h, _, hA => by
    simp only [shsOf, Option.some.injEq] at h
    subst h
    obtain ⟨rfl, _, _⟩ := trodAll_nil hA
    exact ⟨[], [], rfl, rfl⟩
  | t :: ts, ss, vs, ds, p, h, hv, hA => by
    unfold shsOf at h
    split at h
    · rename_i s ss' hs hss
      simp only [Option.some.injEq] at h
      subst h
      obtain ⟨v, vs', d, ds', p', q, rfl, rfl, rfl, h1, h2⟩ := trodAll_cons hA
      obtain ⟨is, bs, hr, hp⟩ := flat_of_trod hss (fun j t v hj hvj => hv (j + 1) t v (by simpa using hj) (by simpa using hvj)) h2
      rcases shOf_flat hs (hv 0 t v (by simp) (by simp)) h1 with ⟨agg, l, f, rfl, hf⟩ | ⟨ks, l, n, q, rfl, hf⟩
      · refine ⟨f.1 ++ is, f.2 ++ bs, ?_, hp⟩
        simp only [flatArgs, hf, hr]
      · refine ⟨Sx.enc l :: n :: is, bs, ?_, hp⟩
        simp only [flatArgs, hf, hr]
    · cases h

theorem trodAll_len : ∀ {ts : List TypeId} {vs : List Value} {ds : List (DataW H)} {p : List MemPlace}, DataW.TrodAll enc P w base spare held ts vs ds p → vs.length = ts.length ∧ ds.length = ts.length
  | [], vs, ds, p, h => by obtain ⟨rfl, rfl, _⟩ := trodAll_nil h; exact ⟨rfl, rfl⟩
  | t :: ts, vs, ds, p, h => by
    obtain ⟨v, vs', d, ds', p', q, rfl, rfl, rfl, _, h2⟩ := trodAll_cons h
    have := trodAll_len h2
    simp [this.1, this.2]
/-- Arguments read the same where what they lead to stays. -/
theorem trodAll_stays (hl : laidOutB P = true) {W W' : World} {sp' : Nat → Bool} : ∀ {ts : List TypeId} {vs : List Value} {ds : List (DataW H)} {ps : List MemPlace}, (∀ t, t ∈ ts → P.readableRec t = true ∧ t < P.types.size) →
    DataW.TrodAll enc P W base (fun _ => true) true ts vs ds ps → (∀ p ∈ ps, W.sameAt W' p) → (∀ p ∈ ps, sp' p.block = true) → DataW.TrodAll enc P W' base sp' true ts vs ds ps
  | [], vs, ds, ps, _, h, _, _ => by obtain ⟨rfl, rfl, rfl⟩ := trodAll_nil h; exact trodAll_mk0
  | t :: ts, vs, ds, ps, hr, h, hs, hp => by
    obtain ⟨v, vs', d, ds', p', q, rfl, rfl, rfl, h1, h2⟩ := trodAll_cons h
    obtain ⟨hr1, hr2⟩ := hr t (by simp)
    exact trodAll_cons_mk (WideElems.Trod_stays hl hr1 hr2 h1 (fun p hm => hs p (by simp [hm])) (fun p hm => hp p (by simp [hm])))
      (trodAll_stays hl (fun t hm => hr t (by simp [hm])) h2 (fun p hm => hs p (by simp [hm])) (fun p hm => hp p (by simp [hm])))
end

/-! ### Which numbers come in -/
def rngC : List CK → List Int → Prop
  | [], [] => True
  | .int k :: l, n :: is => (k.min ≤ n ∧ n ≤ k.max) ∧ rngC l is
  | .bool :: l, is => rngC l is
  | .pt _ _ :: l, is => rngC l is
  | .str :: l, n :: is => (∃ s : ByteArray, n = encS s ∧ InR .i64 s.size) ∧ rngC l is
  | _, _ => False
def rngK : List CK → (List Int → Prop) → List Int → Prop
  | [], k, is => k is
  | .int kd :: l, k, n :: is => (kd.min ≤ n ∧ n ≤ kd.max) ∧ rngK l k is
  | .int _ :: _, _, [] => False
  | .bool :: l, k, is => rngK l k is
  | .pt _ _ :: l, k, is => rngK l k is
  | .str :: l, k, n :: is => (∃ s : ByteArray, n = encS s ∧ InR .i64 s.size) ∧ rngK l k is
  | .str :: _, _, [] => False
def inCK : CK → Int → Prop
  | .int k, m => InR k m
  | .bool, m => m = 0 ∨ m = 1
  | .pt _ _, _ => False
  | .str, m => ∃ s : ByteArray, m = encS s ∧ InR .i64 s.size
def slRng (ks : List CK) (q n : Int) : Prop := 0 ≤ n ∧ n ≤ 9223372036854775807 ∧ ∃ l, q = enc l ∧ l.length = n.toNat * ks.length ∧ ∀ (j : Nat) (m : Int), l[j]? = some m → ∃ ck, ks[j % ks.length]? = some ck ∧ inCK ck m
def rngA : List Sh → List Int → Prop
  | [], is => is = []
  | .val _ l :: ss, is => rngK l (rngA ss) is
  | .ptr l :: ss, is => rngK l (rngA ss) is
  | .sli ks :: ss, q :: n :: is => slRng ks q n ∧ rngA ss is
  | .sli _ :: _, [] => False
  | .sli _ :: _, [_] => False
theorem rngK_of {k : List Int → Prop} : ∀ {l : List CK} {i1 i2 : List Int}, rngC l i1 → k i2 → rngK l k (i1 ++ i2)
  | [], [], i2, _, h => h
  | .int kd :: l, n :: i1, i2, h1, h2 => ⟨h1.1, rngK_of h1.2 h2⟩
  | .bool :: l, i1, i2, h1, h2 => rngK_of (l := l) (by cases i1 <;> exact h1) h2
  | .pt _ _ :: l, i1, i2, h1, h2 => rngK_of (l := l) (by cases i1 <;> exact h1) h2
  | .str :: l, n :: i1, i2, h1, h2 => ⟨h1.1, rngK_of h1.2 h2⟩
  | .str :: _, [], _, h, _ => h.elim
  | [], _ :: _, _, h, _ => h.elim
  | .int _ :: _, [], _, h, _ => h.elim
theorem rngC_append : ∀ {l1 l2 : List CK} {i1 i2 : List Int}, rngC l1 i1 → rngC l2 i2 → rngC (l1 ++ l2) (i1 ++ i2)
  | [], l2, [], i2, _, h => h
  | .int k :: l1, l2, n :: i1, i2, h1, h2 => ⟨h1.1, rngC_append h1.2 h2⟩
  | .bool :: l1, l2, i1, i2, h1, h2 => by
    have h1' : rngC l1 i1 := by cases i1 <;> exact h1
    have := rngC_append h1' h2
    cases hi : i1 ++ i2 <;> rw [hi] at this <;> exact this
  | .pt _ _ :: l1, l2, i1, i2, h1, h2 => by
    have h1' : rngC l1 i1 := by cases i1 <;> exact h1
    have := rngC_append h1' h2
    cases hi : i1 ++ i2 <;> rw [hi] at this <;> exact this
  | .str :: l1, l2, n :: i1, i2, h1, h2 => ⟨h1.1, rngC_append h1.2 h2⟩
  | .str :: _, _, [], _, h, _ => h.elim
  | [], _, _ :: _, _, h, _ => h.elim
  | .int _ :: _, _, [], _, h, _ => h.elim
theorem flatC_rng {ps : List Rg} : ∀ {l : List CK} {vs : List Value} {f : Fl}, flatC ps l vs = some f → rngC l f.1
  | [], [], f, h => by simp only [flatC, Option.some.injEq] at h; subst h; trivial
  | .int k :: l, v :: vs, f, h => by
    unfold flatC at h
    split at h
    · rename_i k' n is bs hv
      split at h
      · rename_i hc
        simp only [Option.some.injEq] at h
        subst h
        simp only [Bool.and_eq_true, beq_iff_eq] at hc
        have h2 := hc.2
        simp only [inR, Bool.and_eq_true, decide_eq_true_eq] at h2
        exact ⟨h2, flatC_rng hv⟩
      · cases h
    · cases h
  | .bool :: l, v :: vs, f, h => by
    unfold flatC at h
    split at h
    · rename_i b is bs hv
      simp only [Option.some.injEq] at h
      subst h
      have := flatC_rng hv
      cases is <;> exact this
    · cases h
  | .pt k o :: l, v :: vs, f, h => by
    unfold flatC at h
    split at h
    · rename_i a r is bs hr hv
      split at h
      · simp only [Option.some.injEq] at h
        subst h
        have := flatC_rng hv
        cases is <;> exact this
      · cases h
    · cases h
  | .str :: l, v :: vs, f, h => by
    unfold flatC at h
    split at h
    · rename_i s is bs hv
      split at h
      · rename_i hc
        simp only [Option.some.injEq] at h
        subst h
        exact ⟨⟨s, rfl, inR_spec hc⟩, flatC_rng hv⟩
      · cases h
    · cases h
  | .str :: _, [], _, h => by simp [flatC] at h
  | [], _ :: _, _, h => by simp [flatC] at h
  | .int _ :: _, [], _, h => by simp [flatC] at h
  | .bool :: _, [], _, h => by simp [flatC] at h
  | .pt _ _ :: _, [], _, h => by simp [flatC] at h
theorem flatSl_rng {w : World} {ks : List CK} {v : Value} {l : List Int} {n : Int} {r : Option Rg} (h : flatSl w ks v = some (l, n, r)) : slRng ks (enc l) n := by
  unfold flatSl at h
  split at h
  · rename_i p len cap
    split at h
    · simp only [Option.some.injEq, Prod.mk.injEq] at h
      obtain ⟨rfl, rfl, rfl⟩ := h
      exact ⟨by omega, by omega, [], rfl, by simp, fun j m hj => by simp at hj⟩
    · split at h
      · rename_i b o
        split at h
        · rename_i hin
          split at h
          · rename_i l' hl
            simp only [Option.some.injEq, Prod.mk.injEq] at h
            obtain ⟨rfl, rfl, rfl⟩ := h
            cases hrd : readCells w b o (len * ks.length) with
            | none => rw [hrd] at hl; simp at hl
            | some us =>
              rw [hrd] at hl
              simp only [Option.bind_some] at hl
              obtain ⟨g1, g2⟩ := readCells_get hrd
              obtain ⟨g3, g4⟩ := seq_of_read (b := b) (o := o) (w := w) hl g2
              refine ⟨by omega, (inR_spec hin).2, l', rfl, by rw [Int.toNat_natCast]; omega, fun j m hj => ?_⟩
              obtain ⟨ck, v, k1, k2, k3⟩ := g4 j m hj
              refine ⟨ck, by simpa using k1, ?_⟩
              cases ck with
              | int k => exact k3.2
              | bool => exact k3.1
              | str => obtain ⟨s, _, k4, k5⟩ := k3; exact ⟨s, k4, k5⟩
              | pt _ _ => exact k3
          · cases h
        · cases h
      · cases h
  · cases h
theorem flatArgs_rng {w : World} : ∀ {ss : List Sh} {vs : List Value} {is : List Int} {bs : List Bool} {ps : List Rg}, flatArgs ss vs w = some (is, bs, ps) → rngA ss is
  | [], [], is, bs, ps, h => by
    simp only [flatArgs, Option.some.injEq, Prod.mk.injEq] at h
    exact h.1.symm
  | .val agg l :: ss, v :: vs, is, bs, ps, h => by
    unfold flatArgs at h
    split at h
    · rename_i i b is' bs' ps' h1 h2
      simp only [Option.some.injEq, Prod.mk.injEq] at h
      obtain ⟨rfl, _⟩ := h
      obtain ⟨us, hf, _⟩ := flat1_inv h1
      exact rngK_of (flatC_rng hf) (flatArgs_rng h2)
    · cases h
  | .ptr l :: ss, v :: vs, is, bs, ps, h => by
    unfold flatArgs at h
    split at h
    · rename_i b o is' bs' ps' h2
      split at h
      · rename_i i bb h1
        simp only [Option.some.injEq, Prod.mk.injEq] at h
        obtain ⟨rfl, _⟩ := h
        cases hr : readCells w b o l.length with
        | none => rw [hr] at h1; simp at h1
        | some us =>
          rw [hr] at h1
          simp only [Option.bind_some] at h1
          exact rngK_of (flatC_rng h1) (flatArgs_rng h2)
      · cases h
    · cases h
  | .sli ks :: ss, v :: vs, is, bs, ps, h => by
    unfold flatArgs at h
    split at h
    · rename_i l n r is' bs' ps' h1 h2
      simp only [Option.some.injEq, Prod.mk.injEq] at h
      obtain ⟨rfl, _⟩ := h
      exact ⟨flatSl_rng h1, flatArgs_rng h2⟩
    · cases h
  | [], _ :: _, _, _, _, h => by simp [flatArgs] at h
  | .val _ _ :: _, [], _, _, _, h => by simp [flatArgs] at h
  | .ptr _ :: _, [], _, _, _, h => by simp [flatArgs] at h
  | .sli _ :: _, [], _, _, _, h => by simp [flatArgs] at h
theorem len_cons {α : Type} {l : List α} {n : Nat} (h : l.length = n + 1) : ∃ a t, l = a :: t ∧ t.length = n := by
  cases l with
  | nil => simp at h
  | cons a t => exact ⟨a, t, rfl, by simpa using h⟩
theorem len_nil {α : Type} {l : List α} (h : l.length = 0) : l = [] := List.eq_nil_of_length_eq_zero h
theorem Smry.ob_spec {Φ : Funs} {S : Smry} {is : List Int} {bs : List Bool} (hw : wsEm S.em is.length bs.length = true) (h : ∀ ρ, headsI ρ is 0 → headsB ρ bs 0 → eqns Φ ρ S.em → obAll ρ S.em = true) :
    obAll (envOf (evEm Φ S.em is bs).1 (evEm Φ S.em is bs).2) S.em = true := by
  obtain ⟨h1, h2⟩ := evEm_spec Φ S.em is bs hw
  refine h _ (headsI_of fun n hn => ?_) (headsB_of fun n hn => ?_) (eqns_of fun e he => ?_)
  · rw [Nat.zero_add]; exact h1.1 n hn
  · rw [Nat.zero_add]; exact h1.2 n hn
  · have := h2 e he
    cases e <;> simp_all

/-! ### What stays -/
theorem Keep.sameAt {w w' : World} (h : Keep [] w w') {p : MemPlace} (hp : p.block < w.heap.size) : w.sameAt w' p := by
  cases p with
  | cell b off => exact h.cell ⟨b, off, none⟩ hp fun r hr => by cases hr
  | map b => exact h.blk b hp fun r hr => by cases hr
theorem Keep.keptBut {w w' : World} (h : Keep [] w w') (may : MemPlace → Prop) : w.keptBut w' may := by
  refine ⟨h.os, h.output, fun i hi => ?_⟩
  rw [h.blk i hi fun r hr => by cases hr]
  cases hw : w.heap[i]? with
  | none => trivial
  | some o =>
    cases o <;> simp

/-! ### Tables, as their row lays them -/
theorem trod_ints {H : Type} {enc : TypeId × Value → H} {P : Program} {w : World} {base : Nat} {spare : Nat → Bool} {held : Bool} {fuel : Nat} {t e : TypeId} {n : Nat} {k : IntKind} (ht : P.underlying t = some (.array n e)) (he : P.underlying e = some (.int k)) (hc : P.cellsOf e = 1) (hct : P.cellsOf t = n)
    {l : List Int} {cs : List Value} {p : List MemPlace} (h : DataW.trod enc P w base spare held fuel t cs = some (.agg (l.map fun m => .lit (.int k m)), p)) : cs = l.map (Value.int k) := by
  obtain ⟨xs, m, rfl, hx, hcs, hxl, hf⟩ := DataW.trod_array ht h
  obtain ⟨hx1, _⟩ := Prod.mk.inj hx
  simp only [DataW.agg.injEq] at hx1
  have hll : l.length = n := by
    have := congrArg List.length hx1
    simpa [hxl] using this
  apply List.ext_getElem?
  intro i
  by_cases hi : i < n
  · have h1 := hf i hi
    have hix : i < xs.length := by omega
    rw [List.getElem?_eq_getElem hix, hc, Nat.mul_one] at h1
    obtain ⟨v, hv, hxv, _⟩ := DataW.trod_int he h1
    have hil : i < l.length := by omega
    have e1 : (l.map fun m => (DataW.lit (.int k m) : DataW H))[i]? = (xs.map (·.1))[i]? := by rw [hx1]
    rw [List.getElem?_map, List.getElem?_map, List.getElem?_eq_getElem hix, List.getElem?_eq_getElem hil] at e1
    simp only [Option.map_some, Option.some.injEq, hxv, DataW.lit.injEq, Lit.int.injEq, true_and] at e1
    have hic : i < cs.length := by omega
    have e2 : cs[i]? = some (.int k v) := by
      have := congrArg (·[0]?) hv
      simpa [List.getElem?_take, List.getElem?_drop] using this
    rw [e2, List.getElem?_map, List.getElem?_eq_getElem hil, e1]
    rfl
  · rw [List.getElem?_eq_none (by omega), List.getElem?_eq_none (by simp; omega)]

/-! ### The law's answer, as the row asks it -/
theorem law_post {P : Program} {fn : Func} {s : ChangeSpec} {H : Type} {enc : TypeId × Value → H} {W W' : World} {args : Array Value} {ds gs : List (DataW H)} {before p : List MemPlace} (hl : laidOutB P = true) (hpar : ∀ t, t ∈ fn.params.toList → P.readableRec t = true ∧ t < P.types.size)
    {tb : TypeId} (hres : fn.resultTypes = #[tb]) (hb : P.underlying tb = some .bool) (hvars : s.vars = []) (hW : DataW.Whole enc P fn.params.toList s.vars false W args.toList ds gs before) (hA : DataW.TrodAll enc P W 0 (fun _ => true) true fn.params.toList args.toList ds p) (hbe : before = p) (hgs : gs = [])
    (hfn : s.fn H (ds ++ []) = { results := [.lit (.bool true)], args := ds }) (hk : Keep [] W W') : s.post enc P fn false true false false W args (.bool true) W' := by
  subst hbe hgs
  have hlt : ∀ x ∈ before, x.block < W.heap.size := fun x hx => hW.lt x hx
  have hsame : ∀ x ∈ before, W.sameAt W' x := fun x hx => hk.sameAt (hlt x hx)
  refine ⟨ds, [], before, [], before, [], hW, ?_, ?_, ?_, ?_, fun h => by cases h⟩
  · rw [hfn, hres]
    exact trodAll_mk1 (shut_bool hb true)
  · rw [hfn]
    exact trodAll_stays hl hpar hA hsame (fun x hx => by simpa using hlt x hx)
  · rw [hvars, hfn]
    rfl
  · exact hk.keptBut _
end Go.Proofs.YtalnndmnnffnmaaGreat.Sx
