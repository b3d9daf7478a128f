/-
  SX, part B: what is known of the world: stretches of cells, what a step leaves alone. No condition.
-/
import Derived.Test.YtalnndmnnffnmaaGreatSxA
set_option linter.unusedVariables false
set_option linter.unusedSimpArgs false
namespace Go.Proofs.YtalnndmnnffnmaaGreat.Sx
open Go

def inRg (r : Rg) (a : Addr) : Prop := a.block = r.blk ∧ r.off ≤ a.off ∧ a.off < r.off + r.len

/-- Of what was there all is as it was, but for these stretches' cells. -/
structure Keep (W : List Rg) (w w' : World) : Prop where
  os : w'.os = w.os
  tape : w'.tape = w.tape
  output : w'.output = w.output
  size : w.heap.size ≤ w'.heap.size
  cell : ∀ a : Addr, a.block < w.heap.size → (∀ r, r ∈ W → ¬ inRg r a) → w'.cell? a = w.cell? a
  frz : ∀ a : Addr, a.block < w.heap.size → w'.frozen? a = w.frozen? a
  shp : ∀ k, k < w.heap.size → w'.shape? k = w.shape? k
  blk : ∀ k, k < w.heap.size → (∀ r, r ∈ W → r.blk ≠ k) → w'.heap[k]? = w.heap[k]?

theorem Keep.refl (W : List Rg) (w : World) : Keep W w w :=
  ⟨rfl, rfl, rfl, Nat.le_refl _, fun _ _ _ => rfl, fun _ _ => rfl, fun _ _ => rfl, fun _ _ _ => rfl⟩

theorem cell?_of_blk {w w' : World} {a : Addr} (h : w'.heap[a.block]? = w.heap[a.block]?) : w'.cell? a = w.cell? a := by
  unfold World.cell?; rw [h]
theorem frozen?_of_blk {w w' : World} {a : Addr} (h : w'.heap[a.block]? = w.heap[a.block]?) : w'.frozen? a = w.frozen? a := by
  unfold World.frozen?; rw [h]
theorem shape?_of_blk {w w' : World} {k : Nat} (h : w'.heap[k]? = w.heap[k]?) : w'.shape? k = w.shape? k := by
  unfold World.shape?; rw [h]

/-- Nothing at all has turned. -/
theorem Keep.of_blocks {W : List Rg} {w w' : World} (h1 : w'.os = w.os) (h2 : w'.tape = w.tape) (h3 : w'.output = w.output) (h4 : w.heap.size ≤ w'.heap.size)
    (h : ∀ k, k < w.heap.size → w'.heap[k]? = w.heap[k]?) : Keep W w w' :=
  ⟨h1, h2, h3, h4, fun a ha _ => cell?_of_blk (h _ ha), fun a ha => frozen?_of_blk (h _ ha), fun k hk => shape?_of_blk (h k hk), fun k hk _ => h k hk⟩

theorem Keep.alloc (W : List Rg) (w : World) (o : Obj) : Keep W w (w.alloc o) :=
  Keep.of_blocks rfl rfl rfl (by simp) fun k hk => Go.RowKit.Below.heap_alloc w o k hk
theorem Keep.drew (W : List Rg) (w : World) : Keep W w { w with drawn := w.drawn + 1 } :=
  Keep.of_blocks rfl rfl rfl (Nat.le_refl _) fun _ _ => rfl
theorem shape?_setCell (w : World) (a : Addr) (v : Value) (k : Nat) : (w.setCell a v).shape? k = w.shape? k := by
  simp only [World.setCell, World.shape?, Array.getElem?_modify]
  by_cases hb : a.block = k
  · simp only [hb, if_true]
    cases hh : w.heap[k]? with
    | none => simp
    | some x => cases x <;> simp <;> split <;> simp
  · simp [hb]
theorem Keep.setCell {W : List Rg} {w : World} {a : Addr} (v : Value) {r : Rg} (hr : r ∈ W) (ha : inRg r a) : Keep W w (w.setCell a v) :=
  ⟨rfl, rfl, rfl, by simp, fun b _ hn => World.cell?_setCell_other w a b v (fun e => hn r hr (e ▸ ha)), fun b _ => World.frozen?_setCell w a b v,
    fun k _ => shape?_setCell w a v k, fun k _ hn => Go.RowKit.Below.heap_setCell w a v k (fun e => hn r hr (by rw [← ha.1, e]))⟩

/-- A stretch that is new, or within one of those. -/
def Cov (W : List Rg) (N : Nat) (r : Rg) : Prop :=
  N ≤ r.blk ∨ ∃ q, q ∈ W ∧ q.blk = r.blk ∧ q.off ≤ r.off ∧ r.off + r.len ≤ q.off + q.len
theorem Cov.inRg {W : List Rg} {N : Nat} {r : Rg} (h : Cov W N r) {a : Addr} (ha : inRg r a) (hN : a.block < N) : ∃ q, q ∈ W ∧ Sx.inRg q a := by
  rcases h with h | ⟨q, hq, hb, h1, h2⟩
  · have := ha.1; omega
  · refine ⟨q, hq, ?_⟩
    unfold Sx.inRg at *
    omega
theorem Keep.trans {W W' : List Rg} {w w1 w2 : World} (h : Keep W w w1) (h' : Keep W' w1 w2) (hc : ∀ r, r ∈ W' → Cov W w.heap.size r) : Keep W w w2 := by
  have hs := h.size
  refine ⟨h'.os.trans h.os, h'.tape.trans h.tape, h'.output.trans h.output, Nat.le_trans h.size h'.size, fun a ha hn => ?_, fun a ha => ?_, fun k hk => ?_, fun k hk hn => ?_⟩
  · refine (h'.cell a (by omega) fun r hr hi => ?_).trans (h.cell a ha hn)
    obtain ⟨q, hq, hqi⟩ := (hc r hr).inRg hi ha
    exact hn q hq hqi
  · exact (h'.frz a (by omega)).trans (h.frz a ha)
  · exact (h'.shp k (by omega)).trans (h.shp k hk)
  · refine (h'.blk k (by omega) fun r hr hi => ?_).trans (h.blk k hk hn)
    rcases hc r hr with h1 | ⟨q, hq, hb, _, _⟩
    · omega
    · exact hn q hq (hb.trans hi)
/-- With nothing let: as 'Below' has it. -/
theorem Keep.below {w w' : World} (h : Keep [] w w') : Go.RowKit.Below w.heap.size w w' :=
  ⟨h.os, h.tape, h.output, h.size, fun k hk => h.blk k hk (fun r hr => by cases hr)⟩
theorem Keep.nil_any {W : List Rg} {w w' : World} (h : Keep [] w w') : Keep W w w' :=
  Keep.of_blocks h.os h.tape h.output h.size fun k hk => h.blk k hk (fun r hr => by cases hr)

def Rg.apart (r q : Rg) : Prop := r.blk ≠ q.blk ∨ r.off + r.len ≤ q.off ∨ q.off + q.len ≤ r.off

/-- What a cell of a kind holds, said as a number. -/
def ckv : CK → Int → Value → Prop
  | .int k, n, v => v = .int k n ∧ InR k n
  | .bool, n, v => (n = 0 ∨ n = 1) ∧ v = .bool (n != 0)
  | .pt _ _, _, _ => False
  | .str, n, v => ∃ s : ByteArray, v = .string s ∧ n = encS s ∧ InR .i64 s.size
/-- A stretch that holds a list of numbers, of kinds that go around. -/
def seqAt (w : World) (b o : Nat) (ks : List CK) (l : List Int) : Prop :=
  ∀ (j : Nat) (n : Int), l[j]? = some n → ∃ ck v, ks[j % ks.length]? = some ck ∧ w.cell? ⟨b, o + j, none⟩ = some v ∧ ckv ck n v
def SqOk (β : Beta) (w : World) : Prop := ∀ i r ks l, β i = some r → r.sq = some (ks, l) → r.ro = true ∧ l.length = r.len ∧ seqAt w r.blk r.off ks l

/-- Where stretches lie: apart, among what is there, new or let. -/
structure BetaOk (N : Nat) (R : List Rg) (β : Beta) (w : World) : Prop where
  apart : ∀ i j r q, i ≠ j → β i = some r → β j = some q → (r.ro = true ∧ q.ro = true) ∨ r.apart q
  place : ∀ i r, β i = some r → r.blk < w.heap.size
  may : ∀ i r, β i = some r → r.ro = true ∨ Cov R N r
  sq : SqOk β w

def Ext (β β' : Beta) : Prop := ∀ i r, β i = some r → β' i = some r
theorem Ext.refl (β : Beta) : Ext β β := fun _ _ h => h
theorem Ext.trans {β γ δ : Beta} (h : Ext β γ) (h' : Ext γ δ) : Ext β δ := fun i r hi => h' i r (h i r hi)

theorem capMt_ext {β β' : Beta} (h : Ext β β') : ∀ {l : List (Nat × Nat)} {vs : List Value}, capMt β l vs → capMt β' l vs
  | [], [], _ => trivial
  | _ :: _, _ :: _, ⟨⟨r, hr, hv⟩, h2⟩ => ⟨⟨r, h _ _ hr, hv⟩, capMt_ext h h2⟩
theorem fvMt_ext {β β' : Beta} (h : Ext β β') {f : FV} {v : Value} (hv : fvMt β f v) : fvMt β' f v := by
  unfold fvMt at *
  cases f with
  | none => exact hv
  | some p => obtain ⟨vs, h1, h2⟩ := hv; exact ⟨vs, h1, capMt_ext h h2⟩
theorem C.mt_ext {β β' : Beta} {ρ : Env} (h : Ext β β') {c : C} {v : Value} (hc : c.mt β ρ v) : c.mt β' ρ v := by
  cases c with
  | ptr l id off => obtain ⟨r, hr, hv⟩ := hc; exact ⟨r, h _ _ hr, hv⟩
  | pix id off s len a k => obtain ⟨h1, h2, r, hr, hv⟩ := hc; exact ⟨h1, h2, r, h _ _ hr, hv⟩
  | sli id off len cap => obtain ⟨r, hr, hv⟩ := hc; exact ⟨r, h _ _ hr, hv⟩
  | slx id ks q len =>
    obtain ⟨h1, h2, h3⟩ := hc
    refine ⟨h1, h2, ?_⟩
    rcases h3 with h3 | ⟨r, cap, l, hr, h4⟩
    · exact .inl h3
    · exact .inr ⟨r, cap, l, h _ _ hr, h4⟩
  | pxq id ks q a k => obtain ⟨h1, r, l, hr, h2⟩ := hc; exact ⟨h1, r, l, h _ _ hr, h2⟩
  | fn l d => exact fvMt_ext h hc
  | mp id => obtain ⟨r, hr, hv⟩ := hc; exact ⟨r, h _ _ hr, hv⟩
  | _ => exact hc
theorem mtL_ext {β β' : Beta} {ρ : Env} (h : Ext β β') : ∀ {l : List C} {vs : List Value}, mtL β ρ l vs → mtL β' ρ l vs
  | [], [], _ => trivial
  | _ :: _, _ :: _, ⟨h1, h2⟩ => ⟨C.mt_ext h h1, mtL_ext h h2⟩
theorem mt1_ext {β β' : Beta} {ρ : Env} (h : Ext β β') {agg : Bool} {l : List C} {v : Value} (hv : mt1 β ρ agg l v) : mt1 β' ρ agg l v := by
  unfold mt1 at *
  cases agg
  · obtain ⟨c, h1, h2⟩ := hv; exact ⟨c, h1, C.mt_ext h h2⟩
  · obtain ⟨vs, h1, h2⟩ := hv; exact ⟨vs, h1, mtL_ext h h2⟩
theorem mtT_ext {β β' : Beta} {ρ : Env} (h : Ext β β') : ∀ {l : List (Bool × List C)} {vs : List Value}, mtT β ρ l vs → mtT β' ρ l vs
  | [], [], _ => trivial
  | _ :: _, _ :: _, ⟨h1, h2⟩ => ⟨mt1_ext h h1, mtT_ext h h2⟩
theorem S.mt_ext {β β' : Beta} {ρ : Env} (h : Ext β β') {s : S} {v : Value} (hs : s.mt β ρ v) : s.mt β' ρ v := by
  cases s with
  | one agg l => exact mt1_ext h hs
  | tup l => obtain ⟨vs, h1, h2⟩ := hs; exact ⟨vs, h1, mtT_ext h h2⟩
  | any => trivial
theorem SV.mt_ext {β β' : Beta} {ρ : Env} (h : Ext β β') {x : SV} {v : Value} (hs : x.mt β ρ v) : x.mt β' ρ v :=
  ⟨fun hg => S.mt_ext h (hs.1 hg), hs.2⟩

/-- The cells from j on. -/
def cellsAt (β : Beta) (ρ : Env) (w : World) (b : Nat) : Nat → List C → Prop
  | _, [] => True
  | o, c :: cs => (∃ v, w.cell? ⟨b, o, none⟩ = some v ∧ c.mt β ρ v) ∧ cellsAt β ρ w b (o + 1) cs
theorem cellsAt_iff {β : Beta} {ρ : Env} {w : World} {b : Nat} : ∀ {o : Nat} {l : List C}, cellsAt β ρ w b o l ↔ ∀ j c, l[j]? = some c → ∃ v, w.cell? ⟨b, o + j, none⟩ = some v ∧ c.mt β ρ v
  | o, [] => by simp [cellsAt]
  | o, c :: cs => by
    rw [cellsAt, cellsAt_iff (o := o + 1) (l := cs)]
    constructor
    · rintro ⟨h1, h2⟩ j d hd
      cases j with
      | zero => simp at hd; subst hd; exact h1
      | succ j => simp at hd; have := h2 j d hd; rwa [show o + 1 + j = o + (j + 1) by omega] at this
    · intro h
      refine ⟨h 0 c (by simp), fun j d hd => ?_⟩
      have := h (j + 1) d (by simpa using hd)
      rwa [show o + (j + 1) = o + 1 + j by omega] at this

/-- A stretch holds what is known of it. -/
def blkMt (β : Beta) (ρ : Env) (w : World) (id : Nat) (b : Blk) : Prop :=
  ∃ r, β id = some r ∧ r.len = b.cells.length ∧ r.ro = b.ro ∧ cellsAt β ρ w r.blk r.off b.cells ∧
    (b.ro = false → ∀ j, j < b.cells.length → w.frozen? ⟨r.blk, r.off + j, none⟩ = false)

abbrev Hp := Nat → Option Blk
def heapMt (β : Beta) (ρ : Env) (hp : Hp) (w : World) : Prop := ∀ id b, hp id = some b → Gd.d ρ b.g = true → blkMt β ρ w id b

theorem cellsAt_congr {β β' : Beta} {ρ : Env} {w w' : World} {b : Nat} (he : Ext β β') {o : Nat} {l : List C}
    (h : ∀ j, j < l.length → w'.cell? ⟨b, o + j, none⟩ = w.cell? ⟨b, o + j, none⟩) (hc : cellsAt β ρ w b o l) : cellsAt β' ρ w' b o l := by
  rw [cellsAt_iff] at *
  intro j c hj
  obtain ⟨v, hv, hm⟩ := hc j c hj
  exact ⟨v, by rw [h j (by exact (List.getElem?_eq_some_iff.1 hj).1)]; exact hv, C.mt_ext he hm⟩

theorem BetaOk.apartW {N : Nat} {R : List Rg} {β : Beta} {w : World} (h : BetaOk N R β w) {i j : Nat} {r q : Rg} (hij : i ≠ j) (hi : β i = some r) (hj : β j = some q) (hro : r.ro = false) : r.apart q :=
  (h.apart i j r q hij hi hj).resolve_left fun hh => by rw [hh.1] at hro; cases hro

/-- What was not written holds what it held. -/
theorem blkMt_keep {N : Nat} {R : List Rg} {β β' : Beta} {ρ : Env} {w w' : World} {W : List Rg} (he : Ext β β') (hb : BetaOk N R β w) (hk : Keep W w w')
    {id : Nat} {b : Blk} (hW : ∀ r q, r ∈ W → β id = some q → r.apart q) (h : blkMt β ρ w id b) : blkMt β' ρ w' id b := by
  obtain ⟨r, hr, hl, hro, hc, hf⟩ := h
  have hp := hb.place id r hr
  refine ⟨r, he _ _ hr, hl, hro, cellsAt_congr he (fun j hj => hk.cell _ hp fun q hq hi => ?_) hc, fun h0 j hj => (hk.frz _ hp).trans (hf h0 j hj)⟩
  have := hW q r hq hr
  unfold inRg at hi
  unfold Rg.apart at this
  simp only at hi
  omega

/-- A new stretch. -/
def Beta.set (β : Beta) (id : Nat) (r : Rg) : Beta := fun i => if i = id then some r else β i
theorem Beta.set_same (β : Beta) (id : Nat) (r : Rg) : β.set id r id = some r := by simp [Beta.set]
theorem Beta.set_ext {β : Beta} {id : Nat} {r : Rg} (h : β id = none) : Ext β (β.set id r) := fun i q hi => by
  unfold Beta.set
  by_cases e : i = id
  · subst e; rw [h] at hi; cases hi
  · rw [if_neg e]; exact hi
theorem BetaOk.alloc {N : Nat} {R : List Rg} {β : Beta} {w : World} (hb : BetaOk N R β w) (hN : N ≤ w.heap.size) (o : Obj) {id : Nat} (n : Nat) :
    BetaOk N R (β.set id { blk := w.heap.size, off := 0, len := n, ro := false }) (w.alloc o) := by
  refine ⟨fun i j r q hij hi hj => ?_, fun i r hi => ?_, fun i r hi => ?_, fun i r ks l hi hs => ?_⟩
  · unfold Beta.set at hi hj
    by_cases ei : i = id
    · rw [if_pos ei] at hi
      by_cases ej : j = id
      · omega
      · rw [if_neg ej] at hj
        have := hb.place j q hj
        cases hi
        exact .inr (.inl (by simp only; omega))
    · rw [if_neg ei] at hi
      by_cases ej : j = id
      · rw [if_pos ej] at hj
        have := hb.place i r hi
        cases hj
        exact .inr (.inl (by simp only; omega))
      · rw [if_neg ej] at hj
        exact hb.apart i j r q hij hi hj
  · unfold Beta.set at hi
    by_cases ei : i = id
    · rw [if_pos ei] at hi; cases hi; simp
    · rw [if_neg ei] at hi; have := hb.place i r hi; simp; omega
  · unfold Beta.set at hi
    by_cases ei : i = id
    · rw [if_pos ei] at hi; cases hi; exact .inr (.inl hN)
    · rw [if_neg ei] at hi; exact hb.may i r hi
  · unfold Beta.set at hi
    by_cases ei : i = id
    · rw [if_pos ei] at hi; cases hi; cases hs
    · rw [if_neg ei] at hi
      obtain ⟨h1, h2, h3⟩ := hb.sq i r ks l hi hs
      refine ⟨h1, h2, fun j n hj => ?_⟩
      obtain ⟨ck, v, g1, g2, g3⟩ := h3 j n hj
      exact ⟨ck, v, g1, ((Keep.alloc [] w o).cell _ (hb.place i r hi) (fun r hr => by cases hr)).trans g2, g3⟩
theorem BetaOk.keep {N : Nat} {R : List Rg} {β : Beta} {w w' : World} (hb : BetaOk N R β w) {W : List Rg} (hW : ∀ r, r ∈ W → ∃ id, β id = some r ∧ r.ro = false) (h : Keep W w w') : BetaOk N R β w' := by
  refine ⟨hb.apart, fun i r hi => by have := hb.place i r hi; have := h.size; omega, hb.may, fun i r ks l hi hs => ?_⟩
  obtain ⟨h1, h2, h3⟩ := hb.sq i r ks l hi hs
  refine ⟨h1, h2, fun j n hj => ?_⟩
  obtain ⟨ck, v, g1, g2, g3⟩ := h3 j n hj
  refine ⟨ck, v, g1, (h.cell _ (hb.place i r hi) fun q hq hin => ?_).trans g2, g3⟩
  obtain ⟨id, hid, hro⟩ := hW q hq
  have hne : i ≠ id := fun e => by
    subst e
    rw [hi] at hid
    cases hid
    rw [h1] at hro
    cases hro
  have hlt := (List.getElem?_eq_some_iff.1 hj).1
  rcases hb.apart i id r q hne hi hid with ha | ha
  · rw [hro] at ha; cases ha.2
  · unfold inRg at hin
    unfold Rg.apart at ha
    simp only at hin
    omega

/-- One operation's step: the addresses grow, stretches outside 'ids' are left alone. -/
structure Step (N : Nat) (R : List Rg) (β : Beta) (w : World) (ids : List Nat) (lo hi : Nat) (β' : Beta) (w' : World) : Prop where
  ext : Ext β β'
  bo : BetaOk N R β' w'
  kp : ∃ W, (∀ r, r ∈ W → ∃ id, id ∈ ids ∧ β id = some r ∧ r.ro = false ∧ ∃ j v, w.cell? ⟨r.blk, j, none⟩ = some v) ∧ Keep W w w'
  dom : ∀ i, (i < lo ∨ hi ≤ i) → β' i = β i

theorem Step.refl {N : Nat} {R : List Rg} {β : Beta} {w : World} (hb : BetaOk N R β w) (ids : List Nat) (lo hi : Nat) : Step N R β w ids lo hi β w :=
  ⟨Ext.refl β, hb, ⟨[], by simp, Keep.refl _ _⟩, fun _ _ => rfl⟩
end Go.Proofs.YtalnndmnnffnmaaGreat.Sx
