/-
  SX, part C: cells read, written and made; two values as one, by a condition. No condition.
-/
import Derived.Test.YtalnndmnnffnmaaGreatSxB
import Derived.Laws.Cells
set_option linter.unusedVariables false
set_option linter.unusedSimpArgs false
namespace Go.Proofs.YtalnndmnnffnmaaGreat.Sx
open Go

theorem C.mt_oneCell {β : Beta} {ρ : Env} {c : C} {v : Value} (h : c.mt β ρ v) : oneCell v = true := by
  cases c with
  | int k a => rw [h.1]; rfl
  | bool b => rw [show v = _ from h]; rfl
  | ptr l id off => obtain ⟨r, _, hv⟩ := h; rw [hv]; rfl
  | pix id off s len a k => obtain ⟨_, _, r, _, hv⟩ := h; rw [hv]; rfl
  | sli id off len cap => obtain ⟨r, _, hv⟩ := h; rw [hv]; rfl
  | slx id ks q len =>
    obtain ⟨_, _, h3⟩ := h
    rcases h3 with ⟨_, _, p, cap, hv⟩ | ⟨r, cap, l, _, _, _, _, _, hv⟩ <;> (rw [hv]; rfl)
  | pxq id ks q a k => obtain ⟨_, r, l, _, _, _, _, hv⟩ := h; rw [hv]; rfl
  | val u => rw [h.1]; exact h.2
  | junk => exact h
  | str q => obtain ⟨s, hv, _⟩ := h; rw [hv]; rfl
  | fn l d =>
    have h : fvMt β (pickF ρ l d) v := h
    unfold fvMt at h
    split at h
    · rw [h]; rfl
    · obtain ⟨vs, hv, _⟩ := h; rw [hv]; rfl
  | mp id => obtain ⟨r, _, hv⟩ := h; rw [hv]; rfl
theorem mtL_length {β : Beta} {ρ : Env} : ∀ {l : List C} {vs : List Value}, mtL β ρ l vs → l.length = vs.length
  | [], [], _ => rfl
  | _ :: _, _ :: _, ⟨_, h⟩ => by simp [mtL_length h]
theorem mtL_get {β : Beta} {ρ : Env} : ∀ {l : List C} {vs : List Value}, mtL β ρ l vs → ∀ (j : Nat) (c : C), l[j]? = some c → ∃ v, vs[j]? = some v ∧ c.mt β ρ v
  | [], [], _, j, c, h => by simp at h
  | d :: l, v :: vs, ⟨h1, h2⟩, j, c, h => by
    cases j with
    | zero => simp at h; subst h; exact ⟨v, by simp, h1⟩
    | succ j => simp at h; simpa using mtL_get h2 j c h
theorem mtL_of_get {β : Beta} {ρ : Env} : ∀ {l : List C} {vs : List Value}, l.length = vs.length → (∀ (j : Nat) (c : C) (v : Value), l[j]? = some c → vs[j]? = some v → c.mt β ρ v) → mtL β ρ l vs
  | [], [], _, _ => trivial
  | d :: l, v :: vs, hl, h => ⟨h 0 d v (by simp) (by simp), mtL_of_get (by simpa using hl) fun j c u hc hu => h (j + 1) c u (by simpa using hc) (by simpa using hu)⟩
theorem mtL_cells {β : Beta} {ρ : Env} {agg : Bool} {l : List C} {v : Value} (h : mt1 β ρ agg l v) : mtL β ρ l v.cells.toList := by
  unfold mt1 at h
  cases agg
  · obtain ⟨c, rfl, hc⟩ := h
    have := C.mt_oneCell hc
    cases v <;> first | exact ⟨hc, trivial⟩ | (simp [oneCell] at this)
  · obtain ⟨vs, rfl, hc⟩ := h
    exact hc

/-! ### What stands as a known value -/
def inR (k : IntKind) (n : Int) : Bool := decide (k.min ≤ n) && decide (n ≤ k.max)
def ofC (v : Value) : C :=
  match v with
  | .int k n => if inR k n then .int k (.c n) else .val v
  | .bool b => .bool (.c b)
  | v => .val v
theorem ofC_mt {β : Beta} {ρ : Env} {v : Value} (h : oneCell v = true) : (ofC v).mt β ρ v := by
  unfold ofC
  split
  · split
    · rename_i h1; unfold inR at h1; simp at h1; exact ⟨rfl, h1⟩
    · exact ⟨rfl, h⟩
  · rfl
  · exact ⟨rfl, h⟩
def ofV (v : Value) : S :=
  match v with
  | .agg cs => if cs.toList.all oneCell then .one true (cs.toList.map ofC) else .any
  | .tuple _ => .any
  | v => .one false [ofC v]
theorem mtL_ofC {β : Beta} {ρ : Env} : ∀ {l : List Value}, l.all oneCell = true → mtL β ρ (l.map ofC) l
  | [], _ => trivial
  | v :: l, h => by simp at h; exact ⟨ofC_mt h.1, mtL_ofC (by simpa using h.2)⟩
theorem ofV_mt {β : Beta} {ρ : Env} (v : Value) : (ofV v).mt β ρ v := by
  unfold ofV
  split
  · split
    · rename_i h; exact ⟨_, rfl, mtL_ofC h⟩
    · trivial
  · trivial
  · rename_i h1 h2; exact ⟨_, rfl, ofC_mt (by cases v <;> first | rfl | exact absurd rfl (h1 _) | exact absurd rfl (h2 _))⟩

/-! ### Two as one -/
def vEq : Value → Value → Bool
  | .pointer none, .pointer none | .nilIface, .nilIface | .nilFunc, .nilFunc | .map none, .map none => true
  | .slice none a b, .slice none c d => a == c && b == d
  | .string s, .string t => s.data.toList == t.data.toList
  | _, _ => false
theorem vEq_sound {x y : Value} (h : vEq x y = true) : x = y := by
  unfold vEq at h
  split at h <;> try rfl
  · simp at h; obtain ⟨rfl, rfl⟩ := h; rfl
  · rename_i s t
    simp only [beq_iff_eq] at h
    have : s.data = t.data := Array.toList_inj.1 h
    cases s; cases t; simp_all
  · cases h

def ckEq : CK → CK → Bool
  | .int k, .int l => k == l
  | .bool, .bool => true
  | .pt a b, .pt c d => a == c && b == d
  | .str, .str => true
  | _, _ => false
def cksEq : List CK → List CK → Bool
  | [], [] => true
  | x :: l, y :: m => ckEq x y && cksEq l m
  | _, _ => false
theorem ckEq_sound {x y : CK} (h : ckEq x y = true) : x = y := by
  cases x <;> cases y <;> simp_all [ckEq]
theorem cksEq_sound : ∀ {l m : List CK}, cksEq l m = true → l = m
  | [], [], _ => rfl
  | x :: l, y :: m, h => by
    simp only [cksEq, Bool.and_eq_true] at h
    rw [ckEq_sound h.1, cksEq_sound h.2]
  | [], _ :: _, h => by simp [cksEq] at h
  | _ :: _, [], h => by simp [cksEq] at h
/-- A cell, as a string's number. -/
def asStr : C → Option A
  | .str q => some q
  | .val (.string s) => if inR .i64 s.size then some (.c (encS s)) else none
  | _ => none
theorem inR_spec' {k : IntKind} {n : Int} (h : inR k n = true) : InR k n := by
  unfold inR at h; simp at h; exact h
theorem asStr_mt {β : Beta} {ρ : Env} {c : C} {q : A} (h : asStr c = some q) {v : Value} (hm : c.mt β ρ v) : ∃ s : ByteArray, v = .string s ∧ q.d ρ = encS s ∧ InR .i64 s.size := by
  unfold asStr at h
  split at h
  · simp only [Option.some.injEq] at h
    subst h
    exact hm
  · split at h
    · rename_i s hs
      simp only [Option.some.injEq] at h
      subst h
      exact ⟨s, hm.1, rfl, inR_spec' hs⟩
    · cases h
  · cases h
/-- A cell, as a function's value. -/
def asFn : C → Option (List (B × FV) × FV)
  | .fn l d => some (l, d)
  | .val .nilFunc => some ([], none)
  | .val (.func (.func f) x y) => if x.toList.isEmpty && y.toList.isEmpty then some ([], some (f, [])) else none
  | _ => none
theorem asFn_mt {β : Beta} {ρ : Env} {c : C} {p : List (B × FV) × FV} (h : asFn c = some p) {v : Value} (hm : c.mt β ρ v) : fvMt β (pickF ρ p.1 p.2) v := by
  unfold asFn at h
  split at h
  · simp only [Option.some.injEq] at h
    subst h
    exact hm
  · simp only [Option.some.injEq] at h
    subst h
    exact hm.1
  · split at h
    · rename_i f x y hc
      simp only [Bool.and_eq_true, List.isEmpty_iff, Array.toList_eq_nil_iff] at hc
      obtain ⟨rfl, rfl⟩ := hc
      simp only [Option.some.injEq] at h
      subst h
      exact ⟨[], hm.1, trivial⟩
    · cases h
  · cases h
def andFs (b : B) : List (B × FV) → M (List (B × FV))
  | [] => pure []
  | (c, f) :: l => do
    let d ← mkAnd b c
    let r ← andFs b l
    pure ((d, f) :: r)
theorem andFs_snd {Φ : Funs} {ρ : Env} (b : B) (m : List (B × FV)) (d e : FV) : ∀ (l : List (B × FV)), Snd Φ ρ (andFs b l) (fun r => pickF ρ (r ++ (b, d) :: m) e = if b.d ρ then pickF ρ l d else pickF ρ m e)
  | [] => by
    refine Snd.pure ?_
    simp only [List.nil_append, pickF]
  | (c, f) :: l => by
    unfold andFs
    refine Snd.bind (mkAnd_snd b c) fun x hx => Snd.bind (andFs_snd b m d e l) fun r hr => Snd.pure ?_
    simp only [List.cons_append, pickF, hr, hx]
    cases hb : b.d ρ <;> cases hc : c.d ρ <;> simp [pickF, hb, hc]
def muxF (b : B) (p q : List (B × FV) × FV) : M C :=
  if p.1.isEmpty && q.1.isEmpty && p.2 == q.2 then pure (.fn [] p.2) else do
    let r ← andFs b p.1
    pure (.fn (r ++ (b, p.2) :: q.1) q.2)
theorem muxF_snd {Φ : Funs} {ρ : Env} (b : B) (p q : List (B × FV) × FV) : Snd Φ ρ (muxF b p q) (fun z => ∀ β v, (if b.d ρ then fvMt β (pickF ρ p.1 p.2) v else fvMt β (pickF ρ q.1 q.2) v) → z.mt β ρ v) := by
  unfold muxF
  split
  · rename_i h
    simp only [Bool.and_eq_true, List.isEmpty_iff, beq_iff_eq] at h
    obtain ⟨⟨h1, h2⟩, h3⟩ := h
    refine Snd.pure fun β v h => ?_
    rw [h1, h2, ← h3] at h
    show fvMt β (pickF ρ [] p.2) v
    split at h <;> exact h
  · refine Snd.bind (andFs_snd b q.1 p.2 q.2 p.1) fun r hr => Snd.pure fun β v h => ?_
    show fvMt β (pickF ρ (r ++ (b, p.2) :: q.1) q.2) v
    rw [hr]
    split at h <;> simp_all
/-- Two of other sorts. -/
def muxO (b : B) (x y : C) : M C :=
  match asStr x, asStr y with
  | some p, some q => do pure (.str (← mkIteI b p q))
  | _, _ => match asFn x, asFn y with
    | some p, some q => muxF b p q
    | _, _ => match x, y with
      | .mp i, .mp j => if i == j then pure (.mp i) else pure .junk
      | _, _ => pure .junk
theorem muxO_snd {Φ : Funs} {ρ : Env} (b : B) (x y : C) : Snd Φ ρ (muxO b x y) (fun z => ∀ β v, (if b.d ρ then x.mt β ρ v else y.mt β ρ v) → z.mt β ρ v) := by
  unfold muxO
  split
  · rename_i p q hp hq
    refine Snd.bind (mkIteI_snd b p q) fun z hz => Snd.pure fun β v h => ?_
    show ∃ s : ByteArray, v = .string s ∧ z.d ρ = encS s ∧ InR .i64 s.size
    rw [hz]
    split at h
    · rename_i hb; simp only [hb, if_true]; exact asStr_mt hp h
    · rename_i hb; simp only [hb]; exact asStr_mt hq h
  · split
    · rename_i p q hp hq
      refine (muxF_snd b p q).mono fun z hz β v h => hz β v ?_
      split at h
      · rename_i hb; rw [if_pos hb]; exact asFn_mt hp h
      · rename_i hb; rw [if_neg hb]; exact asFn_mt hq h
    · split
      · split
        · rename_i i j h
          simp only [beq_iff_eq] at h
          subst h
          exact Snd.pure fun β v h => by split at h <;> exact h
        · exact Snd.pure fun β v h => by split at h <;> exact C.mt_oneCell h
      · exact Snd.pure fun β v h => by split at h <;> exact C.mt_oneCell h
def muxC (b : B) (x y : C) : M C :=
  match x, y with
  | .slx i ks q l, .slx i' ks' q' l' => if i == i' && cksEq ks ks' && q.eq q' && l.eq l' then pure (.slx i ks q l) else pure .junk
  | .int k a, .int l c => if k == l then do pure (.int k (← mkIteI b a c)) else pure .junk
  | .bool a, .bool c => do pure (.bool (← mkIteB b a c))
  | .ptr [] i o, .ptr l i' o' => if l.isEmpty && i == i' && o == o' then pure (.ptr [] i o) else pure (.ptr ((b, i, o) :: l) i' o')
  | .val u, .val v => if vEq u v then pure (.val u) else muxO b (.val u) (.val v)
  | .sli i o l c, .sli i' o' l' c' => if i == i' && o == o' && l == l' && c == c' then pure (.sli i o l c) else pure .junk
  | x, y => muxO b x y
def muxL (b : B) : List C → List C → M (List C)
  | [], [] => pure []
  | x :: xs, y :: ys => do
    let z ← muxC b x y
    let zs ← muxL b xs ys
    pure (z :: zs)
  | _, _ => M.fail
section
variable {Φ : Funs} {ρ : Env}
theorem muxC_snd (b : B) (x y : C) : Snd Φ ρ (muxC b x y) (fun z => ∀ β v, (if b.d ρ then x.mt β ρ v else y.mt β ρ v) → z.mt β ρ v) := by
  unfold muxC
  split
  · split
    · rename_i h
      simp only [Bool.and_eq_true, beq_iff_eq] at h
      obtain ⟨⟨⟨rfl, h1⟩, h2⟩, h3⟩ := h
      rw [cksEq_sound h1, A.eq_sound h2, A.eq_sound h3]
      exact Snd.pure fun β v h => by split at h <;> exact h
    · refine Snd.pure fun β v h => ?_
      split at h <;> exact C.mt_oneCell h
  · split
    · rename_i k a l c h
      simp only [beq_iff_eq] at h
      subst h
      refine Snd.bind (mkIteI_snd b a c) fun z hz => Snd.pure fun β v h => ?_
      show v = .int _ (z.d ρ) ∧ InR _ (z.d ρ)
      rw [hz]
      split at h <;> simp_all [C.mt]
    · refine Snd.pure fun β v h => ?_
      split at h <;> exact C.mt_oneCell h
  · rename_i a c
    refine Snd.bind (mkIteB_snd b a c) fun z hz => Snd.pure fun β v h => ?_
    show v = .bool (z.d ρ)
    rw [hz]
    split at h <;> simp_all [C.mt]
  · split
    · rename_i h
      simp only [Bool.and_eq_true, beq_iff_eq, List.isEmpty_iff] at h
      obtain ⟨⟨rfl, rfl⟩, rfl⟩ := h
      exact Snd.pure fun β v h => by split at h <;> exact h
    · refine Snd.pure fun β v h => ?_
      unfold C.mt pick
      split at h
      · rename_i hb; simp only [hb, if_true]; exact h
      · rename_i hb; simp only [hb]; exact h
  · split
    · rename_i h
      rw [vEq_sound h]
      exact Snd.pure fun β v h => by split at h <;> exact h
    · exact muxO_snd b _ _
  · split
    · rename_i h
      simp only [Bool.and_eq_true, beq_iff_eq] at h
      obtain ⟨⟨⟨rfl, rfl⟩, rfl⟩, rfl⟩ := h
      exact Snd.pure fun β v h => by split at h <;> exact h
    · refine Snd.pure fun β v h => ?_
      split at h <;> exact C.mt_oneCell h
  · exact muxO_snd b _ _
theorem muxL_snd (b : B) : ∀ (xs ys : List C), Snd Φ ρ (muxL b xs ys) (fun zs => zs.length = xs.length ∧ xs.length = ys.length ∧ (∀ β vs, (if b.d ρ then mtL β ρ xs vs else mtL β ρ ys vs) → mtL β ρ zs vs) ∧
    ∀ β w k o, (if b.d ρ then cellsAt β ρ w k o xs else cellsAt β ρ w k o ys) → cellsAt β ρ w k o zs)
  | [], [] => Snd.pure ⟨rfl, rfl, fun β vs h => by simpa using h, fun _ _ _ _ h => by simpa using h⟩
  | x :: xs, y :: ys => by
    unfold muxL
    refine Snd.bind (muxC_snd b x y) fun z hz => Snd.bind (muxL_snd b xs ys) fun zs hzs => Snd.pure ?_
    obtain ⟨h1, h2, h3, h4⟩ := hzs
    refine ⟨by simp [h1], by simp [h2], fun β vs h => ?_, fun β w k o h => ?_⟩
    · cases vs with
      | nil => split at h <;> exact h.elim
      | cons v vs =>
        refine ⟨hz β v ?_, h3 β vs ?_⟩
        · split <;> simp_all [mtL]
        · split <;> simp_all [mtL]
    · have hc : (if b.d ρ then ∃ v, w.cell? ⟨k, o, none⟩ = some v ∧ x.mt β ρ v else ∃ v, w.cell? ⟨k, o, none⟩ = some v ∧ y.mt β ρ v) := by
        split <;> simp_all [cellsAt]
      refine ⟨?_, h4 β w k (o + 1) (by split <;> simp_all [cellsAt])⟩
      split at hc
      · rename_i hb; obtain ⟨v, hv, hm⟩ := hc; exact ⟨v, hv, hz β v (by rw [if_pos hb]; exact hm)⟩
      · rename_i hb; obtain ⟨v, hv, hm⟩ := hc; exact ⟨v, hv, hz β v (by rw [if_neg hb]; exact hm)⟩
  | [], _ :: _ => Snd.fail
  | _ :: _, [] => Snd.fail
end
/-- Two values of one shape. -/
def mux1 (b : B) (x y : Bool × List C) : M (Option (Bool × List C)) :=
  if x.1 == y.1 && x.2.length == y.2.length then do pure (some (x.1, ← muxL b x.2 y.2)) else pure none
def muxT (b : B) : List (Bool × List C) → List (Bool × List C) → M (Option (List (Bool × List C)))
  | [], [] => pure (some [])
  | x :: l, y :: m => do
    let z ← mux1 b x y
    let r ← muxT b l m
    pure (match z, r with
      | some z, some r => some (z :: r)
      | _, _ => none)
  | _, _ => pure none
def muxS (b : B) (x y : S) : M S :=
  match x, y with
  | .one p l, .one q m => do
    let z ← mux1 b (p, l) (q, m)
    pure (match z with
      | some z => .one z.1 z.2
      | none => .any)
  | .tup l, .tup m => do
    let z ← muxT b l m
    pure (match z with
      | some z => .tup z
      | none => .any)
  | _, _ => pure .any
theorem mux1_snd {Φ : Funs} {ρ : Env} (b : B) (x y : Bool × List C) : Snd Φ ρ (mux1 b x y) (fun z => ∀ r, z = some r → ∀ β v, (if b.d ρ then mt1 β ρ x.1 x.2 v else mt1 β ρ y.1 y.2 v) → mt1 β ρ r.1 r.2 v) := by
  obtain ⟨p, l⟩ := x
  obtain ⟨q, m⟩ := y
  unfold mux1
  split
  · rename_i h
    simp only [Bool.and_eq_true, beq_iff_eq] at h
    obtain ⟨rfl, _⟩ := h
    refine Snd.bind (muxL_snd b l m) fun z hz => Snd.pure fun r hr β v h => ?_
    cases hr
    obtain ⟨h1, h2, h3, _⟩ := hz
    simp only at h ⊢
    unfold mt1 at *
    cases p
    · simp only [Bool.false_eq_true, if_false] at *
      have hc : ∃ c, (if b.d ρ then l else m) = [c] ∧ c.mt β ρ v := by split at h <;> simp_all
      obtain ⟨c, hc1, hc2⟩ := hc
      have hlen : z.length = 1 := by
        split at hc1
        · rw [h1, hc1]; rfl
        · rw [h1, h2, hc1]; rfl
      match z, hlen, h3 with
      | [d], _, h3 =>
        have := h3 β [v] (by split at hc1 <;> (rename_i hb; simp only [hb]; simp only [hc1]; first | exact ⟨hc2, trivial⟩ | (rw [if_neg (by simp)]; exact ⟨hc2, trivial⟩)))
        exact ⟨d, rfl, this.1⟩
    · simp only [if_true] at *
      have hc : ∃ vs, v = .agg vs ∧ (if b.d ρ then mtL β ρ l vs.toList else mtL β ρ m vs.toList) := by split at h <;> simp_all
      obtain ⟨vs, hv, hm⟩ := hc
      exact ⟨vs, hv, h3 β _ hm⟩
  · exact Snd.pure fun r hr => by cases hr
theorem muxT_snd {Φ : Funs} {ρ : Env} (b : B) : ∀ (l m : List (Bool × List C)), Snd Φ ρ (muxT b l m) (fun z => ∀ r, z = some r → ∀ β vs, (if b.d ρ then mtT β ρ l vs else mtT β ρ m vs) → mtT β ρ r vs)
  | [], [] => Snd.pure fun r hr β vs h => by cases hr; simpa using h
  | x :: l, y :: m => by
    unfold muxT
    refine Snd.bind (mux1_snd b x y) fun z hz => Snd.bind (muxT_snd b l m) fun r hr => Snd.pure fun q hq β vs h => ?_
    cases z with
    | none => cases hq
    | some z =>
      cases r with
      | none => cases hq
      | some r =>
        cases hq
        cases vs with
        | nil => split at h <;> exact h.elim
        | cons v vs =>
          refine ⟨hz z rfl β v ?_, hr r rfl β vs ?_⟩
          · split at h
            · rename_i hb; rw [if_pos hb]; exact h.1
            · rename_i hb; rw [if_neg hb]; exact h.1
          · split at h
            · rename_i hb; rw [if_pos hb]; exact h.2
            · rename_i hb; rw [if_neg hb]; exact h.2
  | [], _ :: _ => Snd.pure fun r hr => by cases hr
  | _ :: _, [] => Snd.pure fun r hr => by cases hr
theorem muxS_snd {Φ : Funs} {ρ : Env} (b : B) (x y : S) : Snd Φ ρ (muxS b x y) (fun z => ∀ β v, (if b.d ρ then x.mt β ρ v else y.mt β ρ v) → z.mt β ρ v) := by
  unfold muxS
  split
  · rename_i p l q m
    refine Snd.bind (mux1_snd b (p, l) (q, m)) fun z hz => Snd.pure fun β v h => ?_
    cases z with
    | none => trivial
    | some z => exact hz z rfl β v h
  · rename_i l m
    refine Snd.bind (muxT_snd b l m) fun z hz => Snd.pure fun β v h => ?_
    cases z with
    | none => trivial
    | some z =>
      have hc : ∃ vs, v = .tuple vs ∧ (if b.d ρ then mtT β ρ l vs.toList else mtT β ρ m vs.toList) := by
        split at h
        · rename_i hb; obtain ⟨vs, h1, h2⟩ := h; exact ⟨vs, h1, by rw [if_pos hb]; exact h2⟩
        · rename_i hb; obtain ⟨vs, h1, h2⟩ := h; exact ⟨vs, h1, by rw [if_neg hb]; exact h2⟩
      obtain ⟨vs, h1, h2⟩ := hc
      exact ⟨vs, h1, hz z rfl β _ h2⟩
  · exact Snd.pure fun _ _ _ => trivial

/-! ### Cells read -/
def lift {α : Type} (o : Option α) : M α :=
  match o with
  | some x => pure x
  | none => M.fail
theorem lift_snd {α : Type} {Φ : Funs} {ρ : Env} (o : Option α) : Snd Φ ρ (lift o) (fun x => o = some x) := by
  cases o with
  | none => exact Snd.fail
  | some x => exact Snd.pure rfl

def ldC (Γ : Gd) (hp : Hp) (id off n : Nat) : Option (List C) :=
  match hp id with
  | some b => if Gd.sub b.g Γ && Nat.ble (off + n) b.cells.length then some ((b.cells.drop off).take n) else none
  | none => none
theorem ldC_spec {Γ : Gd} {hp : Hp} {ρ : Env} {β : Beta} {w : World} (hΓ : Gd.d ρ Γ = true) (hh : heapMt β ρ hp w) {id off n : Nat} {l : List C}
    (h : ldC Γ hp id off n = some l) : l.length = n ∧ ∃ r, β id = some r ∧ cellsAt β ρ w r.blk (r.off + off) l := by
  unfold ldC at h
  split at h
  · rename_i b hb
    split at h
    · rename_i hc
      simp only [Bool.and_eq_true, Nat.ble_eq] at hc
      simp only [Option.some.injEq] at h
      obtain ⟨r, hr, hl, _, hcs, _⟩ := hh id b hb (Gd.sub_d hc.1 hΓ)
      subst h
      refine ⟨by simp; omega, r, hr, ?_⟩
      rw [cellsAt_iff] at *
      intro j c hj
      rw [List.getElem?_take] at hj
      split at hj
      · rw [List.getElem?_drop] at hj
        have := hcs _ _ hj
        rwa [← Nat.add_assoc] at this
      · cases hj
    · cases h
  · cases h

def ldAlt (Γ : Gd) (hp : Hp) (n : Nat) : List (B × Nat × Nat) → Nat → Nat → M (List C)
  | [], id, off => lift (ldC Γ hp id off n)
  | (b, i, o) :: l, id, off => do
    let x ← lift (ldC Γ hp i o n)
    let y ← ldAlt Γ hp n l id off
    muxL b x y
theorem ldAlt_snd {Φ : Funs} {ρ : Env} {Γ : Gd} {hp : Hp} (hΓ : Gd.d ρ Γ = true) (n : Nat) (id off : Nat) : ∀ (l : List (B × Nat × Nat)),
    Snd Φ ρ (ldAlt Γ hp n l id off) (fun x => x.length = n ∧ ∀ β w, heapMt β ρ hp w → ∃ r, β (pick ρ l id off).1 = some r ∧ cellsAt β ρ w r.blk (r.off + (pick ρ l id off).2) x)
  | [] => by
    unfold ldAlt pick
    refine (lift_snd _).mono fun x hx => ?_
    refine ⟨?_, fun β w hh => (ldC_spec hΓ hh hx).2⟩
    unfold ldC at hx
    split at hx
    · split at hx
      · rename_i hc
        simp only [Bool.and_eq_true, Nat.ble_eq] at hc
        simp only [Option.some.injEq] at hx
        subst hx
        simp; omega
      · cases hx
    · cases hx
  | (b, i, o) :: l => by
    unfold ldAlt
    refine Snd.bind (lift_snd _) fun x hx => Snd.bind (ldAlt_snd hΓ n id off l) fun y hy => (muxL_snd b x y).mono fun z hz => ?_
    obtain ⟨h1, h2, h3, h4⟩ := hz
    obtain ⟨hy1, hy2⟩ := hy
    refine ⟨by omega, fun β w hh => ?_⟩
    unfold pick
    split
    · rename_i hb
      obtain ⟨_, r, hr, hc⟩ := ldC_spec hΓ hh hx
      exact ⟨r, hr, h4 _ _ _ _ (by rw [if_pos hb]; exact hc)⟩
    · rename_i hb
      obtain ⟨r, hr, hc⟩ := hy2 β w hh
      exact ⟨r, hr, h4 _ _ _ _ (by rw [if_neg hb]; exact hc)⟩

theorem cellsAt_values {β : Beta} {ρ : Env} {w : World} {b : Nat} : ∀ {o : Nat} {l : List C}, cellsAt β ρ w b o l →
    ∃ vs : List Value, vs.length = l.length ∧ mtL β ρ l vs ∧ ∀ j v, vs[j]? = some v → w.cell? ⟨b, o + j, none⟩ = some v
  | o, [], _ => ⟨[], rfl, trivial, by simp⟩
  | o, c :: cs, ⟨⟨v, hv, hm⟩, h⟩ => by
    obtain ⟨vs, h1, h2, h3⟩ := cellsAt_values h
    refine ⟨v :: vs, by simp [h1], ⟨hm, h2⟩, fun j u hj => ?_⟩
    cases j with
    | zero => simp at hj; subst hj; exact hv
    | succ j => simp at hj; have := h3 j u hj; rwa [show o + 1 + j = o + (j + 1) by omega] at this

theorem add_lit (b o n : Nat) : Addr.add ⟨b, o, none⟩ n = ⟨b, o + n, none⟩ := by
  unfold Addr.add
  split
  · subst_vars; rfl
  · rfl

/-- How a type's variable is read: its cells, and whether it is an aggregate. -/
def tyN (P : Program) (t : TypeId) : Option (Bool × Nat) :=
  match P.underlying t, P.info? t with
  | some (.struct _), some i => some (true, i.size)
  | some (.array _ _), some i => some (true, i.size)
  | some _, some i => if i.size == 1 then some (false, 1) else none
  | _, _ => none
theorem tyN_isAgg {P : Program} {t : TypeId} {agg : Bool} {n : Nat} (h : tyN P t = some (agg, n)) (w : World) : (isAgg t).run P w = .ok agg w ∧ (sizeOf t).run P w = .ok n w ∧ (agg = false → n = 1) := by
  unfold tyN at h
  split at h <;> try (simp at h; done)
  · rename_i f i h1 h2
    simp only [Option.some.injEq, Prod.mk.injEq] at h
    obtain ⟨rfl, rfl⟩ := h
    simp [isAgg, underlying, h1, sizeOf, typeInfo, h2]
  · rename_i f g i h1 h2
    simp only [Option.some.injEq, Prod.mk.injEq] at h
    obtain ⟨rfl, rfl⟩ := h
    simp [isAgg, underlying, h1, sizeOf, typeInfo, h2]
  · rename_i d i hns hna h1 h2
    split at h
    · rename_i h3
      simp only [beq_iff_eq] at h3
      simp only [Option.some.injEq, Prod.mk.injEq] at h
      obtain ⟨rfl, rfl⟩ := h
      refine ⟨?_, by simp [sizeOf, typeInfo, h2, h3], fun _ => rfl⟩
      cases d <;> first | (simp [isAgg, underlying, h1]; done) | (exfalso; simp_all; done)
    · cases h

theorem run_loadVar {P : Program} {t : TypeId} {agg : Bool} {n : Nat} (ht : tyN P t = some (agg, n)) {β : Beta} {ρ : Env} {w : World} {b o : Nat} {l : List C} (hl : l.length = n)
    (hc : cellsAt β ρ w b o l) : ∃ v, (loadVar t ⟨b, o, none⟩).run P w = .ok v w ∧ mt1 β ρ agg l v := by
  obtain ⟨h1, h2, h3⟩ := tyN_isAgg ht w
  obtain ⟨vs, hvl, hm, hv⟩ := cellsAt_values hc
  unfold loadVar
  rw [Sem.run_bind, h1]
  cases agg
  · have hn := h3 rfl
    simp only [Result.andThen_ok, Bool.false_eq_true, if_false]
    match l, vs, hvl, hm with
    | [c], [v], _, hm =>
      have := hv 0 v (by simp)
      simp only [Nat.add_zero] at this
      exact ⟨v, by simp [run_load, this], c, rfl, hm.1⟩
    | [], _, _, _ => simp at hl; omega
    | _ :: _ :: _, _, _, _ => simp at hl; omega
  · simp only [Result.andThen_ok, if_true, Sem.run_bind, h2]
    refine ⟨.agg vs.toArray, ?_, vs.toArray, rfl, by simpa using hm⟩
    have := run_loadCells_list (P := P) w ⟨b, o, none⟩ vs (fun j v hj => by rw [add_lit]; exact hv j v hj)
    rw [← hl, ← hvl, this]
    simp

/-! ### Cells written -/
theorem run_storeCells {P : Program} {b o : Nat} : ∀ (vs : List Value) (i : Nat) (w : World), (∀ v, v ∈ vs → oneCell v = true) →
    (∀ j, j < vs.length → (∃ u, w.cell? ⟨b, o + i + j, none⟩ = some u) ∧ w.frozen? ⟨b, o + i + j, none⟩ = false) →
    ∃ w', (storeCells ⟨b, o, none⟩ vs i).run P w = .ok () w' ∧ (∀ j v, vs[j]? = some v → w'.cell? ⟨b, o + i + j, none⟩ = some v) ∧
      Keep [{ blk := b, off := o + i, len := vs.length, ro := false }] w w' ∧ (∀ a : Addr, ¬ inRg { blk := b, off := o + i, len := vs.length, ro := false } a → w'.cell? a = w.cell? a)
  | [], i, w, _, _ => ⟨w, rfl, by simp, Keep.refl _ _, fun _ _ => rfl⟩
  | v :: vs, i, w, ho, hc => by
    obtain ⟨⟨u, hu⟩, hf⟩ := hc 0 (by simp)
    simp only [Nat.add_zero] at hu hf
    have hv : (Value.oneCell' v) = true := by
      have := ho v (by simp)
      cases v <;> first | rfl | (simp [oneCell] at this)
    have hs : (store (Addr.add ⟨b, o, none⟩ i) v).run P w = .ok () (w.setCell ⟨b, o + i, none⟩ v) := by
      rw [run_store P w _ v .plain hv, add_lit, hu]
      simp [hf]
    have hlt := World.block_lt_of_cell? w _ hu
    obtain ⟨w', h1, h2, h3, h4⟩ := run_storeCells vs (i + 1) (w.setCell ⟨b, o + i, none⟩ v) (fun x hx => ho x (by simp [hx])) (fun j hj => by
      obtain ⟨⟨u', hu'⟩, hf'⟩ := hc (j + 1) (by simp; omega)
      rw [show o + (i + 1) + j = o + i + (j + 1) by omega]
      refine ⟨⟨u', ?_⟩, ?_⟩
      · rw [World.cell?_setCell_other _ _ _ _ (by simp)]; exact hu'
      · rw [World.frozen?_setCell]; exact hf')
    refine ⟨w', ?_, fun j x hx => ?_, ?_, fun a ha => ?_⟩
    · unfold storeCells
      rw [Sem.run_bind, hs]
      exact h1
    · cases j with
      | zero =>
        simp at hx
        subst hx
        rw [Nat.add_zero, h4 _ (by unfold inRg; simp; omega)]
        exact World.cell?_setCell_same _ _ _ hu
      | succ j =>
        simp at hx
        have := h2 j x hx
        rwa [show o + (i + 1) + j = o + i + (j + 1) by omega] at this
    · have k1 : Keep [{ blk := b, off := o + i, len := (v :: vs).length, ro := false }] w (w.setCell ⟨b, o + i, none⟩ v) :=
        Keep.setCell v (List.mem_singleton.2 rfl) (by unfold inRg; simp)
      refine k1.trans h3 fun r hr => ?_
      simp only [List.mem_singleton] at hr
      subst hr
      exact .inr ⟨_, List.mem_singleton.2 rfl, rfl, by simp, by simp; omega⟩
    · rw [h4 a (fun h => ha (by unfold inRg at *; simp at *; omega))]
      exact World.cell?_setCell_other _ _ _ _ (fun e => ha (by subst e; unfold inRg; simp))
end Go.Proofs.YtalnndmnnffnmaaGreat.Sx
