/-
  SX, part In: functions that are entered in place, by the same executor. No condition.
-/
import Derived.Test.YtalnndmnnffnmaaGreatSxQ
set_option linter.unusedVariables false
set_option linter.unusedSimpArgs false
namespace Go.Proofs.YtalnndmnnffnmaaGreat.Sx
open Go

/-- Cells that name stretches that are known alone. -/
def okC (kn sl : Nat → Bool) : C → Bool
  | .ptr l i _ => kn i && l.all fun p => kn p.2.1
  | .pix i _ _ _ _ _ => kn i
  | .sli i _ _ _ => kn i
  | .slx i _ _ _ => sl i
  | .pxq i _ _ _ _ => sl i
  | .fn l d => (fvIds d).all kn && l.all fun p => (fvIds p.2).all kn
  | .mp _ => false
  | _ => true
def okS (kn sl : Nat → Bool) : S → Bool
  | .one _ l => l.all (okC kn sl)
  | .tup l => l.all fun p => p.2.all (okC kn sl)
  | .any => true
section
variable {kn sl : Nat → Bool} {β β' : Beta} {ρ : Env} (hk : ∀ i r, kn i = true → β i = some r → β' i = some r) (hs : ∀ i r, sl i = true → β i = some r → r.sq.isSome = true → β' i = some r)
include hk
theorem okCap_mt : ∀ {l : List (Nat × Nat)} {vs : List Value}, (l.map (·.1)).all kn = true → capMt β l vs → capMt β' l vs
  | [], [], _, _ => trivial
  | p :: l, v :: vs, h, ⟨⟨r, hr, hv⟩, h2⟩ => by
    simp only [List.map_cons, List.all_cons, Bool.and_eq_true] at h
    exact ⟨⟨r, hk _ _ h.1 hr, hv⟩, okCap_mt h.2 h2⟩
  | [], _ :: _, _, h => h.elim
  | _ :: _, [], _, h => h.elim
theorem okFv_mt {f : FV} {v : Value} (h : (fvIds f).all kn = true) (hm : fvMt β f v) : fvMt β' f v := by
  unfold fvMt at *
  cases f with
  | none => exact hm
  | some p => obtain ⟨vs, h1, h2⟩ := hm; exact ⟨vs, h1, okCap_mt hk h h2⟩
omit hk in
theorem ok_pick {l : List (B × Nat × Nat)} {i o : Nat} (h : kn i = true) (hl : (l.all fun p => kn p.2.1) = true) : kn (pick ρ l i o).1 = true := by
  induction l with
  | nil => exact h
  | cons p l ih =>
    obtain ⟨b, j, q⟩ := p
    simp only [List.all_cons, Bool.and_eq_true] at hl
    unfold pick
    split
    · exact hl.1
    · exact ih hl.2
omit hk in
theorem ok_pickF {l : List (B × FV)} {d : FV} (h : (fvIds d).all kn = true) (hl : (l.all fun p => (fvIds p.2).all kn) = true) : (fvIds (pickF ρ l d)).all kn = true := by
  induction l with
  | nil => exact h
  | cons p l ih =>
    obtain ⟨b, f⟩ := p
    simp only [List.all_cons, Bool.and_eq_true] at hl
    unfold pickF
    split
    · exact hl.1
    · exact ih hl.2
include hs
theorem okC_mt {c : C} {v : Value} (h : okC kn sl c = true) (hm : c.mt β ρ v) : c.mt β' ρ v := by
  cases c with
  | ptr l id off =>
    simp only [okC, Bool.and_eq_true] at h
    obtain ⟨r, hr, hv⟩ := hm
    exact ⟨r, hk _ _ (ok_pick h.1 h.2) hr, hv⟩
  | pix id off s len a k => obtain ⟨h1, h2, r, hr, hv⟩ := hm; exact ⟨h1, h2, r, hk _ _ h hr, hv⟩
  | sli id off len cap => obtain ⟨r, hr, hv⟩ := hm; exact ⟨r, hk _ _ h hr, hv⟩
  | slx id ks q len =>
    obtain ⟨h1, h2, h3⟩ := hm
    refine ⟨h1, h2, ?_⟩
    rcases h3 with h3 | ⟨r, cap, l, hr, hq, h4⟩
    · exact .inl h3
    · exact .inr ⟨r, cap, l, hs _ _ h hr (by rw [hq]; rfl), hq, h4⟩
  | pxq id ks q a k => obtain ⟨h1, r, l, hr, hq, h2⟩ := hm; exact ⟨h1, r, l, hs _ _ h hr (by rw [hq]; rfl), hq, h2⟩
  | fn l d =>
    simp only [okC, Bool.and_eq_true] at h
    exact okFv_mt hk (ok_pickF h.1 h.2) hm
  | mp id => simp [okC] at h
  | _ => exact hm
theorem okL_mt : ∀ {l : List C} {vs : List Value}, l.all (okC kn sl) = true → mtL β ρ l vs → mtL β' ρ l vs
  | [], [], _, _ => trivial
  | c :: l, v :: vs, h, ⟨h1, h2⟩ => by
    simp only [List.all_cons, Bool.and_eq_true] at h
    exact ⟨okC_mt hk hs h.1 h1, okL_mt h.2 h2⟩
  | [], _ :: _, _, h => h.elim
  | _ :: _, [], _, h => h.elim
theorem okCells_mt {w : World} {b : Nat} : ∀ {l : List C} {o : Nat}, l.all (okC kn sl) = true → cellsAt β ρ w b o l → cellsAt β' ρ w b o l
  | [], _, _, _ => trivial
  | c :: l, o, h, ⟨⟨v, hv, h1⟩, h2⟩ => by
    simp only [List.all_cons, Bool.and_eq_true] at h
    exact ⟨⟨v, hv, okC_mt hk hs h.1 h1⟩, okCells_mt h.2 h2⟩
theorem ok1_mt {agg : Bool} {l : List C} {v : Value} (h : l.all (okC kn sl) = true) (hm : mt1 β ρ agg l v) : mt1 β' ρ agg l v := by
  unfold mt1 at *
  cases agg
  · obtain ⟨c, rfl, h1⟩ := hm
    simp only [List.all_cons, List.all_nil, Bool.and_true] at h
    exact ⟨c, rfl, okC_mt hk hs h h1⟩
  · obtain ⟨vs, h1, h2⟩ := hm
    exact ⟨vs, h1, okL_mt hk hs h h2⟩
theorem okT_mt : ∀ {l : List (Bool × List C)} {vs : List Value}, (l.all fun p => p.2.all (okC kn sl)) = true → mtT β ρ l vs → mtT β' ρ l vs
  | [], [], _, _ => trivial
  | p :: l, v :: vs, h, ⟨h1, h2⟩ => by
    simp only [List.all_cons, Bool.and_eq_true] at h
    exact ⟨ok1_mt hk hs h.1 h1, okT_mt h.2 h2⟩
  | [], _ :: _, _, h => h.elim
  | _ :: _, [], _, h => h.elim
theorem okS_mt {s : S} {v : Value} (h : okS kn sl s = true) (hm : s.mt β ρ v) : s.mt β' ρ v := by
  cases s with
  | one agg l => exact ok1_mt hk hs h hm
  | tup l => obtain ⟨vs, h1, h2⟩ := hm; exact ⟨vs, h1, okT_mt hk hs h h2⟩
  | any => trivial
theorem okAll_mt : ∀ {xs : List S} {vs : List Value}, xs.all (okS kn sl) = true → mtAll β ρ xs vs → mtAll β' ρ xs vs
  | [], [], _, _ => trivial
  | x :: xs, v :: vs, h, ⟨h1, h2⟩ => by
    simp only [List.all_cons, Bool.and_eq_true] at h
    exact ⟨okS_mt hk hs h.1 h1, okAll_mt h.2 h2⟩
  | [], _ :: _, _, h => h.elim
  | _ :: _, [], _, h => h.elim
end

/-! ### What is handed in, what comes out -/
def argIds : List S → List Nat
  | [] => []
  | x :: xs => sIds x ++ argIds xs
def calleeHp (ng lo : Nat) (Γ : Gd) (hp : Hp) : List Nat → Hl
  | [] => []
  | i :: l => if Nat.blt i ng || !(Nat.blt i lo) then calleeHp ng lo Γ hp l else match hp i with
    | some b => if Gd.sub b.g Γ && !b.cells.isEmpty then (i, { g := [], ro := b.ro, cells := b.cells }) :: calleeHp ng lo Γ hp l else calleeHp ng lo Γ hp l
    | none => calleeHp ng lo Γ hp l
theorem calleeHp_spec {ng lo : Nat} {Γ : Gd} {hp : Hp} : ∀ {l : List Nat} {i : Nat} {b : Blk}, hpOf (calleeHp ng lo Γ hp l) i = some b → ng ≤ i ∧ i < lo ∧ b.g = [] ∧ b.cells ≠ [] ∧ ∃ b', hp i = some b' ∧ Gd.sub b'.g Γ = true ∧ b.ro = b'.ro ∧ b.cells = b'.cells
  | [], i, b, h => by simp [calleeHp, hpOf] at h
  | j :: l, i, b, h => by
    unfold calleeHp at h
    split at h
    · exact calleeHp_spec h
    · rename_i hj
      simp only [Bool.or_eq_true, Nat.blt_eq, Bool.not_eq_true', not_or, Bool.not_eq_false, Nat.not_lt] at hj
      split at h
      · rename_i b' hb'
        split at h
        · rename_i hc
          simp only [Bool.and_eq_true, Bool.not_eq_true', List.isEmpty_eq_false_iff] at hc
          unfold hpOf at h
          split at h
          · rename_i he
            simp only [beq_iff_eq] at he
            simp only [Option.some.injEq] at h
            subst he; subst h
            exact ⟨hj.1, hj.2, rfl, hc.2, b', hb', hc.1, rfl, rfl⟩
          · exact calleeHp_spec h
        · exact calleeHp_spec h
      · exact calleeHp_spec h
def hasB (h : Hl) (i : Nat) : Bool := match hpOf h i with | some _ => true | none => false
/-- The blocks that were handed in and may have been written. -/
def outOld (h : Hl) : Hl → Option (List (Nat × Blk))
  | [] => some []
  | (i, b) :: l => match outOld h l with
    | none => none
    | some r => if b.ro then some r else match hpOf h i with
      | some b' => if b'.g.isEmpty && !b'.ro then some ((i, b') :: r) else none
      | none => none
/-- New ones. -/
def isNewB (lo : Nat) (b : Blk) (i : Nat) : Bool := Nat.ble lo i && b.g.isEmpty && !b.ro
def outNew (lo : Nat) (h : Hl) : List Nat → List (Nat × Blk)
  | [] => []
  | i :: l => match hpOf h i with
    | some b => if isNewB lo b i then (i, b) :: outNew lo h l else outNew lo h l
    | none => outNew lo h l
def knNew (lo : Nat) (h : Hl) (i : Nat) : Bool := match hpOf h i with | some b => isNewB lo b i | none => false
def tupOf : List S → Option (List (Bool × List C))
  | [] => some []
  | .one agg l :: r => (tupOf r).map ((agg, l) :: ·)
  | _ => none
def tupS : List S → Option S
  | [s] => some s
  | l => (tupOf l).map S.tup
theorem tupOf_mt {β : Beta} {ρ : Env} : ∀ {l : List S} {r : List (Bool × List C)} {vs : List Value}, tupOf l = some r → mtAll β ρ l vs → mtT β ρ r vs
  | [], r, vs, h, hm => by
    simp only [tupOf, Option.some.injEq] at h
    subst h
    cases vs with
    | nil => trivial
    | cons _ _ => exact hm.elim
  | .one agg l :: r, q, vs, h, hm => by
    unfold tupOf at h
    cases hr : tupOf r with
    | none => rw [hr] at h; simp at h
    | some t =>
      rw [hr] at h
      simp only [Option.map_some, Option.some.injEq] at h
      subst h
      cases vs with
      | nil => exact hm.elim
      | cons v vs => exact ⟨hm.1, tupOf_mt hr hm.2⟩
  | .tup _ :: _, _, _, h, _ => by simp [tupOf] at h
  | .any :: _, _, _, h, _ => by simp [tupOf] at h
theorem tupS_mt {β : Beta} {ρ : Env} {l : List S} {s : S} {vs : List Value} (h : tupS l = some s) (hm : mtAll β ρ l vs) : s.mt β ρ (tupV vs) := by
  unfold tupS at h
  split at h
  · rename_i s'
    simp only [Option.some.injEq] at h
    subst h
    match vs, hm with
    | [v], ⟨h1, _⟩ => exact h1
  · rename_i hne
    cases ht : tupOf l with
    | none => rw [ht] at h; simp at h
    | some t =>
      rw [ht] at h
      simp only [Option.map_some, Option.some.injEq] at h
      subst h
      have := tupOf_mt ht hm
      match vs, hm with
      | [], _ => exact ⟨_, rfl, this⟩
      | [v], hm =>
        match l, hm, hne with
        | [s], _, hne => exact (hne s rfl).elim
      | v :: u :: vs, _ => exact ⟨_, rfl, this⟩

def knOf (ng : Nat) (hl : Hl) (i : Nat) : Bool := Nat.blt i ng || hasB hl i
def knEnd (ng lo : Nat) (hl h : Hl) (i : Nat) : Bool := knOf ng hl i || knNew lo h i
def inlOk (ng lo : Nat) (hl : Hl) (xs : List S) : Bool :=
  Nat.ble ng lo && xs.all (okS (knOf ng hl) fun i => Nat.blt i lo) && hl.all fun p => p.2.cells.all (okC (knOf ng hl) fun i => Nat.blt i lo)
def inlW (lo : Nat) (h : Hl) (old : List (Nat × Blk)) : List (Nat × Blk) := old ++ outNew lo h (dedupN (h.map (·.1)))
def inlE (ng lo : Nat) (hl h : Hl) (s : S) (w : List (Nat × Blk)) : Bool :=
  okS (knEnd ng lo hl h) (fun _ => false) s && w.all fun p => p.2.cells.all (okC (knEnd ng lo hl h) fun _ => false)
def inlSt (fn : Func) (xs : List S) (hl : Hl) : St := { tm := xs.map (fun s => { g := [], s := s }) ++ List.replicate (fn.ntmps - xs.length) anySV, hp := hl }
def inlB (P : Program) (H : Hnd) (gl : Gl) (k : Ctl) (fn : Func) (xs : List S) (lo : Nat) (body : Code) (hl : Hl) : M Res :=
  if inlOk gl.length lo hl xs then do
    let O ← M.mono (exec P H (ghOf gl 0) gl.length { k with base := lo } body (inlSt fn xs hl))
    let σ ← M.mono (endSt k.keep O)
    let rs ← M.mono (rAll P (ghOf gl 0) gl.length σ fn.results.toList)
    let s ← lift (tupS rs)
    let old ← lift (outOld σ.hp hl)
    if inlE gl.length lo hl σ.hp s (inlW lo σ.hp old) then pure { s := s, w := inlW lo σ.hp old } else M.fail
  else M.fail
def inlM (P : Program) (H : Hnd) (gl : Gl) (k : Ctl) (fn : Func) (Γ : Gd) (hp : Hp) (xs : List S) : M Res := do
  let lo ← getId
  let body ← lift fn.body
  inlB P H gl k fn xs lo body (calleeHp gl.length lo Γ hp (dedupN (reachH hp 3 (argIds xs))))
end Go.Proofs.YtalnndmnnffnmaaGreat.Sx
