/-
  SX, part Y: what is owed and answered, as equations; a rule for loops. No condition.
-/
import Derived.Test.YtalnndmnnffnmaaGreatSxT
set_option linter.unusedVariables false
set_option linter.unusedSimpArgs false
namespace Go.Proofs.YtalnndmnnffnmaaGreat.Sx
open Go

theorem Smry.run_specT {Φ : Funs} {S : Smry} {is : List Int} {bs : List Bool} (hw : wsEm S.em is.length bs.length = true) : ∃ ρ : Env, S.run Φ true is bs = (S.ri.map (A.d ρ), obAll ρ S.em :: S.rb.map (B.d ρ)) ∧ headsI ρ is 0 ∧ headsB ρ bs 0 ∧ eqns Φ ρ S.em := by
  obtain ⟨h1, h2⟩ := evEm_spec Φ S.em is bs hw
  refine ⟨envOf (evEm Φ S.em is bs).1 (evEm Φ S.em is bs).2, rfl, headsI_of fun n hn => ?_, headsB_of fun n hn => ?_, eqns_of fun e he => ?_⟩
  · rw [Nat.zero_add]; exact h1.1 n hn
  · rw [Nat.zero_add]; exact h1.2 n hn
  · have := h2 e he
    cases e <;> simp_all

/-- What is owed, one by one. -/
def obs (ρ : Env) : List Em → Bool
  | [] => true
  | .ob g b :: l => (!(Gd.d ρ g) || b.d ρ) && obs ρ l
  | .di _ _ :: l => obs ρ l
  | .db _ _ :: l => obs ρ l
  | .call _ _ _ _ _ _ _ :: l => obs ρ l
theorem obAll_eq {ρ : Env} : ∀ {l : List Em}, obAll ρ l = obs ρ l
  | [] => rfl
  | e :: l => by
    have ih := obAll_eq (ρ := ρ) (l := l)
    unfold obAll at ih ⊢
    cases e <;> simp [obs, ih]

theorem loop_rule {F : Fun} {nI nB : Nat} (Inv : List Int → List Bool → Prop) (mu : List Int → List Bool → Nat) (Post : Fl → Prop)
    (step : ∀ is bs, Inv is bs → ∃ c rb, (F is bs).2 = true :: c :: rb ∧ (c = false → Post ((F is bs).1.drop nI, rb.drop nB)) ∧
      (c = true → Inv ((F is bs).1.take nI) (rb.take nB) ∧ mu ((F is bs).1.take nI) (rb.take nB) < mu is bs)) :
    ∀ is bs, Inv is bs → ∃ o, loopF F nI nB is bs = (o.1, true :: o.2) ∧ Post o := by
  have key : ∀ n is bs, mu is bs ≤ n → Inv is bs → ∃ m o, LRun F nI nB m is bs o ∧ Post o := by
    intro n
    induction n with
    | zero =>
      intro is bs hn hi
      obtain ⟨c, rb, h1, h2, h3⟩ := step is bs hi
      cases c
      · exact ⟨1, _, .stop h1, h2 rfl⟩
      · have := (h3 rfl).2; omega
    | succ n ih =>
      intro is bs hn hi
      obtain ⟨c, rb, h1, h2, h3⟩ := step is bs hi
      cases c
      · exact ⟨1, _, .stop h1, h2 rfl⟩
      · obtain ⟨h4, h5⟩ := h3 rfl
        obtain ⟨m, o, h6, h7⟩ := ih _ _ (by omega) h4
        exact ⟨m + 1, o, .turn h1 h6, h7⟩
  intro is bs hi
  obtain ⟨m, o, h1, h2⟩ := key _ is bs (Nat.le_refl _) hi
  exact ⟨o, loopF_of h1, h2⟩

theorem cm_eql (x y : Int) : cmB .eql x y = (x == y) := rfl
theorem cm_neq (x y : Int) : cmB .neq x y = (x != y) := rfl
theorem cm_lss (x y : Int) : cmB .lss x y = decide (x < y) := rfl
theorem cm_leq (x y : Int) : cmB .leq x y = decide (x ≤ y) := rfl
theorem cm_gtr (x y : Int) : cmB .gtr x y = decide (y < x) := rfl
theorem cm_geq (x y : Int) : cmB .geq x y = decide (y ≤ x) := rfl
theorem lt2 {p : Nat → Prop} : (∀ j, j < 2 → p j) ↔ p 0 ∧ p 1 := by
  refine ⟨fun h => ⟨h 0 (by decide), h 1 (by decide)⟩, fun h j hj => ?_⟩
  have : j = 0 ∨ j = 1 := by omega
  rcases this with rfl | rfl
  · exact h.1
  · exact h.2
/-- 'for all j below n', written out. -/
def upto (p : Nat → Prop) : Nat → Nat → Prop
  | _, 0 => True
  | k, n + 1 => p k ∧ upto p (k + 1) n
theorem upto_of {p : Nat → Prop} : ∀ {n k : Nat}, (∀ j, k ≤ j → j < k + n → p j) → upto p k n
  | 0, _, _ => trivial
  | n + 1, k, h => ⟨h k (Nat.le_refl _) (by omega), upto_of fun j h1 h2 => h j (by omega) (by omega)⟩
theorem of_upto {p : Nat → Prop} : ∀ {n k : Nat}, upto p k n → ∀ j, k ≤ j → j < k + n → p j
  | 0, k, _, j, h1, h2 => by omega
  | n + 1, k, h, j, h1, h2 => by
    rcases Nat.eq_or_lt_of_le h1 with e | e
    · subst e; exact h.1
    · exact of_upto h.2 j e (by omega)
theorem ltn {p : Nat → Prop} (n : Nat) : (∀ j, j < n → p j) ↔ upto p 0 n :=
  ⟨fun h => upto_of fun j _ h2 => h j (by omega), fun h j hj => of_upto h j (Nat.zero_le _) (by omega)⟩
end Go.Proofs.YtalnndmnnffnmaaGreat.Sx
