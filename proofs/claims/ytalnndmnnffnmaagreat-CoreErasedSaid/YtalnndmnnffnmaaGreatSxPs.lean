/-
  SX, part Ps: a callee that is replaced where its arguments are the caller's; the same and known ones in two runs. No condition.
-/
import Derived.Test.YtalnndmnnffnmaaGreatSxPr
import Derived.Test.YtalnndmnnffnmaaGreatSxQ
set_option linter.unusedVariables false
set_option linter.unusedSimpArgs false
namespace Go.Proofs.YtalnndmnnffnmaaGreat.Sx
open Go

def vA : Nat → Nat → List A
  | _, 0 => []
  | k, n + 1 => .v k :: vA (k + 1) n
def vB : Nat → Nat → List B
  | _, 0 => []
  | k, n + 1 => .v k :: vB (k + 1) n
theorem vA_map {ρ : Env} : ∀ {n k : Nat}, (vA k n).map (A.d ρ) = (List.range n).map fun j => ρ.i (k + j)
  | 0, k => rfl
  | n + 1, k => by
    rw [List.range_succ_eq_map]
    simp only [vA, List.map_cons, List.map_map, A.d, Nat.add_zero]
    rw [vA_map]
    congr 1
    apply List.map_congr_left
    intro j _
    simp [Nat.add_assoc, Nat.add_comm 1 j]
theorem vB_map {ρ : Env} : ∀ {n k : Nat}, (vB k n).map (B.d ρ) = (List.range n).map fun j => ρ.b (k + j)
  | 0, k => rfl
  | n + 1, k => by
    rw [List.range_succ_eq_map]
    simp only [vB, List.map_cons, List.map_map, B.d, Nat.add_zero]
    rw [vB_map]
    congr 1
    apply List.map_congr_left
    intro j _
    simp [Nat.add_assoc, Nat.add_comm 1 j]
def eqLA : List A → List A → Bool
  | [], [] => true
  | x :: l, y :: m => A.eq x y && eqLA l m
  | _, _ => false
def eqLB : List B → List B → Bool
  | [], [] => true
  | x :: l, y :: m => B.eq x y && eqLB l m
  | _, _ => false
theorem eqLA_sound : ∀ {l m : List A}, eqLA l m = true → l = m
  | [], [], _ => rfl
  | x :: l, y :: m, h => by
    simp only [eqLA, Bool.and_eq_true] at h
    rw [A.eq_sound h.1, eqLA_sound h.2]
theorem eqLB_sound : ∀ {l m : List B}, eqLB l m = true → l = m
  | [], [], _ => rfl
  | x :: l, y :: m, h => by
    simp only [eqLB, Bool.and_eq_true] at h
    rw [B.eq_sound h.1, eqLB_sound h.2]
/-- Such functions are called with the caller's own first numbers and bools alone. -/
def ownCalls (D : List Nat) (ni nb : Nat) (l : List Em) : Bool := l.all fun
  | .call f ai ab _ _ _ _ => !(D.any fun d => Nat.beq d f) || (eqLA ai (vA 0 ni) && eqLB ab (vB 0 nb))
  | _ => true
theorem evEm_swap {Φ Φ' : Funs} {D : List Nat} {is : List Int} {bs : List Bool} (h1 : ∀ f, f ∉ D → Φ f = Φ' f) (h2 : ∀ f, f ∈ D → Φ f is bs = Φ' f is bs) :
    ∀ (l : List Em) (ks : List Int) (cs : List Bool), ownCalls D is.length bs.length l = true → evEm Φ l (is ++ ks) (bs ++ cs) = evEm Φ' l (is ++ ks) (bs ++ cs)
  | [], ks, cs, _ => rfl
  | .di _ r :: l, ks, cs, h => by
    simp only [evEm]
    rw [List.append_assoc]
    exact evEm_swap h1 h2 l _ cs (by simpa [ownCalls] using h)
  | .db _ r :: l, ks, cs, h => by
    simp only [evEm]
    rw [List.append_assoc]
    exact evEm_swap h1 h2 l ks _ (by simpa [ownCalls] using h)
  | .ob _ _ :: l, ks, cs, h => by
    simp only [evEm]
    exact evEm_swap h1 h2 l ks cs (by simpa [ownCalls] using h)
  | .call f ai ab _ ni _ nb :: l, ks, cs, h => by
    unfold ownCalls at h
    simp only [List.all_cons, Bool.and_eq_true, Bool.or_eq_true, Bool.not_eq_true'] at h
    obtain ⟨hc, hl⟩ := h
    have key : Φ f (ai.map (A.d (envOf (is ++ ks) (bs ++ cs)))) (ab.map (B.d (envOf (is ++ ks) (bs ++ cs)))) = Φ' f (ai.map (A.d (envOf (is ++ ks) (bs ++ cs)))) (ab.map (B.d (envOf (is ++ ks) (bs ++ cs)))) := by
      by_cases hf : f ∈ D
      · rcases hc with hc | hc
        · rw [List.any_eq_false] at hc
          have := hc f hf
          simp at this
        · have e1 := eqLA_sound hc.1
          have e2 := eqLB_sound hc.2
          subst e1; subst e2
          rw [vA_map, vB_map]
          have e3 : ((List.range is.length).map fun j => (envOf (is ++ ks) (bs ++ cs)).i (0 + j)) = is := by
            apply List.ext_getElem
            · simp
            · intro j a b
              simp [envOf, List.getElem?_append_left b, List.getElem?_eq_getElem b]
          have e4 : ((List.range bs.length).map fun j => (envOf (is ++ ks) (bs ++ cs)).b (0 + j)) = bs := by
            apply List.ext_getElem
            · simp
            · intro j a b
              simp [envOf, List.getElem?_append_left b, List.getElem?_eq_getElem b]
          rw [e3, e4]
          exact h2 f hf
      · rw [h1 f hf]
    simp only [evEm]
    rw [key, List.append_assoc, List.append_assoc]
    exact evEm_swap h1 h2 l _ _ hl
theorem Smry.run_swap {Φ Φ' : Funs} {D : List Nat} {S : Smry} {pre : Bool} {is ks : List Int} {bs cs : List Bool} (h1 : ∀ f, f ∉ D → Φ f = Φ' f) (h2 : ∀ f, f ∈ D → Φ f is bs = Φ' f is bs) (h : ownCalls D is.length bs.length S.em = true) :
    S.run Φ pre (is ++ ks) (bs ++ cs) = S.run Φ' pre (is ++ ks) (bs ++ cs) := by
  unfold Smry.run
  rw [evEm_swap h1 h2 S.em ks cs h]
/-- One function replaced. -/
def swF (g : Nat) (G : Fun) (Φ : Funs) : Funs := fun f => if f = g then G else Φ f
def swP (g : Nat) (p : PF) (T : Nat → PF) : Nat → PF := fun f => if Nat.beq f g then p else T f
theorem swP_ok {g : Nat} {G : Fun} {Φ : Funs} {p : PF} {T : Nat → PF} (hp : POk G p) (hT : ∀ f, POk (Φ f) (T f)) : ∀ f, POk (swF g G Φ f) (swP g p T f) := by
  intro f
  unfold swF swP
  by_cases e : f = g
  · rw [if_pos e, if_pos (by rw [e]; exact Nat.beq_refl g)]; exact hp
  · rw [if_neg e, if_neg (by rw [Nat.beq_eq]; exact e)]; exact hT f
theorem tabP_nil : ∀ f, POk (tabF [] f) (tabP [] f) := fun _ => POk.nil
theorem tabP_cons {l : List (Nat × Sum × Fun)} {m : List (Nat × PF)} {f : Nat} {s : Sum} {F : Fun} {p : PF} (h : POk F p) (ht : ∀ f, POk (tabF l f) (tabP m f)) : ∀ g, POk (tabF ((f, s, F) :: l) g) (tabP ((f, p) :: m) g) := by
  intro g
  unfold tabF tabP
  by_cases e : g = f
  · rw [if_pos (by simpa using e), if_pos (by simpa using e)]; exact h
  · rw [if_neg (by simpa using e), if_neg (by simpa using e)]; exact ht g
theorem Lb.eqv_ok {α : Type} {x : α} : (Lb.eqv : Lb α).ok x x := ⟨fun _ => rfl, fun _ h => (by cases h), fun _ h => (by cases h)⟩
/-- A constant. -/
def PF.cst (o : Fl) : PF := fun _ _ => (o.1.map Lb.cst, o.2.map Lb.cst)
theorem Pw.same {α : Type} {d : α} {f : α → Lb α} (hf : ∀ x, (f x).ok x x) (l : List α) : Pw d (l.map f) l l := by
  have := Pw.map (d := d) (f := f) (g := id) (h := id) (l := l) hf
  simpa using this
theorem PF.cst_ok {o : Fl} : POk (fun _ _ => o) (PF.cst o) := fun _ _ _ _ _ _ _ _ _ _ _ _ => ⟨Pw.same (fun _ => Lb.cst_ok) _, Pw.same (fun _ => Lb.cst_ok) _⟩
/-- A function of one number: the same for the same. -/
def PF.one (ni nb : Nat) : PF := fun li _ => match li with
  | [l] => if l.s then (List.replicate ni Lb.eqv, List.replicate nb Lb.eqv) else ([], [])
  | _ => ([], [])
theorem Pw.reps {α : Type} {d : α} {n : Nat} {l m : List α} (h : l = m) : Pw d (List.replicate n Lb.eqv) l m := fun j => by
  subst h
  by_cases hj : j < n
  · simp only [List.getD_eq_getElem?_getD, List.getElem?_replicate, if_pos hj, Option.getD_some]; exact Lb.eqv_ok
  · rw [getD_ge (by simp; omega)]; exact Lb.top_ok
theorem PF.one_ok {G : Int → Fl} {ni nb : Nat} : POk (fun is _ => G (is.getD 0 0)) (PF.one ni nb) := by
  intro li lb is1 bs1 is2 bs2 _ _ _ _ hi _
  unfold PF.one
  split
  · rename_i l
    split
    · rename_i hs
      have : is1.getD 0 0 = is2.getD 0 0 := (hi 0).1 hs
      simp only [this]
      exact ⟨Pw.reps rfl, Pw.reps rfl⟩
    · exact ⟨Pw.nil, Pw.nil⟩
  · exact ⟨Pw.nil, Pw.nil⟩
end Go.Proofs.YtalnndmnnffnmaaGreat.Sx
