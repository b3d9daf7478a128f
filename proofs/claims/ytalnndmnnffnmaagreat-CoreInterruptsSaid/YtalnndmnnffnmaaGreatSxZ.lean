/-
  SX, part Z: a law's answer, and tables. No condition.
-/
import Derived.Test.YtalnndmnnffnmaaGreatSxU
import Derived.Test.YtalnndmnnffnmaaGreatSxY
set_option linter.unusedVariables false
set_option linter.unusedSimpArgs false
namespace Go.Proofs.YtalnndmnnffnmaaGreat.Sx
open Go

theorem oneCell_ints {k : IntKind} {l : List Int} {j : Nat} {v : Value} (h : (l.map (Value.int k))[j]? = some v) : oneCell v = true := by
  rw [List.getElem?_map] at h
  cases hl : l[j]? with
  | none => rw [hl] at h; simp at h
  | some m => rw [hl] at h; simp only [Option.map_some, Option.some.injEq] at h; subst h; rfl

/-- A law's one answer, behind what it owes. -/
theorem out_trueP {s : Sum} {v : Value} {w' : World} (ht : s.tup = false) (hr : s.res = [(false, [.bool])]) (hp : s.pre = true) (hps : ptrShapes s.args = []) (h : OutOk s [] v w' ([], [true, true])) : v = .bool true := by
  obtain ⟨r, p, h1, h2, h3, h4⟩ := h
  unfold flatRes at h1
  rw [ht, hr] at h1
  rw [hps] at h2
  simp only [flatPs, Option.some.injEq] at h2
  subst h2
  rw [hp] at h4
  simp only [if_true, Bool.false_eq_true, if_false, List.append_nil, List.tail_cons] at h4 h1
  obtain ⟨us, hf, hu⟩ := flat1_inv h1
  simp only [Bool.false_eq_true, if_false] at hu hf
  subst hu
  unfold flatC at hf
  split at hf
  · rename_i b is bs hb
    simp only [Option.some.injEq] at hf
    subst hf
    simp only [flatC, Option.some.injEq, Prod.mk.injEq] at hb
    obtain ⟨_, rfl⟩ := hb
    simp only [List.cons.injEq, and_true] at h4
    rw [← h4]
  · cases hf
end Go.Proofs.YtalnndmnnffnmaaGreat.Sx
