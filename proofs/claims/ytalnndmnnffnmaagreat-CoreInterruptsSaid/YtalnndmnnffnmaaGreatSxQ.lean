/-
  SX, part Q: which slots are read beyond where they are written; tables of contracts. No condition.
-/
import Derived.Test.YtalnndmnnffnmaaGreatSxP
set_option linter.unusedVariables false
set_option linter.unusedSimpArgs false
namespace Go.Proofs.YtalnndmnnffnmaaGreat.Sx
open Go

def rdOps : List Oper → List Nat → List Nat → List Nat
  | [], _, acc => acc
  | o :: l, wr, acc =>
    let acc' := o.op.operands.toList.foldl (fun a x => match x with | .tmp t => if wr.contains t || a.contains t then a else t :: a | _ => a) acc
    rdOps l (match o.dst with | some d => d :: wr | none => wr) acc'
def rdCode : Code → List Nat → List Nat
  | .region _ ops _, acc => rdOps ops.toList [] acc
  | .seq a b, acc => rdCode b (rdCode a acc)
  | .cond c a b, acc => rdCode b (rdCode a (match c with | .tmp t => if acc.contains t then acc else t :: acc | _ => acc))
  | .block _ a, acc => rdCode a acc
  | .loop a, acc => rdCode a acc
  | _, acc => acc
def keepOf (fn : Func) : List Bool :=
  let r := rdCode (fn.body.getD .skip) (fn.results.toList.map fun | .tmp t => t | .cell a _ => a)
  (List.range fn.ntmps).map fun t => r.contains t
def retOf (fn : Func) : List Bool :=
  let r := fn.results.toList.map fun | .tmp t => t | .cell a _ => a
  (List.range fn.ntmps).map fun t => r.contains t
def ctlOf (fn : Func) (gl : Gl) (s : Sum) : Ctl := { keep := keepOf fn, turns := 400, ret := retOf fn, base := gl.length + (ptrShapes s.args).length + nSli s.args }

/-- Tables. -/
def tabS : List (Nat × Sum × Fun) → Sums
  | [], _ => none
  | (f, s, _) :: l, n => if n == f then some s else tabS l n
def tabF : List (Nat × Sum × Fun) → Funs
  | [], _ => fun _ _ => ([], [])
  | (f, _, F) :: l, n => if n == f then F else tabF l n
theorem AllOk.nil {P : Program} {gl : Gl} : AllOk P (tabF []) gl (tabS []) := fun _ _ h => by cases h
theorem AllOk.cons {P : Program} {gl : Gl} {l : List (Nat × Sum × Fun)} {f : Nat} {s : Sum} {F : Fun} (hc : match s.sl with | none => Contract P gl f s F | some p => TabContract P gl f p) (hcall : ∀ args w, (callFunc f args).run P w = .ok (.enter f args) w)
    (hin : ∀ S, s.inl = some S → s.pre = false ∧ ∀ is bs, F is bs = S.run Fun0 false is bs) (h : AllOk P (tabF l) gl (tabS l)) : AllOk P (tabF ((f, s, F) :: l)) gl (tabS ((f, s, F) :: l)) := by
  intro n t ht
  unfold tabS at ht
  unfold tabF
  by_cases e : (n == f) = true
  · rw [if_pos e] at ht ⊢
    simp only [Option.some.injEq] at ht
    simp only [beq_iff_eq] at e
    subst e
    subst ht
    exact ⟨hc, hcall, hin⟩
  · rw [if_neg e] at ht ⊢
    exact h n t ht
def withInl (s : Sum) (S : Smry) : Sum := { s with inl := some S }
def ctlL (fn : Func) (gl : Gl) (s : Sum) (l : List (Nat × LAnn)) : Ctl := { ctlOf fn gl s with loops := l }

/-! ### Loops' functions -/
def callsOf : List Em → List Nat
  | [] => []
  | .call f _ _ _ _ _ _ :: l => f :: callsOf l
  | _ :: l => callsOf l
theorem evEm_congr {Φ Φ' : Funs} : ∀ {l : List Em} {is : List Int} {bs : List Bool}, (∀ f, f ∈ callsOf l → Φ f = Φ' f) → evEm Φ l is bs = evEm Φ' l is bs
  | [], _, _, _ => rfl
  | .di _ _ :: l, is, bs, h => by unfold evEm; exact evEm_congr h
  | .db _ _ :: l, is, bs, h => by unfold evEm; exact evEm_congr h
  | .ob _ _ :: l, is, bs, h => by unfold evEm; exact evEm_congr h
  | .call f ai ab i ni b nb :: l, is, bs, h => by
    unfold evEm
    simp only
    rw [h f (by simp [callsOf])]
    exact evEm_congr fun g hg => h g (by simp [callsOf, hg])
theorem run_congr {Φ Φ' : Funs} {S : Smry} {pre : Bool} (h : ∀ f, f ∈ callsOf S.em → Φ f = Φ' f) : S.run Φ pre = S.run Φ' pre := by
  funext is bs
  unfold Smry.run
  rw [evEm_congr h]
/-- Functions, and loops', each by those behind it. -/
noncomputable def lpF : List LAnn → Funs → Funs
  | [], Φ => Φ
  | L :: l, Φ => fun n => if n == L.id then loopF (L.S.run (lpF l Φ) true) L.nI L.nB else lpF l Φ n
def notIn (n : Nat) (l : List Nat) : Bool := l.all fun m => !(m == n)
theorem notIn_spec {n : Nat} {l : List Nat} (h : notIn n l = true) {m : Nat} (hm : m ∈ l) : m ≠ n := by
  unfold notIn at h
  rw [List.all_eq_true] at h
  have := h m hm
  simpa using this
/-- No loop's number is another one's, or is called ahead. -/
def lpOk : List LAnn → Bool
  | [] => true
  | L :: l => notIn L.id (callsOf L.S.em) && (l.all fun M => !(M.id == L.id) && notIn L.id (callsOf M.S.em)) && lpOk l
theorem lpF_ok {Φ : Funs} : ∀ {l : List LAnn}, lpOk l = true → ∀ L, L ∈ l → lpF l Φ L.id = loopF (L.S.run (lpF l Φ) true) L.nI L.nB
  | [], _, L, h => by cases h
  | M :: l, hk, L, h => by
    simp only [lpOk, Bool.and_eq_true, List.all_eq_true] at hk
    obtain ⟨⟨h1, h2⟩, h3⟩ := hk
    rcases List.mem_cons.1 h with rfl | h
    · have : lpF (L :: l) Φ L.id = loopF (L.S.run (lpF l Φ) true) L.nI L.nB := by simp [lpF]
      rw [this]
      congr 1
      refine run_congr fun f hf => ?_
      have := notIn_spec h1 hf
      simp [lpF, this]
    · have h4 := h2 L h
      simp only [Bool.not_eq_true', beq_eq_false_iff_ne, ne_eq] at h4
      have : lpF (M :: l) Φ L.id = lpF l Φ L.id := by simp [lpF, h4.1]
      rw [this, lpF_ok h3 L h]
      congr 1
      refine run_congr fun f hf => ?_
      have := notIn_spec h4.2 hf
      simp [lpF, this]
theorem lpF_else {Φ : Funs} {n : Nat} : ∀ {l : List LAnn}, (l.all fun L => !(L.id == n)) = true → lpF l Φ n = Φ n
  | [], _ => rfl
  | L :: l, h => by
    simp only [List.all_cons, Bool.and_eq_true] at h
    have h1 : ¬ L.id = n := by simpa using h.1
    have h1' : (n == L.id) = false := by simpa using fun e => h1 (Eq.symm e)
    unfold lpF
    rw [h1']
    simp only [Bool.false_eq_true, if_false]
    exact lpF_else h.2
def apartT (l : List LAnn) (T : List (Nat × Sum × Fun)) : Bool := T.all fun e => l.all fun L => !(L.id == e.1)
theorem tabS_mem {n : Nat} {s : Sum} : ∀ {T : List (Nat × Sum × Fun)}, tabS T n = some s → ∃ e, e ∈ T ∧ e.1 = n
  | [], h => by cases h
  | (f, t, F) :: T, h => by
    unfold tabS at h
    split at h
    · rename_i e
      simp only [beq_iff_eq] at e
      exact ⟨_, List.mem_cons.2 (.inl rfl), e.symm⟩
    · obtain ⟨e, he, h2⟩ := tabS_mem h
      exact ⟨e, by simp [he], h2⟩
/-- With loops' functions besides. -/
theorem AllOk.loops {P : Program} {gl : Gl} {T : List (Nat × Sum × Fun)} (h : AllOk P (tabF T) gl (tabS T)) {l : List LAnn} (ha : apartT l T = true) : AllOk P (lpF l (tabF T)) gl (tabS T) := by
  intro f s hs
  obtain ⟨e, he, rfl⟩ := tabS_mem hs
  unfold apartT at ha
  rw [List.all_eq_true] at ha
  rw [lpF_else (ha e he)]
  exact h _ _ hs
theorem LoopsOk.of {Φ : Funs} {fn : Func} {gl : Gl} {s : Sum} {l : List (Nat × LAnn)} (h : lpOk (l.map (·.2)) = true) : LoopsOk (lpF (l.map (·.2)) Φ) (ctlL fn gl s l) :=
  fun p hp => lpF_ok h p.2 (List.mem_map.2 ⟨p, hp, rfl⟩)
end Go.Proofs.YtalnndmnnffnmaaGreat.Sx
