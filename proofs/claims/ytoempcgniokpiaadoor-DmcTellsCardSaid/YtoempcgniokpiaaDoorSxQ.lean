/-
  SX, part Q: which slots are read beyond where they are written; tables of contracts. No condition.
-/
import Derived.Test.YtoempcgniokpiaaDoorSxP
set_option linter.unusedVariables false
namespace Go.Proofs.YtoempcgniokpiaaDoor.Sx
open Go

def rdOps : List Oper → List Nat → List Nat → List Nat
  | [], _, acc => acc
  | o :: l, wr, acc =>
    let acc' := o.op.operands.toList.foldl (fun a x => match x with | .tmp t => if wr.contains t || a.contains t then a else t :: a | _ => a) acc
    rdOps l (match o.dst with | some d => d :: wr | none => wr) acc'
def rdCode : Code → List Nat → List Nat
  | .region _ ops _, acc => rdOps ops.toList [] acc
  | .seq a b, acc => rdCode b (rdCode a acc)
  | .cond c a b, acc => rdCode b (rdCode a (match c with | .tmp t => if acc.contains t then acc else t :: acc | _ => acc))
  | .block _ a, acc => rdCode a acc
  | .loop a, acc => rdCode a acc
  | _, acc => acc
def keepOf (fn : Func) : List Bool :=
  let r := rdCode (fn.body.getD .skip) (fn.results.toList.map fun | .tmp t => t | .cell a _ => a)
  (List.range fn.ntmps).map fun t => r.contains t
def retOf (fn : Func) : List Bool :=
  let r := fn.results.toList.map fun | .tmp t => t | .cell a _ => a
  (List.range fn.ntmps).map fun t => r.contains t
def ctlOf (fn : Func) (gl : Gl) (s : Sum) : Ctl := { keep := keepOf fn, turns := 400, ret := retOf fn, base := gl.length + (ptrShapes s.args).length }

/-- Tables. -/
def tabS : List (Nat × Sum × Fun) → Sums
  | [], _ => none
  | (f, s, _) :: l, n => if n == f then some s else tabS l n
def tabF : List (Nat × Sum × Fun) → Funs
  | [], _ => fun _ _ => ([], [])
  | (f, _, F) :: l, n => if n == f then F else tabF l n
theorem AllOk.nil {P : Program} {gl : Gl} : AllOk P (tabF []) gl (tabS []) := fun _ _ h => by cases h
theorem AllOk.cons {P : Program} {gl : Gl} {l : List (Nat × Sum × Fun)} {f : Nat} {s : Sum} {F : Fun} (hc : match s.sl with | none => Contract P gl f s F | some p => TabContract P gl f p) (hcall : ∀ args w, (callFunc f args).run P w = .ok (.enter f args) w)
    (hin : ∀ S, s.inl = some S → s.pre = false ∧ ∀ is bs, F is bs = S.run Fun0 false is bs) (h : AllOk P (tabF l) gl (tabS l)) : AllOk P (tabF ((f, s, F) :: l)) gl (tabS ((f, s, F) :: l)) := by
  intro n t ht
  unfold tabS at ht
  unfold tabF
  by_cases e : (n == f) = true
  · rw [if_pos e] at ht ⊢
    simp only [Option.some.injEq] at ht
    simp only [beq_iff_eq] at e
    subst e
    subst ht
    exact ⟨hc, hcall, hin⟩
  · rw [if_neg e] at ht ⊢
    exact h n t ht
end Go.Proofs.YtoempcgniokpiaaDoor.Sx
