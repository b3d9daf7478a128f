/-
  Merged texts (SxIp, SxHl, SxAs, SxT, SxU, SxY, SxZ). No condition.
-/
import Derived.KernelRfl
import Derived.ProofKit
import Derived.WideKeyArgs
import Derived.LaidLaws
import Derived.Handed
import Derived.OpenShut
import Derived.Test.YtgbgibbonhklgaaCm6
set_option linter.unusedVariables false
set_option linter.unusedSimpArgs false
namespace Go.Proofs.Ytgbgibbonhklgaa.Sx
open Go

def ctlI (fn : Func) : Ctl := { keep := { l := keepOf fn, fz := true }, turns := 400, ret := retOf fn, base := 0 }
/-- These functions are entered, to such a depth; others are met by contract. -/
def hndI (P : Program) (gl : Gl) (I : List Nat) (H : Hnd) : Nat → Hnd
  | 0 => H
  | n + 1 => fun f Γ hp xs => if I.contains f then (match P.funcs[f]? with
      | some fn => inlM P (hndI P gl I H n) gl (ctlI fn) fn Γ hp xs
      | none => M.fail) else H f Γ hp xs
def nameOk (P : Program) (I : List Nat) : Bool := I.all fun f => match P.funcs[f]? with
  | some fn => !(fn.name == "runtime.NumGoroutine")
  | none => true
theorem hndI_ok {P : Program} {Φ : Funs} {gl : Gl} {I : List Nat} {H : Hnd} (hH : HOk P Φ gl H) (hI : nameOk P I = true) : ∀ n, HOk P Φ gl (hndI P gl I H n)
  | 0 => hH
  | n + 1 => by
    intro f Γ hp xs ρ c res c' out he hg hΓ N R Q β w vs hm hh hb hN hG hf
    unfold hndI at he
    by_cases hc : I.contains f = true
    · rw [if_pos hc] at he
      cases hfn : P.funcs[f]? with
      | none => rw [hfn] at he; simp [M.fail] at he
      | some fn =>
        rw [hfn] at he
        have hn : (fn.name == "runtime.NumGoroutine") = false := by
          unfold nameOk at hI
          rw [List.all_eq_true] at hI
          have := hI f (by simpa using hc)
          rw [hfn] at this
          simpa using this
        exact inl_ok (hndI_ok hH hI n) hfn hn (LoopsOk.nil rfl) (fun _ _ _ _ _ _ => EOk.nil rfl) he hg hΓ hm hh hb hN hG hf
    · rw [if_neg hc] at he
      exact hH f Γ hp xs ρ c res c' out he hg hΓ N R Q β w vs hm hh hb hN hG hf
/-- By contract, and in place. -/
def hnd (P : Program) (gl : Gl) (I : List Nat) (X : Sums) : Hnd := hndI P gl I (hnd0 X) 12
theorem hnd_ok {P : Program} {Φ : Funs} {gl : Gl} {X : Sums} (hX : AllOk P Φ gl X) {I : List Nat} (hI : nameOk P I = true) : HOk P Φ gl (hnd P gl I X) := hndI_ok (hnd0_ok hX) hI 12

/-! ### What is owed and holds by itself: its conditions cannot all hold -/
def defB (n : Nat) : List Em → Option RB
  | [] => none
  | .db m r :: l => if m == n then some r else defB n l
  | _ :: l => defB n l
theorem defB_spec {Φ : Funs} {ρ : Env} {n : Nat} {r : RB} : ∀ {l : List Em}, defB n l = some r → (∀ e, e ∈ l → match e with | .ob _ _ => True | e => e.ok Φ ρ) → ρ.b n = r.d ρ
  | e :: l, h, hg => by
    unfold defB at h
    split at h
    · rename_i e0; cases e0
    · rename_i m r' l' e0
      simp only [List.cons.injEq] at e0
      obtain ⟨rfl, rfl⟩ := e0
      split at h
      · rename_i hm
        simp only [beq_iff_eq] at hm
        simp only [Option.some.injEq] at h
        subst hm; subst h
        exact hg (.db m r') (by simp)
      · exact defB_spec h fun e he => hg e (by simp [he])
    · rename_i e' l' _ e0
      simp only [List.cons.injEq] at e0
      obtain ⟨rfl, rfl⟩ := e0
      exact defB_spec h fun e he => hg e (by simp [he])
abbrev Lits := List (Nat × Bool)
def litOf (n : Nat) : Lits → Option Bool
  | [] => none
  | (m, b) :: l => if m == n then some b else litOf n l
def knB (k : Lits) : B → Option Bool
  | .c b => some b
  | .v n => litOf n k
def addB (k : Lits) (b : B) (v : Bool) : List (B × Bool) := match knB k b with
  | some w => if w == v then [] else [(.c (!v), v)]
  | none => [(b, v)]
/-- What follows of a definition's worth. -/
def foll (k : Lits) (v : Bool) : RB → List (B × Bool)
  | .not a => addB k a (!v)
  | .and a b => if v then addB k a true ++ addB k b true else match knB k a, knB k b with
    | some true, _ => addB k b false
    | _, some true => addB k a false
    | _, _ => []
  | .or a b => if v then (match knB k a, knB k b with
    | some false, _ => addB k b true
    | _, some false => addB k a true
    | _, _ => []) else addB k a false ++ addB k b false
  | .eqb a b => match knB k a, knB k b with
    | some x, _ => addB k b (v == x)
    | _, some y => addB k a (v == y)
    | _, _ => []
  | .ite c a b => match knB k c with
    | some true => addB k a v
    | some false => addB k b v
    | none => match knB k a, knB k b with
      | some x, some y => if x == v then (if y == v then [] else addB k c true) else (if y == v then addB k c false else [(.c (!v), v)])
      | some x, none => if x == v then [] else addB k c false ++ addB k b v
      | none, some y => if y == v then [] else addB k c true ++ addB k a v
      | none, none => []
  | _ => []
/-- A comparison, aS one of three. -/
def cmBase : BinOp → Option (BinOp × Bool)
  | .lss => some (.lss, true)
  | .geq => some (.lss, false)
  | .gtr => some (.gtr, true)
  | .leq => some (.gtr, false)
  | .eql => some (.eql, true)
  | .neq => some (.eql, false)
  | _ => none
abbrev Cms := List (BinOp × A × A × Bool)
/-- A comparison that is known: against the ones before. -/
def cmBad (o : BinOp) (a b : A) (v : Bool) : Cms → Bool
  | [] => false
  | (p, c, d, w) :: l => (p == o && c.eq a && d.eq b && !(w == v)) || cmBad o a b v l
def cmFact (r : RB) (v : Bool) : Option (BinOp × A × A × Bool) := match r with
  | .cm op a b => match cmBase op with
    | some (o, k) => some (o, a, b, k == v)
    | none => none
  | _ => none
/-- Can these not all hold? 'new': what is still to be looked at. -/
def refute (em : List Em) : Nat → Cms → Lits → List (B × Bool) → Bool
  | 0, _, _, _ => false
  | _ + 1, _, _, [] => false
  | n + 1, q, k, (.c b, v) :: l => if b == v then refute em n q k l else true
  | n + 1, q, k, (.v m, v) :: l => match litOf m k with
    | some w => if w == v then refute em n q k l else true
    | none => match defB m em with
      | some r => match cmFact r v with
        | some (o, a, b, w) => cmBad o a b w q || refute em n ((o, a, b, w) :: q) ((m, v) :: k) l
        | none => refute em n q ((m, v) :: k) (foll ((m, v) :: k) v r ++ l)
      | none => refute em n q ((m, v) :: k) l
def CmsOk (ρ : Env) (q : Cms) : Prop := ∀ p, p ∈ q → cmB p.1 (p.2.1.d ρ) (p.2.2.1.d ρ) = p.2.2.2
theorem cmBase_spec {op o : BinOp} {k : Bool} (h : cmBase op = some (o, k)) (x y : Int) : cmB op x y = (k == cmB o x y) := by
  cases op <;> simp only [cmBase, Option.some.injEq, Prod.mk.injEq] at h <;> (try (cases h; done)) <;> obtain ⟨rfl, rfl⟩ := h
  · cases hb : cmB .eql x y <;> rfl
  · show (!(x == y)) = (false == (x == y)); cases (x == y) <;> rfl
  · cases hb : cmB .lss x y <;> rfl
  · show decide (x ≤ y) = (false == decide (x > y))
    by_cases h : x ≤ y
    · have : ¬ x > y := by omega
      simp [h, this]
    · have : x > y := by omega
      simp [h, this]
  · cases hb : cmB .gtr x y <;> rfl
  · show decide (x ≥ y) = (false == decide (x < y))
    by_cases h : x ≥ y
    · have : ¬ x < y := by omega
      simp [h, this]
    · have : x < y := by omega
      simp [h, this]
theorem cmFact_spec {ρ : Env} {r : RB} {v : Bool} {p : BinOp × A × A × Bool} (h : cmFact r v = some p) (hr : r.d ρ = v) : cmB p.1 (p.2.1.d ρ) (p.2.2.1.d ρ) = p.2.2.2 := by
  unfold cmFact at h
  split at h
  · rename_i op a b
    split at h
    · rename_i o k hb
      simp only [Option.some.injEq] at h
      subst h
      simp only
      have := cmBase_spec hb (a.d ρ) (b.d ρ)
      simp only [RB.d] at hr
      rw [hr] at this
      rw [this]
      cases k <;> cases cmB o (a.d ρ) (b.d ρ) <;> rfl
    · cases h
  · cases h
theorem cmBad_spec {ρ : Env} {o : BinOp} {a b : A} {v : Bool} : ∀ {q : Cms}, cmBad o a b v q = true → CmsOk ρ q → cmB o (a.d ρ) (b.d ρ) = v → False
  | (p, c, d, w) :: l, h, hq, hv => by
    simp only [cmBad, Bool.or_eq_true, Bool.and_eq_true, beq_iff_eq, Bool.not_eq_true', beq_eq_false_iff_ne, ne_eq] at h
    rcases h with ⟨⟨⟨rfl, h1⟩, h2⟩, h3⟩ | h
    · have := hq (p, c, d, w) (by simp)
      simp only at this
      rw [A.eq_sound h1, A.eq_sound h2, hv] at this
      exact h3 this.symm
    · exact cmBad_spec h (fun p hp => hq p (by simp [hp])) hv
def LitsOk (ρ : Env) (k : Lits) : Prop := ∀ n b, litOf n k = some b → ρ.b n = b
theorem knB_spec {ρ : Env} {k : Lits} (hk : LitsOk ρ k) {b : B} {v : Bool} (h : knB k b = some v) : b.d ρ = v := by
  cases b with
  | v n => exact hk n v h
  | c x => simp only [knB, Option.some.injEq] at h; exact h
theorem addB_spec {ρ : Env} {k : Lits} (hk : LitsOk ρ k) {b : B} {v : Bool} (h : b.d ρ = v) : ∀ p, p ∈ addB k b v → p.1.d ρ = p.2 := by
  intro p hp
  unfold addB at hp
  split at hp
  · rename_i w hw
    have := knB_spec hk hw
    rw [h] at this
    subst this
    simp at hp
  · simp only [List.mem_singleton] at hp
    subst hp
    exact h
theorem foll_spec {ρ : Env} {k : Lits} (hk : LitsOk ρ k) {v : Bool} {r : RB} (h : r.d ρ = v) : ∀ p, p ∈ foll k v r → p.1.d ρ = p.2 := by
  cases r with
  | not a =>
    intro p hp
    simp only [foll] at hp
    exact addB_spec hk (by simp only [RB.d] at h; rw [← h]; simp) p hp
  | and a b =>
    intro p hp
    simp only [RB.d] at h
    simp only [foll] at hp
    split at hp
    · rename_i hv
      subst hv
      simp only [Bool.and_eq_true] at h
      rcases List.mem_append.1 hp with hp | hp
      · exact addB_spec hk h.1 p hp
      · exact addB_spec hk h.2 p hp
    · rename_i hv
      have hv : v = false := by simpa using hv
      subst hv
      split at hp
      · rename_i ha
        rw [knB_spec hk ha] at h
        exact addB_spec hk (by simpa using h) p hp
      · rename_i hb _
        rw [knB_spec hk hb] at h
        exact addB_spec hk (by simpa using h) p hp
      · cases hp
  | or a b =>
    intro p hp
    simp only [RB.d] at h
    simp only [foll] at hp
    split at hp
    · rename_i hv
      subst hv
      split at hp
      · rename_i ha
        rw [knB_spec hk ha] at h
        exact addB_spec hk (by simpa using h) p hp
      · rename_i hb _
        rw [knB_spec hk hb] at h
        exact addB_spec hk (by simpa using h) p hp
      · cases hp
    · rename_i hv
      have hv : v = false := by simpa using hv
      subst hv
      simp only [Bool.or_eq_false_iff] at h
      rcases List.mem_append.1 hp with hp | hp
      · exact addB_spec hk h.1 p hp
      · exact addB_spec hk h.2 p hp
  | eqb a b =>
    intro p hp
    simp only [RB.d] at h
    simp only [foll] at hp
    split at hp
    · rename_i x ha
      rw [knB_spec hk ha] at h
      refine addB_spec hk ?_ p hp
      rw [← h]
      cases x <;> cases b.d ρ <;> rfl
    · rename_i y hb _
      rw [knB_spec hk hb] at h
      refine addB_spec hk ?_ p hp
      rw [← h]
      cases y <;> cases a.d ρ <;> rfl
    · cases hp
  | ite c a b =>
    intro p hp
    simp only [RB.d] at h
    simp only [foll] at hp
    split at hp
    · rename_i hc
      rw [knB_spec hk hc] at h
      exact addB_spec hk (by simpa using h) p hp
    · rename_i hc
      rw [knB_spec hk hc] at h
      exact addB_spec hk (by simpa using h) p hp
    · split at hp
      · rename_i x y ha hb
        rw [knB_spec hk ha, knB_spec hk hb] at h
        split at hp
        · rename_i hx
          simp only [beq_iff_eq] at hx
          split at hp
          · cases hp
          · rename_i hy
            refine addB_spec hk ?_ p hp
            cases hcd : c.d ρ with
            | true => rfl
            | false => rw [hcd] at h; simp at h; rw [h] at hy; simp at hy
        · rename_i hx
          split at hp
          · rename_i hy
            refine addB_spec hk ?_ p hp
            cases hcd : c.d ρ with
            | false => rfl
            | true => rw [hcd] at h; simp at h; rw [h] at hx; simp at hx
          · rename_i hy
            exfalso
            cases hcd : c.d ρ <;> rw [hcd] at h <;> simp at h
            · rw [h] at hy; simp at hy
            · rw [h] at hx; simp at hx
      · rename_i x ha hb
        rw [knB_spec hk ha] at h
        split at hp
        · cases hp
        · rename_i hx
          have hcd : c.d ρ = false := by
            cases hcd : c.d ρ with
            | false => rfl
            | true => rw [hcd] at h; simp at h; rw [h] at hx; simp at hx
          rw [hcd] at h
          rcases List.mem_append.1 hp with hp | hp
          · exact addB_spec hk hcd p hp
          · exact addB_spec hk (by simpa using h) p hp
      · rename_i y ha hb
        rw [knB_spec hk hb] at h
        split at hp
        · cases hp
        · rename_i hy
          have hcd : c.d ρ = true := by
            cases hcd : c.d ρ with
            | true => rfl
            | false => rw [hcd] at h; simp at h; rw [h] at hy; simp at hy
          rw [hcd] at h
          rcases List.mem_append.1 hp with hp | hp
          · exact addB_spec hk hcd p hp
          · exact addB_spec hk (by simpa using h) p hp
      · cases hp
  | _ => intro p hp; cases hp
theorem refute_spec {Φ : Funs} {ρ : Env} {em : List Em} (hg : ∀ e, e ∈ em → match e with | .ob _ _ => True | e => e.ok Φ ρ) : ∀ {n : Nat} {q : Cms} {k : Lits} {l : List (B × Bool)}, refute em n q k l = true → CmsOk ρ q → LitsOk ρ k → (∀ p, p ∈ l → p.1.d ρ = p.2) → False
  | 0, _, _, _, h, _, _, _ => by simp [refute] at h
  | n + 1, _, _, [], h, _, _, _ => by simp [refute] at h
  | n + 1, q, k, (.c b, v) :: l, h, hq, hk, hl => by
    have h0 := hl _ (List.mem_cons_self)
    simp only [B.d_c] at h0
    subst h0
    unfold refute at h
    simp only [beq_self_eq_true, if_true] at h
    exact refute_spec hg h hq hk fun p hp => hl p (by simp [hp])
  | n + 1, q, k, (.v m, v) :: l, h, hq, hk, hl => by
    have h0 : ρ.b m = v := hl _ (List.mem_cons_self)
    unfold refute at h
    split at h
    · rename_i w hw
      have := hk m w hw
      rw [h0] at this
      subst this
      simp only [beq_self_eq_true, if_true] at h
      exact refute_spec hg h hq hk fun p hp => hl p (by simp [hp])
    · have hk' : LitsOk ρ ((m, v) :: k) := fun n b hn => by
        unfold litOf at hn
        split at hn
        · rename_i he
          simp only [beq_iff_eq] at he
          simp only [Option.some.injEq] at hn
          subst he; subst hn
          exact h0
        · exact hk n b hn
      split at h
      · rename_i r hr
        have hrv : r.d ρ = v := by rw [← defB_spec hr hg]; exact h0
        split at h
        · rename_i o a b w hf
          have hf' := cmFact_spec hf hrv
          simp only at hf'
          rw [Bool.or_eq_true] at h
          rcases h with h | h
          · exact cmBad_spec h hq hf'
          · refine refute_spec hg h (fun p hp => ?_) hk' fun p hp => hl p (by simp [hp])
            rcases List.mem_cons.1 hp with rfl | hp
            · exact hf'
            · exact hq p hp
        · refine refute_spec hg h hq hk' fun p hp => ?_
          rcases List.mem_append.1 hp with hp | hp
          · exact foll_spec hk' hrv p hp
          · exact hl p (by simp [hp])
      · exact refute_spec hg h hq hk' fun p hp => hl p (by simp [hp])
/-- All that is owed holds by itself. -/
def selfOb (em : List Em) : Bool := em.all fun
  | .ob g b => refute em 400 [] [] (g ++ [(b, false)])
  | _ => true
theorem selfOb_all {Φ : Funs} {ρ : Env} {em : List Em} (hg : ∀ e, e ∈ em → match e with | .ob _ _ => True | e => e.ok Φ ρ) (h : selfOb em = true) : obAll ρ em = true := by
  unfold obAll
  unfold selfOb at h
  rw [List.all_eq_true] at h ⊢
  intro e he
  have := h e he
  cases e with
  | ob g b =>
    simp only at this ⊢
    cases hgd : Gd.d ρ g with
    | false => rfl
    | true =>
      cases hb : b.d ρ with
      | true => rfl
      | false =>
        refine (refute_spec hg this (fun p hp => by cases hp) (fun n b h => by cases h) fun p hp => ?_).elim
        rcases List.mem_append.1 hp with hp | hp
        · unfold Gd.d at hgd
          rw [List.all_eq_true] at hgd
          simpa using hgd p hp
        · simp only [List.mem_singleton] at hp
          subst hp
          exact hb
  | _ => rfl
theorem contract_self {P : Program} {Φ : Funs} {X : Hnd} {gl : Gl} (hX : HOk P Φ gl X) {f : Nat} {fn : Func} (hf : P.funcs[f]? = some fn) {k : Ctl} (hK : LoopsOk Φ k) {s : Sum} {S : Smry} (h : fnX P X gl k fn s = some S)
    (hw : (wsEm S.em (argI s.args) (argB s.args) && shOk s && selfOb S.em) = true) (hEA : EAll P Φ gl k) : Contract P gl f s (S.run Φ s.pre) := by
  simp only [Bool.and_eq_true] at hw
  obtain ⟨⟨h1, h2⟩, h3⟩ := hw
  refine contract_gen hX hf hK hEA h h1 h2 fun vs w is bs ps hfl _ => ?_
  have hlen := flatArgs_len hfl
  exact selfOb_all (Φ := Φ) (evEm_spec Φ S.em is bs (by rw [hlen.1, hlen.2.1]; exact h1)).2 h3
end Go.Proofs.Ytgbgibbonhklgaa.Sx
namespace Go.Proofs.Ytgbgibbonhklgaa.Sx
open Go

/-- A function that is entered: its own loops, the bodies', the iterators'; has it a loop over a function? -/
structure InlI where
  f : Nat
  lo : List (Nat × LAnn) := []
  lb : List (Nat × LAnn) := []
  ll : List (Nat × LAnn) := []
  rf : Bool := false
def findI (f : Nat) : List InlI → Option InlI
  | [] => none
  | i :: l => if Nat.beq i.f f then some i else findI f l
theorem findI_mem {f : Nat} : ∀ {l : List InlI} {i : InlI}, findI f l = some i → i ∈ l
  | [], _, h => by cases h
  | j :: l, i, h => by
    unfold findI at h
    split at h
    · cases h; exact List.mem_cons_self
    · exact List.mem_cons_of_mem _ (findI_mem h)
def kpL : Kp := { l := List.replicate 1000 true, fz := false }
def ctlBL (fn : Func) (lb : List (Nat × LAnn)) : Ctl := { keep := { l := keepOf fn, fz := false }, turns := 400, ret := [], base := 1000000000, loops := lb }
def ctlIL (P : Program) (H : Hnd) (gl : Gl) (i : InlI) (fn : Func) : Ctl := { ctlI fn with loops := i.lo, E := if i.rf then rfE P H gl (ctlBL fn i.lb) kpL i.ll 400 else {} }
/-- These functions are entered, to such a depth; others are met by contract. -/
def hndL (P : Program) (gl : Gl) (I : List InlI) (H : Hnd) : Nat → Hnd
  | 0 => H
  | n + 1 => fun f Γ hp xs => match findI f I with
    | some i => (match P.funcs[f]? with
      | some fn => inlM P (hndL P gl I H n) gl (ctlIL P (hndL P gl I H n) gl i fn) fn Γ hp xs
      | none => M.fail)
    | none => H f Γ hp xs
def nameOkL (P : Program) (I : List InlI) : Bool := I.all fun i => match P.funcs[i.f]? with
  | some fn => !(fn.name == "runtime.NumGoroutine")
  | none => true
def LsOk (Φ : Funs) (l : List (Nat × LAnn)) : Prop := ∀ p, p ∈ l → Φ p.2.id = loopF (p.2.S.run Φ true) p.2.nI p.2.nB
def InlOk (Φ : Funs) (I : List InlI) : Prop := ∀ i, i ∈ I → LsOk Φ i.lo ∧ LsOk Φ i.lb ∧ LsOk Φ i.ll
theorem findI_f {f : Nat} : ∀ {l : List InlI} {i : InlI}, findI f l = some i → i.f = f
  | [], _, h => by cases h
  | j :: l, i, h => by
    unfold findI at h
    split at h
    · rename_i e; cases h; exact Nat.eq_of_beq_eq_true e
    · exact findI_f h
theorem ctlIL_E {P : Program} {Φ : Funs} {gl : Gl} {H : Hnd} (hH : HOk P Φ gl H) {i : InlI} (hb : LsOk Φ i.lb) (hl : LsOk Φ i.ll) (fn : Func) : ∀ x : Cx, x.gl = gl → x.rl = none → x.lr = none → x.ds = [] → (∀ w, Keep x.R x.w0 w → Laid gl w) → EOk P Φ x (ctlIL P H gl i fn).E := fun x h1 h2 h3 h4 h6 => by
  subst h1
  show EOk P Φ x (if i.rf then rfE P H x.gl (ctlBL fn i.lb) kpL i.ll 400 else {})
  split
  · exact rfE_ok (kb := ctlBL fn i.lb) hH h6 (fun h => by cases h) hb rfl (fun h => by cases h) hl h2 h3 h4
  · exact EOk.nil rfl
theorem hndL_ok {P : Program} {Φ : Funs} {gl : Gl} {I : List InlI} {H : Hnd} (hH : HOk P Φ gl H) (hI : nameOkL P I = true) (hL : InlOk Φ I) : ∀ n, HOk P Φ gl (hndL P gl I H n)
  | 0 => hH
  | n + 1 => by
    intro f Γ hp xs ρ c res c' out he hg hΓ N R Q β w vs hm hh hb hN hG hf
    unfold hndL at he
    cases hc : findI f I with
    | some i =>
      rw [hc] at he
      simp only at he
      have hif := findI_f hc
      cases hfn : P.funcs[f]? with
      | none => rw [hfn] at he; simp [M.fail] at he
      | some fn =>
        rw [hfn] at he
        have hn : (fn.name == "runtime.NumGoroutine") = false := by
          unfold nameOkL at hI
          rw [List.all_eq_true] at hI
          have := hI i (findI_mem hc)
          rw [hif, hfn] at this
          simpa using this
        obtain ⟨l1, l2, l3⟩ := hL i (findI_mem hc)
        exact inl_ok (hndL_ok hH hI hL n) hfn hn (k := ctlIL P (hndL P gl I H n) gl i fn) l1 (ctlIL_E (hndL_ok hH hI hL n) l2 l3 fn) he hg hΓ hm hh hb hN hG hf
    | none =>
      rw [hc] at he
      exact hH f Γ hp xs ρ c res c' out he hg hΓ N R Q β w vs hm hh hb hN hG hf
/-! ### By numbers in one list of annotations -/
def sel (l : List (Nat × LAnn)) (a : List Nat) : List (Nat × LAnn) := a.filterMap fun i => l[i]?
theorem sel_mem {l : List (Nat × LAnn)} {a : List Nat} {p : Nat × LAnn} (h : p ∈ sel l a) : p ∈ l := by
  unfold sel at h
  obtain ⟨i, _, hi⟩ := List.mem_filterMap.1 h
  exact List.mem_of_getElem? hi
def mkIs (l : List (Nat × LAnn)) : List (Nat × List Nat × List Nat × List Nat × Bool) → List InlI
  | [] => []
  | q :: r => { f := q.1, lo := sel l q.2.1, lb := sel l q.2.2.1, ll := sel l q.2.2.2.1, rf := q.2.2.2.2 } :: mkIs l r
theorem mkIs_ok {Φ : Funs} {l : List (Nat × LAnn)} (h : LsOk Φ l) : ∀ {sp : List (Nat × List Nat × List Nat × List Nat × Bool)}, InlOk Φ (mkIs l sp)
  | [] => fun i hi => by cases hi
  | q :: r => fun i hi => by
    rcases List.mem_cons.1 hi with rfl | hi
    · exact ⟨fun p hp => h p (sel_mem hp), fun p hp => h p (sel_mem hp), fun p hp => h p (sel_mem hp)⟩
    · exact mkIs_ok h i hi
theorem lsOk_sel {Φ : Funs} {l : List (Nat × LAnn)} (h : LsOk Φ l) (a : List Nat) : LsOk Φ (sel l a) := fun p hp => h p (sel_mem hp)
end Go.Proofs.Ytgbgibbonhklgaa.Sx
namespace Go.Proofs.Ytgbgibbonhklgaa.Sx
open Go

def asOf (f : Nat) : List (Nat × Int) → Option Int
  | [] => none
  | (g, n) :: l => if g == f then some n else asOf f l
def asNum : S → Option (IntKind × A)
  | .one false [.int k a] => some (k, a)
  | _ => none
theorem asNum_spec {s : S} {p : IntKind × A} (h : asNum s = some p) : s = .one false [.int p.1 p.2] := by
  unfold asNum at h
  split at h
  · cases h; rfl
  · cases h
def asM (n : Int) (r : Res) : M Res := do
  let p ← lift (asNum r.s)
  sameId (do
      let b ← mkCm .eql p.2 (.c n)
      oblige b
      pure { r with s := .one false [.int p.1 (.c n)] })
/-- These calls answer these numbers: that is owed. -/
def asH (l : List (Nat × Int)) (H : Hnd) : Hnd := fun f Γ hp xs => do
  let r ← H f Γ hp xs
  match asOf f l with
  | none => pure r
  | some n => asM n r
theorem asM_spec {Φ : Funs} {ρ : Env} {n : Int} {r r' : Res} {c c' : Ctr} {o : List Em} (h : asM n r c = some (r', c', o)) (hg : Good Φ ρ o) : c'.id = c.id ∧ r'.w = r.w ∧ r'.rb = r.rb ∧ ∀ β v, r.s.mt β ρ v → r'.s.mt β ρ v := by
  unfold asM at h
  obtain ⟨p, c0, o0, c9, o9, y0, g0, h, e0⟩ := M.bind_inv h
  obtain ⟨p', hp', e9⟩ := lift_inv g0
  simp only [Prod.mk.injEq] at e0 e9
  obtain ⟨rfl, rfl, rfl⟩ := e0
  obtain ⟨rfl, rfl, rfl⟩ := e9
  have hs := asNum_spec hp'
  obtain ⟨k, a⟩ := p
  · obtain ⟨h, hid⟩ := sameId_inv h
    obtain ⟨b, c1, o1, c2, o2, y, g1, g2, e1⟩ := M.bind_inv h
    simp only [Prod.mk.injEq] at e1
    obtain ⟨rfl, rfl, rfl⟩ := e1
    obtain ⟨u, c3, o3, c4, o4, y, g3, g4, e1⟩ := M.bind_inv g2
    simp only [Prod.mk.injEq] at e1
    obtain ⟨rfl, rfl, rfl⟩ := e1
    have g4 := M.pure_inv g4
    simp only [Prod.mk.injEq] at g4
    obtain ⟨rfl, rfl, rfl⟩ := g4
    simp only [List.nil_append, Good.append] at hg
    have e1 := mkCm_snd .eql a (.c n) _ _ _ _ g1 hg.1
    have e2 := oblige_snd b _ _ _ _ g3 hg.2.1
    refine ⟨hid, rfl, rfl, fun β v hv => ?_⟩
    rw [hs] at hv
    obtain ⟨c0, hc, hv⟩ := hv
    simp only [List.cons.injEq, and_true] at hc
    subst hc
    rw [e1] at e2
    have e3 : a.d ρ = n := by simpa [cmB] using e2
    refine ⟨_, rfl, ?_⟩
    obtain ⟨h1, h2⟩ := hv
    rw [e3] at h1 h2
    exact ⟨h1, h2⟩
theorem asH_ok {P : Program} {Φ : Funs} {gl : Gl} {H : Hnd} (hH : HOk P Φ gl H) (l : List (Nat × Int)) : HOk P Φ gl (asH l H) := by
  intro f Γ hp xs ρ c res c' out he hg hΓ N R Q β w vs hm hh hb hN hG hf
  unfold asH at he
  obtain ⟨r, c1, o1, c2, o2, y, g1, g2, e1⟩ := M.bind_inv he
  simp only [Prod.mk.injEq] at e1
  obtain ⟨rfl, rfl, rfl⟩ := e1
  rw [Good.append] at hg
  cases hl : asOf f l with
  | none =>
    rw [hl] at g2
    have g2 := M.pure_inv g2
    simp only [Prod.mk.injEq] at g2
    obtain ⟨rfl, rfl, rfl⟩ := g2
    exact hH f Γ hp xs ρ c _ _ _ g1 hg.1 hΓ N R Q β w vs hm hh hb hN hG hf
  | some n =>
    rw [hl] at g2
    obtain ⟨e1, e2, e3, e4⟩ := asM_spec (Φ := Φ) g2 hg.2
    have := hH f Γ hp xs ρ c _ _ _ g1 hg.1 hΓ N R Q β w vs hm hh hb hN hG (fun i h1 h2 => hf i h1 (by omega))
    refine ⟨this.1, Calls.mono this.2 fun e u ⟨v, hv, β', p1, p2, p3⟩ => ⟨v, hv, β', ?_, e4 β' v p2, ?_⟩⟩
    · rw [e2, e3, e1]; exact p1
    · rw [e2]; exact p3

/-- Rows that are handed to these functions are only read from then on. -/
def Ctl.fz (k : Ctl) (l : List Nat) : Ctl := { k with fzf := l }
/-- Of two contracts that ask for something, the one that fits. -/
def Fun.alt (F G : Fun) : Fun := fun is bs => if (F is bs).2.headD false then F is bs else G is bs
theorem Contract.alt {P : Program} {gl : Gl} {f : Nat} {s : Sum} {F G : Fun} (hF : Contract P gl f s F) (hG : Contract P gl f s G) (hp : s.pre = true) : Contract P gl f s (F.alt G) := by
  intro vs w is bs ps h1 h2 h3 h4 h5 h6 h7
  have h7' := h7 hp
  unfold Fun.alt at *
  by_cases hc : (F is bs).2.headD false = true
  · simp only [hc, if_true]
    exact hF vs w is bs ps h1 h2 h3 h4 h5 h6 fun _ => hc
  · simp only [hc, if_false] at h7' ⊢
    exact hG vs w is bs ps h1 h2 h3 h4 h5 h6 fun _ => h7'
/-- What is owed is the function's first answer; loops over functions may be in it. -/
theorem contract_preA {P : Program} {Φ : Funs} {X : Hnd} {gl : Gl} (hX : HOk P Φ gl X) {f : Nat} {fn : Func} (hf : P.funcs[f]? = some fn) {k : Ctl} (hK : LoopsOk Φ k) {s : Sum} {S : Smry} (h : fnX P X gl k fn s = some S)
    (hw : (wsEm S.em (argI s.args) (argB s.args) && shOk s && s.pre) = true) (hEA : EAll P Φ gl k) : Contract P gl f s (S.run Φ s.pre) := by
  simp only [Bool.and_eq_true] at hw
  refine contract_gen hX hf hK hEA h hw.1.1 hw.1.2 fun vs w is bs ps _ hp => ?_
  have := hp hw.2
  simpa [Smry.run, hw.2] using this
end Go.Proofs.Ytgbgibbonhklgaa.Sx
namespace Go.Proofs.Ytgbgibbonhklgaa.Sx
open Go

/-- What is emitted, aS equations; what is owed is left out. -/
def Em.eqn (Φ : Funs) (ρ : Env) : Em → Prop
  | .di n r => ρ.i n = r.d ρ
  | .db n r => ρ.b n = r.d ρ
  | .call f ai ab i0 ni b0 nb =>
    (∀ j, j < ni → ρ.i (i0 + j) = (Φ f (ai.map (A.d ρ)) (ab.map (B.d ρ))).1.getD j 0) ∧
    (∀ j, j < nb → ρ.b (b0 + j) = (Φ f (ai.map (A.d ρ)) (ab.map (B.d ρ))).2.getD j false)
  | .ob _ _ => True
def eqns (Φ : Funs) (ρ : Env) : List Em → Prop
  | [] => True
  | e :: l => e.eqn Φ ρ ∧ eqns Φ ρ l
theorem eqns_of {Φ : Funs} {ρ : Env} : ∀ {l : List Em}, (∀ e, e ∈ l → match e with | .ob _ _ => True | e => e.ok Φ ρ) → eqns Φ ρ l
  | [], _ => trivial
  | e :: l, h => by
    refine ⟨?_, eqns_of fun e he => h e (by simp [he])⟩
    have := h e (by simp)
    cases e with
    | di n r => exact this
    | db n r => exact this
    | call f ai ab i0 ni b0 nb => exact this
    | ob g b => trivial
/-- The numbers and bools that a list holds, one by one. -/
def headsI (ρ : Env) : List Int → Nat → Prop
  | [], _ => True
  | x :: l, n => ρ.i n = x ∧ headsI ρ l (n + 1)
def headsB (ρ : Env) : List Bool → Nat → Prop
  | [], _ => True
  | x :: l, n => ρ.b n = x ∧ headsB ρ l (n + 1)
theorem headsI_of {ρ : Env} : ∀ {l : List Int} {k : Nat}, (∀ n, n < l.length → ρ.i (k + n) = l.getD n 0) → headsI ρ l k
  | [], _, _ => trivial
  | x :: l, k, h => ⟨by simpa using h 0 (by simp), headsI_of fun n hn => by have := h (n + 1) (by simpa using hn); rw [show k + 1 + n = k + (n + 1) by omega, this]; simp⟩
theorem headsB_of {ρ : Env} : ∀ {l : List Bool} {k : Nat}, (∀ n, n < l.length → ρ.b (k + n) = l.getD n false) → headsB ρ l k
  | [], _, _ => trivial
  | x :: l, k, h => ⟨by simpa using h 0 (by simp), headsB_of fun n hn => by have := h (n + 1) (by simpa using hn); rw [show k + 1 + n = k + (n + 1) by omega, this]; simp⟩
theorem Smry.run_spec {Φ : Funs} {S : Smry} {is : List Int} {bs : List Bool} (hw : wsEm S.em is.length bs.length = true) : ∃ ρ : Env, S.run Φ false is bs = (S.ri.map (A.d ρ), S.rb.map (B.d ρ)) ∧ headsI ρ is 0 ∧ headsB ρ bs 0 ∧ eqns Φ ρ S.em := by
  obtain ⟨h1, h2⟩ := evEm_spec Φ S.em is bs hw
  refine ⟨envOf (evEm Φ S.em is bs).1 (evEm Φ S.em is bs).2, rfl, headsI_of fun n hn => ?_, headsB_of fun n hn => ?_, eqns_of fun e he => ?_⟩
  · rw [Nat.zero_add]; exact h1.1 n hn
  · rw [Nat.zero_add]; exact h1.2 n hn
  · have := h2 e he
    cases e <;> simp_all

/-! ### Arithmetic of kinds, aS remainders -/
theorem wrap_u8 (n : Int) : IntKind.wrap .u8 n = n % 256 := by simp [IntKind.wrap, IntKind.signed, IntKind.bits]
theorem wrap_u16 (n : Int) : IntKind.wrap .u16 n = n % 65536 := by simp [IntKind.wrap, IntKind.signed, IntKind.bits]
theorem wrap_i64 (n : Int) : IntKind.wrap .i64 n = if n % 18446744073709551616 ≥ 9223372036854775808 then n % 18446744073709551616 - 18446744073709551616 else n % 18446744073709551616 := by simp [IntKind.wrap, IntKind.signed, IntKind.bits]
def allR (f : Nat → Bool) : Nat → Nat → Bool
  | 0, lo => f lo
  | k + 1, lo => allR f k lo && allR f k (lo + 2 ^ k)
theorem allR_spec {f : Nat → Bool} : ∀ {k lo : Nat}, allR f k lo = true → ∀ n, lo ≤ n → n < lo + 2 ^ k → f n = true
  | 0, lo, h, n, h1, h2 => by
    have : n = lo := by simp at h2; omega
    rw [this]; exact h
  | k + 1, lo, h, n, h1, h2 => by
    simp only [allR, Bool.and_eq_true] at h
    rw [Nat.pow_succ] at h2
    by_cases hn : n < lo + 2 ^ k
    · exact allR_spec h.1 n h1 hn
    · exact allR_spec h.2 n (by omega) (by omega)
theorem u8_all {p : Int → Bool} (h : allR (fun n => p n) 8 0 = true) (x : Int) : p (x % 256) = true := by
  have h1 : 0 ≤ x % 256 := Int.emod_nonneg _ (by decide)
  have h2 : x % 256 < 256 := Int.emod_lt_of_pos _ (by decide)
  have := allR_spec h (x % 256).toNat (Nat.zero_le _) (by omega)
  rwa [Int.toNat_of_nonneg h1] at this
theorem ofInt8 (x : Int) : BitVec.ofInt 8 (x % 256) = BitVec.ofInt 8 x := by
  apply BitVec.eq_of_toNat_eq; simp
theorem ofInt16 (x : Int) : BitVec.ofInt 16 (x % 65536) = BitVec.ofInt 16 x := by
  apply BitVec.eq_of_toNat_eq; simp
theorem and8 (x c : Int) : arI .and .u8 x c = arI .and .u8 (x % 256) c := by
  show IntKind.wrap .u8 _ = IntKind.wrap .u8 _
  show IntKind.wrap .u8 ↑(BitVec.ofInt 8 x &&& BitVec.ofInt 8 c).toNat = IntKind.wrap .u8 ↑(BitVec.ofInt 8 (x % 256) &&& BitVec.ofInt 8 c).toNat
  rw [ofInt8]
theorem and8_1 (x : Int) : arI .and .u8 x 1 = x % 256 % 2 := by
  rw [and8]; exact of_decide_eq_true (u8_all (p := fun y => decide (arI .and .u8 y 1 = y % 2)) (by kernel_rfl) x)
theorem and8_15 (x : Int) : arI .and .u8 x 15 = x % 256 % 16 := by
  rw [and8]; exact of_decide_eq_true (u8_all (p := fun y => decide (arI .and .u8 y 15 = y % 16)) (by kernel_rfl) x)
theorem and8_127 (x : Int) : arI .and .u8 x 127 = x % 256 % 128 := by
  rw [and8]; exact of_decide_eq_true (u8_all (p := fun y => decide (arI .and .u8 y 127 = y % 128)) (by kernel_rfl) x)
theorem and8_128 (x : Int) : arI .and .u8 x 128 = 128 * (x % 256 / 128) := by
  rw [and8]; exact of_decide_eq_true (u8_all (p := fun y => decide (arI .and .u8 y 128 = 128 * (y / 128))) (by kernel_rfl) x)
theorem and8_64 (x : Int) : arI .and .u8 x 64 = 64 * (x % 256 / 64 % 2) := by
  rw [and8]; exact of_decide_eq_true (u8_all (p := fun y => decide (arI .and .u8 y 64 = 64 * (y / 64 % 2))) (by kernel_rfl) x)
theorem or16 (x c : Int) : arI .or .u16 x c = arI .or .u16 (x % 65536) c := by
  show IntKind.wrap .u16 ↑(BitVec.ofInt 16 x ||| BitVec.ofInt 16 c).toNat = IntKind.wrap .u16 ↑(BitVec.ofInt 16 (x % 65536) ||| BitVec.ofInt 16 c).toNat
  rw [ofInt16]
theorem or16_top (x : Int) : arI .or .u16 x 32768 = if x % 65536 < 32768 then x % 65536 + 32768 else x % 65536 := by
  rw [or16]
  have h1 : 0 ≤ x % 65536 := Int.emod_nonneg _ (by decide)
  have h2 : x % 65536 < 65536 := Int.emod_lt_of_pos _ (by decide)
  generalize x % 65536 = y at h1 h2 ⊢
  obtain ⟨n, rfl⟩ := Int.eq_ofNat_of_zero_le h1
  have hn : n < 65536 := by omega
  show IntKind.wrap .u16 ↑(BitVec.ofInt 16 n ||| BitVec.ofInt 16 32768).toNat = _
  rw [wrap_u16, BitVec.toNat_or]
  have e1 : (BitVec.ofInt 16 (n : Int)).toNat = n := by simp; omega
  have e2 : (BitVec.ofInt 16 (32768 : Int)).toNat = 32768 := by decide
  rw [e1, e2]
  have e3 : n ||| 32768 = if n < 32768 then n + 32768 else n := by
    split
    · rename_i h
      have := Nat.two_pow_add_eq_or_of_lt (i := 15) (b := n) (by simpa using h) 1
      rw [Nat.or_comm]
      simp at this
      omega
    · rename_i h
      have := Nat.two_pow_add_eq_or_of_lt (i := 15) (b := n - 32768) (by simp; omega) 1
      simp at this
      have h3 : n = 32768 ||| (n - 32768) := by omega
      rw [h3, Nat.or_comm, ← Nat.or_assoc, Nat.or_self]
  rw [e3]
  split <;> split <;> omega
theorem shr8_1 (x : Int) : arI .shr .u8 x 1 = x / 2 := by
  show x.fdiv (2 ^ min (Int.toNat 1) 8) = x / 2
  rw [show ((2 : Int) ^ min (Int.toNat 1) 8) = 2 by decide]
  exact Int.fdiv_eq_ediv_of_nonneg x (by decide)
theorem rem_nn {k : IntKind} {x c : Int} (hx : 0 ≤ x) : arI .rem k x c = x % c := Int.tmod_eq_emod_of_nonneg hx
theorem quo8_nn {x c : Int} (hx : 0 ≤ x) : arI .quo .u8 x c = x / c % 256 := by
  show IntKind.wrap .u8 (x.tdiv c) = _
  rw [wrap_u8, Int.tdiv_eq_ediv_of_nonneg hx]
theorem add8 (x y : Int) : arI .add .u8 x y = (x + y) % 256 := wrap_u8 _
theorem sub8 (x y : Int) : arI .sub .u8 x y = (x - y) % 256 := wrap_u8 _
theorem mul8 (x y : Int) : arI .mul .u8 x y = (x * y) % 256 := wrap_u8 _
theorem add16 (x y : Int) : arI .add .u16 x y = (x + y) % 65536 := wrap_u16 _
theorem sub16 (x y : Int) : arI .sub .u16 x y = (x - y) % 65536 := wrap_u16 _
theorem mul16 (x y : Int) : arI .mul .u16 x y = (x * y) % 65536 := wrap_u16 _
theorem add64 (x y : Int) : arI .add .i64 x y = IntKind.wrap .i64 (x + y) := rfl
theorem sub64 (x y : Int) : arI .sub .i64 x y = IntKind.wrap .i64 (x - y) := rfl
theorem mul64 (x y : Int) : arI .mul .i64 x y = IntKind.wrap .i64 (x * y) := rfl
theorem rem_eq (k : IntKind) (x c : Int) : arI .rem k x c = if 0 ≤ x then x % c else -((-x) % c) := by
  show x.tmod c = _
  split
  · rename_i h; exact Int.tmod_eq_emod_of_nonneg h
  · rename_i h
    rw [show x.tmod c = -((-x).tmod c) by rw [Int.neg_tmod, Int.neg_neg], Int.tmod_eq_emod_of_nonneg (by omega)]
theorem tdiv_eq (x c : Int) : x.tdiv c = if 0 ≤ x then x / c else -((-x) / c) := by
  split
  · rename_i h; exact Int.tdiv_eq_ediv_of_nonneg h
  · rename_i h
    rw [show x.tdiv c = -((-x).tdiv c) by rw [Int.neg_tdiv, Int.neg_neg], Int.tdiv_eq_ediv_of_nonneg (by omega)]
theorem quo8_eq (x c : Int) : arI .quo .u8 x c = (if 0 ≤ x then x / c else -((-x) / c)) % 256 := by
  show IntKind.wrap .u8 (x.tdiv c) = _
  rw [wrap_u8, tdiv_eq]
theorem quo16_eq (x c : Int) : arI .quo .u16 x c = (if 0 ≤ x then x / c else -((-x) / c)) % 65536 := by
  show IntKind.wrap .u16 (x.tdiv c) = _
  rw [wrap_u16, tdiv_eq]
theorem wrap_i64_if (n : Int) : IntKind.wrap .i64 n = if -9223372036854775808 ≤ n ∧ n < 9223372036854775808 then n else IntKind.wrap .i64 n := by
  split
  · rename_i h
    rw [wrap_i64]
    split <;> omega
  · rfl
theorem wrap_i64_in {n : Int} (h1 : -9223372036854775808 ≤ n) (h2 : n < 9223372036854775808) : IntKind.wrap .i64 n = n := by
  rw [wrap_i64]
  split <;> omega
theorem lt0 {p : Nat → Prop} : (∀ j, j < 0 → p j) ↔ True := by simp
theorem lt1 {p : Nat → Prop} : (∀ j, j < 1 → p j) ↔ p 0 := by simp
end Go.Proofs.Ytgbgibbonhklgaa.Sx
namespace Go.Proofs.Ytgbgibbonhklgaa.Sx
open Go Go.ChangeShapes Go.WideShapes Go.ChangeAt Go.RowKit

/-! ### Which cells a type has -/
def shOf (P : Program) (t : TypeId) : Option Sh := match P.underlying t with
  | some .bool => some (.val false [.bool])
  | some (.int k) => some (.val false [.int k])
  | some (.struct _) => (ckOf P 8 t).map (.val true ·)
  | some (.array _ _) => (ckOf P 8 t).map (.val true ·)
  | some .string => some (.val false [.str])
  | some (.slice _) => (ckOf P 8 t).map (.val false ·)
  | _ => none
def shsOf (P : Program) : List TypeId → Option (List Sh)
  | [] => some []
  | t :: ts => match shOf P t, shsOf P ts with
    | some s, some ss => some (s :: ss)
    | _, _ => none

theorem flatC_append {w : World} {ps : List Rg} : ∀ {l1 : List CK} {v1 : List Value} {l2 : List CK} {v2 : List Value} {f1 f2 : Fl}, flatC w ps l1 v1 = some f1 → flatC w ps l2 v2 = some f2 → ∃ f, flatC w ps (l1 ++ l2) (v1 ++ v2) = some f
  | [], [], l2, v2, f1, f2, _, h2 => ⟨f2, h2⟩
  | .int k :: l1, v :: v1, l2, v2, f1, f2, h1, h2 => by
    unfold flatC at h1
    split at h1
    · rename_i k' n is bs hv
      split at h1
      · rename_i hc
        obtain ⟨f, hf⟩ := flatC_append hv h2
        refine ⟨(n :: f.1, f.2), ?_⟩
        simp only [List.cons_append, flatC, hf]
        rw [if_pos hc]
      · cases h1
    · cases h1
  | .bool :: l1, v :: v1, l2, v2, f1, f2, h1, h2 => by
    unfold flatC at h1
    split at h1
    · rename_i b is bs hv
      obtain ⟨f, hf⟩ := flatC_append hv h2
      exact ⟨(f.1, b :: f.2), by simp only [List.cons_append, flatC, hf]⟩
    · cases h1
  | .pt k o :: l1, v :: v1, l2, v2, f1, f2, h1, h2 => by
    unfold flatC at h1
    split at h1
    · rename_i a r is bs hr hv
      split at h1
      · rename_i hc
        obtain ⟨f, hf⟩ := flatC_append hv h2
        refine ⟨(f.1, f.2), ?_⟩
        simp only [List.cons_append, flatC, hf, hr]
        rw [if_pos hc]
      · cases h1
    · cases h1
  | .str :: l1, v :: v1, l2, v2, f1, f2, h1, h2 => by
    unfold flatC at h1
    split at h1
    · rename_i s is bs hv
      split at h1
      · rename_i hc
        obtain ⟨f, hf⟩ := flatC_append hv h2
        refine ⟨(encS s :: f.1, f.2), ?_⟩
        simp only [List.cons_append, flatC, hf]
        rw [if_pos hc]
      · cases h1
    · cases h1
  | .sl ks :: l1, v :: v1, l2, v2, f1, f2, h1, h2 => by
    unfold flatC at h1
    split at h1
    · rename_i q n r is bs hs hv
      obtain ⟨f, hf⟩ := flatC_append hv h2
      exact ⟨(enc q :: n :: f.1, f.2), by simp only [List.cons_append, flatC, hf, hs]⟩
    · cases h1
  | .sl _ :: _, [], _, _, _, _, h1, _ => by simp [flatC] at h1
  | .str :: _, [], _, _, _, _, h1, _ => by simp [flatC] at h1
  | [], _ :: _, _, _, _, _, h1, _ => by simp [flatC] at h1
  | .int _ :: _, [], _, _, _, _, h1, _ => by simp [flatC] at h1
  | .bool :: _, [], _, _, _, _, h1, _ => by simp [flatC] at h1
  | .pt _ _ :: _, [], _, _, _, _, h1, _ => by simp [flatC] at h1

section
variable {H : Type} {enc : TypeId × Value → H} {P : Program} {w : World} {base : Nat} {spare : Nat → Bool} {held : Bool}
theorem ckFields_flat {g : TypeId → Option (List CK)} {n : Nat} (hg : ∀ (t : TypeId) (l : List CK) (cs : List Value) (x : DataW H × List MemPlace), g t = some l → DataW.trod enc P w base spare held n t cs = some x → ∃ f, flatC w [] l cs = some f) {cs : List Value} : ∀ {fs : List Field} {off : Nat} {l : List CK},
    ckFields P g fs off = some l → (∀ f, f ∈ fs → ∃ x, DataW.trod enc P w base spare held n f.type ((cs.drop f.offset).take (P.cellsOf f.type)) = some x) → ∃ f, flatC w [] l ((cs.drop off).take l.length) = some f
  | [], off, l, h, _ => by
    simp only [ckFields, Option.some.injEq] at h
    subst h
    exact ⟨_, rfl⟩
  | f :: fs, off, l, h, hx => by
    unfold ckFields at h
    split at h
    · rename_i ho
      simp only [beq_iff_eq] at ho
      split at h
      · rename_i l1 hl1
        split at h
        · rename_i hlen
          simp only [beq_iff_eq] at hlen
          split at h
          · rename_i r hr
            simp only [Option.some.injEq] at h
            subst h
            obtain ⟨x, hx1⟩ := hx f (by simp)
            obtain ⟨f1, hf1⟩ := hg _ _ _ _ hl1 hx1
            obtain ⟨f2, hf2⟩ := ckFields_flat hg hr (fun g hm => hx g (by simp [hm]))
            obtain ⟨f3, hf3⟩ := flatC_append hf1 hf2
            refine ⟨f3, ?_⟩
            rw [List.length_append, List.take_add, List.drop_drop, ← ho, hlen]
            rw [← ho, hlen] at hf3
            exact hf3
          · cases h
        · cases h
      · cases h
    · cases h
theorem repCK_length (l : List CK) : ∀ m, (repCK l m).length = m * l.length
  | 0 => by simp [repCK]
  | m + 1 => by rw [repCK, List.length_append, repCK_length l m, Nat.add_mul]; omega
theorem repCK_flat {l : List CK} {cs : List Value} : ∀ {m off : Nat}, (∀ i, i < m → ∃ f, flatC w [] l ((cs.drop (off + i * l.length)).take l.length) = some f) → ∃ f, flatC w [] (repCK l m) ((cs.drop off).take (m * l.length)) = some f
  | 0, off, _ => ⟨_, by simp [repCK]; rfl⟩
  | m + 1, off, h => by
    obtain ⟨f1, hf1⟩ := h 0 (by omega)
    obtain ⟨f2, hf2⟩ := repCK_flat (l := l) (cs := cs) (m := m) (off := off + l.length) (fun i hi => by
      have := h (i + 1) (by omega)
      rwa [show off + (i + 1) * l.length = off + l.length + i * l.length by rw [Nat.add_mul]; omega] at this)
    simp only [Nat.zero_mul, Nat.add_zero] at hf1
    obtain ⟨f3, hf3⟩ := flatC_append hf1 hf2
    refine ⟨f3, ?_⟩
    rw [show (m + 1) * l.length = l.length + m * l.length by rw [Nat.add_mul]; omega, List.take_add, List.drop_drop]
    exact hf3
theorem flatC_dec : ∀ {l : List CK} {vs : List Value} {f : Fl}, flatC w [] l vs = some f → l.all ckPlain = true → vs.length = l.length ∧ ∀ (k : Nat) (ck : CK), l[k]? = some ck → ∃ v n, vs[k]? = some v ∧ decV ck v = some n
  | [], [], f, h, _ => ⟨rfl, fun k ck hk => by simp at hk⟩
  | .int kd :: l, v :: vs, f, h, hp => by
    unfold flatC at h
    split at h
    · rename_i k' n is bs hf
      split at h
      · rename_i hc
        obtain ⟨h1, h2⟩ := flatC_dec hf (by simpa [ckPlain] using hp)
        refine ⟨by simp [h1], fun k ck hk => ?_⟩
        cases k with
        | zero => simp at hk; subst hk; exact ⟨_, n, by simp; rfl, by simp only [decV]; rw [if_pos hc]⟩
        | succ k => simp at hk; simpa using h2 k ck hk
      · cases h
    · cases h
  | .bool :: l, v :: vs, f, h, hp => by
    unfold flatC at h
    split at h
    · rename_i b is bs hf
      obtain ⟨h1, h2⟩ := flatC_dec hf (by simpa [ckPlain] using hp)
      refine ⟨by simp [h1], fun k ck hk => ?_⟩
      cases k with
      | zero => simp at hk; subst hk; exact ⟨_, _, by simp; rfl, rfl⟩
      | succ k => simp at hk; simpa using h2 k ck hk
    · cases h
  | .pt k o :: l, v :: vs, f, h, hp => by
    unfold flatC at h
    split at h
    · rename_i a r is bs hr hf
      simp at hr
    · cases h
  | .str :: l, v :: vs, f, h, hp => by
    unfold flatC at h
    split at h
    · rename_i s is bs hf
      split at h
      · rename_i hc
        obtain ⟨h1, h2⟩ := flatC_dec hf (by simpa [ckPlain] using hp)
        refine ⟨by simp [h1], fun k ck hk => ?_⟩
        cases k with
        | zero => simp at hk; subst hk; exact ⟨_, encS s, by simp; rfl, by simp only [decV]; rw [if_pos hc]⟩
        | succ k => simp at hk; simpa using h2 k ck hk
      · cases h
    · cases h
  | .sl _ :: _, _, f, h, hp => by simp [ckPlain] at hp
  | .str :: _, [], f, h, _ => by simp [flatC] at h
  | [], _ :: _, f, h, _ => by simp [flatC] at h
  | .int _ :: _, [], f, h, _ => by simp [flatC] at h
  | .bool :: _, [], f, h, _ => by simp [flatC] at h
  | .pt _ _ :: _, [], f, h, _ => by simp [flatC] at h
theorem read_dec {ks : List CK} {b : Nat} {w : World} : ∀ {n o j : Nat}, (∀ i, i < n → ∃ ck v m, ks[(j + i) % ks.length]? = some ck ∧ w.cell? ⟨b, o + i, none⟩ = some v ∧ decV ck v = some m) → ∃ us l, readCells w b o n = some us ∧ decVs ks j us = some l
  | 0, o, j, _ => ⟨[], [], rfl, rfl⟩
  | n + 1, o, j, h => by
    obtain ⟨ck, v, m, h1, h2, h3⟩ := h 0 (by omega)
    rw [Nat.add_zero] at h1 h2
    obtain ⟨us, l, g1, g2⟩ := read_dec (ks := ks) (b := b) (w := w) (n := n) (o := o + 1) (j := j + 1) fun i hi => by
      obtain ⟨ck, v, m, h1, h2, h3⟩ := h (i + 1) (by omega)
      exact ⟨ck, v, m, by rw [show j + 1 + i = j + (i + 1) by omega]; exact h1, by rw [show o + 1 + i = o + (i + 1) by omega]; exact h2, h3⟩
    exact ⟨v :: us, m :: l, by simp only [readCells, h2, g1], by simp only [decVs, h1, g2, h3, Option.map_some]⟩
theorem cells?_get {w : World} {base : Nat} {a : Addr} {n : Nat} {cs : List Value} (h : w.cells? base a n = some cs) : ∀ k, k < n → ∃ v, cs[k]? = some v ∧ w.cell? (a.add k) = some v := by
  unfold World.cells? at h
  split at h
  · intro k hk
    have := mapM_some_get h k k (by simp [hk])
    have hl := mapM_some_length h
    simp at hl
    have hkl : k < cs.length := by omega
    exact ⟨cs[k], List.getElem?_eq_getElem hkl, by rw [this]; exact List.getElem?_eq_getElem hkl⟩
  · cases h
theorem flatSl_trod {fuel : Nat} {t e : TypeId} {ks : List CK} {v : Value} {x : DataW H × List MemPlace} (ht : P.underlying t = some (.slice e)) (hk : ∀ (n : Nat) (cs : List Value) (x : DataW H × List MemPlace), DataW.trod enc P w base spare held n e cs = some x → ∃ f, flatC w [] ks cs = some f) (hpl : ks.all ckPlain = true) (hlen : ks.length = P.cellsOf e) (hne : ks ≠ [])
    (h : DataW.trod enc P w base spare held fuel t [v] = some x) : ∃ l n r, flatSl w ks v = some (l, n, r) := by
  rcases DataW.trod_slice ht h with ⟨h1, _⟩ | ⟨a, len, cap, elems, rest, n, rfl, h1, _, _, hl, hc, hlc, hel, _⟩
  · simp only [List.cons.injEq, and_true] at h1
    subst h1
    exact ⟨[], 0, none, flatSl_0⟩
  · simp only [List.cons.injEq, and_true] at h1
    subst h1
    have hpos : 0 < ks.length := List.length_pos_iff.2 hne
    by_cases h0 : len = 0
    · subst h0
      exact ⟨[], 0, none, flatSl_0⟩
    · -- an element's cells
      have cell : ∀ i, i < len → ∀ k, k < ks.length → ∃ ck v m, ks[k]? = some ck ∧ w.cell? ((a.add (i * P.cellsOf e)).add k) = some v ∧ decV ck v = some m := by
        intro i hi k hkl
        have h2 := hel i hi
        cases hcs : w.cells? base (a.add (i * P.cellsOf e)) (P.cellsOf e) with
        | none =>
          rw [hcs] at h2
          simp only [Option.bind_none] at h2
          have : elems[i]? = none := h2.symm
          rw [List.getElem?_eq_none_iff] at this
          omega
        | some cs =>
          rw [hcs] at h2
          simp only [Option.bind_some] at h2
          have hi' : i < elems.length := by omega
          rw [List.getElem?_eq_getElem hi'] at h2
          obtain ⟨f, hf⟩ := hk _ _ _ h2
          obtain ⟨g1, g2⟩ := flatC_dec hf hpl
          obtain ⟨v, m, g3, g4⟩ := g2 k _ (List.getElem?_eq_getElem hkl)
          obtain ⟨v', g5, g6⟩ := cells?_get hcs k (by omega)
          rw [g3] at g5
          cases g5
          exact ⟨_, v, m, List.getElem?_eq_getElem hkl, g6, g4⟩
      have hspot : a.spot = none := by
        obtain ⟨ck, v, m, _, hv, _⟩ := cell 0 (by omega) 0 hpos
        simp only [Nat.zero_mul, Addr.add, if_true] at hv
        unfold World.cell? at hv
        split at hv
        · split at hv
          · cases hv
          · rename_i hs; simpa using hs
        · cases hv
      obtain ⟨b, o, sp⟩ := a
      simp only at hspot
      subst hspot
      obtain ⟨us, l, g1, g2⟩ := read_dec (ks := ks) (b := b) (w := w) (n := len * ks.length) (o := o) (j := 0) fun i hi => by
        have hdiv : i / ks.length < len := (Nat.div_lt_iff_lt_mul hpos).2 hi
        have hmod : i % ks.length < ks.length := Nat.mod_lt _ hpos
        obtain ⟨ck, v, m, k1, k2, k3⟩ := cell (i / ks.length) hdiv (i % ks.length) hmod
        refine ⟨ck, v, m, by rw [Nat.zero_add]; exact k1, ?_, k3⟩
        rw [add_lit, add_lit, ← hlen] at k2
        have := Nat.div_add_mod i ks.length
        rw [Nat.mul_comm] at this
        rwa [Nat.add_assoc, this] at k2
      have hin : inR .i64 (len : Int) = true := by
        refine inR_mk ⟨?_, ?_⟩
        · show -9223372036854775808 ≤ (len : Int); omega
        · show (len : Int) ≤ 9223372036854775807
          unfold maxLen at hc
          omega
      refine ⟨l, len, some { blk := b, off := o, len := len * ks.length, ro := true, sq := some (ks, l) }, ?_⟩
      unfold flatSl
      have : (len == 0) = false := by simpa using h0
      have hblt : Nat.blt cap len = false := by
        cases h : Nat.blt cap len
        · rfl
        · rw [Nat.blt_eq] at h; omega
      simp only [hblt, this, Bool.false_eq_true, if_false, hin, if_true, g1, Option.bind_some, g2]

/-- What is read through a type of plain cells is numbers and bools. -/
theorem ckOf_flat : ∀ (m : Nat) (n : Nat) (t : TypeId) (l : List CK) (cs : List Value) (x : DataW H × List MemPlace), ckOf P m t = some l → DataW.trod enc P w base spare held n t cs = some x → ∃ f, flatC w [] l cs = some f
  | 0, n, t, l, cs, x, h, _ => by simp [ckOf] at h
  | m + 1, n, t, l, cs, x, h, hx => by
    unfold ckOf at h
    split at h
    · rename_i ht
      simp only [Option.some.injEq] at h
      subst h
      obtain ⟨b, rfl, _⟩ := DataW.trod_bool ht hx
      exact ⟨_, rfl⟩
    · rename_i k ht
      simp only [Option.some.injEq] at h
      subst h
      obtain ⟨v, rfl, _, hwf⟩ := DataW.trod_int ht hx
      refine ⟨([v], []), ?_⟩
      have : inR k v = true := by simpa [Lit.wf, inR] using hwf
      simp [flatC, this]
    · rename_i ht
      simp only [Option.some.injEq] at h
      subst h
      obtain ⟨s, rfl, _, hs⟩ := DataW.trod_string ht hx
      have : inR .i64 (s.size : Int) = true := by
        refine inR_mk ⟨?_, ?_⟩
        · show -9223372036854775808 ≤ (s.size : Int); omega
        · show (s.size : Int) ≤ 9223372036854775807
          unfold maxLen at hs
          omega
      exact ⟨([encS s], []), by simp [flatC, this]⟩
    · rename_i e ht
      split at h
      · rename_i ks hks
        split at h
        · rename_i hc
          simp only [Bool.and_eq_true, beq_iff_eq, Bool.not_eq_true', List.isEmpty_eq_false_iff] at hc
          simp only [Option.some.injEq] at h
          subst h
          have hcs : ∃ v, cs = [v] := by
            rcases DataW.trod_slice ht hx with ⟨h1, _⟩ | ⟨_, _, _, _, _, _, _, h1, _⟩ <;> exact ⟨_, h1⟩
          obtain ⟨v, rfl⟩ := hcs
          obtain ⟨l, m, q, hq⟩ := flatSl_trod ht (fun n' cs x hx => ckOf_flat m n' e ks cs x hks hx) hc.2 hc.1.1 hc.1.2 hx
          exact ⟨(Sx.enc l :: m :: [], []), by simp [flatC, hq]⟩
        · cases h
      · cases h
    · rename_i fs ht
      split at h
      · rename_i l' hl
        split at h
        · rename_i hlen
          simp only [beq_iff_eq] at hlen
          simp only [Option.some.injEq] at h
          subst h
          obtain ⟨xs, n', rfl, _, hcs, hxl, hf⟩ := DataW.trod_struct ht hx
          have := ckFields_flat (cs := cs) (fun t l cs x h1 h2 => ckOf_flat m n' t l cs x h1 h2) hl (fun f hm => by
            obtain ⟨i, hi⟩ := List.getElem?_of_mem hm
            have hi' : fs[i]? = some f := by simpa using hi
            have := hf i f hi'
            have hlt : i < xs.length := by rw [hxl]; exact (Array.getElem?_eq_some_iff.1 hi').1
            exact ⟨xs[i], by rw [this]; exact List.getElem?_eq_getElem hlt⟩)
          simpa [hlen, ← hcs] using this
        · cases h
      · cases h
    · rename_i k e ht
      split at h
      · rename_i l' hl
        split at h
        · rename_i hc
          simp only [Bool.and_eq_true, beq_iff_eq] at hc
          simp only [Option.some.injEq] at h
          subst h
          obtain ⟨xs, n', rfl, _, hcs, hxl, hf⟩ := DataW.trod_array ht hx
          have := repCK_flat (l := l') (cs := cs) (m := k) (off := 0) (fun i hi => by
            have h1 := hf i hi
            have hlt : i < xs.length := by omega
            rw [List.getElem?_eq_getElem hlt] at h1
            rw [Nat.zero_add, hc.1]
            exact ckOf_flat m n' e l' _ _ hl h1)
          rw [hc.2, ← hcs] at this
          simpa using this
        · cases h
      · cases h
    · cases h

theorem shOf_flat {r : Reach} {b0 : Nat} {t : TypeId} {s : Sh} {v : Value} {d : DataW H} {p : List MemPlace} (h : shOf P t = some s) (hv : Value.okWide P w r b0 t v) (hd : DataW.Trod enc P w base spare held t v d p) : ∃ agg l f, s = .val agg l ∧ flat1 w [] agg l v = some f := by
  obtain ⟨n, hn⟩ := hd
  unfold shOf at h
  split at h
  · rename_i ht
    simp only [Option.some.injEq] at h
    subst h
    obtain ⟨b, rfl⟩ := okWide_bool ht hv
    exact ⟨_, _, _, rfl, rfl⟩
  · rename_i k ht
    simp only [Option.some.injEq] at h
    subst h
    obtain ⟨m, rfl⟩ := okWide_int ht hv
    obtain ⟨m', hm, _, hwf⟩ := DataW.trod_int ht hn
    have e : m = m' := by simpa [Value.cells] using hm
    subst e
    have : inR k m = true := by simpa [Lit.wf, inR] using hwf
    exact ⟨_, _, ([m], []), rfl, by simp [flat1, flatC, this]⟩
  · rename_i fs ht
    cases hc : ckOf P 8 t with
    | none => rw [hc] at h; cases h
    | some l =>
      rw [hc] at h
      simp only [Option.map_some, Option.some.injEq] at h
      subst h
      obtain ⟨cs, rfl, _⟩ := okWide_struct ht hv
      obtain ⟨f, hf⟩ := ckOf_flat 8 _ _ _ _ _ hc hn
      exact ⟨_, _, f, rfl, hf⟩
  · rename_i k e ht
    cases hc : ckOf P 8 t with
    | none => rw [hc] at h; cases h
    | some l =>
      rw [hc] at h
      simp only [Option.map_some, Option.some.injEq] at h
      subst h
      obtain ⟨f, hf⟩ := ckOf_flat 8 _ _ _ _ _ hc hn
      obtain ⟨_, _, _, _, hcs, _⟩ := DataW.trod_array ht hn
      have hagg : ∃ cs, v = .agg cs := by
        simp only [Value.okWide, ht] at hv
        obtain ⟨cs, h1, _⟩ := hv
        exact ⟨cs, h1⟩
      obtain ⟨cs, rfl⟩ := hagg
      exact ⟨_, _, f, rfl, hf⟩
  · rename_i ht
    simp only [Option.some.injEq] at h
    subst h
    obtain ⟨s, hs, _, hm⟩ := DataW.trod_string ht hn
    have hv' : ∃ s, v = .string s := by
      cases v <;> simp_all [Value.okWide, Value.cells, Cell.okWide, Cell.ok]
    obtain ⟨s', rfl⟩ := hv'
    have e : s' = s := by simpa [Value.cells] using hs
    subst e
    have : inR .i64 (s'.size : Int) = true := by
      refine inR_mk ⟨?_, ?_⟩
      · show -9223372036854775808 ≤ (s'.size : Int); omega
      · show (s'.size : Int) ≤ 9223372036854775807
        unfold maxLen at hm
        omega
    exact ⟨_, _, ([encS s'], []), rfl, by simp [flat1, flatC, this]⟩
  · rename_i e ht
    cases hc : ckOf P 8 t with
    | none => rw [hc] at h; cases h
    | some l =>
      rw [hc] at h
      simp only [Option.map_some, Option.some.injEq] at h
      subst h
      obtain ⟨a, len, cap, rfl⟩ := okWide_slice ht hv
      obtain ⟨f, hf⟩ := ckOf_flat 8 _ _ _ _ _ hc hn
      refine ⟨_, _, f, rfl, ?_⟩
      have hl : ∃ ck, l = [ck] := by
        unfold ckOf at hc
        simp only [ht] at hc
        split at hc
        · split at hc
          · simp only [Option.some.injEq] at hc; exact ⟨_, hc.symm⟩
          · cases hc
        · cases hc
      obtain ⟨ck, rfl⟩ := hl
      simpa [flat1, Value.cells] using hf
  · cases h

/-- All arguments, taken aS numbers and bools. -/
theorem flat_of_trod {r : Reach} {b0 : Nat} : ∀ {ts : List TypeId} {ss : List Sh} {vs : List Value} {ds : List (DataW H)} {p : List MemPlace}, shsOf P ts = some ss → (∀ (j : Nat) t v, ts[j]? = some t → vs[j]? = some v → Value.okWide P w r b0 t v) →
    DataW.TrodAll enc P w base spare held ts vs ds p → ∃ is bs, flatArgs ss vs w = some (is, bs, []) ∧ ptrShapes ss = []
  | [], ss, vs, ds, p, h, _, hA => by
    simp only [shsOf, Option.some.injEq] at h
    subst h
    obtain ⟨rfl, _, _⟩ := trodAll_nil hA
    exact ⟨[], [], rfl, rfl⟩
  | t :: ts, ss, vs, ds, p, h, hv, hA => by
    unfold shsOf at h
    split at h
    · rename_i s ss' hs hss
      simp only [Option.some.injEq] at h
      subst h
      obtain ⟨v, vs', d, ds', p', q, rfl, rfl, rfl, h1, h2⟩ := trodAll_cons hA
      obtain ⟨is, bs, hr, hp⟩ := flat_of_trod hss (fun j t v hj hvj => hv (j + 1) t v (by simpa using hj) (by simpa using hvj)) h2
      obtain ⟨agg, l, f, rfl, hf⟩ := shOf_flat hs (hv 0 t v (by simp) (by simp)) h1
      refine ⟨f.1 ++ is, f.2 ++ bs, ?_, hp⟩
      simp only [flatArgs, hf, hr]
    · cases h

theorem trodAll_len : ∀ {ts : List TypeId} {vs : List Value} {ds : List (DataW H)} {p : List MemPlace}, DataW.TrodAll enc P w base spare held ts vs ds p → vs.length = ts.length ∧ ds.length = ts.length
  | [], vs, ds, p, h => by obtain ⟨rfl, rfl, _⟩ := trodAll_nil h; exact ⟨rfl, rfl⟩
  | t :: ts, vs, ds, p, h => by
    obtain ⟨v, vs', d, ds', p', q, rfl, rfl, rfl, _, h2⟩ := trodAll_cons h
    have := trodAll_len h2
    simp [this.1, this.2]
/-- Arguments read the same where what they lead to stays. -/
theorem trodAll_stays (hl : laidOutB P = true) {W W' : World} {sp' : Nat → Bool} : ∀ {ts : List TypeId} {vs : List Value} {ds : List (DataW H)} {ps : List MemPlace}, (∀ t, t ∈ ts → P.readableRec t = true ∧ t < P.types.size) →
    DataW.TrodAll enc P W base (fun _ => true) true ts vs ds ps → (∀ p ∈ ps, W.sameAt W' p) → (∀ p ∈ ps, sp' p.block = true) → DataW.TrodAll enc P W' base sp' true ts vs ds ps
  | [], vs, ds, ps, _, h, _, _ => by obtain ⟨rfl, rfl, rfl⟩ := trodAll_nil h; exact trodAll_mk0
  | t :: ts, vs, ds, ps, hr, h, hs, hp => by
    obtain ⟨v, vs', d, ds', p', q, rfl, rfl, rfl, h1, h2⟩ := trodAll_cons h
    obtain ⟨hr1, hr2⟩ := hr t (by simp)
    exact trodAll_cons_mk (WideElems.Trod_stays hl hr1 hr2 h1 (fun p hm => hs p (by simp [hm])) (fun p hm => hp p (by simp [hm])))
      (trodAll_stays hl (fun t hm => hr t (by simp [hm])) h2 (fun p hm => hs p (by simp [hm])) (fun p hm => hp p (by simp [hm])))
end

/-! ### Which numbers come in -/
def inCK : CK → Int → Prop
  | .int k, m => InR k m
  | .bool, m => m = 0 ∨ m = 1
  | .pt _ _, _ => False
  | .str, m => ∃ s : ByteArray, m = encS s ∧ InR .i64 s.size
  | .sl _, _ => False
def slRng (ks : List CK) (q n : Int) : Prop := 0 ≤ n ∧ n ≤ 9223372036854775807 ∧ ∃ l, q = enc l ∧ l.length = n.toNat * ks.length ∧ ∀ (j : Nat) (m : Int), l[j]? = some m → ∃ ck, ks[j % ks.length]? = some ck ∧ inCK ck m
def rngC : List CK → List Int → Prop
  | [], [] => True
  | .int k :: l, n :: is => (k.min ≤ n ∧ n ≤ k.max) ∧ rngC l is
  | .bool :: l, is => rngC l is
  | .pt _ _ :: l, is => rngC l is
  | .str :: l, n :: is => (∃ s : ByteArray, n = encS s ∧ InR .i64 s.size) ∧ rngC l is
  | .sl ks :: l, q :: n :: is => slRng ks q n ∧ rngC l is
  | _, _ => False
def rngK : List CK → (List Int → Prop) → List Int → Prop
  | [], k, is => k is
  | .int kd :: l, k, n :: is => (kd.min ≤ n ∧ n ≤ kd.max) ∧ rngK l k is
  | .int _ :: _, _, [] => False
  | .bool :: l, k, is => rngK l k is
  | .pt _ _ :: l, k, is => rngK l k is
  | .str :: l, k, n :: is => (∃ s : ByteArray, n = encS s ∧ InR .i64 s.size) ∧ rngK l k is
  | .str :: _, _, [] => False
  | .sl ks :: l, k, q :: n :: is => slRng ks q n ∧ rngK l k is
  | .sl _ :: _, _, [] => False
  | .sl _ :: _, _, [_] => False
def rngA : List Sh → List Int → Prop
  | [], is => is = []
  | .val _ l :: ss, is => rngK l (rngA ss) is
  | .ptr l :: ss, is => rngK l (rngA ss) is
theorem rngK_of {k : List Int → Prop} : ∀ {l : List CK} {i1 i2 : List Int}, rngC l i1 → k i2 → rngK l k (i1 ++ i2)
  | [], [], i2, _, h => h
  | .int kd :: l, n :: i1, i2, h1, h2 => ⟨h1.1, rngK_of h1.2 h2⟩
  | .bool :: l, i1, i2, h1, h2 => rngK_of (l := l) (by cases i1 <;> exact h1) h2
  | .pt _ _ :: l, i1, i2, h1, h2 => rngK_of (l := l) (by cases i1 <;> exact h1) h2
  | .str :: l, n :: i1, i2, h1, h2 => ⟨h1.1, rngK_of h1.2 h2⟩
  | .sl ks :: l, q :: n :: i1, i2, h1, h2 => ⟨h1.1, rngK_of h1.2 h2⟩
  | .sl _ :: _, [], _, h, _ => h.elim
  | .sl _ :: _, [_], _, h, _ => h.elim
  | .str :: _, [], _, h, _ => h.elim
  | [], _ :: _, _, h, _ => h.elim
  | .int _ :: _, [], _, h, _ => h.elim
theorem rngC_append : ∀ {l1 l2 : List CK} {i1 i2 : List Int}, rngC l1 i1 → rngC l2 i2 → rngC (l1 ++ l2) (i1 ++ i2)
  | [], l2, [], i2, _, h => h
  | .int k :: l1, l2, n :: i1, i2, h1, h2 => ⟨h1.1, rngC_append h1.2 h2⟩
  | .bool :: l1, l2, i1, i2, h1, h2 => by
    have h1' : rngC l1 i1 := by cases i1 <;> exact h1
    have := rngC_append h1' h2
    cases hi : i1 ++ i2 <;> rw [hi] at this <;> exact this
  | .pt _ _ :: l1, l2, i1, i2, h1, h2 => by
    have h1' : rngC l1 i1 := by cases i1 <;> exact h1
    have := rngC_append h1' h2
    cases hi : i1 ++ i2 <;> rw [hi] at this <;> exact this
  | .str :: l1, l2, n :: i1, i2, h1, h2 => ⟨h1.1, rngC_append h1.2 h2⟩
  | .sl ks :: l1, l2, q :: n :: i1, i2, h1, h2 => ⟨h1.1, rngC_append h1.2 h2⟩
  | .sl _ :: _, _, [], _, h, _ => h.elim
  | .sl _ :: _, _, [_], _, h, _ => h.elim
  | .str :: _, _, [], _, h, _ => h.elim
  | [], _, _ :: _, _, h, _ => h.elim
  | .int _ :: _, _, [], _, h, _ => h.elim
theorem flatSl_rng {w : World} {ks : List CK} {v : Value} {l : List Int} {n : Int} {r : Option Rg} (h : flatSl w ks v = some (l, n, r)) : slRng ks (enc l) n := by
  unfold flatSl at h
  split at h
  · rename_i p len cap
    split at h
    · cases h
    split at h
    · simp only [Option.some.injEq, Prod.mk.injEq] at h
      obtain ⟨rfl, rfl, rfl⟩ := h
      exact ⟨by omega, by omega, [], rfl, by simp, fun j m hj => by simp at hj⟩
    · split at h
      · rename_i b o
        split at h
        · rename_i hin
          split at h
          · rename_i l' hl
            simp only [Option.some.injEq, Prod.mk.injEq] at h
            obtain ⟨rfl, rfl, rfl⟩ := h
            cases hrd : readCells w b o (len * ks.length) with
            | none => rw [hrd] at hl; simp at hl
            | some us =>
              rw [hrd] at hl
              simp only [Option.bind_some] at hl
              obtain ⟨g1, g2⟩ := readCells_get hrd
              obtain ⟨g3, g4⟩ := seq_of_read (b := b) (o := o) (w := w) hl g2
              refine ⟨by omega, (inR_spec hin).2, l', rfl, by rw [Int.toNat_natCast]; omega, fun j m hj => ?_⟩
              obtain ⟨ck, v, k1, k2, k3⟩ := g4 j m hj
              refine ⟨ck, by simpa using k1, ?_⟩
              cases ck with
              | int k => exact k3.2
              | bool => exact k3.1
              | str => obtain ⟨s, _, k4, k5⟩ := k3; exact ⟨s, k4, k5⟩
              | pt _ _ => exact k3
              | sl _ => exact k3
          · cases h
        · cases h
      · cases h
  · cases h
theorem flatC_rng {w : World} {ps : List Rg} : ∀ {l : List CK} {vs : List Value} {f : Fl}, flatC w ps l vs = some f → rngC l f.1
  | [], [], f, h => by simp only [flatC, Option.some.injEq] at h; subst h; trivial
  | .int k :: l, v :: vs, f, h => by
    unfold flatC at h
    split at h
    · rename_i k' n is bs hv
      split at h
      · rename_i hc
        simp only [Option.some.injEq] at h
        subst h
        simp only [Bool.and_eq_true, beq_iff_eq] at hc
        have h2 := hc.2
        simp only [inR, Bool.and_eq_true, decide_eq_true_eq] at h2
        exact ⟨h2, flatC_rng hv⟩
      · cases h
    · cases h
  | .bool :: l, v :: vs, f, h => by
    unfold flatC at h
    split at h
    · rename_i b is bs hv
      simp only [Option.some.injEq] at h
      subst h
      have := flatC_rng hv
      cases is <;> exact this
    · cases h
  | .pt k o :: l, v :: vs, f, h => by
    unfold flatC at h
    split at h
    · rename_i a r is bs hr hv
      split at h
      · simp only [Option.some.injEq] at h
        subst h
        have := flatC_rng hv
        cases is <;> exact this
      · cases h
    · cases h
  | .str :: l, v :: vs, f, h => by
    unfold flatC at h
    split at h
    · rename_i s is bs hv
      split at h
      · rename_i hc
        simp only [Option.some.injEq] at h
        subst h
        exact ⟨⟨s, rfl, inR_spec hc⟩, flatC_rng hv⟩
      · cases h
    · cases h
  | .sl ks :: l, v :: vs, f, h => by
    unfold flatC at h
    split at h
    · rename_i q n r is bs hs hv
      simp only [Option.some.injEq] at h
      subst h
      exact ⟨flatSl_rng hs, flatC_rng hv⟩
    · cases h
  | .sl _ :: _, [], _, h => by simp [flatC] at h
  | .str :: _, [], _, h => by simp [flatC] at h
  | [], _ :: _, _, h => by simp [flatC] at h
  | .int _ :: _, [], _, h => by simp [flatC] at h
  | .bool :: _, [], _, h => by simp [flatC] at h
  | .pt _ _ :: _, [], _, h => by simp [flatC] at h
theorem flatArgs_rng {w : World} : ∀ {ss : List Sh} {vs : List Value} {is : List Int} {bs : List Bool} {ps : List Rg}, flatArgs ss vs w = some (is, bs, ps) → rngA ss is
  | [], [], is, bs, ps, h => by
    simp only [flatArgs, Option.some.injEq, Prod.mk.injEq] at h
    exact h.1.symm
  | .val agg l :: ss, v :: vs, is, bs, ps, h => by
    unfold flatArgs at h
    split at h
    · rename_i i b is' bs' ps' h1 h2
      simp only [Option.some.injEq, Prod.mk.injEq] at h
      obtain ⟨rfl, _⟩ := h
      obtain ⟨us, hf, _⟩ := flat1_inv h1
      exact rngK_of (flatC_rng hf) (flatArgs_rng h2)
    · cases h
  | .ptr l :: ss, v :: vs, is, bs, ps, h => by
    unfold flatArgs at h
    split at h
    · rename_i b o is' bs' ps' h2
      split at h
      · rename_i i bb h1
        simp only [Option.some.injEq, Prod.mk.injEq] at h
        obtain ⟨rfl, _⟩ := h
        cases hr : readCells w b o l.length with
        | none => rw [hr] at h1; simp at h1
        | some us =>
          rw [hr] at h1
          simp only [Option.bind_some] at h1
          exact rngK_of (flatC_rng h1) (flatArgs_rng h2)
      · cases h
    · cases h
  | [], _ :: _, _, _, _, h => by simp [flatArgs] at h
  | .val _ _ :: _, [], _, _, _, h => by simp [flatArgs] at h
  | .ptr _ :: _, [], _, _, _, h => by simp [flatArgs] at h
theorem len_cons {α : Type} {l : List α} {n : Nat} (h : l.length = n + 1) : ∃ a t, l = a :: t ∧ t.length = n := by
  cases l with
  | nil => simp at h
  | cons a t => exact ⟨a, t, rfl, by simpa using h⟩
theorem len_nil {α : Type} {l : List α} (h : l.length = 0) : l = [] := List.eq_nil_of_length_eq_zero h
theorem Smry.ob_spec {Φ : Funs} {S : Smry} {is : List Int} {bs : List Bool} (hw : wsEm S.em is.length bs.length = true) (h : ∀ ρ, headsI ρ is 0 → headsB ρ bs 0 → eqns Φ ρ S.em → obAll ρ S.em = true) :
    obAll (envOf (evEm Φ S.em is bs).1 (evEm Φ S.em is bs).2) S.em = true := by
  obtain ⟨h1, h2⟩ := evEm_spec Φ S.em is bs hw
  refine h _ (headsI_of fun n hn => ?_) (headsB_of fun n hn => ?_) (eqns_of fun e he => ?_)
  · rw [Nat.zero_add]; exact h1.1 n hn
  · rw [Nat.zero_add]; exact h1.2 n hn
  · have := h2 e he
    cases e <;> simp_all

/-! ### What stays -/
theorem Keep.sameAt {w w' : World} (h : Keep [] w w') {p : MemPlace} (hp : p.block < w.heap.size) : w.sameAt w' p := by
  cases p with
  | cell b off => exact h.cell ⟨b, off, none⟩ hp fun r hr => by cases hr
  | map b => exact h.blk b hp fun r hr => by cases hr
theorem Keep.keptBut {w w' : World} (h : Keep [] w w') (may : MemPlace → Prop) : w.keptBut w' may := by
  refine ⟨h.os, h.output, fun i hi => ?_⟩
  rw [h.blk i hi fun r hr => by cases hr]
  cases hw : w.heap[i]? with
  | none => trivial
  | some o =>
    cases o <;> simp

/-! ### Tables, aS their row lays them -/
theorem trod_ints {H : Type} {enc : TypeId × Value → H} {P : Program} {w : World} {base : Nat} {spare : Nat → Bool} {held : Bool} {fuel : Nat} {t e : TypeId} {n : Nat} {k : IntKind} (ht : P.underlying t = some (.array n e)) (he : P.underlying e = some (.int k)) (hc : P.cellsOf e = 1) (hct : P.cellsOf t = n)
    {l : List Int} {cs : List Value} {p : List MemPlace} (h : DataW.trod enc P w base spare held fuel t cs = some (.agg (l.map fun m => .lit (.int k m)), p)) : cs = l.map (Value.int k) := by
  obtain ⟨xs, m, rfl, hx, hcs, hxl, hf⟩ := DataW.trod_array ht h
  obtain ⟨hx1, _⟩ := Prod.mk.inj hx
  simp only [DataW.agg.injEq] at hx1
  have hll : l.length = n := by
    have := congrArg List.length hx1
    simpa [hxl] using this
  apply List.ext_getElem?
  intro i
  by_cases hi : i < n
  · have h1 := hf i hi
    have hix : i < xs.length := by omega
    rw [List.getElem?_eq_getElem hix, hc, Nat.mul_one] at h1
    obtain ⟨v, hv, hxv, _⟩ := DataW.trod_int he h1
    have hil : i < l.length := by omega
    have e1 : (l.map fun m => (DataW.lit (.int k m) : DataW H))[i]? = (xs.map (·.1))[i]? := by rw [hx1]
    rw [List.getElem?_map, List.getElem?_map, List.getElem?_eq_getElem hix, List.getElem?_eq_getElem hil] at e1
    simp only [Option.map_some, Option.some.injEq, hxv, DataW.lit.injEq, Lit.int.injEq, true_and] at e1
    have hic : i < cs.length := by omega
    have e2 : cs[i]? = some (.int k v) := by
      have := congrArg (·[0]?) hv
      simpa [List.getElem?_take, List.getElem?_drop] using this
    rw [e2, List.getElem?_map, List.getElem?_eq_getElem hil, e1]
    rfl
  · rw [List.getElem?_eq_none (by omega), List.getElem?_eq_none (by simp; omega)]

/-! ### The law's answer, aS the row asks it -/
theorem law_post {P : Program} {fn : Func} {s : ChangeSpec} {H : Type} {enc : TypeId × Value → H} {W W' : World} {args : Array Value} {ds gs : List (DataW H)} {before p : List MemPlace} (hl : laidOutB P = true) (hpar : ∀ t, t ∈ fn.params.toList → P.readableRec t = true ∧ t < P.types.size)
    {tb : TypeId} (hres : fn.resultTypes = #[tb]) (hb : P.underlying tb = some .bool) (hvars : s.vars = []) (hW : DataW.Whole enc P fn.params.toList s.vars false W args.toList ds gs before) (hA : DataW.TrodAll enc P W 0 (fun _ => true) true fn.params.toList args.toList ds p) (hbe : before = p) (hgs : gs = [])
    (hfn : s.fn H (ds ++ []) = { results := [.lit (.bool true)], args := ds }) (hk : Keep [] W W') : s.post enc P fn false true false false W args (.bool true) W' := by
  subst hbe hgs
  have hlt : ∀ x ∈ before, x.block < W.heap.size := fun x hx => hW.lt x hx
  have hsame : ∀ x ∈ before, W.sameAt W' x := fun x hx => hk.sameAt (hlt x hx)
  refine ⟨ds, [], before, [], before, [], hW, ?_, ?_, ?_, ?_, fun h => by cases h⟩
  · rw [hfn, hres]
    exact trodAll_mk1 (shut_bool hb true)
  · rw [hfn]
    exact trodAll_stays hl hpar hA hsame (fun x hx => by simpa using hlt x hx)
  · rw [hvars, hfn]
    rfl
  · exact hk.keptBut _
end Go.Proofs.Ytgbgibbonhklgaa.Sx
namespace Go.Proofs.Ytgbgibbonhklgaa.Sx
open Go

theorem Smry.run_specT {Φ : Funs} {S : Smry} {is : List Int} {bs : List Bool} (hw : wsEm S.em is.length bs.length = true) : ∃ ρ : Env, S.run Φ true is bs = (S.ri.map (A.d ρ), obAll ρ S.em :: S.rb.map (B.d ρ)) ∧ headsI ρ is 0 ∧ headsB ρ bs 0 ∧ eqns Φ ρ S.em := by
  obtain ⟨h1, h2⟩ := evEm_spec Φ S.em is bs hw
  refine ⟨envOf (evEm Φ S.em is bs).1 (evEm Φ S.em is bs).2, rfl, headsI_of fun n hn => ?_, headsB_of fun n hn => ?_, eqns_of fun e he => ?_⟩
  · rw [Nat.zero_add]; exact h1.1 n hn
  · rw [Nat.zero_add]; exact h1.2 n hn
  · have := h2 e he
    cases e <;> simp_all

/-- What is owed, one by one. -/
def obs (ρ : Env) : List Em → Bool
  | [] => true
  | .ob g b :: l => (!(Gd.d ρ g) || b.d ρ) && obs ρ l
  | .di _ _ :: l => obs ρ l
  | .db _ _ :: l => obs ρ l
  | .call _ _ _ _ _ _ _ :: l => obs ρ l
theorem obAll_eq {ρ : Env} : ∀ {l : List Em}, obAll ρ l = obs ρ l
  | [] => rfl
  | e :: l => by
    have ih := obAll_eq (ρ := ρ) (l := l)
    unfold obAll at ih ⊢
    cases e <;> simp [obs, ih]

theorem loop_rule {F : Fun} {nI nB : Nat} (Inv : List Int → List Bool → Prop) (mu : List Int → List Bool → Nat) (Post : Fl → Prop)
    (step : ∀ is bs, Inv is bs → ∃ c rb, (F is bs).2 = true :: c :: rb ∧ (c = false → Post ((F is bs).1.drop nI, rb.drop nB)) ∧
      (c = true → Inv ((F is bs).1.take nI) (rb.take nB) ∧ mu ((F is bs).1.take nI) (rb.take nB) < mu is bs)) :
    ∀ is bs, Inv is bs → ∃ o, loopF F nI nB is bs = (o.1, true :: o.2) ∧ Post o := by
  have key : ∀ n is bs, mu is bs ≤ n → Inv is bs → ∃ m o, LRun F nI nB m is bs o ∧ Post o := by
    intro n
    induction n with
    | zero =>
      intro is bs hn hi
      obtain ⟨c, rb, h1, h2, h3⟩ := step is bs hi
      cases c
      · exact ⟨1, _, .stop h1, h2 rfl⟩
      · have := (h3 rfl).2; omega
    | succ n ih =>
      intro is bs hn hi
      obtain ⟨c, rb, h1, h2, h3⟩ := step is bs hi
      cases c
      · exact ⟨1, _, .stop h1, h2 rfl⟩
      · obtain ⟨h4, h5⟩ := h3 rfl
        obtain ⟨m, o, h6, h7⟩ := ih _ _ (by omega) h4
        exact ⟨m + 1, o, .turn h1 h6, h7⟩
  intro is bs hi
  obtain ⟨m, o, h1, h2⟩ := key _ is bs (Nat.le_refl _) hi
  exact ⟨o, loopF_of h1, h2⟩

theorem cm_eql (x y : Int) : cmB .eql x y = (x == y) := rfl
theorem cm_neq (x y : Int) : cmB .neq x y = (x != y) := rfl
theorem cm_lss (x y : Int) : cmB .lss x y = decide (x < y) := rfl
theorem cm_leq (x y : Int) : cmB .leq x y = decide (x ≤ y) := rfl
theorem cm_gtr (x y : Int) : cmB .gtr x y = decide (y < x) := rfl
theorem cm_geq (x y : Int) : cmB .geq x y = decide (y ≤ x) := rfl
theorem lt2 {p : Nat → Prop} : (∀ j, j < 2 → p j) ↔ p 0 ∧ p 1 := by
  refine ⟨fun h => ⟨h 0 (by decide), h 1 (by decide)⟩, fun h j hj => ?_⟩
  have : j = 0 ∨ j = 1 := by omega
  rcases this with rfl | rfl
  · exact h.1
  · exact h.2
/-- 'for all j below n', written out. -/
def upto (p : Nat → Prop) : Nat → Nat → Prop
  | _, 0 => True
  | k, n + 1 => p k ∧ upto p (k + 1) n
theorem upto_of {p : Nat → Prop} : ∀ {n k : Nat}, (∀ j, k ≤ j → j < k + n → p j) → upto p k n
  | 0, _, _ => trivial
  | n + 1, k, h => ⟨h k (Nat.le_refl _) (by omega), upto_of fun j h1 h2 => h j (by omega) (by omega)⟩
theorem of_upto {p : Nat → Prop} : ∀ {n k : Nat}, upto p k n → ∀ j, k ≤ j → j < k + n → p j
  | 0, k, _, j, h1, h2 => by omega
  | n + 1, k, h, j, h1, h2 => by
    rcases Nat.eq_or_lt_of_le h1 with e | e
    · subst e; exact h.1
    · exact of_upto h.2 j e (by omega)
theorem ltn {p : Nat → Prop} (n : Nat) : (∀ j, j < n → p j) ↔ upto p 0 n :=
  ⟨fun h => upto_of fun j _ h2 => h j (by omega), fun h j hj => of_upto h j (Nat.zero_le _) (by omega)⟩
end Go.Proofs.Ytgbgibbonhklgaa.Sx
namespace Go.Proofs.Ytgbgibbonhklgaa.Sx
open Go

theorem oneCell_ints {k : IntKind} {l : List Int} {j : Nat} {v : Value} (h : (l.map (Value.int k))[j]? = some v) : oneCell v = true := by
  rw [List.getElem?_map] at h
  cases hl : l[j]? with
  | none => rw [hl] at h; simp at h
  | some m => rw [hl] at h; simp only [Option.map_some, Option.some.injEq] at h; subst h; rfl

/-- A law's one answer, behind what it owes. -/
theorem out_trueP {s : Sum} {v : Value} {w' : World} (ht : s.tup = false) (hr : s.res = [(false, [.bool])]) (hp : s.pre = true) (hps : ptrShapes s.args = []) (h : OutOk s [] v w' ([], [true, true])) : v = .bool true := by
  obtain ⟨r, p, h1, h2, h3, h4⟩ := h
  unfold flatRes at h1
  rw [ht, hr] at h1
  rw [hps] at h2
  simp only [flatPs, Option.some.injEq] at h2
  subst h2
  rw [hp] at h4
  simp only [if_true, Bool.false_eq_true, if_false, List.append_nil, List.tail_cons] at h4 h1
  obtain ⟨us, hf, hu⟩ := flat1_inv h1
  simp only [Bool.false_eq_true, if_false] at hu hf
  replace hu := hu.1
  subst hu
  unfold flatC at hf
  split at hf
  · rename_i b is bs hb
    simp only [Option.some.injEq] at hf
    subst hf
    simp only [flatC, Option.some.injEq, Prod.mk.injEq] at hb
    obtain ⟨_, rfl⟩ := hb
    have h5 : (true : Bool) = b := by simpa using h4
    rw [← h5]
  · cases hf
end Go.Proofs.Ytgbgibbonhklgaa.Sx
