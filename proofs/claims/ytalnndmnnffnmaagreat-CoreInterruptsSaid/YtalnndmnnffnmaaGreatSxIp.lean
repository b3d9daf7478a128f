/-
  SX, part Ip: which functions are entered in place; contracts by it; what is owed and holds by itself. No condition.
-/
import Derived.Test.YtalnndmnnffnmaaGreatSxIo
set_option linter.unusedVariables false
set_option linter.unusedSimpArgs false
namespace Go.Proofs.YtalnndmnnffnmaaGreat.Sx
open Go

def ctlI (fn : Func) : Ctl := { keep := keepOf fn, turns := 400, ret := retOf fn, base := 0 }
/-- These functions are entered, to such a depth; others are met by contract. -/
def hndI (P : Program) (gl : Gl) (I : List Nat) (H : Hnd) : Nat → Hnd
  | 0 => H
  | n + 1 => fun f Γ hp xs => if I.contains f then (match P.funcs[f]? with
      | some fn => inlM P (hndI P gl I H n) gl (ctlI fn) fn Γ hp xs
      | none => M.fail) else H f Γ hp xs
def nameOk (P : Program) (I : List Nat) : Bool := I.all fun f => match P.funcs[f]? with
  | some fn => !(fn.name == "runtime.NumGoroutine")
  | none => true
theorem hndI_ok {P : Program} {Φ : Funs} {gl : Gl} {I : List Nat} {H : Hnd} (hH : HOk P Φ gl H) (hI : nameOk P I = true) : ∀ n, HOk P Φ gl (hndI P gl I H n)
  | 0 => hH
  | n + 1 => by
    intro f Γ hp xs ρ c res c' out he hg hΓ N R β w vs hm hh hb hN hG hf
    unfold hndI at he
    by_cases hc : I.contains f = true
    · rw [if_pos hc] at he
      cases hfn : P.funcs[f]? with
      | none => rw [hfn] at he; simp [M.fail] at he
      | some fn =>
        rw [hfn] at he
        have hn : (fn.name == "runtime.NumGoroutine") = false := by
          unfold nameOk at hI
          rw [List.all_eq_true] at hI
          have := hI f (by simpa using hc)
          rw [hfn] at this
          simpa using this
        exact inl_ok (hndI_ok hH hI n) hfn hn (LoopsOk.nil rfl) he hg hΓ hm hh hb hN hG hf
    · rw [if_neg hc] at he
      exact hH f Γ hp xs ρ c res c' out he hg hΓ N R β w vs hm hh hb hN hG hf
/-- By contract, and in place. -/
def hnd (P : Program) (gl : Gl) (I : List Nat) (X : Sums) : Hnd := hndI P gl I (hnd0 X) 12
theorem hnd_ok {P : Program} {Φ : Funs} {gl : Gl} {X : Sums} (hX : AllOk P Φ gl X) {I : List Nat} (hI : nameOk P I = true) : HOk P Φ gl (hnd P gl I X) := hndI_ok (hnd0_ok hX) hI 12

/-! ### What is owed and holds by itself: its conditions cannot all hold -/
def defB (n : Nat) : List Em → Option RB
  | [] => none
  | .db m r :: l => if m == n then some r else defB n l
  | _ :: l => defB n l
theorem defB_spec {Φ : Funs} {ρ : Env} {n : Nat} {r : RB} : ∀ {l : List Em}, defB n l = some r → (∀ e, e ∈ l → match e with | .ob _ _ => True | e => e.ok Φ ρ) → ρ.b n = r.d ρ
  | e :: l, h, hg => by
    unfold defB at h
    split at h
    · rename_i e0; cases e0
    · rename_i m r' l' e0
      simp only [List.cons.injEq] at e0
      obtain ⟨rfl, rfl⟩ := e0
      split at h
      · rename_i hm
        simp only [beq_iff_eq] at hm
        simp only [Option.some.injEq] at h
        subst hm; subst h
        exact hg (.db m r') (by simp)
      · exact defB_spec h fun e he => hg e (by simp [he])
    · rename_i e' l' _ e0
      simp only [List.cons.injEq] at e0
      obtain ⟨rfl, rfl⟩ := e0
      exact defB_spec h fun e he => hg e (by simp [he])
abbrev Lits := List (Nat × Bool)
def litOf (n : Nat) : Lits → Option Bool
  | [] => none
  | (m, b) :: l => if m == n then some b else litOf n l
def knB (k : Lits) : B → Option Bool
  | .c b => some b
  | .v n => litOf n k
def addB (k : Lits) (b : B) (v : Bool) : List (B × Bool) := match knB k b with
  | some w => if w == v then [] else [(.c (!v), v)]
  | none => [(b, v)]
/-- What follows of a definition's worth. -/
def foll (k : Lits) (v : Bool) : RB → List (B × Bool)
  | .not a => addB k a (!v)
  | .and a b => if v then addB k a true ++ addB k b true else match knB k a, knB k b with
    | some true, _ => addB k b false
    | _, some true => addB k a false
    | _, _ => []
  | .or a b => if v then (match knB k a, knB k b with
    | some false, _ => addB k b true
    | _, some false => addB k a true
    | _, _ => []) else addB k a false ++ addB k b false
  | .eqb a b => match knB k a, knB k b with
    | some x, _ => addB k b (v == x)
    | _, some y => addB k a (v == y)
    | _, _ => []
  | .ite c a b => match knB k c with
    | some true => addB k a v
    | some false => addB k b v
    | none => match knB k a, knB k b with
      | some x, some y => if x == v then (if y == v then [] else addB k c true) else (if y == v then addB k c false else [(.c (!v), v)])
      | some x, none => if x == v then [] else addB k c false ++ addB k b v
      | none, some y => if y == v then [] else addB k c true ++ addB k a v
      | none, none => []
  | _ => []
/-- A comparison, as one of three. -/
def cmBase : BinOp → Option (BinOp × Bool)
  | .lss => some (.lss, true)
  | .geq => some (.lss, false)
  | .gtr => some (.gtr, true)
  | .leq => some (.gtr, false)
  | .eql => some (.eql, true)
  | .neq => some (.eql, false)
  | _ => none
abbrev Cms := List (BinOp × A × A × Bool)
/-- A comparison that is known: against the ones before. -/
def cmBad (o : BinOp) (a b : A) (v : Bool) : Cms → Bool
  | [] => false
  | (p, c, d, w) :: l => (p == o && c.eq a && d.eq b && !(w == v)) || cmBad o a b v l
def cmFact (r : RB) (v : Bool) : Option (BinOp × A × A × Bool) := match r with
  | .cm op a b => match cmBase op with
    | some (o, k) => some (o, a, b, k == v)
    | none => none
  | _ => none
/-- Can these not all hold? 'new': what is still to be looked at. -/
def refute (em : List Em) : Nat → Cms → Lits → List (B × Bool) → Bool
  | 0, _, _, _ => false
  | _ + 1, _, _, [] => false
  | n + 1, q, k, (.c b, v) :: l => if b == v then refute em n q k l else true
  | n + 1, q, k, (.v m, v) :: l => match litOf m k with
    | some w => if w == v then refute em n q k l else true
    | none => match defB m em with
      | some r => match cmFact r v with
        | some (o, a, b, w) => cmBad o a b w q || refute em n ((o, a, b, w) :: q) ((m, v) :: k) l
        | none => refute em n q ((m, v) :: k) (foll ((m, v) :: k) v r ++ l)
      | none => refute em n q ((m, v) :: k) l
def CmsOk (ρ : Env) (q : Cms) : Prop := ∀ p, p ∈ q → cmB p.1 (p.2.1.d ρ) (p.2.2.1.d ρ) = p.2.2.2
theorem cmBase_spec {op o : BinOp} {k : Bool} (h : cmBase op = some (o, k)) (x y : Int) : cmB op x y = (k == cmB o x y) := by
  cases op <;> simp only [cmBase, Option.some.injEq, Prod.mk.injEq] at h <;> (try (cases h; done)) <;> obtain ⟨rfl, rfl⟩ := h
  · cases hb : cmB .eql x y <;> rfl
  · show (!(x == y)) = (false == (x == y)); cases (x == y) <;> rfl
  · cases hb : cmB .lss x y <;> rfl
  · show decide (x ≤ y) = (false == decide (x > y))
    by_cases h : x ≤ y
    · have : ¬ x > y := by omega
      simp [h, this]
    · have : x > y := by omega
      simp [h, this]
  · cases hb : cmB .gtr x y <;> rfl
  · show decide (x ≥ y) = (false == decide (x < y))
    by_cases h : x ≥ y
    · have : ¬ x < y := by omega
      simp [h, this]
    · have : x < y := by omega
      simp [h, this]
theorem cmFact_spec {ρ : Env} {r : RB} {v : Bool} {p : BinOp × A × A × Bool} (h : cmFact r v = some p) (hr : r.d ρ = v) : cmB p.1 (p.2.1.d ρ) (p.2.2.1.d ρ) = p.2.2.2 := by
  unfold cmFact at h
  split at h
  · rename_i op a b
    split at h
    · rename_i o k hb
      simp only [Option.some.injEq] at h
      subst h
      simp only
      have := cmBase_spec hb (a.d ρ) (b.d ρ)
      simp only [RB.d] at hr
      rw [hr] at this
      rw [this]
      cases k <;> cases cmB o (a.d ρ) (b.d ρ) <;> rfl
    · cases h
  · cases h
theorem cmBad_spec {ρ : Env} {o : BinOp} {a b : A} {v : Bool} : ∀ {q : Cms}, cmBad o a b v q = true → CmsOk ρ q → cmB o (a.d ρ) (b.d ρ) = v → False
  | (p, c, d, w) :: l, h, hq, hv => by
    simp only [cmBad, Bool.or_eq_true, Bool.and_eq_true, beq_iff_eq, Bool.not_eq_true', beq_eq_false_iff_ne, ne_eq] at h
    rcases h with ⟨⟨⟨rfl, h1⟩, h2⟩, h3⟩ | h
    · have := hq (p, c, d, w) (by simp)
      simp only at this
      rw [A.eq_sound h1, A.eq_sound h2, hv] at this
      exact h3 this.symm
    · exact cmBad_spec h (fun p hp => hq p (by simp [hp])) hv
def LitsOk (ρ : Env) (k : Lits) : Prop := ∀ n b, litOf n k = some b → ρ.b n = b
theorem knB_spec {ρ : Env} {k : Lits} (hk : LitsOk ρ k) {b : B} {v : Bool} (h : knB k b = some v) : b.d ρ = v := by
  cases b with
  | v n => exact hk n v h
  | c x => simp only [knB, Option.some.injEq] at h; exact h
theorem addB_spec {ρ : Env} {k : Lits} (hk : LitsOk ρ k) {b : B} {v : Bool} (h : b.d ρ = v) : ∀ p, p ∈ addB k b v → p.1.d ρ = p.2 := by
  intro p hp
  unfold addB at hp
  split at hp
  · rename_i w hw
    have := knB_spec hk hw
    rw [h] at this
    subst this
    simp at hp
  · simp only [List.mem_singleton] at hp
    subst hp
    exact h
theorem foll_spec {ρ : Env} {k : Lits} (hk : LitsOk ρ k) {v : Bool} {r : RB} (h : r.d ρ = v) : ∀ p, p ∈ foll k v r → p.1.d ρ = p.2 := by
  cases r with
  | not a =>
    intro p hp
    simp only [foll] at hp
    exact addB_spec hk (by simp only [RB.d] at h; rw [← h]; simp) p hp
  | and a b =>
    intro p hp
    simp only [RB.d] at h
    simp only [foll] at hp
    split at hp
    · rename_i hv
      subst hv
      simp only [Bool.and_eq_true] at h
      rcases List.mem_append.1 hp with hp | hp
      · exact addB_spec hk h.1 p hp
      · exact addB_spec hk h.2 p hp
    · rename_i hv
      have hv : v = false := by simpa using hv
      subst hv
      split at hp
      · rename_i ha
        rw [knB_spec hk ha] at h
        exact addB_spec hk (by simpa using h) p hp
      · rename_i hb _
        rw [knB_spec hk hb] at h
        exact addB_spec hk (by simpa using h) p hp
      · cases hp
  | or a b =>
    intro p hp
    simp only [RB.d] at h
    simp only [foll] at hp
    split at hp
    · rename_i hv
      subst hv
      split at hp
      · rename_i ha
        rw [knB_spec hk ha] at h
        exact addB_spec hk (by simpa using h) p hp
      · rename_i hb _
        rw [knB_spec hk hb] at h
        exact addB_spec hk (by simpa using h) p hp
      · cases hp
    · rename_i hv
      have hv : v = false := by simpa using hv
      subst hv
      simp only [Bool.or_eq_false_iff] at h
      rcases List.mem_append.1 hp with hp | hp
      · exact addB_spec hk h.1 p hp
      · exact addB_spec hk h.2 p hp
  | eqb a b =>
    intro p hp
    simp only [RB.d] at h
    simp only [foll] at hp
    split at hp
    · rename_i x ha
      rw [knB_spec hk ha] at h
      refine addB_spec hk ?_ p hp
      rw [← h]
      cases x <;> cases b.d ρ <;> rfl
    · rename_i y hb _
      rw [knB_spec hk hb] at h
      refine addB_spec hk ?_ p hp
      rw [← h]
      cases y <;> cases a.d ρ <;> rfl
    · cases hp
  | ite c a b =>
    intro p hp
    simp only [RB.d] at h
    simp only [foll] at hp
    split at hp
    · rename_i hc
      rw [knB_spec hk hc] at h
      exact addB_spec hk (by simpa using h) p hp
    · rename_i hc
      rw [knB_spec hk hc] at h
      exact addB_spec hk (by simpa using h) p hp
    · split at hp
      · rename_i x y ha hb
        rw [knB_spec hk ha, knB_spec hk hb] at h
        split at hp
        · rename_i hx
          simp only [beq_iff_eq] at hx
          split at hp
          · cases hp
          · rename_i hy
            refine addB_spec hk ?_ p hp
            cases hcd : c.d ρ with
            | true => rfl
            | false => rw [hcd] at h; simp at h; rw [h] at hy; simp at hy
        · rename_i hx
          split at hp
          · rename_i hy
            refine addB_spec hk ?_ p hp
            cases hcd : c.d ρ with
            | false => rfl
            | true => rw [hcd] at h; simp at h; rw [h] at hx; simp at hx
          · rename_i hy
            exfalso
            cases hcd : c.d ρ <;> rw [hcd] at h <;> simp at h
            · rw [h] at hy; simp at hy
            · rw [h] at hx; simp at hx
      · rename_i x ha hb
        rw [knB_spec hk ha] at h
        split at hp
        · cases hp
        · rename_i hx
          have hcd : c.d ρ = false := by
            cases hcd : c.d ρ with
            | false => rfl
            | true => rw [hcd] at h; simp at h; rw [h] at hx; simp at hx
          rw [hcd] at h
          rcases List.mem_append.1 hp with hp | hp
          · exact addB_spec hk hcd p hp
          · exact addB_spec hk (by simpa using h) p hp
      · rename_i y ha hb
        rw [knB_spec hk hb] at h
        split at hp
        · cases hp
        · rename_i hy
          have hcd : c.d ρ = true := by
            cases hcd : c.d ρ with
            | true => rfl
            | false => rw [hcd] at h; simp at h; rw [h] at hy; simp at hy
          rw [hcd] at h
          rcases List.mem_append.1 hp with hp | hp
          · exact addB_spec hk hcd p hp
          · exact addB_spec hk (by simpa using h) p hp
      · cases hp
  | _ => intro p hp; cases hp
theorem refute_spec {Φ : Funs} {ρ : Env} {em : List Em} (hg : ∀ e, e ∈ em → match e with | .ob _ _ => True | e => e.ok Φ ρ) : ∀ {n : Nat} {q : Cms} {k : Lits} {l : List (B × Bool)}, refute em n q k l = true → CmsOk ρ q → LitsOk ρ k → (∀ p, p ∈ l → p.1.d ρ = p.2) → False
  | 0, _, _, _, h, _, _, _ => by simp [refute] at h
  | n + 1, _, _, [], h, _, _, _ => by simp [refute] at h
  | n + 1, q, k, (.c b, v) :: l, h, hq, hk, hl => by
    have h0 := hl _ (List.mem_cons_self)
    simp only [B.d_c] at h0
    subst h0
    unfold refute at h
    simp only [beq_self_eq_true, if_true] at h
    exact refute_spec hg h hq hk fun p hp => hl p (by simp [hp])
  | n + 1, q, k, (.v m, v) :: l, h, hq, hk, hl => by
    have h0 : ρ.b m = v := hl _ (List.mem_cons_self)
    unfold refute at h
    split at h
    · rename_i w hw
      have := hk m w hw
      rw [h0] at this
      subst this
      simp only [beq_self_eq_true, if_true] at h
      exact refute_spec hg h hq hk fun p hp => hl p (by simp [hp])
    · have hk' : LitsOk ρ ((m, v) :: k) := fun n b hn => by
        unfold litOf at hn
        split at hn
        · rename_i he
          simp only [beq_iff_eq] at he
          simp only [Option.some.injEq] at hn
          subst he; subst hn
          exact h0
        · exact hk n b hn
      split at h
      · rename_i r hr
        have hrv : r.d ρ = v := by rw [← defB_spec hr hg]; exact h0
        split at h
        · rename_i o a b w hf
          have hf' := cmFact_spec hf hrv
          simp only at hf'
          rw [Bool.or_eq_true] at h
          rcases h with h | h
          · exact cmBad_spec h hq hf'
          · refine refute_spec hg h (fun p hp => ?_) hk' fun p hp => hl p (by simp [hp])
            rcases List.mem_cons.1 hp with rfl | hp
            · exact hf'
            · exact hq p hp
        · refine refute_spec hg h hq hk' fun p hp => ?_
          rcases List.mem_append.1 hp with hp | hp
          · exact foll_spec hk' hrv p hp
          · exact hl p (by simp [hp])
      · exact refute_spec hg h hq hk' fun p hp => hl p (by simp [hp])
/-- All that is owed holds by itself. -/
def selfOb (em : List Em) : Bool := em.all fun
  | .ob g b => refute em 400 [] [] (g ++ [(b, false)])
  | _ => true
theorem selfOb_all {Φ : Funs} {ρ : Env} {em : List Em} (hg : ∀ e, e ∈ em → match e with | .ob _ _ => True | e => e.ok Φ ρ) (h : selfOb em = true) : obAll ρ em = true := by
  unfold obAll
  unfold selfOb at h
  rw [List.all_eq_true] at h ⊢
  intro e he
  have := h e he
  cases e with
  | ob g b =>
    simp only at this ⊢
    cases hgd : Gd.d ρ g with
    | false => rfl
    | true =>
      cases hb : b.d ρ with
      | true => rfl
      | false =>
        refine (refute_spec hg this (fun p hp => by cases hp) (fun n b h => by cases h) fun p hp => ?_).elim
        rcases List.mem_append.1 hp with hp | hp
        · unfold Gd.d at hgd
          rw [List.all_eq_true] at hgd
          simpa using hgd p hp
        · simp only [List.mem_singleton] at hp
          subst hp
          exact hb
  | _ => rfl
theorem contract_self {P : Program} {Φ : Funs} {X : Hnd} {gl : Gl} (hX : HOk P Φ gl X) {f : Nat} {fn : Func} (hf : P.funcs[f]? = some fn) {k : Ctl} (hK : LoopsOk Φ k) {s : Sum} {S : Smry} (h : fnX P X gl k fn s = some S)
    (hw : (wsEm S.em (argI s.args) (argB s.args) && shOk s && selfOb S.em) = true) : Contract P gl f s (S.run Φ s.pre) := by
  simp only [Bool.and_eq_true] at hw
  obtain ⟨⟨h1, h2⟩, h3⟩ := hw
  refine contract_gen hX hf hK h h1 h2 fun vs w is bs ps hfl _ => ?_
  have hlen := flatArgs_len hfl
  exact selfOb_all (Φ := Φ) (evEm_spec Φ S.em is bs (by rw [hlen.1, hlen.2.1]; exact h1)).2 h3
end Go.Proofs.YtalnndmnnffnmaaGreat.Sx
