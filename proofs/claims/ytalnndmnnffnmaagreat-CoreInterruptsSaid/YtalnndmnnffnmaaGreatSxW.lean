/-
  SX, part W: a loop as one call of a function: its turns, by what the executor says of one. No condition.
-/
import Derived.Test.YtalnndmnnffnmaaGreatSxV
import Derived.Test.YtalnndmnnffnmaaGreatSxX
set_option linter.unusedVariables false
set_option linter.unusedSimpArgs false
namespace Go.Proofs.YtalnndmnnffnmaaGreat.Sx
open Go

/-! ### Turns -/
/-- 'F' is one turn: it answers the next numbers and what is told at the end; its bools begin with whether all is well, and whether it goes on. -/
inductive LRun (F : Fun) (nI nB : Nat) : Nat → List Int → List Bool → Fl → Prop
  | stop {is bs rb} : (F is bs).2 = true :: false :: rb → LRun F nI nB 1 is bs ((F is bs).1.drop nI, rb.drop nB)
  | turn {n is bs rb o} : (F is bs).2 = true :: true :: rb → LRun F nI nB n ((F is bs).1.take nI) (rb.take nB) o → LRun F nI nB (n + 1) is bs o
theorem LRun.det {F : Fun} {nI nB n : Nat} {is : List Int} {bs : List Bool} {o : Fl} (h : LRun F nI nB n is bs o) : ∀ {m : Nat} {o' : Fl}, LRun F nI nB m is bs o' → o' = o := by
  induction h with
  | stop he =>
    intro m o' h'
    cases h' with
    | stop he' =>
      rw [he] at he'
      simp only [List.cons.injEq, true_and] at he'
      rw [he']
    | turn he' _ => rw [he] at he'; simp at he'
  | turn he _ ih =>
    intro m o' h'
    cases h' with
    | stop he' => rw [he] at he'; simp at he'
    | turn he' h2 =>
      rw [he] at he'
      simp only [List.cons.injEq, true_and] at he'
      rw [← he'] at h2
      exact ih h2
noncomputable def loopF (F : Fun) (nI nB : Nat) : Fun := fun is bs => by
  classical exact if h : ∃ o n, LRun F nI nB n is bs o then ((Classical.choose h).1, true :: (Classical.choose h).2) else ([], [])
theorem loopF_of {F : Fun} {nI nB n : Nat} {is : List Int} {bs : List Bool} {o : Fl} (h : LRun F nI nB n is bs o) : loopF F nI nB is bs = (o.1, true :: o.2) := by
  have he : ∃ o n, LRun F nI nB n is bs o := ⟨o, n, h⟩
  unfold loopF
  rw [dif_pos he]
  obtain ⟨m, hm⟩ := Classical.choose_spec he
  rw [h.det hm]
theorem loopF_inv {F : Fun} {nI nB : Nat} {is : List Int} {bs : List Bool} (h : (loopF F nI nB is bs).2.getD 0 false = true) : ∃ n o, LRun F nI nB n is bs o ∧ loopF F nI nB is bs = (o.1, true :: o.2) := by
  by_cases he : ∃ o n, LRun F nI nB n is bs o
  · obtain ⟨o, n, hn⟩ := he
    exact ⟨n, o, hn, loopF_of hn⟩
  · unfold loopF at h
    rw [dif_neg he] at h
    simp at h

/-! ### The same summary -/
def listEq {α : Type} (f : α → α → Bool) : List α → List α → Bool
  | [], [] => true
  | x :: l, y :: m => f x y && listEq f l m
  | _, _ => false
theorem listEq_sound {α : Type} {f : α → α → Bool} (hf : ∀ x y, f x y = true → x = y) : ∀ {l m : List α}, listEq f l m = true → l = m
  | [], [], _ => rfl
  | x :: l, y :: m, h => by
    simp only [listEq, Bool.and_eq_true] at h
    rw [hf x y h.1, listEq_sound hf h.2]
  | [], _ :: _, h => by simp [listEq] at h
  | _ :: _, [], h => by simp [listEq] at h
def RI.eq : RI → RI → Bool
  | .ar o k a b, .ar o' k' a' b' => o == o' && k == k' && a.eq a' && b.eq b'
  | .cv k a, .cv k' a' => k == k' && a.eq a'
  | .ite c a b, .ite c' a' b' => c.eq c' && a.eq a' && b.eq b'
  | .mn a b, .mn a' b' => a.eq a' && b.eq b'
  | .mx a b, .mx a' b' => a.eq a' && b.eq b'
  | .tab l a, .tab l' a' => listEq (· == ·) l l' && a.eq a'
  | .get q a s k, .get q' a' s' k' => q.eq q' && a.eq a' && s == s' && k == k'
  | _, _ => false
def RB.eq : RB → RB → Bool
  | .cm o a b, .cm o' a' b' => o == o' && a.eq a' && b.eq b'
  | .not a, .not a' => a.eq a'
  | .and a b, .and a' b' => a.eq a' && b.eq b'
  | .or a b, .or a' b' => a.eq a' && b.eq b'
  | .eqb a b, .eqb a' b' => a.eq a' && b.eq b'
  | .ite c a b, .ite c' a' b' => c.eq c' && a.eq a' && b.eq b'
  | .getb q a s k, .getb q' a' s' k' => q.eq q' && a.eq a' && s == s' && k == k'
  | _, _ => false
def gEq : B × Bool → B × Bool → Bool := fun p q => p.1.eq q.1 && p.2 == q.2
def Em.eq : Em → Em → Bool
  | .di n r, .di n' r' => n == n' && r.eq r'
  | .db n r, .db n' r' => n == n' && r.eq r'
  | .call f ai ab i ni b nb, .call f' ai' ab' i' ni' b' nb' => f == f' && listEq A.eq ai ai' && listEq B.eq ab ab' && i == i' && ni == ni' && b == b' && nb == nb'
  | .ob g b, .ob g' b' => listEq gEq g g' && b.eq b'
  | _, _ => false
def Smry.eq (S T : Smry) : Bool := listEq Em.eq S.em T.em && listEq A.eq S.ri T.ri && listEq B.eq S.rb T.rb
theorem RI.eq_sound {r s : RI} (h : r.eq s = true) : r = s := by
  cases r <;> cases s <;> simp only [RI.eq, Bool.and_eq_true, beq_iff_eq, Bool.false_eq_true] at h
  · obtain ⟨⟨⟨rfl, rfl⟩, h1⟩, h2⟩ := h; rw [A.eq_sound h1, A.eq_sound h2]
  · obtain ⟨rfl, h1⟩ := h; rw [A.eq_sound h1]
  · obtain ⟨⟨h0, h1⟩, h2⟩ := h; rw [B.eq_sound h0, A.eq_sound h1, A.eq_sound h2]
  · rw [A.eq_sound h.1, A.eq_sound h.2]
  · rw [A.eq_sound h.1, A.eq_sound h.2]
  · rw [listEq_sound (fun x y h => by simpa using h) h.1, A.eq_sound h.2]
  · obtain ⟨⟨⟨h1, h2⟩, rfl⟩, rfl⟩ := h; rw [A.eq_sound h1, A.eq_sound h2]
theorem RB.eq_sound {r s : RB} (h : r.eq s = true) : r = s := by
  cases r <;> cases s <;> simp only [RB.eq, Bool.and_eq_true, beq_iff_eq, Bool.false_eq_true] at h
  · obtain ⟨⟨rfl, h1⟩, h2⟩ := h; rw [A.eq_sound h1, A.eq_sound h2]
  · rw [B.eq_sound h]
  · rw [B.eq_sound h.1, B.eq_sound h.2]
  · rw [B.eq_sound h.1, B.eq_sound h.2]
  · rw [B.eq_sound h.1, B.eq_sound h.2]
  · obtain ⟨⟨h0, h1⟩, h2⟩ := h; rw [B.eq_sound h0, B.eq_sound h1, B.eq_sound h2]
  · obtain ⟨⟨⟨h1, h2⟩, rfl⟩, rfl⟩ := h; rw [A.eq_sound h1, A.eq_sound h2]
theorem Em.eq_sound {r s : Em} (h : r.eq s = true) : r = s := by
  cases r <;> cases s <;> simp only [Em.eq, Bool.and_eq_true, beq_iff_eq, Bool.false_eq_true] at h
  · obtain ⟨rfl, h⟩ := h; rw [RI.eq_sound h]
  · obtain ⟨rfl, h⟩ := h; rw [RB.eq_sound h]
  · obtain ⟨⟨⟨⟨⟨⟨rfl, h1⟩, h2⟩, rfl⟩, rfl⟩, rfl⟩, rfl⟩ := h
    rw [listEq_sound (fun _ _ h => A.eq_sound h) h1, listEq_sound (fun _ _ h => B.eq_sound h) h2]
  · rw [listEq_sound (fun x y h => by
      simp only [gEq, Bool.and_eq_true, beq_iff_eq] at h
      cases x; cases y
      simp only at h
      rw [B.eq_sound h.1, h.2]) h.1, B.eq_sound h.2]
theorem Smry.eq_sound {S T : Smry} (h : S.eq T = true) : S = T := by
  simp only [Smry.eq, Bool.and_eq_true] at h
  cases S; cases T
  simp only at h
  rw [listEq_sound (fun _ _ h => Em.eq_sound h) h.1.1, listEq_sound (fun _ _ h => A.eq_sound h) h.1.2, listEq_sound (fun _ _ h => B.eq_sound h) h.2]

/-! ### A turn's own numbers, and those from outside -/
def bigG : Nat := 1000000
def ov (e o : Env) : Env := { i := fun n => if n < bigG then e.i n else o.i (n - bigG), b := fun n => if n < bigG then e.b n else o.b (n - bigG) }

/-- How a loop is taken: its number among functions; which numbers from outside a turn needs; which slots turn, are forgotten; which stretches; which slots and stretches are told behind it; a turn. -/
structure LAnn where
  id : Nat
  ga : List Nat
  gb : List Nat
  hv : List Nat
  dr : List Nat
  hb : List Nat
  db : List Nat
  xs : List Nat
  xb : List Nat
  nI : Nat
  nB : Nat
  S : Smry

def idx (n : Nat) : List Nat → Nat → Option Nat
  | [], _ => none
  | m :: l, p => if m == n then some p else idx n l (p + 1)
theorem idx_spec {n : Nat} : ∀ {l : List Nat} {p q : Nat}, idx n l p = some q → p ≤ q ∧ l[q - p]? = some n
  | [], p, q, h => by simp [idx] at h
  | m :: l, p, q, h => by
    unfold idx at h
    split at h
    · rename_i he
      simp only [beq_iff_eq] at he
      simp only [Option.some.injEq] at h
      subst h; subst he
      simp
    · obtain ⟨h1, h2⟩ := idx_spec h
      refine ⟨by omega, ?_⟩
      rw [show q - p = (q - (p + 1)) + 1 by omega]
      simpa using h2
def rnA (ga : List Nat) : A → A
  | .v n => match idx n ga 0 with | some p => .v p | none => .v (bigG + n)
  | .c k => .c k
def rnB (gb : List Nat) : B → B
  | .v n => match idx n gb 0 with | some p => .v p | none => .v (bigG + n)
  | .c k => .c k
def rnC (L : LAnn) : C → C
  | .int k a => .int k (rnA L.ga a)
  | .bool b => .bool (rnB L.gb b)
  | .ptr l i o => .ptr (l.map fun p => (rnB L.gb p.1, p.2)) i o
  | .pix i o s n a k => .pix i o s n (rnA L.ga a) k
  | .slx i ks q n => .slx i ks (rnA L.ga q) (rnA L.ga n)
  | c => c
def rnS (L : LAnn) : S → S
  | .one agg l => .one agg (l.map (rnC L))
  | .tup l => .tup (l.map fun p => (p.1, p.2.map (rnC L)))
  | .any => .any
def rnG (L : LAnn) (g : Gd) : Gd := g.map fun p => (rnB L.gb p.1, p.2)
def hvC (L : LAnn) : List C → Nat → Nat → List C × Nat × Nat
  | [], i, b => ([], i, b)
  | .int k _ :: l, i, b => match hvC L l (i + 1) b with | (r, j) => (.int k (.v i) :: r, j)
  | .bool _ :: l, i, b => match hvC L l i (b + 1) with | (r, j) => (.bool (.v b) :: r, j)
  | c :: l, i, b => match hvC L l i b with | (r, j) => (rnC L c :: r, j)
def tmplTm (L : LAnn) : List SV → Nat → Nat → Nat → List SV × Nat × Nat
  | [], _, i, b => ([], i, b)
  | v :: l, t, i, b =>
    if L.dr.contains t then match tmplTm L l (t + 1) i b with | (r, j) => (anySV :: r, j)
    else if L.hv.contains t then match v with
      | { g := [], s := .one agg cs } => match hvC L cs i b with
        | (ds, i', b') => match tmplTm L l (t + 1) i' b' with | (r, j) => ({ g := [], s := .one agg ds } :: r, j)
      | _ => match tmplTm L l (t + 1) i b with | (r, j) => (anySV :: r, j)
    else match tmplTm L l (t + 1) i b with | (r, j) => ({ g := rnG L v.g, s := rnS L v.s } :: r, j)
def tmplHb (L : LAnn) (hp : Hl) : List Nat → Nat → Nat → Hl
  | [], _, _ => []
  | id :: l, i, b => match hpOf hp id with
    | some bl => match hvC L bl.cells i b with | (ds, i', b') => (id, { g := rnG L bl.g, ro := bl.ro, cells := ds }) :: tmplHb L hp l i' b'
    | none => tmplHb L hp l i b
def tmplHr (L : LAnn) (hp : Hl) : List Nat → Hl
  | [] => []
  | id :: l => if L.hb.contains id || L.db.contains id then tmplHr L hp l else match hpOf hp id with
    | some bl => (id, { g := rnG L bl.g, ro := bl.ro, cells := bl.cells.map (rnC L) }) :: tmplHr L hp l
    | none => tmplHr L hp l
def loopT (L : LAnn) (s : St) : St :=
  match tmplTm L s.tm 0 L.ga.length L.gb.length with
  | (tm, i, b) => { tm := tm, hp := tmplHb L s.hp L.hb i b ++ tmplHr L s.hp (dedup (s.hp.map (·.1))) }
def atI : List C → List A
  | [] => []
  | .int _ a :: l => a :: atI l
  | _ :: l => atI l
def atB : List C → List B
  | [] => []
  | .bool a :: l => a :: atB l
  | _ :: l => atB l
def sCells : S → List C
  | .one _ l => l
  | .tup l => (l.map (·.2)).flatten
  | .any => []
def cellsOfSt (ts bs : List Nat) (s : St) : List C := (ts.map fun t => match s.tm[t]? with | some v => sCells v.s | none => []).flatten ++ (bs.map fun i => match hpOf s.hp i with | some b => b.cells | none => []).flatten
def loopAi (L : LAnn) (s : St) : List A := L.ga.map A.v ++ atI (cellsOfSt L.hv L.hb s)
def loopAb (L : LAnn) (s : St) : List B := L.gb.map B.v ++ atB (cellsOfSt L.hv L.hb s)
def loopNi (L : LAnn) (s : St) : List A := (List.range L.ga.length).map A.v ++ atI (cellsOfSt L.hv L.hb s)
def loopNb (L : LAnn) (s : St) : List B := (List.range L.gb.length).map B.v ++ atB (cellsOfSt L.hv L.hb s)
def vsI (n : Nat) : List A → List Nat
  | [] => []
  | .v m :: l => if Nat.ble n m && Nat.blt m bigG then m :: vsI n l else vsI n l
  | .c _ :: l => vsI n l
def vsB (n : Nat) : List B → List Nat
  | [] => []
  | .v m :: l => if Nat.ble n m && Nat.blt m bigG then m :: vsB n l else vsB n l
  | .c _ :: l => vsB n l
def expI (L : LAnn) (O : Outs) : List Nat := dedup (O.map fun p => vsI L.ga.length (atI (cellsOfSt L.xs L.xb p.2.2))).flatten
def expB (L : LAnn) (O : Outs) : List Nat := dedup (O.map fun p => vsB L.gb.length (atB (cellsOfSt L.xs L.xb p.2.2))).flatten
def renI (ga : List Nat) (xi : List Nat) (i0 : Nat) (m : Nat) : Option A :=
  if Nat.blt m ga.length then (ga[m]?).map A.v else if Nat.blt m bigG then (idx m xi 0).map fun p => .v (i0 + p) else some (.v (m - bigG))
def renB (gb : List Nat) (xb : List Nat) (b0 : Nat) (m : Nat) : Option B :=
  if Nat.blt m gb.length then (gb[m]?).map B.v else if Nat.blt m bigG then (idx m xb 0).map fun p => .v (b0 + p) else some (.v (m - bigG))

def selsM : Outs → M (List B)
  | [] => pure []
  | (_, q, _) :: O => do
    let b ← gAtom q
    let l ← selsM O
    pure (b :: l)
theorem selsM_snd {Φ : Funs} {ρ : Env} : ∀ (O : Outs), Snd Φ ρ (selsM O) (fun l => l.length = O.length ∧ ∀ (i : Nat) p, O[i]? = some p → ∃ b, l[i]? = some b ∧ b.d ρ = Gd.d ρ p.2.1)
  | [] => Snd.pure ⟨rfl, fun i p h => by simp at h⟩
  | (k, q, s) :: O => by
    unfold selsM
    refine Snd.bind (gAtom_snd q) fun b hb => Snd.bind (selsM_snd O) fun l hl => Snd.pure ⟨by simp [hl.1], fun i p h => ?_⟩
    cases i with
    | zero => simp at h; subst h; exact ⟨b, by simp, hb⟩
    | succ i => simp at h; simpa using hl.2 i p h
def mapOuts (m : Nat) (R : Ren) : Nat → Outs → Outs
  | _, [] => []
  | j, (k, q, s) :: O => (k, [(.v (m + j), true)], s.ren R) :: mapOuts m R (j + 1) O
theorem mapOuts_get {m : Nat} {R : Ren} {k : Kd} : ∀ {O : Outs} {j : Nat}, match getK k O with
    | none => getK k (mapOuts m R j O) = none
    | some (q, s) => ∃ i k', O[i]? = some (k', q, s) ∧ getK k (mapOuts m R j O) = some ([(.v (m + (j + i)), true)], s.ren R)
  | [], j => by simp [getK, mapOuts]
  | (l, q, s) :: O, j => by
    have ih := mapOuts_get (m := m) (R := R) (k := k) (O := O) (j := j + 1)
    by_cases hk : k.eq l = true
    · rw [show getK k ((l, q, s) :: O) = some (q, s) by simp [getK, hk]]
      exact ⟨0, l, by simp, by simp [mapOuts, getK, hk]⟩
    · rw [show getK k ((l, q, s) :: O) = getK k O by simp [getK, hk]]
      cases hg : getK k O with
      | none =>
        rw [hg] at ih
        simp only at ih ⊢
        simp [mapOuts, getK, hk, ih]
      | some p =>
        obtain ⟨q', s'⟩ := p
        rw [hg] at ih
        simp only at ih ⊢
        obtain ⟨i, k', h1, h2⟩ := ih
        exact ⟨i + 1, k', by simpa using h1, by simp only [mapOuts, getK, hk]; simpa [Nat.add_assoc, Nat.add_comm 1 i] using h2⟩

def Em.ltG : Em → Bool
  | .di n r => Nat.blt n bigG && r.lt bigG bigG
  | .db n r => Nat.blt n bigG && r.lt bigG bigG
  | .call _ ai ab i ni b nb => ai.all (A.lt bigG) && ab.all (B.lt bigG) && Nat.ble (i + ni) bigG && Nat.ble (b + nb) bigG
  | .ob g b => (g.all fun p => p.1.lt bigG) && b.lt bigG
theorem ov_agree (e o : Env) : Agree bigG bigG e (ov e o) := ⟨fun n h => by show (if n < bigG then e.i n else _) = _; rw [if_pos h], fun n h => by show (if n < bigG then e.b n else _) = _; rw [if_pos h]⟩
theorem ov_i {e o : Env} {n : Nat} (h : n < bigG) : (ov e o).i n = e.i n := (ov_agree e o).1 n h
theorem ov_b {e o : Env} {n : Nat} (h : n < bigG) : (ov e o).b n = e.b n := (ov_agree e o).2 n h
theorem ov_i' {e o : Env} {n : Nat} (h : ¬ n < bigG) : (ov e o).i n = o.i (n - bigG) := by show (if n < bigG then e.i n else _) = _; rw [if_neg h]
theorem ov_b' {e o : Env} {n : Nat} (h : ¬ n < bigG) : (ov e o).b n = o.b (n - bigG) := by show (if n < bigG then e.b n else _) = _; rw [if_neg h]
theorem Gd.d_ov {e o : Env} : ∀ {g : Gd}, (g.all fun p => p.1.lt bigG) = true → Gd.d (ov e o) g = Gd.d e g
  | [], _ => rfl
  | (b, k) :: g, h => by
    simp only [List.all_cons, Bool.and_eq_true] at h
    rw [Gd.d_cons, Gd.d_cons, Gd.d_ov h.2, B.d_agree (ov_agree e o) h.1]
theorem Em.ok_ov {Φ : Funs} {e o : Env} {m : Em} (h : m.ltG = true) (hk : m.ok Φ e) : m.ok Φ (ov e o) := by
  have ha := ov_agree e o
  cases m with
  | di n r =>
    simp only [Em.ltG, Bool.and_eq_true, Nat.blt_eq] at h
    show (ov e o).i n = _
    rw [ov_i h.1, RI.d_agree ha h.2]
    exact hk
  | db n r =>
    simp only [Em.ltG, Bool.and_eq_true, Nat.blt_eq] at h
    show (ov e o).b n = _
    rw [ov_b h.1, RB.d_agree ha h.2]
    exact hk
  | call f ai ab i ni b nb =>
    simp only [Em.ltG, Bool.and_eq_true, Nat.ble_eq, List.all_eq_true] at h
    obtain ⟨⟨⟨h1, h2⟩, h3⟩, h4⟩ := h
    have e1 : ai.map (A.d (ov e o)) = ai.map (A.d e) := List.map_congr_left fun a hm => A.d_agree ha (h1 a hm)
    have e2 : ab.map (B.d (ov e o)) = ab.map (B.d e) := List.map_congr_left fun a hm => B.d_agree ha (h2 a hm)
    obtain ⟨k1, k2⟩ := hk
    refine ⟨fun j hj => ?_, fun j hj => ?_⟩
    · rw [e1, e2, ← k1 j hj]
      exact ov_i (by omega)
    · rw [e1, e2, ← k2 j hj]
      exact ov_b (by omega)
  | ob g b =>
    simp only [Em.ltG, Bool.and_eq_true] at h
    intro hg
    rw [Gd.d_ov h.1] at hg
    rw [B.d_agree ha h.2]
    exact hk hg

def nifE (l : List A) (m : Nat) : Option A := if Nat.blt m bigG then l[m]? else some (.v (m - bigG))
def nbfE (l : List B) (m : Nat) : Option B := if Nat.blt m bigG then l[m]? else some (.v (m - bigG))
def nifN (l : List A) (m : Nat) : Option A := if Nat.blt m bigG then l[m]? else some (.v m)
def nbfN (l : List B) (m : Nat) : Option B := if Nat.blt m bigG then l[m]? else some (.v m)

/-- What went wrong, for who looks. -/
def offTm (ni : Nat → Option A) (nb : Nat → Option B) : Nat → List SV → List SV → List A
  | t, u :: l, v :: m => if u.mat ni nb v then offTm ni nb (t + 1) l m else .c t :: offTm ni nb (t + 1) l m
  | _, _, _ => []
def offHp (ni : Nat → Option A) (nb : Nat → Option B) (s : Hl) (t : Hl) : List A := (t.filter fun p => !(blMat ni nb s p)).map fun p => .c p.1
def ghI : List A → List A
  | [] => []
  | .v n :: l => if Nat.blt n bigG then ghI l else .c (n - bigG : Nat) :: ghI l
  | _ :: l => ghI l
def ghB : List B → List A
  | [] => []
  | .v n :: l => if Nat.blt n bigG then ghB l else .c (n - bigG : Nat) :: ghB l
  | _ :: l => ghB l
def emIs : Em → List A
  | .di _ (.ar _ _ a b) => [a, b]
  | .di _ (.cv _ a) => [a]
  | .di _ (.ite _ a b) => [a, b]
  | .di _ (.mn a b) => [a, b]
  | .di _ (.mx a b) => [a, b]
  | .di _ (.tab _ a) => [a]
  | .di _ (.get q a _ _) => [q, a]
  | .di _ (.lenq q _) => [q]
  | .db _ (.getb q a _ _) => [q, a]
  | .db _ (.cm _ a b) => [a, b]
  | .call _ ai _ _ _ _ _ => ai
  | _ => []
def emBs : Em → List B
  | .di _ (.ite c _ _) => [c]
  | .db _ (.not a) => [a]
  | .db _ (.and a b) => [a, b]
  | .db _ (.or a b) => [a, b]
  | .db _ (.eqb a b) => [a, b]
  | .db _ (.ite c a b) => [c, a, b]
  | .call _ _ ab _ _ _ _ => ab
  | .ob g b => b :: g.map (·.1)
  | _ => []
def dgEm : Em → Em
  | .ob g b => .call 1000009 (g.map fun p => .c (if p.2 then 1 else 0)) (b :: g.map (·.1)) 0 0 0 0
  | e => e
def diag (t s sn : St) (ai ni : List A) (ab nb : List B) (S : Smry) : List Em :=
  [.call 1000001 (offTm (nifE ai) (nbfE ab) 0 t.tm s.tm) [] 0 0 0 0, .call 1000002 (offHp (nifE ai) (nbfE ab) s.hp t.hp) [] 0 0 0 0,
   .call 1000003 (offTm (nifN ni) (nbfN nb) 0 t.tm sn.tm) [] 0 0 0 0, .call 1000004 (offHp (nifN ni) (nbfN nb) sn.hp t.hp) [] 0 0 0 0,
   .call 1000005 (ghI ((S.em.map emIs).flatten ++ S.ri)) [] 0 0 0 0, .call 1000006 (ghB ((S.em.map emBs).flatten ++ S.rb)) [] 0 0 0 0,
   .call 1000007 [.c ai.length, .c ab.length] [] 0 0 0 0] ++ S.em.map dgEm ++ [.call 1000008 S.ri S.rb 0 0 0 0]

def loopChk (L : LAnn) (n : Nat) (t s sn : St) (ai ni : List A) (ab nb : List B) (S : Smry) : Bool :=
  t.mat (nifE ai) (nbfE ab) s && t.mat (nifN ni) (nbfN nb) sn && t.below n && wsEm S.em ai.length ab.length && S.em.all Em.ltG && S.ri.all (A.lt bigG) && S.rb.all (B.lt bigG) && S.eq L.S &&
  ai.length == L.nI && ab.length == L.nB && ni.length == L.nI && nb.length == L.nB && Nat.ble L.nI bigG && Nat.ble L.nB bigG
def loopM (L : LAnn) (f : St → M Outs) (s : St) : M Outs := fun c =>
  match f (loopT L s) { i := (loopAi L s).length, b := (loopAb L s).length, id := c.id } with
  | none => none
  | some (O, c1, o1) => match getK .n O with
    | none => none
    | some (qn, sn) => match gAtom qn c1 with
      | none => none
      | some (cont, c2, o2) => match selsM (dropK .n O) c2 with
        | none => none
        | some (sels, _, o3) =>
          let xi := expI L (dropK .n O)
          let xb := expB L (dropK .n O)
          let S : Smry := { em := o1 ++ (o2 ++ o3), ri := loopNi L sn ++ xi.map A.v, rb := cont :: (loopNb L sn ++ (sels ++ xb.map B.v)) }
          let nb := 1 + (sels.length + xb.length)
          some (single (mapOuts (c.b + 1) { i := renI L.ga xi c.i, b := renB L.gb xb (c.b + 1 + sels.length), n := c.id } 0 (dropK .n O)),
            { i := c.i + xi.length, b := c.b + nb, id := c.id },
            .call L.id (loopAi L s) (loopAb L s) c.i xi.length c.b nb :: .ob [] (.v c.b) ::
              (if loopChk L c.id (loopT L s) s sn (loopAi L s) (loopNi L sn) (loopAb L s) (loopNb L sn) S then [] else .ob [] (.c false) :: diag (loopT L s) s sn (loopAi L s) (loopNi L sn) (loopAb L s) (loopNb L sn) S))

def envE (Φ : Funs) (S : Smry) (is : List Int) (bs : List Bool) : Env := envOf (evEm Φ S.em is bs).1 (evEm Φ S.em is bs).2
theorem run_true (Φ : Funs) (S : Smry) (is : List Int) (bs : List Bool) : S.run Φ true is bs = (S.ri.map (A.d (envE Φ S is bs)), obAll (envE Φ S is bs) S.em :: S.rb.map (B.d (envE Φ S is bs))) := rfl
theorem envE_in {Φ : Funs} {S : Smry} {is : List Int} {bs : List Bool} (hw : wsEm S.em is.length bs.length = true) : (∀ m, m < is.length → (envE Φ S is bs).i m = is.getD m 0) ∧ (∀ m, m < bs.length → (envE Φ S is bs).b m = bs.getD m false) := by
  have := (evEm_spec Φ S.em is bs hw).1
  exact ⟨fun m hm => this.1 m hm, fun m hm => this.2 m hm⟩

/-- What a loop's site has, of one turn. -/
structure Turn (Φ : Funs) (f : St → M Outs) (L : LAnn) (c : Ctr) (t sn : St) (O : Outs) (c1 : Ctr) (qn : Gd) (cont : B) (sels : List B) (ni : List A) (nb : List B) (xi xb : List Nat) (S : Smry) : Prop where
  run : ∃ o1 o2 o3 c2 c3, f t { i := L.nI, b := L.nB, id := c.id } = some (O, c1, o1) ∧ gAtom qn c1 = some (cont, c2, o2) ∧ selsM (dropK .n O) c2 = some (sels, c3, o3) ∧ S.em = o1 ++ (o2 ++ o3)
  hn : getK .n O = some (qn, sn)
  ri : S.ri = ni ++ xi.map A.v
  rb : S.rb = cont :: (nb ++ (sels ++ xb.map B.v))
  lni : ni.length = L.nI
  lnb : nb.length = L.nB
  mat : t.mat (nifN ni) (nbfN nb) sn = true
  bel : t.below c.id = true
  ws : wsEm S.em L.nI L.nB = true
  em : ∀ e, e ∈ S.em → e.ltG = true
  rig : ∀ a, a ∈ S.ri → a.lt bigG = true
  rbg : ∀ a, a ∈ S.rb → a.lt bigG = true
  gI : L.nI ≤ bigG
  gB : L.nB ≤ bigG
  invI : ∀ m, m < L.ga.length → ni[m]? = some (.v m)
  invB : ∀ m, m < L.gb.length → nb[m]? = some (.v m)

theorem loop_turns {P : Program} {Φ : Funs} {x : Cx} {ρ : Env} {L : LAnn} {cd : Code} {f : St → M Outs} (hf : ∀ ρ, CodeOk P Φ x ρ cd f) {c : Ctr} {t sn : St} {O : Outs} {c1 : Ctr} {qn : Gd} {cont : B} {sels : List B}
    {ni : List A} {nb : List B} {xi xb : List Nat} {S : Smry} (T : Turn Φ f L c t sn O c1 qn cont sels ni nb xi xb S)
    {β : Beta} (hlow : ∀ i r, β i = some r → i < c.id) (hgl : ∀ (g : Nat) (vs : List Value), x.gl[g]? = some vs → β g = some (gRg g vs)) (hra : ∀ (j : Nat) (r : Rg), x.gr[j]? = some r → β (x.ng + j) = some r)
    {Q : Exit → Act → World → Prop} {n : Nat} {is : List Int} {bs : List Bool} {o : Fl} (h : LRun (S.run Φ true) L.nI L.nB n is bs o) :
    is.length = L.nI → bs.length = L.nB → (∀ m, m < L.ga.length → is.getD m 0 = ρ.i (L.ga.getD m 0)) → (∀ m, m < L.gb.length → bs.getD m false = ρ.b (L.gb.getD m 0)) →
    (∀ (is' : List Int) (bs' : List Bool), is'.length = L.nI → bs'.length = L.nB → (∀ m, m < L.ga.length → is'.getD m 0 = ρ.i (L.ga.getD m 0)) → (∀ m, m < L.gb.length → bs'.getD m false = ρ.b (L.gb.getD m 0)) →
      o = ((S.ri.map (A.d (envE Φ S is' bs'))).drop L.nI, ((nb ++ (sels ++ xb.map B.v)).map (B.d (envE Φ S is' bs'))).drop L.nB) → (∀ (i : Nat) p, (dropK .n O)[i]? = some p → ∃ b, sels[i]? = some b ∧ b.d (envE Φ S is' bs') = Gd.d (ov (envE Φ S is' bs') ρ) p.2.1) →
      ∀ (ex : Exit) (K : Kd) (a' : Act) (w' : World) (β1 : Beta), Ext β β1 → kdOf ex = some K → K ≠ .n → OutMt x (ov (envE Φ S is' bs') ρ) β1 c1 O K a' w' → Q ex a' w') →
    ∀ (β1 : Beta) (a : Act) (w : World), Ext β β1 → Fresh β1 c → Rel x (ov (envE Φ S is bs) ρ) β1 t a w → Code.rounds P cd Q n a w := by
  obtain ⟨o1, o2, o3, c2, c3, h1, h2, h3, hem⟩ := T.run
  -- one turn
  have one : ∀ (is : List Int) (bs : List Bool), is.length = L.nI → bs.length = L.nB → obAll (envE Φ S is bs) S.em = true → Good Φ (ov (envE Φ S is bs) ρ) o1 ∧ cont.d (ov (envE Φ S is bs) ρ) = Gd.d (ov (envE Φ S is bs) ρ) qn ∧
      (∀ (i : Nat) p, (dropK .n O)[i]? = some p → ∃ b, sels[i]? = some b ∧ b.d (envE Φ S is bs) = Gd.d (ov (envE Φ S is bs) ρ) p.2.1) := by
    intro is bs hi hb ho
    have hg : Good Φ (envE Φ S is bs) S.em := good_of (by rw [hi, hb]; exact T.ws) ho
    have hg' : Good Φ (ov (envE Φ S is bs) ρ) S.em := fun e he => Em.ok_ov (T.em e he) (hg e he)
    rw [hem, Good.append, Good.append] at hg'
    refine ⟨hg'.1, gAtom_snd qn _ _ _ _ h2 hg'.2.1, fun i p hp => ?_⟩
    obtain ⟨b, hb1, hb2⟩ := (selsM_snd (dropK .n O) _ _ _ _ h3 hg'.2.2).2 i p hp
    refine ⟨b, hb1, ?_⟩
    rw [← hb2, B.d_agree (ov_agree _ _) (T.rbg b _)]
    rw [T.rb]
    simp [List.mem_of_getElem? hb1]
  induction h with
  | @stop is bs rb he =>
    intro hi hb hiI hiB hend β1 a w hE hF hR
    rw [run_true] at he
    simp only [List.cons.injEq] at he
    obtain ⟨ho, he⟩ := he
    obtain ⟨g1, g2, g3⟩ := one is bs hi hb ho
    have hcont : cont.d (envE Φ S is bs) = false := by
      rw [T.rb] at he
      simp only [List.map_cons, List.cons.injEq] at he
      exact he.1
    have hrb : rb = (nb ++ (sels ++ xb.map B.v)).map (B.d (envE Φ S is bs)) := by
      rw [T.rb] at he
      simp only [List.map_cons, List.cons.injEq] at he
      exact he.2.symm
    have hcont' : cont.d (ov (envE Φ S is bs) ρ) = false := by
      rw [B.d_agree (ov_agree _ _) (T.rbg cont (by rw [T.rb]; simp))]; exact hcont
    show cd.wp P (Exit.then (Code.rounds P cd Q 0) Q) a w
    refine hf (ov (envE Φ S is bs) ρ) t _ c1 O o1 h1 g1 β1 a w hR (fun i hi => hF i hi) _ fun ex a' w' K hk hO => ?_
    have hK : K ≠ .n := by
      intro e
      subst e
      have := (hO.1 _ _ _ T.hn).2 rfl
      rw [← g2, hcont'] at this
      cases this
    have hq := hend is bs hi hb hiI hiB (by rw [hrb, run_true]) g3 ex K a' w' β1 hE hk hK hO
    cases ex <;> first | exact hq | (simp only [kdOf, Option.some.injEq] at hk; exact absurd hk.symm hK)
  | @turn n is bs rb o he hrun ih =>
    intro hi hb hiI hiB hend β1 a w hE hF hR
    rw [run_true] at he
    simp only [List.cons.injEq] at he
    obtain ⟨ho, he⟩ := he
    obtain ⟨g1, g2, g3⟩ := one is bs hi hb ho
    have hcont : cont.d (envE Φ S is bs) = true := by
      rw [T.rb] at he
      simp only [List.map_cons, List.cons.injEq] at he
      exact he.1
    have hrb : rb = (nb ++ (sels ++ xb.map B.v)).map (B.d (envE Φ S is bs)) := by
      rw [T.rb] at he
      simp only [List.map_cons, List.cons.injEq] at he
      exact he.2.symm
    have hcont' : cont.d (ov (envE Φ S is bs) ρ) = true := by
      rw [B.d_agree (ov_agree _ _) (T.rbg cont (by rw [T.rb]; simp))]; exact hcont
    -- the next numbers
    have hnis : (S.run Φ true is bs).1.take L.nI = ni.map (A.d (envE Φ S is bs)) := by
      rw [run_true, T.ri]
      simp [← T.lni]
    have hnbs : rb.take L.nB = nb.map (B.d (envE Φ S is bs)) := by
      rw [hrb]
      simp [← T.lnb]
    rw [hnis, hnbs] at ih hrun
    have hin := envE_in (Φ := Φ) (S := S) (is := is) (bs := bs) (by rw [hi, hb]; exact T.ws)
    have hin' := envE_in (Φ := Φ) (S := S) (is := ni.map (A.d (envE Φ S is bs))) (bs := nb.map (B.d (envE Φ S is bs))) (by simp only [List.length_map, T.lni, T.lnb]; exact T.ws)
    have hga : L.ga.length ≤ L.nI := by
      rcases Nat.lt_or_ge L.nI L.ga.length with h | h
      · have := T.invI L.nI h
        rw [← T.lni] at this
        simp at this
      · exact h
    have hgb : L.gb.length ≤ L.nB := by
      rcases Nat.lt_or_ge L.nB L.gb.length with h | h
      · have := T.invB L.nB h
        rw [← T.lnb] at this
        simp at this
      · exact h
    show cd.wp P (Exit.then (Code.rounds P cd Q n) Q) a w
    refine hf (ov (envE Φ S is bs) ρ) t _ c1 O o1 h1 g1 β1 a w hR (fun i hi => hF i hi) _ fun ex a' w' K hk hO => ?_
    obtain ⟨q, s', β', hK, hE', hR', hF'⟩ := hO.2
    have hKn : K = .n := by
      have := (hO.1 _ _ _ T.hn).1 (by rw [← g2]; exact hcont')
      exact this.symm
    subst hKn
    rw [T.hn] at hK
    simp only [Option.some.injEq, Prod.mk.injEq] at hK
    obtain ⟨rfl, rfl⟩ := hK
    have hex : ex = .normal := by cases ex <;> simp_all [kdOf]
    subst hex
    show Code.rounds P cd Q n a' w'
    have hEE : Ext β β' := hE.trans hE'
    have hcut : Ext β (β'.cut c.id) := fun i r hi => cut_low (hlow i r hi) (hEE i r hi)
    refine ih (by simp [T.lni]) (by simp [T.lnb]) (fun m hm => ?_) (fun m hm => ?_) hend (β'.cut c.id) a' w' hcut (fun i hi => by unfold Beta.cut; rw [if_neg (by omega)]) ?_
    · rw [← hiI m hm]
      have := T.invI m hm
      simp only [List.getD_eq_getElem?_getD, List.getElem?_map, this, Option.map_some, Option.getD_some]
      show (envE Φ S is bs).i m = _
      rw [hin.1 m (by omega)]
      simp
    · rw [← hiB m hm]
      have := T.invB m hm
      simp only [List.getD_eq_getElem?_getD, List.getElem?_map, this, Option.map_some, Option.getD_some]
      show (envE Φ S is bs).b m = _
      rw [hin.2 m (by omega)]
      simp
    · refine Rel.cut (Rel.mat (ρ1 := ov (envE Φ S is bs) ρ) ⟨fun j a hj => ?_, fun j a hj => ?_⟩ hR' T.mat) T.bel hEE hlow hgl hra
      · unfold nifN at hj
        split at hj
        · rename_i hlt
          simp only [Nat.blt_eq] at hlt
          have hjl := (List.getElem?_eq_some_iff.1 hj).1
          rw [ov_i hlt, hin'.1 j (by simpa using hjl)]
          simp only [List.getD_eq_getElem?_getD, List.getElem?_map, hj, Option.map_some, Option.getD_some]
          exact (A.d_agree (ov_agree _ _) (T.rig a (by rw [T.ri]; simp [List.mem_of_getElem? hj]))).symm
        · rename_i hlt
          simp only [Nat.blt_eq] at hlt
          simp only [Option.some.injEq] at hj
          subst hj
          rw [ov_i' hlt]
          show _ = (ov (envE Φ S is bs) ρ).i j
          rw [ov_i' hlt]
      · unfold nbfN at hj
        split at hj
        · rename_i hlt
          simp only [Nat.blt_eq] at hlt
          have hjl := (List.getElem?_eq_some_iff.1 hj).1
          rw [ov_b hlt, hin'.2 j (by simpa using hjl)]
          simp only [List.getD_eq_getElem?_getD, List.getElem?_map, hj, Option.map_some, Option.getD_some]
          exact (B.d_agree (ov_agree _ _) (T.rbg a (by rw [T.rb]; simp [List.mem_of_getElem? hj]))).symm
        · rename_i hlt
          simp only [Nat.blt_eq] at hlt
          simp only [Option.some.injEq] at hj
          subst hj
          rw [ov_b' hlt]
          show _ = (ov (envE Φ S is bs) ρ).b j
          rw [ov_b' hlt]

theorem loopM_ok {P : Program} {Φ : Funs} {x : Cx} {ρ : Env} {L : LAnn} {cd : Code} {f : St → M Outs} (hf : ∀ ρ, CodeOk P Φ x ρ cd f) (hΦ : Φ L.id = loopF (L.S.run Φ true) L.nI L.nB) :
    OkW Φ x ρ (fun Q a w => (Code.loop cd).wp P Q a w) (loopM L f) := by
  intro s c c' O' out h hg β a w hR hF Q hQ
  unfold loopM at h
  split at h
  · cases h
  rename_i O c1 o1 h1
  split at h
  · cases h
  rename_i qn sn hn
  split at h
  · cases h
  rename_i cont c2 o2 h2
  split at h
  · cases h
  rename_i sels c3 o3 h3
  simp only [Option.some.injEq, Prod.mk.injEq] at h
  obtain ⟨hO', hc', hout⟩ := h
  generalize hxi : expI L (dropK .n O) = xi at hO' hc' hout
  generalize hxb : expB L (dropK .n O) = xb at hO' hc' hout
  generalize hSd : ({ em := o1 ++ (o2 ++ o3), ri := loopNi L sn ++ xi.map A.v, rb := cont :: (loopNb L sn ++ (sels ++ xb.map B.v)) } : Smry) = S at hO' hc' hout
  -- nothing went wrong
  have hchk : loopChk L c.id (loopT L s) s sn (loopAi L s) (loopNi L sn) (loopAb L s) (loopNb L sn) S = true := by
    cases hd : loopChk L c.id (loopT L s) s sn (loopAi L s) (loopNi L sn) (loopAb L s) (loopNb L sn) S with
    | true => rfl
    | false =>
      rw [hd] at hout
      simp only [Bool.false_eq_true, if_false] at hout
      subst hout
      have := hg (.ob [] (.c false)) (by simp) rfl
      simp at this
  rw [hchk] at hout
  simp only [if_true] at hout
  subst hout
  simp only [loopChk, Bool.and_eq_true, beq_iff_eq, List.all_eq_true, Nat.ble_eq] at hchk
  obtain ⟨⟨⟨⟨⟨⟨⟨⟨⟨⟨⟨⟨⟨k1, k2⟩, k3⟩, k4⟩, k5⟩, k6⟩, k7⟩, k8⟩, k9⟩, k10⟩, k11⟩, k12⟩, k13⟩, k14⟩ := hchk
  have hSL := Smry.eq_sound k8
  rw [← hSL] at hΦ
  rw [Good.cons, Good.cons] at hg
  obtain ⟨⟨hcI, hcB⟩, hob, _⟩ := hg
  have hob' : (B.v c.b).d ρ = true := hob rfl
  have hb0 := hcB 0 (by omega)
  rw [Nat.add_zero, hΦ] at hb0
  have hok : (loopF (S.run Φ true) L.nI L.nB ((loopAi L s).map (A.d ρ)) ((loopAb L s).map (B.d ρ))).2.getD 0 false = true := by rw [← hb0]; exact hob'
  obtain ⟨n, o, hrun, hval⟩ := loopF_inv hok
  rw [hΦ, hval] at hcI hcB
  have hfr : ∀ i r, β i = some r → i < c.id := fun i r hi => by
    rcases Nat.lt_or_ge i c.id with h | h
    · exact h
    · rw [hF i h] at hi; cases hi
  have T : Turn Φ f L c (loopT L s) sn O c1 qn cont sels (loopNi L sn) (loopNb L sn) xi xb S := by
    refine ⟨⟨o1, o2, o3, c2, c3, ?_, h2, h3, ?_⟩, hn, ?_, ?_, k11, k12, k2, k3, ?_, k5, k6, k7, k13, k14, fun m hm => ?_, fun m hm => ?_⟩
    · rw [← k9, ← k10]; exact h1
    · rw [← hSd]
    · rw [← hSd]
    · rw [← hSd]
    · rw [← k9, ← k10]; exact k4
    · unfold loopNi
      rw [List.getElem?_append_left (by simpa using hm)]
      simp [hm]
    · unfold loopNb
      rw [List.getElem?_append_left (by simpa using hm)]
      simp [hm]
  have hai : ∀ m, m < L.ga.length → (loopAi L s)[m]? = some (.v (L.ga.getD m 0)) := fun m hm => by
    unfold loopAi
    rw [List.getElem?_append_left (by simpa using hm)]
    simp [hm]
  have hab : ∀ m, m < L.gb.length → (loopAb L s)[m]? = some (.v (L.gb.getD m 0)) := fun m hm => by
    unfold loopAb
    rw [List.getElem?_append_left (by simpa using hm)]
    simp [hm]
  have hin := envE_in (Φ := Φ) (S := S) (is := (loopAi L s).map (A.d ρ)) (bs := (loopAb L s).map (B.d ρ)) (by simp only [List.length_map]; exact k4)
  refine wp_loop_rounds n (loop_turns (ρ := ρ) hf T hfr (fun g vs hg => hR.gl g vs hg) (fun j r hj => hR.ra j r hj) hrun (by simp [k9]) (by simp [k10]) (fun m hm => ?_) (fun m hm => ?_) (fun is' bs' li lb hI hB ho hsel ex K a' w' β1 hE hk hKn hO => ?_) β a w (Ext.refl β) hF ?_)
  · simp only [List.getD_eq_getElem?_getD, List.getElem?_map, hai m hm, Option.map_some, Option.getD_some]
    rfl
  · simp only [List.getD_eq_getElem?_getD, List.getElem?_map, hab m hm, Option.map_some, Option.getD_some]
    rfl
  · -- left
    refine hQ ex a' w' K hk ?_
    subst hO'
    subst hc'
    have hin2 := envE_in (Φ := Φ) (S := S) (is := is') (bs := bs') (by rw [li, lb]; exact T.ws)
    have hga : L.ga.length ≤ L.nI := by
      have := k11
      unfold loopNi at this
      simp only [List.length_append, List.length_map, List.length_range] at this
      omega
    have hgb : L.gb.length ≤ L.nB := by
      have := k12
      unfold loopNb at this
      simp only [List.length_append, List.length_map, List.length_range] at this
      omega
    have ho1 : ∀ p m, xi[p]? = some m → ρ.i (c.i + p) = (envE Φ S is' bs').i m := fun p m hp => by
      have hpl := (List.getElem?_eq_some_iff.1 hp).1
      rw [hcI p hpl, ho]
      simp only [T.ri, List.map_append, List.getD_eq_getElem?_getD]
      rw [List.drop_left' (by simp [k11])]
      simp only [List.map_map, List.getElem?_map, hp, Option.map_some, Option.getD_some]
      rfl
    have ho2 : ∀ (j : Nat), j < sels.length + xb.length → ρ.b (c.b + 1 + j) = ((sels ++ xb.map B.v).map (B.d (envE Φ S is' bs'))).getD j false := fun j hj => by
      have := hcB (1 + j) (by omega)
      rw [show c.b + (1 + j) = c.b + 1 + j by omega] at this
      rw [this, ho, List.map_append, List.drop_left' (by simp [k12]), show 1 + j = j + 1 by omega, List.getD_cons_succ]
    refine single_mt ?_
    obtain ⟨hO1, q0, s0, β', hK, hE', hR', hF'⟩ := hO
    have hgk : getK K (dropK .n O) = some (q0, s0) := by
      rw [dropK_get, if_neg (fun h => hKn (Kd.eq_sound h).symm)]; exact hK
    have hren : NRen { i := renI L.ga xi c.i, b := renB L.gb xb (c.b + 1 + sels.length), n := c.id } (ov (envE Φ S is' bs') ρ) ρ := by
      refine ⟨fun j a hj => ?_, fun j a hj => ?_⟩
      · simp only [renI] at hj
        split at hj
        · rename_i hlt
          simp only [Nat.blt_eq] at hlt
          rw [List.getElem?_eq_getElem hlt] at hj
          simp only [Option.map_some, Option.some.injEq] at hj
          subst hj
          rw [ov_i (by omega), hin2.1 j (by omega), hI j hlt]
          simp [A.d, hlt]
        · split at hj
          · rename_i hlt
            simp only [Nat.blt_eq] at hlt
            cases hx : idx j xi 0 with
            | none => rw [hx] at hj; simp at hj
            | some p =>
              rw [hx] at hj
              simp only [Option.map_some, Option.some.injEq] at hj
              subst hj
              rw [ov_i hlt]
              have := (idx_spec hx).2
              rw [Nat.sub_zero] at this
              exact ho1 p j this
          · rename_i hlt
            simp only [Nat.blt_eq] at hlt
            simp only [Option.some.injEq] at hj
            subst hj
            rw [ov_i' hlt]
            rfl
      · simp only [renB] at hj
        split at hj
        · rename_i hlt
          simp only [Nat.blt_eq] at hlt
          rw [List.getElem?_eq_getElem hlt] at hj
          simp only [Option.map_some, Option.some.injEq] at hj
          subst hj
          rw [ov_b (by omega), hin2.2 j (by omega), hB j hlt]
          simp [B.d, hlt]
        · split at hj
          · rename_i hlt
            simp only [Nat.blt_eq] at hlt
            cases hx : idx j xb 0 with
            | none => rw [hx] at hj; simp at hj
            | some p =>
              rw [hx] at hj
              simp only [Option.map_some, Option.some.injEq] at hj
              subst hj
              rw [ov_b hlt]
              have := (idx_spec hx).2
              rw [Nat.sub_zero] at this
              have hpl := (List.getElem?_eq_some_iff.1 this).1
              have h2 := ho2 (sels.length + p) (by omega)
              show ρ.b (c.b + 1 + sels.length + p) = _
              rw [Nat.add_assoc (c.b + 1), h2]
              simp only [List.map_append, List.getD_eq_getElem?_getD]
              rw [List.getElem?_append_right (by simp)]
              simp [this, B.d]
          · rename_i hlt
            simp only [Nat.blt_eq] at hlt
            simp only [Option.some.injEq] at hj
            subst hj
            rw [ov_b' hlt]
            rfl
    have hguard : ∀ k q' s', getK k (mapOuts (c.b + 1) { i := renI L.ga xi c.i, b := renB L.gb xb (c.b + 1 + sels.length), n := c.id } 0 (dropK .n O)) = some (q', s') →
        ∃ q s, getK k (dropK .n O) = some (q, s) ∧ Gd.d ρ q' = Gd.d (ov (envE Φ S is' bs') ρ) q ∧ s' = s.ren { i := renI L.ga xi c.i, b := renB L.gb xb (c.b + 1 + sels.length), n := c.id } := by
      intro k q' s' hk'
      have hm := mapOuts_get (m := c.b + 1) (R := { i := renI L.ga xi c.i, b := renB L.gb xb (c.b + 1 + sels.length), n := c.id }) (k := k) (O := dropK .n O) (j := 0)
      cases hgk2 : getK k (dropK .n O) with
      | none => rw [hgk2] at hm; simp only at hm; rw [hm] at hk'; cases hk'
      | some p =>
        obtain ⟨q, s⟩ := p
        rw [hgk2] at hm
        simp only at hm
        obtain ⟨i, k', e1, e2⟩ := hm
        rw [hk'] at e2
        simp only [Option.some.injEq, Prod.mk.injEq] at e2
        obtain ⟨rfl, rfl⟩ := e2
        refine ⟨q, s, rfl, ?_, rfl⟩
        obtain ⟨b, hb1, hb2⟩ := hsel i _ e1
        have hbl := (List.getElem?_eq_some_iff.1 hb1).1
        have := ho2 i (by omega)
        simp only [Gd.d_cons, Gd.d_nil, Bool.and_true, B.d]
        rw [Nat.zero_add, this, ← hb2]
        simp only [List.map_append, List.getD_eq_getElem?_getD]
        rw [List.getElem?_append_left (by simpa using hbl)]
        simp [hb1]
    refine ⟨fun k q' s' hk' => ?_, ?_⟩
    · obtain ⟨q, s, e1, e2, _⟩ := hguard k q' s' hk'
      rw [e2]
      have hne : ¬ ((Kd.n).eq k = true) := fun h => by
        rw [dropK_get, if_pos h] at e1
        cases e1
      rw [dropK_get, if_neg hne] at e1
      exact hO1 k q s e1
    · have hm := mapOuts_get (m := c.b + 1) (R := { i := renI L.ga xi c.i, b := renB L.gb xb (c.b + 1 + sels.length), n := c.id }) (k := K) (O := dropK .n O) (j := 0)
      rw [hgk] at hm
      simp only at hm
      obtain ⟨i, k', e1, e2⟩ := hm
      refine ⟨_, _, β'.cut c.id, e2, fun i r hi => cut_low (hfr i r hi) (hE' i r (hE i r hi)), ?_, fun i hi => by unfold Beta.cut; rw [if_neg (by simp only at hi; omega)]⟩
      exact Rel.ren hren hR' (hE.trans hE') hfr (fun g vs hg => hR.gl g vs hg) (fun j r hj => hR.ra j r hj)
  · -- the first turn
    refine Rel.mat (ρ1 := ρ) ⟨fun j a hj => ?_, fun j a hj => ?_⟩ hR k1
    · unfold nifE at hj
      split at hj
      · rename_i hlt
        simp only [Nat.blt_eq] at hlt
        have hjl := (List.getElem?_eq_some_iff.1 hj).1
        rw [ov_i hlt, hin.1 j (by simpa using hjl)]
        simp [hj]
      · rename_i hlt
        simp only [Nat.blt_eq] at hlt
        simp only [Option.some.injEq] at hj
        subst hj
        rw [ov_i' hlt]
        rfl
    · unfold nbfE at hj
      split at hj
      · rename_i hlt
        simp only [Nat.blt_eq] at hlt
        have hjl := (List.getElem?_eq_some_iff.1 hj).1
        rw [ov_b hlt, hin.2 j (by simpa using hjl)]
        simp [hj]
      · rename_i hlt
        simp only [Nat.blt_eq] at hlt
        simp only [Option.some.injEq] at hj
        subst hj
        rw [ov_b' hlt]
        rfl
end Go.Proofs.YtalnndmnnffnmaaGreat.Sx
