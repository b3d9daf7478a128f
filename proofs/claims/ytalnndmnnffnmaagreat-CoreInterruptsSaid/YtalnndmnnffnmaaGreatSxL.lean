/-
  SX, part L: a frame and what is known of memory; a region in the order of its text; two frames as one. No condition.
-/
import Derived.Test.YtalnndmnnffnmaaGreatSxK
set_option linter.unusedVariables false
set_option linter.unusedSimpArgs false
namespace Go.Proofs.YtalnndmnnffnmaaGreat.Sx
open Go

abbrev Hl := List (Nat × Blk)
def hpOf : Hl → Hp
  | [], _ => none
  | (i, b) :: l, id => if i == id then some b else hpOf l id

structure St where
  tm : List SV
  hp : Hl

/-- What never changes in a walk: the world at the beginning, what may be written, how many package-level variables are known. -/
def ghOf : Gl → Nat → Hl
  | [], _ => []
  | vs :: l, g => (g, { g := [], ro := true, cells := vs.map ofC }) :: ghOf l (g + 1)
structure Cx where
  w0 : World
  R : List Rg
  gl : Gl
  gr : List Rg
def Cx.ng (x : Cx) : Nat := x.gl.length
def Cx.gh (x : Cx) : Hl := ghOf x.gl 0
def hpX (gh : Hl) (ng : Nat) (hp : Hl) : Hp := fun i => if Nat.blt i ng then hpOf gh i else hpOf hp i

structure Rel (x : Cx) (ρ : Env) (β : Beta) (σ : St) (a : Act) (w : World) : Prop where
  size : a.tmps.size = σ.tm.length
  slot : ∀ (t : Nat) (v : SV), σ.tm[t]? = some v → v.mt β ρ (a.tmps.getD t undef)
  df : a.defers = []
  hm : heapMt β ρ (hpOf σ.hp) w
  gm : heapMt β ρ (hpOf x.gh) w
  gro : ∀ id b, hpOf x.gh id = some b → b.ro = true
  bo : BetaOk x.w0.heap.size x.R β w
  kp : Keep x.R x.w0 w
  gl : ∀ (g : Nat) (vs : List Value), x.gl[g]? = some vs → β g = some (gRg g vs)
  ra : ∀ (j : Nat) (r : Rg), x.gr[j]? = some r → β (x.ng + j) = some r

def ev (ng : Nat) (σ : St) : Operand → SV
  | .tmp t => σ.tm.getD t anySV
  | .const v => { g := [], s := ofV v }
  | .global g => if Nat.blt g ng then { g := [], s := .one false [.ptr [] g 0] } else anySV
  | .func f => { g := [], s := .one false [.val (.func (.func f) #[] #[])] }
theorem anySV_mt {β : Beta} {ρ : Env} (v : Value) : anySV.mt β ρ v := ⟨fun _ => trivial, fun h => (by cases h)⟩
theorem ev_mt {x : Cx} {ρ : Env} {β : Beta} {σ : St} {a : Act} {w : World} (h : Rel x ρ β σ a w) (o : Operand) : (ev x.ng σ o).mt β ρ (a.eval o) := by
  cases o with
  | tmp t =>
    show (σ.tm.getD t anySV).mt β ρ (a.tmps.getD t undef)
    rw [List.getD_eq_getElem?_getD]
    cases ht : σ.tm[t]? with
    | none => exact anySV_mt _
    | some v => exact h.slot t v ht
  | const v => exact ⟨fun _ => ofV_mt v, fun h => (by cases h)⟩
  | global g =>
    show (if Nat.blt g x.ng then ({ g := [], s := .one false [.ptr [] g 0] } : SV) else anySV).mt β ρ (.pointer (some ⟨g, 0, none⟩))
    split
    · rename_i hg
      simp only [Nat.blt_eq] at hg
      exact ⟨fun _ => ⟨_, rfl, _, h.gl g _ (List.getElem?_eq_getElem hg), by simp [pick, gRg]⟩, fun h => (by cases h)⟩
    · exact anySV_mt _
  | func f => exact ⟨fun _ => ⟨_, rfl, rfl, rfl⟩, fun h => (by cases h)⟩

theorem Rel.hx {x : Cx} {ρ : Env} {β : Beta} {σ : St} {a : Act} {w : World} (h : Rel x ρ β σ a w) : heapMt β ρ (hpX x.gh x.ng σ.hp) w := by
  intro id b hb hg
  unfold hpX at hb
  split at hb
  · exact h.gm id b hb hg
  · exact h.hm id b hb hg

/-! ### Conditions under which an operation runs -/
def normG : Gd → Option Gd
  | [] => some []
  | (b, k) :: g => match normG g with
    | none => none
    | some g' => match b with
      | .c x => if x == k then some g' else none
      | b => some ((b, k) :: g')
theorem normG_none {ρ : Env} : ∀ {g : Gd}, normG g = none → Gd.d ρ g = false
  | [], h => by simp [normG] at h
  | (b, k) :: g, h => by
    unfold normG at h
    rw [Gd.d_cons]
    split at h
    · rename_i h1
      simp [normG_none (ρ := ρ) h1]
    · split at h
      · rename_i x
        split at h
        · cases h
        · rename_i hx
          have : (x == k) = false := by simpa using hx
          simp [this]
      · cases h
theorem normG_some {ρ : Env} : ∀ {g g' : Gd}, normG g = some g' → Gd.d ρ g' = Gd.d ρ g
  | [], g', h => by simp only [normG, Option.some.injEq] at h; subst h; rfl
  | (b, k) :: g, g', h => by
    unfold normG at h
    rw [Gd.d_cons]
    split at h
    · cases h
    · rename_i g1 h1
      have ih := normG_some (ρ := ρ) h1
      split at h
      · rename_i x
        split at h
        · rename_i hx
          simp only [Option.some.injEq] at h
          subst h
          simp only [beq_iff_eq] at hx
          simp [ih, hx]
        · cases h
      · simp only [Option.some.injEq] at h
        subst h
        simp [ih]

def gdOf (ops : Array Oper) (σ : St) (o : Oper) : Option Gd :=
  match o.guard with
  | none => some []
  | some (j, want) => match (ops[j]?).bind (·.dst) with
    | none => none
    | some t => match σ.tm[t]? with
      | some { g := g, s := .one false [.bool b] } => some (g ++ [(b, want)])
      | some { g := (.c true, false) :: _, s := _ } => some [(.c true, false)]
      | _ => none
theorem gdOf_wanted {x : Cx} {ρ : Env} {β : Beta} {σ : St} {a : Act} {w : World} (h : Rel x ρ β σ a w) {ops : Array Oper} {o : Oper} {g : Gd} (hg : gdOf ops σ o = some g) :
    Region.wanted o (yielded ops a.tmps) = Gd.d ρ g := by
  unfold gdOf at hg
  unfold Region.wanted
  split at hg
  · rename_i h1
    simp only [Option.some.injEq] at hg
    subst hg
    rw [h1]
    rfl
  · rename_i j want h1
    rw [h1]
    simp only
    split at hg
    · cases hg
    · rename_i t ht
      split at hg
      · rename_i g' b hsv
        simp only [Option.some.injEq] at hg
        subst hg
        have hlt : t < a.tmps.size := by rw [h.size]; exact (List.getElem?_eq_some_iff.1 hsv).1
        have hm := h.slot t _ hsv
        unfold yielded
        rw [ht]
        simp only [Option.bind_some]
        have hget : a.tmps[t]? = some (a.tmps.getD t undef) := by simp [hlt]
        rw [hget]
        cases hgd : Gd.d ρ g'
        · have := hm.2 hgd
          rw [this]
          simp [undef, hgd]
        · have := mt_bool rfl (hm.1 hgd)
          rw [this]
          simp [hgd]
      · rename_i g' sg' hsv
        simp only [Option.some.injEq] at hg
        subst hg
        have hlt : t < a.tmps.size := by rw [h.size]; exact (List.getElem?_eq_some_iff.1 hsv).1
        have hm := h.slot t _ hsv
        unfold yielded
        rw [ht]
        simp only [Option.bind_some]
        have hget : a.tmps[t]? = some (a.tmps.getD t undef) := by simp [hlt]
        rw [hget]
        have hgd : ∀ l : Gd, Gd.d ρ ((.c true, false) :: l) = false := fun l => by rw [Gd.d_cons]; rfl
        rw [hm.2 (hgd _), hgd]
        simp [undef]
      · cases hg

def gAtom : Gd → M B
  | [] => pure (.c true)
  | (b, k) :: g => do
    let x ← (if k then pure b else mkNot b)
    let y ← gAtom g
    mkAnd x y
theorem gAtom_snd {Φ : Funs} {ρ : Env} : ∀ g, Snd Φ ρ (gAtom g) (fun b => b.d ρ = Gd.d ρ g)
  | [] => Snd.pure rfl
  | (b, k) :: g => by
    unfold gAtom
    refine Snd.bind (p := fun x => x.d ρ = (b.d ρ == k)) ?_ fun x hx => Snd.bind (gAtom_snd g) fun y hy => (mkAnd_snd x y).mono fun z hz => ?_
    · cases k
      · simp only [Bool.false_eq_true, if_false]
        exact (mkNot_snd b).mono fun z hz => by rw [hz]; cases b.d ρ <;> rfl
      · simp only [if_true]
        exact Snd.pure (by cases b.d ρ <;> rfl)
    · rw [hz, hx, hy, Gd.d_cons]

/-! ### Blocks laid behind an operation -/
def isNew (hp : Hl) (id : Nat) : Bool := match hpOf hp id with | some _ => false | none => true
def layB (Γ : Gd) (sel : B) (hp : Hl) : List (Nat × Blk) → M Hl
  | [] => pure hp
  | (id, b) :: l => do
    let hp' ← layB Γ sel hp l
    if Γ.isEmpty then pure ((id, b) :: hp') else
    match hpOf hp id with
    | none => if b.g.isEmpty then pure ((id, { b with g := Γ }) :: hp') else M.fail
    | some old => do
      let z ← muxL sel b.cells old.cells
      if Gd.sub old.g b.g && Gd.sub b.g old.g && b.ro == old.ro then pure ((id, { old with cells := z }) :: hp') else M.fail
theorem layB_step {ρ : Env} {hp hp' : Hl} {id : Nat} {b b' : Blk} {l : List (Nat × Blk)}
    (hih : ∀ (β : Beta) (w : World) (keep : Nat → Prop), (∀ p, p ∈ l → blkMt β ρ w p.1 p.2) → (∀ id b, hpOf hp id = some b → id ∉ l.map (·.1) → keep id → Gd.d ρ b.g = true → blkMt β ρ w id b) →
        ∀ id b, hpOf hp' id = some b → keep id → Gd.d ρ b.g = true → blkMt β ρ w id b)
    (hb' : ∀ (β : Beta) (w : World), blkMt β ρ w id b → Gd.d ρ b'.g = true → blkMt β ρ w id b') (β : Beta) (w : World) (keep : Nat → Prop) (h1 : ∀ p, p ∈ (id, b) :: l → blkMt β ρ w p.1 p.2)
    (h2 : ∀ i c, hpOf hp i = some c → i ∉ ((id, b) :: l).map (·.1) → keep i → Gd.d ρ c.g = true → blkMt β ρ w i c) : ∀ i c, hpOf ((id, b') :: hp') i = some c → keep i → Gd.d ρ c.g = true → blkMt β ρ w i c := by
  intro i c hc hk hg
  unfold hpOf at hc
  split at hc
  · rename_i he
    simp only [beq_iff_eq] at he
    subst he
    simp only [Option.some.injEq] at hc
    subst hc
    exact hb' β w (h1 (id, b) (List.mem_cons.2 (.inl rfl))) hg
  · rename_i he
    have hne : i ≠ id := by intro e; subst e; simp at he
    exact hih β w (fun i => keep i ∧ i ≠ id) (fun p hp => h1 p (by simp [hp])) (fun i c hc hn hk hg => h2 i c hc (by simp only [List.map_cons, List.mem_cons, not_or]; exact ⟨hk.2, hn⟩) hk.1 hg) i c hc ⟨hk, hne⟩ hg
/-- It ran: what it wrote is known; what it did not write stays. -/
theorem layB_ran' {Φ : Funs} {ρ : Env} {Γ : Gd} {sel : B} (hΓ : Gd.d ρ Γ = true) (hsel : sel.d ρ = true) {hp : Hl} : ∀ (l : List (Nat × Blk)),
    Snd Φ ρ (layB Γ sel hp l) (fun hp' => ∀ (β : Beta) (w : World) (keep : Nat → Prop), (∀ p, p ∈ l → blkMt β ρ w p.1 p.2) → (∀ id b, hpOf hp id = some b → id ∉ l.map (·.1) → keep id → Gd.d ρ b.g = true → blkMt β ρ w id b) →
        ∀ id b, hpOf hp' id = some b → keep id → Gd.d ρ b.g = true → blkMt β ρ w id b)
  | [] => Snd.pure fun β w keep _ h id b hb hk hg => h id b hb (by simp) hk hg
  | (id, b) :: l => by
    unfold layB
    refine Snd.bind (layB_ran' hΓ hsel l) fun hp' hih => ?_
    split
    · exact Snd.pure (layB_step hih fun β w h _ => h)
    · split
      · split
        · exact Snd.pure (layB_step hih fun β w h _ => h)
        · exact Snd.fail
      · rename_i old hold
        refine Snd.bind (muxL_snd sel b.cells old.cells) fun z hz => ?_
        split
        · rename_i hc
          simp only [Bool.and_eq_true, beq_iff_eq] at hc
          obtain ⟨⟨_, hs2⟩, hro⟩ := hc
          refine Snd.pure (layB_step hih fun β w h hg => ?_)
          obtain ⟨r, hr, hl, hro', hcs, hf⟩ := h
          obtain ⟨z1, z2, _, z4⟩ := hz
          refine ⟨r, hr, by simp only; omega, by rw [hro', hro], z4 _ _ _ _ (by rw [if_pos hsel]; exact hcs), fun h0 j hj => hf (by rw [hro]; exact h0) j (by simp only at hj; omega)⟩
        · exact Snd.fail
theorem layB_ran {Φ : Funs} {ρ : Env} {Γ : Gd} {sel : B} (hΓ : Gd.d ρ Γ = true) (hsel : sel.d ρ = true) {hp : Hl} (l : List (Nat × Blk)) :
    Snd Φ ρ (layB Γ sel hp l) (fun hp' => ∀ (β : Beta) (w : World), (∀ p, p ∈ l → blkMt β ρ w p.1 p.2) → (∀ id b, hpOf hp id = some b → id ∉ l.map (·.1) → Gd.d ρ b.g = true → blkMt β ρ w id b) → heapMt β ρ (hpOf hp') w) :=
  (layB_ran' hΓ hsel l).mono fun hp' h β w h1 h2 id b hb hg => h β w (fun _ => True) h1 (fun id b hb hn _ hg => h2 id b hb hn hg) id b hb trivial hg
/-- It did not run: all stays. -/
theorem layB_idle {Φ : Funs} {ρ : Env} {Γ : Gd} {sel : B} (hΓ : Gd.d ρ Γ = false) (hsel : sel.d ρ = false) {hp : Hl} : ∀ (l : List (Nat × Blk)),
    Snd Φ ρ (layB Γ sel hp l) (fun hp' => ∀ β w, heapMt β ρ (hpOf hp) w → heapMt β ρ (hpOf hp') w)
  | [] => Snd.pure fun β w h => h
  | (id, b) :: l => by
    unfold layB
    refine Snd.bind (layB_idle hΓ hsel l) fun hp' hih => ?_
    have hne : Γ.isEmpty = false := by cases Γ; simp at hΓ; rfl
    rw [hne]
    simp only [Bool.false_eq_true, if_false]
    split
    · split
      · refine Snd.pure fun β w h i c hc hg => ?_
        unfold hpOf at hc
        split at hc
        · simp only [Option.some.injEq] at hc
          subst hc
          simp only at hg
          rw [hΓ] at hg
          cases hg
        · exact hih β w h i c hc hg
      · exact Snd.fail
    · rename_i old hold
      refine Snd.bind (muxL_snd sel b.cells old.cells) fun z hz => ?_
      split
      · refine Snd.pure fun β w h i c hc hg => ?_
        unfold hpOf at hc
        split at hc
        · rename_i he
          simp only [beq_iff_eq] at he
          subst he
          simp only [Option.some.injEq] at hc
          subst hc
          obtain ⟨r, hr, hl, hro', hcs, hf⟩ := h id old hold hg
          obtain ⟨z1, z2, _, z4⟩ := hz
          refine ⟨r, hr, by simp only; omega, hro', z4 _ _ _ _ (by rw [if_neg (by simp [hsel])]; exact hcs), fun h0 j hj => hf h0 j (by simp only at hj; omega)⟩
        · exact hih β w h i c hc hg
      · exact Snd.fail

/-! ### One operation on a frame -/
def undefSV : SV := { g := [(.c true, false)], s := .any }
theorem undefSV_mt {β : Beta} {ρ : Env} : undefSV.mt β ρ undef := ⟨fun h => (by cases h), fun _ => rfl⟩
def setT (tm : List SV) (dst : Option Tmp) (v : SV) : Option (List SV) :=
  match dst with
  | none => some tm
  | some d => if Nat.blt d tm.length then some (tm.set d v) else none
theorem put_tmps (a : Act) (d : Option Tmp) (v : Value) : (a.put d v).defers = a.defers ∧ (a.put d v).tmps.size = a.tmps.size := by
  cases d <;> simp [Act.put]
theorem slot_put {β : Beta} {ρ : Env} {a : Act} {tm tm' : List SV} {dst : Option Tmp} {sv : SV} {v : Value} (hs : a.tmps.size = tm.length) (h : ∀ (t : Nat) (x : SV), tm[t]? = some x → x.mt β ρ (a.tmps.getD t undef))
    (ht : setT tm dst sv = some tm') (hv : sv.mt β ρ v) : (a.put dst v).tmps.size = tm'.length ∧ ∀ (t : Nat) (x : SV), tm'[t]? = some x → x.mt β ρ ((a.put dst v).tmps.getD t undef) := by
  unfold setT at ht
  cases dst with
  | none =>
    simp only [Option.some.injEq] at ht
    subst ht
    exact ⟨hs, h⟩
  | some d =>
    simp only at ht
    split at ht
    · rename_i hd
      simp only [Nat.blt_eq] at hd
      simp only [Option.some.injEq] at ht
      subst ht
      refine ⟨by simp [Act.put, hs], fun t x hx => ?_⟩
      rw [List.getElem?_set] at hx
      simp only [Act.put]
      split at hx
      · rename_i e
        subst e
        simp only [Option.some.injEq] at hx
        subst hx
        simpa [hs, hd] using hv
      · rename_i e
        have := h t x hx
        simpa [Array.getElem?_setIfInBounds_ne e] using this
    · cases ht

/-- The next stretches' numbers are free. -/
def Fresh (β : Beta) (c : Ctr) : Prop := ∀ i, c.id ≤ i → β i = none

theorem M.bind_inv {α γ : Type} {m : M α} {f : α → M γ} {c : Ctr} {r : γ × Ctr × List Em} (h : (m >>= f) c = some r) : ∃ x c1 o1 c2 o2 y, m c = some (x, c1, o1) ∧ f x c1 = some (y, c2, o2) ∧ r = (y, c2, o1 ++ o2) := by
  simp only [Bind.bind, M.bind] at h
  cases h1 : m c with
  | none => rw [h1] at h; cases h
  | some p =>
    obtain ⟨x, c1, o1⟩ := p
    rw [h1] at h
    simp only at h
    cases h2 : f x c1 with
    | none => rw [h2] at h; cases h
    | some q =>
      obtain ⟨y, c2, o2⟩ := q
      rw [h2] at h
      simp only [Option.some.injEq] at h
      exact ⟨x, c1, o1, c2, o2, y, rfl, h2, h.symm⟩
theorem M.pure_inv {α : Type} {x : α} {c : Ctr} {r : α × Ctr × List Em} (h : (Pure.pure x : M α) c = some r) : r = (x, c, []) := by
  simp only [Pure.pure, M.pure, Option.some.injEq] at h
  exact h.symm
theorem lift_inv {α : Type} {o : Option α} {c : Ctr} {r : α × Ctr × List Em} (h : lift o c = some r) : ∃ x, o = some x ∧ r = (x, c, []) := by
  cases o with
  | none => simp [lift, M.fail] at h
  | some x => exact ⟨x, rfl, M.pure_inv h⟩
theorem under_inv {α : Type} {g : Gd} {m : M α} {c : Ctr} {r : α × Ctr × List Em} (h : M.under g m c = some r) : ∃ x c1 o1, m c = some (x, c1, o1) ∧ r = (x, c1, o1.map (M.emG g)) := by
  simp only [M.under] at h
  cases h1 : m c with
  | none => rw [h1] at h; cases h
  | some p =>
    obtain ⟨x, c1, o1⟩ := p
    rw [h1] at h
    simp only [Option.some.injEq] at h
    exact ⟨x, c1, o1, rfl, h.symm⟩
end Go.Proofs.YtalnndmnnffnmaaGreat.Sx
