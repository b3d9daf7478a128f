/-
  Merged texts (SxL, SxLa, SxM, SxMp, SxR, SxS, SxV, SxX, SxW). No condition.
-/
import Derived.MapKept
import Derived.Orders
import Derived.LoopN
import Derived.Test.YtalnndmnnffnmaaGreatMc1
/-! ## SxL -/
set_option linter.unusedVariables false
set_option linter.unusedSimpArgs false
namespace Go.Proofs.YtalnndmnnffnmaaGreat.Sx
open Go

abbrev Hl := List (Nat × Blk)
def hpOf : Hl → Hp
  | [], _ => none
  | (i, b) :: l, id => if i == id then some b else hpOf l id

structure St where
  tm : List SV
  hp : Hl

/-- What never changes in a walk: the world at the beginning, what may be written, how many package-level variables are known. -/
def ghOf : Gl → Nat → Hl
  | [], _ => []
  | vs :: l, g => (g, { g := [], ro := true, cells := vs.map ofC }) :: ghOf l (g + 1)
structure Cx where
  w0 : World
  R : List Rg
  gl : Gl
  gr : List Rg
def Cx.ng (x : Cx) : Nat := x.gl.length
def Cx.gh (x : Cx) : Hl := ghOf x.gl 0
def hpX (gh : Hl) (ng : Nat) (hp : Hl) : Hp := fun i => if Nat.blt i ng then hpOf gh i else hpOf hp i

structure Rel (x : Cx) (ρ : Env) (β : Beta) (σ : St) (a : Act) (w : World) : Prop where
  size : a.tmps.size = σ.tm.length
  slot : ∀ (t : Nat) (v : SV), σ.tm[t]? = some v → v.mt β ρ (a.tmps.getD t undef)
  df : a.defers = []
  hm : heapMt β ρ (hpOf σ.hp) w
  gm : heapMt β ρ (hpOf x.gh) w
  gro : ∀ id b, hpOf x.gh id = some b → b.ro = true
  bo : BetaOk x.w0.heap.size x.R β w
  kp : Keep x.R x.w0 w
  gl : ∀ (g : Nat) (vs : List Value), x.gl[g]? = some vs → β g = some (gRg g vs)
  ra : ∀ (j : Nat) (r : Rg), x.gr[j]? = some r → β (x.ng + j) = some r

def ev (ng : Nat) (σ : St) : Operand → SV
  | .tmp t => σ.tm.getD t anySV
  | .const v => { g := [], s := ofV v }
  | .global g => if Nat.blt g ng then { g := [], s := .one false [.ptr [] g 0] } else anySV
  | .func f => { g := [], s := .one false [.val (.func (.func f) #[] #[])] }
theorem anySV_mt {β : Beta} {ρ : Env} (v : Value) : anySV.mt β ρ v := ⟨fun _ => trivial, fun h => (by cases h)⟩
theorem ev_mt {x : Cx} {ρ : Env} {β : Beta} {σ : St} {a : Act} {w : World} (h : Rel x ρ β σ a w) (o : Operand) : (ev x.ng σ o).mt β ρ (a.eval o) := by
  cases o with
  | tmp t =>
    show (σ.tm.getD t anySV).mt β ρ (a.tmps.getD t undef)
    rw [List.getD_eq_getElem?_getD]
    cases ht : σ.tm[t]? with
    | none => exact anySV_mt _
    | some v => exact h.slot t v ht
  | const v => exact ⟨fun _ => ofV_mt v, fun h => (by cases h)⟩
  | global g =>
    show (if Nat.blt g x.ng then ({ g := [], s := .one false [.ptr [] g 0] } : SV) else anySV).mt β ρ (.pointer (some ⟨g, 0, none⟩))
    split
    · rename_i hg
      simp only [Nat.blt_eq] at hg
      exact ⟨fun _ => ⟨_, rfl, _, h.gl g _ (List.getElem?_eq_getElem hg), by simp [pick, gRg]⟩, fun h => (by cases h)⟩
    · exact anySV_mt _
  | func f => exact ⟨fun _ => ⟨_, rfl, rfl, rfl⟩, fun h => (by cases h)⟩

theorem Rel.hx {x : Cx} {ρ : Env} {β : Beta} {σ : St} {a : Act} {w : World} (h : Rel x ρ β σ a w) : heapMt β ρ (hpX x.gh x.ng σ.hp) w := by
  intro id b hb hg
  unfold hpX at hb
  split at hb
  · exact h.gm id b hb hg
  · exact h.hm id b hb hg

/-! ### Conditions under which an operation runs -/
def normG : Gd → Option Gd
  | [] => some []
  | (b, k) :: g => match normG g with
    | none => none
    | some g' => match b with
      | .c x => if x == k then some g' else none
      | b => some ((b, k) :: g')
theorem normG_none {ρ : Env} : ∀ {g : Gd}, normG g = none → Gd.d ρ g = false
  | [], h => by simp [normG] at h
  | (b, k) :: g, h => by
    unfold normG at h
    rw [Gd.d_cons]
    split at h
    · rename_i h1
      simp [normG_none (ρ := ρ) h1]
    · split at h
      · rename_i x
        split at h
        · cases h
        · rename_i hx
          have : (x == k) = false := by simpa using hx
          simp [this]
      · cases h
theorem normG_some {ρ : Env} : ∀ {g g' : Gd}, normG g = some g' → Gd.d ρ g' = Gd.d ρ g
  | [], g', h => by simp only [normG, Option.some.injEq] at h; subst h; rfl
  | (b, k) :: g, g', h => by
    unfold normG at h
    rw [Gd.d_cons]
    split at h
    · cases h
    · rename_i g1 h1
      have ih := normG_some (ρ := ρ) h1
      split at h
      · rename_i x
        split at h
        · rename_i hx
          simp only [Option.some.injEq] at h
          subst h
          simp only [beq_iff_eq] at hx
          simp [ih, hx]
        · cases h
      · simp only [Option.some.injEq] at h
        subst h
        simp [ih]

def gdOf (ops : Array Oper) (σ : St) (o : Oper) : Option Gd :=
  match o.guard with
  | none => some []
  | some (j, want) => match (ops[j]?).bind (·.dst) with
    | none => none
    | some t => match σ.tm[t]? with
      | some { g := g, s := .one false [.bool b] } => some (g ++ [(b, want)])
      | some { g := (.c true, false) :: _, s := _ } => some [(.c true, false)]
      | _ => none
theorem gdOf_wanted {x : Cx} {ρ : Env} {β : Beta} {σ : St} {a : Act} {w : World} (h : Rel x ρ β σ a w) {ops : Array Oper} {o : Oper} {g : Gd} (hg : gdOf ops σ o = some g) :
    Region.wanted o (yielded ops a.tmps) = Gd.d ρ g := by
  unfold gdOf at hg
  unfold Region.wanted
  split at hg
  · rename_i h1
    simp only [Option.some.injEq] at hg
    subst hg
    rw [h1]
    rfl
  · rename_i j want h1
    rw [h1]
    simp only
    split at hg
    · cases hg
    · rename_i t ht
      split at hg
      · rename_i g' b hsv
        simp only [Option.some.injEq] at hg
        subst hg
        have hlt : t < a.tmps.size := by rw [h.size]; exact (List.getElem?_eq_some_iff.1 hsv).1
        have hm := h.slot t _ hsv
        unfold yielded
        rw [ht]
        simp only [Option.bind_some]
        have hget : a.tmps[t]? = some (a.tmps.getD t undef) := by simp [hlt]
        rw [hget]
        cases hgd : Gd.d ρ g'
        · have := hm.2 hgd
          rw [this]
          simp [undef, hgd]
        · have := mt_bool rfl (hm.1 hgd)
          rw [this]
          simp [hgd]
      · rename_i g' sg' hsv
        simp only [Option.some.injEq] at hg
        subst hg
        have hlt : t < a.tmps.size := by rw [h.size]; exact (List.getElem?_eq_some_iff.1 hsv).1
        have hm := h.slot t _ hsv
        unfold yielded
        rw [ht]
        simp only [Option.bind_some]
        have hget : a.tmps[t]? = some (a.tmps.getD t undef) := by simp [hlt]
        rw [hget]
        have hgd : ∀ l : Gd, Gd.d ρ ((.c true, false) :: l) = false := fun l => by rw [Gd.d_cons]; rfl
        rw [hm.2 (hgd _), hgd]
        simp [undef]
      · cases hg

def gAtom : Gd → M B
  | [] => pure (.c true)
  | (b, k) :: g => do
    let x ← (if k then pure b else mkNot b)
    let y ← gAtom g
    mkAnd x y
theorem gAtom_snd {Φ : Funs} {ρ : Env} : ∀ g, Snd Φ ρ (gAtom g) (fun b => b.d ρ = Gd.d ρ g)
  | [] => Snd.pure rfl
  | (b, k) :: g => by
    unfold gAtom
    refine Snd.bind (p := fun x => x.d ρ = (b.d ρ == k)) ?_ fun x hx => Snd.bind (gAtom_snd g) fun y hy => (mkAnd_snd x y).mono fun z hz => ?_
    · cases k
      · simp only [Bool.false_eq_true, if_false]
        exact (mkNot_snd b).mono fun z hz => by rw [hz]; cases b.d ρ <;> rfl
      · simp only [if_true]
        exact Snd.pure (by cases b.d ρ <;> rfl)
    · rw [hz, hx, hy, Gd.d_cons]

/-! ### Blocks laid behind an operation -/
def isNew (hp : Hl) (id : Nat) : Bool := match hpOf hp id with | some _ => false | none => true
def layB (Γ : Gd) (sel : B) (hp : Hl) : List (Nat × Blk) → M Hl
  | [] => pure hp
  | (id, b) :: l => do
    let hp' ← layB Γ sel hp l
    if Γ.isEmpty then pure ((id, b) :: hp') else
    match hpOf hp id with
    | none => if b.g.isEmpty then pure ((id, { b with g := Γ }) :: hp') else M.fail
    | some old => do
      let z ← muxL sel b.cells old.cells
      if Gd.sub old.g b.g && Gd.sub b.g old.g && b.ro == old.ro then pure ((id, { old with cells := z }) :: hp') else M.fail
theorem layB_step {ρ : Env} {hp hp' : Hl} {id : Nat} {b b' : Blk} {l : List (Nat × Blk)}
    (hih : ∀ (β : Beta) (w : World) (keep : Nat → Prop), (∀ p, p ∈ l → blkMt β ρ w p.1 p.2) → (∀ id b, hpOf hp id = some b → id ∉ l.map (·.1) → keep id → Gd.d ρ b.g = true → blkMt β ρ w id b) →
        ∀ id b, hpOf hp' id = some b → keep id → Gd.d ρ b.g = true → blkMt β ρ w id b)
    (hb' : ∀ (β : Beta) (w : World), blkMt β ρ w id b → Gd.d ρ b'.g = true → blkMt β ρ w id b') (β : Beta) (w : World) (keep : Nat → Prop) (h1 : ∀ p, p ∈ (id, b) :: l → blkMt β ρ w p.1 p.2)
    (h2 : ∀ i c, hpOf hp i = some c → i ∉ ((id, b) :: l).map (·.1) → keep i → Gd.d ρ c.g = true → blkMt β ρ w i c) : ∀ i c, hpOf ((id, b') :: hp') i = some c → keep i → Gd.d ρ c.g = true → blkMt β ρ w i c := by
  intro i c hc hk hg
  unfold hpOf at hc
  split at hc
  · rename_i he
    simp only [beq_iff_eq] at he
    subst he
    simp only [Option.some.injEq] at hc
    subst hc
    exact hb' β w (h1 (id, b) (List.mem_cons.2 (.inl rfl))) hg
  · rename_i he
    have hne : i ≠ id := by intro e; subst e; simp at he
    exact hih β w (fun i => keep i ∧ i ≠ id) (fun p hp => h1 p (by simp [hp])) (fun i c hc hn hk hg => h2 i c hc (by simp only [List.map_cons, List.mem_cons, not_or]; exact ⟨hk.2, hn⟩) hk.1 hg) i c hc ⟨hk, hne⟩ hg
/-- It ran: what it wrote is known; what it did not write stays. -/
theorem layB_ran' {Φ : Funs} {ρ : Env} {Γ : Gd} {sel : B} (hΓ : Gd.d ρ Γ = true) (hsel : sel.d ρ = true) {hp : Hl} : ∀ (l : List (Nat × Blk)),
    Snd Φ ρ (layB Γ sel hp l) (fun hp' => ∀ (β : Beta) (w : World) (keep : Nat → Prop), (∀ p, p ∈ l → blkMt β ρ w p.1 p.2) → (∀ id b, hpOf hp id = some b → id ∉ l.map (·.1) → keep id → Gd.d ρ b.g = true → blkMt β ρ w id b) →
        ∀ id b, hpOf hp' id = some b → keep id → Gd.d ρ b.g = true → blkMt β ρ w id b)
  | [] => Snd.pure fun β w keep _ h id b hb hk hg => h id b hb (by simp) hk hg
  | (id, b) :: l => by
    unfold layB
    refine Snd.bind (layB_ran' hΓ hsel l) fun hp' hih => ?_
    split
    · exact Snd.pure (layB_step hih fun β w h _ => h)
    · split
      · split
        · exact Snd.pure (layB_step hih fun β w h _ => h)
        · exact Snd.fail
      · rename_i old hold
        refine Snd.bind (muxL_snd sel b.cells old.cells) fun z hz => ?_
        split
        · rename_i hc
          simp only [Bool.and_eq_true, beq_iff_eq] at hc
          obtain ⟨⟨_, hs2⟩, hro⟩ := hc
          refine Snd.pure (layB_step hih fun β w h hg => ?_)
          obtain ⟨r, hr, hl, hro', hcs, hf⟩ := h
          obtain ⟨z1, z2, _, z4⟩ := hz
          refine ⟨r, hr, by simp only; omega, by rw [hro', hro], z4 _ _ _ _ (by rw [if_pos hsel]; exact hcs), fun h0 j hj => hf (by rw [hro]; exact h0) j (by simp only at hj; omega)⟩
        · exact Snd.fail
theorem layB_ran {Φ : Funs} {ρ : Env} {Γ : Gd} {sel : B} (hΓ : Gd.d ρ Γ = true) (hsel : sel.d ρ = true) {hp : Hl} (l : List (Nat × Blk)) :
    Snd Φ ρ (layB Γ sel hp l) (fun hp' => ∀ (β : Beta) (w : World), (∀ p, p ∈ l → blkMt β ρ w p.1 p.2) → (∀ id b, hpOf hp id = some b → id ∉ l.map (·.1) → Gd.d ρ b.g = true → blkMt β ρ w id b) → heapMt β ρ (hpOf hp') w) :=
  (layB_ran' hΓ hsel l).mono fun hp' h β w h1 h2 id b hb hg => h β w (fun _ => True) h1 (fun id b hb hn _ hg => h2 id b hb hn hg) id b hb trivial hg
/-- It did not run: all stays. -/
theorem layB_idle {Φ : Funs} {ρ : Env} {Γ : Gd} {sel : B} (hΓ : Gd.d ρ Γ = false) (hsel : sel.d ρ = false) {hp : Hl} : ∀ (l : List (Nat × Blk)),
    Snd Φ ρ (layB Γ sel hp l) (fun hp' => ∀ β w, heapMt β ρ (hpOf hp) w → heapMt β ρ (hpOf hp') w)
  | [] => Snd.pure fun β w h => h
  | (id, b) :: l => by
    unfold layB
    refine Snd.bind (layB_idle hΓ hsel l) fun hp' hih => ?_
    have hne : Γ.isEmpty = false := by cases Γ; simp at hΓ; rfl
    rw [hne]
    simp only [Bool.false_eq_true, if_false]
    split
    · split
      · refine Snd.pure fun β w h i c hc hg => ?_
        unfold hpOf at hc
        split at hc
        · simp only [Option.some.injEq] at hc
          subst hc
          simp only at hg
          rw [hΓ] at hg
          cases hg
        · exact hih β w h i c hc hg
      · exact Snd.fail
    · rename_i old hold
      refine Snd.bind (muxL_snd sel b.cells old.cells) fun z hz => ?_
      split
      · refine Snd.pure fun β w h i c hc hg => ?_
        unfold hpOf at hc
        split at hc
        · rename_i he
          simp only [beq_iff_eq] at he
          subst he
          simp only [Option.some.injEq] at hc
          subst hc
          obtain ⟨r, hr, hl, hro', hcs, hf⟩ := h id old hold hg
          obtain ⟨z1, z2, _, z4⟩ := hz
          refine ⟨r, hr, by simp only; omega, hro', z4 _ _ _ _ (by rw [if_neg (by simp [hsel])]; exact hcs), fun h0 j hj => hf h0 j (by simp only at hj; omega)⟩
        · exact hih β w h i c hc hg
      · exact Snd.fail

/-! ### One operation on a frame -/
def undefSV : SV := { g := [(.c true, false)], s := .any }
theorem undefSV_mt {β : Beta} {ρ : Env} : undefSV.mt β ρ undef := ⟨fun h => (by cases h), fun _ => rfl⟩
def setT (tm : List SV) (dst : Option Tmp) (v : SV) : Option (List SV) :=
  match dst with
  | none => some tm
  | some d => if Nat.blt d tm.length then some (tm.set d v) else none
theorem put_tmps (a : Act) (d : Option Tmp) (v : Value) : (a.put d v).defers = a.defers ∧ (a.put d v).tmps.size = a.tmps.size := by
  cases d <;> simp [Act.put]
theorem slot_put {β : Beta} {ρ : Env} {a : Act} {tm tm' : List SV} {dst : Option Tmp} {sv : SV} {v : Value} (hs : a.tmps.size = tm.length) (h : ∀ (t : Nat) (x : SV), tm[t]? = some x → x.mt β ρ (a.tmps.getD t undef))
    (ht : setT tm dst sv = some tm') (hv : sv.mt β ρ v) : (a.put dst v).tmps.size = tm'.length ∧ ∀ (t : Nat) (x : SV), tm'[t]? = some x → x.mt β ρ ((a.put dst v).tmps.getD t undef) := by
  unfold setT at ht
  cases dst with
  | none =>
    simp only [Option.some.injEq] at ht
    subst ht
    exact ⟨hs, h⟩
  | some d =>
    simp only at ht
    split at ht
    · rename_i hd
      simp only [Nat.blt_eq] at hd
      simp only [Option.some.injEq] at ht
      subst ht
      refine ⟨by simp [Act.put, hs], fun t x hx => ?_⟩
      rw [List.getElem?_set] at hx
      simp only [Act.put]
      split at hx
      · rename_i e
        subst e
        simp only [Option.some.injEq] at hx
        subst hx
        simpa [hs, hd] using hv
      · rename_i e
        have := h t x hx
        simpa [Array.getElem?_setIfInBounds_ne e] using this
    · cases ht

/-- The next stretches' numbers are free. -/
def Fresh (β : Beta) (c : Ctr) : Prop := ∀ i, c.id ≤ i → β i = none

theorem M.bind_inv {α γ : Type} {m : M α} {f : α → M γ} {c : Ctr} {r : γ × Ctr × List Em} (h : (m >>= f) c = some r) : ∃ x c1 o1 c2 o2 y, m c = some (x, c1, o1) ∧ f x c1 = some (y, c2, o2) ∧ r = (y, c2, o1 ++ o2) := by
  simp only [Bind.bind, M.bind] at h
  cases h1 : m c with
  | none => rw [h1] at h; cases h
  | some p =>
    obtain ⟨x, c1, o1⟩ := p
    rw [h1] at h
    simp only at h
    cases h2 : f x c1 with
    | none => rw [h2] at h; cases h
    | some q =>
      obtain ⟨y, c2, o2⟩ := q
      rw [h2] at h
      simp only [Option.some.injEq] at h
      exact ⟨x, c1, o1, c2, o2, y, rfl, h2, h.symm⟩
theorem M.pure_inv {α : Type} {x : α} {c : Ctr} {r : α × Ctr × List Em} (h : (Pure.pure x : M α) c = some r) : r = (x, c, []) := by
  simp only [Pure.pure, M.pure, Option.some.injEq] at h
  exact h.symm
theorem lift_inv {α : Type} {o : Option α} {c : Ctr} {r : α × Ctr × List Em} (h : lift o c = some r) : ∃ x, o = some x ∧ r = (x, c, []) := by
  cases o with
  | none => simp [lift, M.fail] at h
  | some x => exact ⟨x, rfl, M.pure_inv h⟩
theorem under_inv {α : Type} {g : Gd} {m : M α} {c : Ctr} {r : α × Ctr × List Em} (h : M.under g m c = some r) : ∃ x c1 o1, m c = some (x, c1, o1) ∧ r = (x, c1, o1.map (M.emG g)) := by
  simp only [M.under] at h
  cases h1 : m c with
  | none => rw [h1] at h; cases h
  | some p =>
    obtain ⟨x, c1, o1⟩ := p
    rw [h1] at h
    simp only [Option.some.injEq] at h
    exact ⟨x, c1, o1, rfl, h.symm⟩
end Go.Proofs.YtalnndmnnffnmaaGreat.Sx
/-! ## SxLa -/
set_option linter.unusedVariables false
set_option linter.unusedSimpArgs false
namespace Go.Proofs.YtalnndmnnffnmaaGreat.Sx
open Go

/-- Numbers of stretches only rise. -/
def M.mono {α : Type} (m : M α) : M α := fun c =>
  match m c with
  | some (x, c', o) => if Nat.ble c.id c'.id then some (x, c', o) else none
  | none => none
theorem mono_inv {α : Type} {m : M α} {c : Ctr} {r : α × Ctr × List Em} (h : M.mono m c = some r) : m c = some r ∧ c.id ≤ r.2.1.id := by
  simp only [M.mono] at h
  cases h1 : m c with
  | none => rw [h1] at h; cases h
  | some p =>
    obtain ⟨x, c1, o1⟩ := p
    rw [h1] at h
    simp only at h
    split at h
    · rename_i hle
      simp only [Nat.ble_eq] at hle
      simp only [Option.some.injEq] at h
      subst h
      exact ⟨rfl, hle⟩
    · cases h
theorem Snd.mono' {α : Type} {Φ : Funs} {ρ : Env} {m : M α} {p : α → Prop} (h : Snd Φ ρ m p) : Snd Φ ρ (M.mono m) p :=
  fun c x c' o he hg => h c x c' o (mono_inv he).1 hg
theorem Fresh.le {β : Beta} {c c' : Ctr} (h : Fresh β c) (hc : c.id ≤ c'.id) : Fresh β c' := fun i hi => h i (by omega)

def getId : M Nat := fun c => some (c.id, c, [])
def capS (l : List (Nat × Nat)) : List S := l.map fun p => .one false [.ptr [] p.1 p.2]
theorem capS_mt {β : Beta} {ρ : Env} : ∀ {l : List (Nat × Nat)} {vs : List Value}, capMt β l vs → mtAll β ρ (capS l) vs
  | [], [], _ => trivial
  | p :: l, v :: vs, ⟨⟨r, hr, hv⟩, h2⟩ => ⟨⟨_, rfl, r, by simpa [pick] using hr, by simpa [pick] using hv⟩, capS_mt h2⟩
theorem mtAll_append {β : Beta} {ρ : Env} {ys : List S} {us : List Value} (h2 : mtAll β ρ ys us) : ∀ {xs : List S} {vs : List Value}, mtAll β ρ xs vs → mtAll β ρ (xs ++ ys) (vs ++ us)
  | [], [], _ => h2
  | _ :: _, _ :: _, ⟨h, h1⟩ => ⟨h, mtAll_append h2 h1⟩

/-! ### Two ways' answers as one -/
def wBlk (Γ : Gd) (hp : Hp) (l : List (Nat × Blk)) (id : Nat) : Option Blk :=
  match hpOf l id with
  | some b => some b
  | none => match hp id with
    | some b => if Gd.sub b.g Γ then some b else none
    | none => none
def muxW (Γ : Gd) (hp : Hp) (lo hi : Nat) (b : B) (w1 w2 : List (Nat × Blk)) : List Nat → M (List (Nat × Blk))
  | [] => pure []
  | i :: l => do
    let r ← muxW Γ hp lo hi b w1 w2 l
    match hp i with
    | none => if Nat.ble lo i && Nat.blt i hi then pure r else M.fail
    | some _ => match wBlk Γ hp w1 i, wBlk Γ hp w2 i with
      | some b1, some b2 =>
        if b1.ro == b2.ro && b1.cells.length == b2.cells.length then do
          let z ← muxL b b1.cells b2.cells
          pure ((i, { g := [], ro := b1.ro, cells := z }) :: r)
        else M.fail
      | _, _ => M.fail
theorem blkMt_mux {ρ : Env} {b : B} {b1 b2 : Blk} {z : List C} (hro : b1.ro = b2.ro) (hlen : b1.cells.length = b2.cells.length) (hz : z.length = b1.cells.length)
    (hc : ∀ β w k o, (if b.d ρ then cellsAt β ρ w k o b1.cells else cellsAt β ρ w k o b2.cells) → cellsAt β ρ w k o z) {β : Beta} {w : World} {i : Nat} (h : if b.d ρ then blkMt β ρ w i b1 else blkMt β ρ w i b2) :
    blkMt β ρ w i { g := [], ro := b1.ro, cells := z } := by
  split at h
  · rename_i hb
    obtain ⟨r, hr, hl, hro', hca, hf⟩ := h
    exact ⟨r, hr, by simp only; omega, hro', hc β w _ _ (by rw [if_pos hb]; exact hca), fun h0 j hj => hf h0 j (by simp only at hj; omega)⟩
  · rename_i hb
    obtain ⟨r, hr, hl, hro', hca, hf⟩ := h
    exact ⟨r, hr, by simp only; omega, by simp only; rw [hro]; exact hro', hc β w _ _ (by rw [if_neg hb]; exact hca), fun h0 j hj => hf (by simp only at h0; rw [← hro]; exact h0) j (by simp only at hj; omega)⟩
section
variable {Φ : Funs} {ρ : Env}
theorem muxW_snd (Γ : Gd) (hp : Hp) (lo hi : Nat) (b : B) (w1 w2 : List (Nat × Blk)) : ∀ (l : List Nat), Snd Φ ρ (muxW Γ hp lo hi b w1 w2 l) (fun r =>
    (∀ i, i ∈ l → (hp i).isSome = true → i ∈ r.map (·.1)) ∧ (∀ i, i ∈ l → hp i = none → lo ≤ i ∧ i < hi) ∧
    ∀ β w, (if b.d ρ then (∀ i bk, i ∈ l → wBlk Γ hp w1 i = some bk → blkMt β ρ w i bk) else (∀ i bk, i ∈ l → wBlk Γ hp w2 i = some bk → blkMt β ρ w i bk)) → ∀ p, p ∈ r → blkMt β ρ w p.1 p.2)
  | [] => Snd.pure ⟨fun i h => (by cases h), fun i h => (by cases h), fun β w _ p h => (by cases h)⟩
  | i :: l => by
    unfold muxW
    refine Snd.bind (muxW_snd Γ hp lo hi b w1 w2 l) fun r ⟨h1, h2, h3⟩ => ?_
    have h3' : ∀ β w, (if b.d ρ then (∀ j bk, j ∈ i :: l → wBlk Γ hp w1 j = some bk → blkMt β ρ w j bk) else (∀ j bk, j ∈ i :: l → wBlk Γ hp w2 j = some bk → blkMt β ρ w j bk)) → ∀ p, p ∈ r → blkMt β ρ w p.1 p.2 := fun β w h p hp => by
      refine h3 β w ?_ p hp
      split
      · rename_i hb; rw [if_pos hb] at h; exact fun j bk hj => h j bk (by simp [hj])
      · rename_i hb; rw [if_neg hb] at h; exact fun j bk hj => h j bk (by simp [hj])
    split
    · rename_i hn
      split
      · rename_i hc
        simp only [Bool.and_eq_true, Nat.ble_eq, Nat.blt_eq] at hc
        refine Snd.pure ⟨fun j hj hs => ?_, fun j hj hs => ?_, h3'⟩
        · rcases List.mem_cons.1 hj with rfl | hj
          · rw [hn] at hs; cases hs
          · exact h1 j hj hs
        · rcases List.mem_cons.1 hj with rfl | hj
          · exact hc
          · exact h2 j hj hs
      · exact Snd.fail
    · rename_i b0 hn
      split
      · rename_i b1 b2 hb1 hb2
        split
        · rename_i hc
          simp only [Bool.and_eq_true, beq_iff_eq] at hc
          refine Snd.bind (muxL_snd b b1.cells b2.cells) fun z hz => Snd.pure ⟨fun j hj hs => ?_, fun j hj hs => ?_, fun β w h p hp => ?_⟩
          · rcases List.mem_cons.1 hj with rfl | hj
            · simp
            · simp only [List.map_cons, List.mem_cons]; exact .inr (h1 j hj hs)
          · rcases List.mem_cons.1 hj with rfl | hj
            · rw [hn] at hs; cases hs
            · exact h2 j hj hs
          · rcases List.mem_cons.1 hp with rfl | hp
            · refine blkMt_mux (b := b) hc.1 hc.2 hz.1 hz.2.2.2 ?_
              split
              · rename_i hb; rw [if_pos hb] at h; exact h i b1 (by simp) hb1
              · rename_i hb; rw [if_neg hb] at h; exact h i b2 (by simp) hb2
            · exact h3' β w h p hp
        · exact Snd.fail
      · exact Snd.fail
end
def dedupN : List Nat → List Nat
  | [] => []
  | i :: l => if (dedupN l).contains i then dedupN l else i :: dedupN l
theorem mem_dedupN : ∀ {l : List Nat} {i : Nat}, i ∈ l → i ∈ dedupN l
  | j :: l, i, h => by
    unfold dedupN
    rcases List.mem_cons.1 h with rfl | h
    · split
      · rename_i hc; simpa using hc
      · simp
    · have := mem_dedupN h
      split
      · exact this
      · simp [this]
def mergeRes (Γ : Gd) (hp : Hp) (lo hi : Nat) (b : B) (r1 r2 : Res) : M Res := do
  let s ← muxS b r1.s r2.s
  let w ← muxW Γ hp lo hi b r1.w r2.w (dedupN (r1.w.map (·.1) ++ r2.w.map (·.1)))
  pure { s := s, w := w }
theorem Step.keepB {N : Nat} {R : List Rg} {β β' : Beta} {ρ : Env} {w w' : World} {ids : List Nat} {lo hi : Nat} (h : Step N R β w ids lo hi β' w') (hb : BetaOk N R β w) {i : Nat} (hi : i ∉ ids) {b : Blk} (hm : blkMt β ρ w i b) : blkMt β' ρ w' i b := by
  obtain ⟨W, hW, hk⟩ := h.kp
  refine blkMt_keep h.ext hb hk (fun r q hr hq => ?_) hm
  obtain ⟨id', hid', hβ, hro, _⟩ := hW r hr
  exact hb.apartW (i := id') (j := i) (fun e => hi (e ▸ hid')) hβ hq hro
theorem hpOf_mem' : ∀ {l : List (Nat × Blk)} {id : Nat} {b : Blk}, hpOf l id = some b → (id, b) ∈ l
  | [], _, _, h => by simp [hpOf] at h
  | (i, c) :: l, id, b, h => by
    unfold hpOf at h
    split at h
    · rename_i he
      simp only [beq_iff_eq] at he
      simp only [Option.some.injEq] at h
      subst he; subst h
      simp
    · simp [hpOf_mem' h]
theorem hpOf_none : ∀ {l : List (Nat × Blk)} {id : Nat}, hpOf l id = none → id ∉ l.map (·.1)
  | [], _, _ => by simp
  | (i, c) :: l, id, h => by
    unfold hpOf at h
    split at h
    · cases h
    · rename_i he
      simp only [List.map_cons, List.mem_cons, not_or]
      exact ⟨fun e => he (by simp [e]), hpOf_none h⟩
/-- One of both ways was taken: what is known of both holds. -/
theorem merge_post {N : Nat} {R : List Rg} {ρ : Env} {β : Beta} {w w' : World} {Γ : Gd} {hp : Hp} (hΓ : Gd.d ρ Γ = true) (hh : heapMt β ρ hp w) (hb : BetaOk N R β w) {lo hi lo1 hi1 : Nat} (hlo : lo ≤ lo1) (hhi : hi1 ≤ hi)
    (hfr : ∀ i, lo ≤ i → i < hi → β i = none) {rk : Res} {s : S} {ws : List (Nat × Blk)} {all : List Nat} (hall : ∀ i, i ∈ rk.w.map (·.1) → i ∈ all) {v : Value} (hr : RPost N R ρ β w lo1 hi1 rk v w')
    (hs : ∀ β v, rk.s.mt β ρ v → s.mt β ρ v) (h1 : ∀ i, i ∈ all → (hp i).isSome = true → i ∈ ws.map (·.1)) (h2 : ∀ i, i ∈ all → hp i = none → lo ≤ i ∧ i < hi)
    (h3 : ∀ β w, (∀ i bk, i ∈ all → wBlk Γ hp rk.w i = some bk → blkMt β ρ w i bk) → ∀ p, p ∈ ws → blkMt β ρ w p.1 p.2) : RPost N R ρ β w lo hi { s := s, w := ws } v w' := by
  obtain ⟨β', hst, hsm, hbl⟩ := hr
  obtain ⟨W, hW, hk⟩ := hst.kp
  refine ⟨β', ⟨hst.ext, hst.bo, ⟨W, fun r hr => ?_, hk⟩, fun i hi => hst.dom i (by omega)⟩, hs _ _ hsm, h3 β' w' fun i bk hi hbk => ?_⟩
  · obtain ⟨id, hid, hβ, hro, hl⟩ := hW r hr
    refine ⟨id, ?_, hβ, hro, hl⟩
    refine h1 id (hall id hid) ?_
    cases hx : hp id with
    | some b => rfl
    | none =>
      obtain ⟨g1, g2⟩ := h2 id (hall id hid) hx
      rw [hfr id g1 g2] at hβ
      cases hβ
  · unfold wBlk at hbk
    split at hbk
    · rename_i b hb'
      simp only [Option.some.injEq] at hbk
      subst hbk
      exact hbl _ (hpOf_mem' hb')
    · rename_i hn
      split at hbk
      · rename_i b hb'
        split at hbk
        · rename_i hg
          simp only [Option.some.injEq] at hbk
          subst hbk
          exact hst.keepB hb (hpOf_none hn) (hh i b hb' (Gd.sub_d hg hΓ))
        · cases hbk
      · cases hbk

/-- A call of one of several functions, by conditions; the last one, if no condition holds. -/
def callAlt (H : Hnd) (hp : Hp) (xs : List S) (d : FV) : List (B × FV) → Gd → M Res
  | [], Γ => match d with
    | some p => H p.1 Γ hp (xs ++ capS p.2)
    | none => M.fail
  | (b, none) :: l, Γ => do
    let nb ← mkNot b
    oblige nb
    callAlt H hp xs d l Γ
  | (b, some p) :: l, Γ => if l.isEmpty && d.isNone then do
      oblige b
      H p.1 Γ hp (xs ++ capS p.2)
    else do
      let lo ← getId
      let r1 ← M.mono (M.under [(b, true)] (H p.1 (Γ ++ [(b, true)]) hp (xs ++ capS p.2)))
      let r2 ← M.mono (M.under [(b, false)] (callAlt H hp xs d l (Γ ++ [(b, false)])))
      let hi ← getId
      M.mono (mergeRes Γ hp lo hi b r1 r2)
theorem mkNot_id {b x : B} {c c' : Ctr} {o : List Em} (h : mkNot b c = some (x, c', o)) : c'.id = c.id := by
  unfold mkNot at h
  split at h
  · simp only [Pure.pure, M.pure, Option.some.injEq, Prod.mk.injEq] at h
    rw [h.2.1]
  · simp only [newB, Option.some.injEq, Prod.mk.injEq] at h
    rw [← h.2.1]
theorem oblige_id {b : B} {x : Unit} {c c' : Ctr} {o : List Em} (h : oblige b c = some (x, c', o)) : c'.id = c.id := by
  unfold oblige at h
  split at h <;> (simp only [Option.some.injEq, Prod.mk.injEq] at h; rw [h.2.1])
section
variable {P : Program} {Φ : Funs} {gl : Gl} {hp : Hp} {ρ : Env}
/-- What a function's value leads to. -/
def AltPost (P : Program) (N : Nat) (R : List Rg) (ρ : Env) (β : Beta) (w : World) (lo hi : Nat) (res : Res) (vs : List Value) (v : Value) : Prop :=
  ∃ g ws, v = .func (.func g) #[] (ws : List Value).toArray ∧ (∀ args w, (callFunc g args).run P w = .ok (.enter g args) w) ∧ Calls P g (vs ++ ws).toArray w fun e w' => ∃ u, e = .returned u ∧ RPost N R ρ β w lo hi res u w'
theorem hnd_alt {H : Hnd} (hH : HOk P Φ gl H) {p : Nat × List (Nat × Nat)} {Γ : Gd} {xs : List S} {c c' : Ctr} {res : Res} {out : List Em} (h : H p.1 Γ hp (xs ++ capS p.2) c = some (res, c', out)) (hg : Good Φ ρ out) (hΓ : Gd.d ρ Γ = true)
    {N : Nat} {R : List Rg} {β : Beta} {w : World} {vs : List Value} (hm : mtAll β ρ xs vs) (hh : heapMt β ρ hp w) (hb : BetaOk N R β w) (hN : N ≤ w.heap.size) (hG : GB gl β w) (hf : ∀ i, c.id ≤ i → i < c'.id → β i = none) {v : Value} (hv : fvMt β (some p) v) :
    AltPost P N R ρ β w c.id c'.id res vs v := by
  obtain ⟨ws, rfl, hc⟩ := hv
  obtain ⟨h1, h2⟩ := hH _ _ _ _ _ _ _ _ _ h hg hΓ N R β w (vs ++ ws) (mtAll_append (capS_mt hc) hm) hh hb hN hG hf
  exact ⟨p.1, ws, rfl, h1, h2⟩
theorem callAlt_ok {H : Hnd} (hH : HOk P Φ gl H) (xs : List S) (d : FV) : ∀ (l : List (B × FV)) (Γ : Gd) {c c' : Ctr} {res : Res} {out : List Em}, callAlt H hp xs d l Γ c = some (res, c', out) → Good Φ ρ out → Gd.d ρ Γ = true →
    ∀ {N : Nat} {R : List Rg} {β : Beta} {w : World} {vs : List Value}, mtAll β ρ xs vs → heapMt β ρ hp w → BetaOk N R β w → N ≤ w.heap.size → GB gl β w → (∀ i, c.id ≤ i → i < c'.id → β i = none) → ∀ {v : Value}, fvMt β (pickF ρ l d) v →
    AltPost P N R ρ β w c.id c'.id res vs v
  | [], Γ, c, c', res, out, h, hg, hΓ, N, R, β, w, vs, hm, hh, hb, hN, hG, hf, v, hv => by
    unfold callAlt at h
    split at h
    · exact hnd_alt hH h hg hΓ hm hh hb hN hG hf hv
    · simp [M.fail] at h
  | (b, none) :: l, Γ, c, c', res, out, h, hg, hΓ, N, R, β, w, vs, hm, hh, hb, hN, hG, hf, v, hv => by
    unfold callAlt at h
    obtain ⟨nb, c1, o1, c2, o2, y, h1, h2, he⟩ := M.bind_inv h
    simp only [Prod.mk.injEq] at he
    obtain ⟨rfl, rfl, rfl⟩ := he
    obtain ⟨u, c3, o3, c4, o4, y, h3, h4, he⟩ := M.bind_inv h2
    simp only [Prod.mk.injEq] at he
    obtain ⟨rfl, rfl, rfl⟩ := he
    simp only [Good.append] at hg
    have e1 := mkNot_snd b _ _ _ _ h1 hg.1
    have e2 := oblige_snd nb _ _ _ _ h3 hg.2.1
    have hbf : b.d ρ = false := by
      rw [e1] at e2
      simpa using e2
    have i1 := mkNot_id h1
    have i2 := oblige_id h3
    have hv' : fvMt β (pickF ρ l d) v := by
      unfold pickF at hv
      rw [if_neg (by simp [hbf])] at hv
      exact hv
    rw [← i1, ← i2]
    exact callAlt_ok hH xs d l Γ h4 hg.2.2 hΓ hm hh hb hN hG (fun i g1 g2 => hf i (by omega) g2) hv'
  | (b, some p) :: l, Γ, c, c', res, out, h, hg, hΓ, N, R, β, w, vs, hm, hh, hb, hN, hG, hf, v, hv => by
    unfold callAlt at h
    split at h
    · rename_i hc
      obtain ⟨u, c1, o1, c2, o2, y, h1, h2, he⟩ := M.bind_inv h
      simp only [Prod.mk.injEq] at he
      obtain ⟨rfl, rfl, rfl⟩ := he
      simp only [Good.append] at hg
      have e2 : b.d ρ = true := oblige_snd b _ _ _ _ h1 hg.1
      have i2 := oblige_id h1
      have hv' : fvMt β (some p) v := by
        unfold pickF at hv
        rw [if_pos e2] at hv
        exact hv
      rw [← i2]
      exact hnd_alt hH h2 hg.2 hΓ hm hh hb hN hG (fun i g1 g2 => hf i (by omega) g2) hv'
    · obtain ⟨lo, c1, o1, c2, o2, y, h1, h2, he⟩ := M.bind_inv h
      simp only [Prod.mk.injEq] at he
      obtain ⟨rfl, rfl, rfl⟩ := he
      simp only [getId, Option.some.injEq, Prod.mk.injEq] at h1
      obtain ⟨rfl, rfl, rfl⟩ := h1
      obtain ⟨r1, c3, o3, c4, o4, y, h3, h4, he⟩ := M.bind_inv h2
      simp only [Prod.mk.injEq] at he
      obtain ⟨rfl, rfl, rfl⟩ := he
      obtain ⟨r2, c5, o5, c6, o6, y, h5, h6, he⟩ := M.bind_inv h4
      simp only [Prod.mk.injEq] at he
      obtain ⟨rfl, rfl, rfl⟩ := he
      obtain ⟨hi, c7, o7, c8, o8, y, h7, h8, he⟩ := M.bind_inv h6
      simp only [Prod.mk.injEq] at he
      obtain ⟨rfl, rfl, rfl⟩ := he
      simp only [getId, Option.some.injEq, Prod.mk.injEq] at h7
      obtain ⟨rfl, rfl, rfl⟩ := h7
      simp only [Good.append] at hg
      obtain ⟨h3, le3⟩ := mono_inv h3
      obtain ⟨h5, le5⟩ := mono_inv h5
      simp only at le3 le5
      obtain ⟨x3, k3, q3, h3u, he⟩ := under_inv h3
      simp only [Prod.mk.injEq] at he
      obtain ⟨rfl, rfl, rfl⟩ := he
      obtain ⟨x5, k5, q5, h5u, he⟩ := under_inv h5
      simp only [Prod.mk.injEq] at he
      obtain ⟨rfl, rfl, rfl⟩ := he
      obtain ⟨h8, le8⟩ := mono_inv h8
      simp only at le8
      unfold mergeRes at h8
      obtain ⟨s, c9, o9, c10, o10, y, h9, h10, he⟩ := M.bind_inv h8
      simp only [Prod.mk.injEq] at he
      obtain ⟨rfl, rfl, rfl⟩ := he
      obtain ⟨ws, c11, o11, c12, o12, y, h11, h12, he⟩ := M.bind_inv h10
      simp only [Prod.mk.injEq] at he
      obtain ⟨rfl, rfl, rfl⟩ := he
      have he := M.pure_inv h12
      simp only [Prod.mk.injEq] at he
      obtain ⟨rfl, rfl, rfl⟩ := he
      simp only [Good.append] at hg
      obtain ⟨_, g3, g5, _, g9, g11, _⟩ := hg
      have hs := muxS_snd b _ _ _ _ _ _ h9 g9
      obtain ⟨w1, w2, w3⟩ := muxW_snd _ _ _ _ _ _ _ _ _ _ _ _ h11 g11
      simp only at hs w1 w2 w3
      have hfr : ∀ i, c.id ≤ i → i < c5.id → β i = none := fun i g1 g2 => hf i g1 (by omega)
      cases hbd : b.d ρ
      · have hv' : fvMt β (pickF ρ l d) v := by
          unfold pickF at hv
          rw [if_neg (by simp [hbd])] at hv
          exact hv
        have hgd : Gd.d ρ [(b, false)] = true := by simp [hbd]
        obtain ⟨g, us, rfl, hc1, hc2⟩ := callAlt_ok hH xs d l _ h5u (Good.under hgd g5) (by simp [hΓ, hbd]) hm hh hb hN hG (fun i g1 g2 => hfr i (by omega) g2) hv'
        refine ⟨g, us, rfl, hc1, Calls.mono hc2 fun e w' ⟨u, hu, hp'⟩ => ⟨u, hu, ?_⟩⟩
        refine merge_post hΓ hh hb (hi := c'.id) (by omega) (by omega) hf (all := dedupN (r1.w.map (·.1) ++ r2.w.map (·.1))) (fun i hi => mem_dedupN (by simp only [List.mem_append]; exact .inr hi)) hp' (fun β v h => hs β v (by rw [if_neg (by simp [hbd])]; exact h)) w1 (fun i h1 h2 => by have := w2 i h1 h2; omega) (fun β w h => w3 β w (by rw [if_neg (by simp [hbd])]; exact h))
      · have hv' : fvMt β (some p) v := by
          unfold pickF at hv
          rw [if_pos hbd] at hv
          exact hv
        have hgd : Gd.d ρ [(b, true)] = true := by simp [hbd]
        obtain ⟨g, us, rfl, hc1, hc2⟩ := hnd_alt hH h3u (Good.under hgd g3) (by simp [hΓ, hbd]) hm hh hb hN hG (fun i g1 g2 => hfr i (by omega) (by omega)) hv'
        refine ⟨g, us, rfl, hc1, Calls.mono hc2 fun e w' ⟨u, hu, hp'⟩ => ⟨u, hu, ?_⟩⟩
        refine merge_post hΓ hh hb (hi := c'.id) (by omega) (by omega) hf (all := dedupN (r1.w.map (·.1) ++ r2.w.map (·.1))) (fun i hi => mem_dedupN (by simp only [List.mem_append]; exact .inl hi)) hp' (fun β v h => hs β v (by rw [if_pos hbd]; exact h)) w1 (fun i h1 h2 => by have := w2 i h1 h2; omega) (fun β w h => w3 β w (by rw [if_pos hbd]; exact h))
end

def fnOf (f : S) : Option (List (B × FV) × FV) :=
  match f with
  | .one false [c] => asFn c
  | _ => none
theorem fnOf_spec {f : S} {p : List (B × FV) × FV} (h : fnOf f = some p) : ∃ c, f = .one false [c] ∧ asFn c = some p := by
  unfold fnOf at h
  split at h
  · exact ⟨_, rfl, h⟩
  · cases h
def xCallV (H : Hnd) (Γ : Gd) (hp : Hp) (f : S) (xs : List S) : M Res :=
  match fnOf f with
  | some p => callAlt H hp xs p.2 p.1 Γ
  | none => M.fail
def capsOf : List S → Option (List (Nat × Nat))
  | [] => some []
  | .one false [.ptr [] id off] :: l => (capsOf l).map ((id, off) :: ·)
  | _ => none
def xMakeFunc (fn : Fn) (first : List Operand) (caps : List S) : M S :=
  match fn with
  | .func f => if first.isEmpty then do
      let l ← lift (capsOf caps)
      pure (.one false [.fn [] (some (f, l))])
    else M.fail
  | _ => M.fail
section
variable {P : Program} {Φ : Funs} {gl : Gl} {Γ : Gd} {hp : Hp} {rv : Operand → SV} {dst : Option Tmp} {ty : TypeId} {pos : String} {after : Array Edge} {guard : Option (Nat × Bool)}
theorem capsOf_mt {β : Beta} {ρ : Env} : ∀ {l : List S} {ps : List (Nat × Nat)} {vs : List Value}, capsOf l = some ps → mtAll β ρ l vs → capMt β ps vs
  | [], ps, vs, h, hm => by
    simp only [capsOf, Option.some.injEq] at h
    subst h
    cases vs with
    | nil => trivial
    | cons _ _ => exact hm.elim
  | s :: l, ps, vs, h, hm => by
    unfold capsOf at h
    split at h
    · rename_i e; cases e
    · rename_i id off l' e
      simp only [List.cons.injEq] at e
      obtain ⟨rfl, rfl⟩ := e
      cases vs with
      | nil => exact hm.elim
      | cons v vs =>
        obtain ⟨h1, h2⟩ := hm
        cases hc : capsOf l with
        | none => rw [hc] at h; simp at h
        | some r =>
          rw [hc] at h
          simp only [Option.map_some, Option.some.injEq] at h
          subst h
          obtain ⟨r', hr', hv⟩ := mt_cell (s := .one false [.ptr [] id off]) rfl h1
          exact ⟨⟨r', by simpa [pick] using hr', by simpa [pick] using hv⟩, capsOf_mt hc h2⟩
    · cases h
/-- A known text's part, between known places. -/
def bndOf (d : Nat) : Option S → Option Nat
  | none => some d
  | some (.one false [.int _ (.c (.ofNat n))]) => some n
  | _ => none
def xSliceS (P : Program) (t : TypeId) (x : S) (lo hi : Option S) : M S :=
  match P.underlying t, x with
  | some .string, .one false [.val (.string s)] => match bndOf 0 lo, bndOf s.size hi with
    | some l, some h => if Nat.ble l h && Nat.ble h s.size then pure (.one false [.val (.string (s.extract l h))]) else M.fail
    | _, _ => M.fail
  | _, _ => M.fail
def optMt (β : Beta) (ρ : Env) : Option S → Option Value → Prop
  | none, none => True
  | some s, some v => s.mt β ρ v
  | _, _ => False
theorem bndOf_run {P : Program} {β : Beta} {ρ : Env} {d n y : Nat} {o : Option S} {v : Option Value} (h : bndOf d o = some n) (hm : optMt β ρ o v) (hy : n ≤ y) (code : BoundsCode) (w : World) :
    (v = none ∧ n = d) ∨ ∃ u, v = some u ∧ (Instr.sliceBound u y code).run P w = .ok n w := by
  unfold bndOf at h
  split at h
  · simp only [Option.some.injEq] at h
    cases v with
    | none => exact .inl ⟨rfl, h.symm⟩
    | some _ => exact hm.elim
  · rename_i k m
    simp only [Option.some.injEq] at h
    subst h
    cases v with
    | none => exact hm.elim
    | some u =>
      right
      obtain ⟨hu, _⟩ := mt_int rfl hm
      refine ⟨u, rfl, ?_⟩
      subst hu
      unfold Instr.sliceBound
      simp [asIntOf, hy]
  · cases h
theorem pure_slice {ρ : Env} (hΓ : Gd.d ρ Γ = true) (t : TypeId) (x : Operand) (lo hi : Option Operand) :
    Snd Φ ρ (xSliceS P t (rs Γ (rv x)) (lo.map fun x => rs Γ (rv x)) (hi.map fun x => rs Γ (rv x))) (Pure P Γ hp rv ⟨dst, .slice t x lo hi none, ty, pos, after, guard⟩ ρ) := by
  unfold xSliceS
  split
  · rename_i s hu hx1
    split
    · rename_i l h hl hh
      split
      · rename_i hc
        simp only [Bool.and_eq_true, Nat.ble_eq] at hc
        refine Snd.pure fun β ac w hx _ _ => ?_
        have hv := (mt_cell hx1 (rs_mt hΓ (hx x (by simp [Op.operands])))).1
        have e1 : optMt β ρ (lo.map fun x => rs Γ (rv x)) (lo.map ac.eval) := by
          cases lo with
          | none => trivial
          | some z => exact rs_mt hΓ (hx z (by simp [Op.operands]))
        have e2 : optMt β ρ (hi.map fun x => rs Γ (rv x)) (hi.map ac.eval) := by
          cases hi with
          | none => trivial
          | some z => exact rs_mt hΓ (hx z (by simp [Op.operands]))
        have k1 := bndOf_run (P := P) hl e1 (y := h) hc.1 .sliceB w
        have k2 := bndOf_run (P := P) hh e2 (y := s.size) hc.2 .sliceAlen w
        refine ⟨.string (s.extract l h), ?_, mt_of_cell ⟨rfl, rfl⟩⟩
        simp only [execOp, Instr.sliceAt, Instr.slice, Instr.sliceBounds, hv]
        rcases k1 with ⟨k1, rfl⟩ | ⟨u1, k1, r1⟩
        · rcases k2 with ⟨k2, rfl⟩ | ⟨u2, k2, r2⟩
          · rw [k1, k2]; simp [underlying, hu]
          · rw [k1, k2]; simp [underlying, hu, r2]
        · rcases k2 with ⟨k2, rfl⟩ | ⟨u2, k2, r2⟩
          · rw [k1, k2]; simp [underlying, hu, r1]
          · rw [k1, k2]; simp [underlying, hu, r1, r2]
      · exact Snd.fail
    · exact Snd.fail
  · exact Snd.fail
theorem pure_makeFunc {ρ : Env} (hΓ : Gd.d ρ Γ = true) (fn : Fn) (first captured : Array Operand) :
    Snd Φ ρ (xMakeFunc fn first.toList (captured.toList.map fun x => rs Γ (rv x))) (Pure P Γ hp rv ⟨dst, .makeFunc fn first captured, ty, pos, after, guard⟩ ρ) := by
  unfold xMakeFunc
  cases fn with
  | func f =>
    simp only []
    split
    · rename_i he
      have hfe : first = #[] := by
        simp only [List.isEmpty_iff] at he
        apply Array.toList_inj.1; simpa using he
      subst hfe
      refine Snd.bind (lift_snd _) fun l hl => Snd.pure fun β ac w hx hh hq => ?_
      have hm := mtAll_map (β := β) (ρ := ρ) (f := fun x => rs Γ (rv x)) (ev := ac.eval) (l := captured.toList) fun x hxm => rs_mt hΓ (hx x (by simp [Op.operands]; simpa using hxm))
      refine ⟨.func (.func f) #[] (captured.map ac.eval), by simp [execOp, Instr.makeFunc], mt_of_cell ⟨captured.toList.map ac.eval, ?_, capsOf_mt hl hm⟩⟩
      congr 1
      apply Array.toList_inj.1; simp
    · exact Snd.fail
  | _ => exact Snd.fail
theorem ok_callH {H : Hnd} (hH : HOk P Φ gl H) (f : Nat) (args : Array Operand) (argTypes : Array TypeId) :
    LOk P Φ (GB gl) Γ hp rv ⟨dst, .call { callee := .value (.func f), args := args, argTypes := argTypes }, ty, pos, after, guard⟩ (H f Γ hp (args.toList.map fun x => rs Γ (rv x))) := by
  intro ρ c res c' out he hg hΓ N R β a w hx hh hb hN hG hf
  have hops : ∀ x, x ∈ args.toList → x ∈ (Op.call { callee := .value (.func f), args := args, argTypes := argTypes }).operands := fun x hx => by
    simp [Op.operands, Call.operands]; exact .inr (by simpa using hx)
  obtain ⟨h1, h2⟩ := hH f Γ hp _ ρ c res c' out he hg hΓ N R β w (args.toList.map a.eval) (mtAll_map (f := fun x => rs Γ (rv x)) (ev := a.eval) fun x hxm => rs_mt hΓ (hx x (hops x hxm))) hh hb hN hG hf
  have hargs : (args.toList.map a.eval).toArray = args.map a.eval := by
    apply Array.toList_inj.1; simp
  rw [hargs] at h2
  refine OpG.calls (f := f) (args := args.map a.eval) (w' := w) ?_ h2
  have := h1 (args.map a.eval) w
  simp [execOp, resolve, Act.eval, Deferred.ofValue, invoke, this]
theorem ok_callV {H : Hnd} (hH : HOk P Φ gl H) (x : Operand) (args : Array Operand) (argTypes : Array TypeId) :
    LOk P Φ (GB gl) Γ hp rv ⟨dst, .call { callee := .value x, args := args, argTypes := argTypes }, ty, pos, after, guard⟩ (xCallV H Γ hp (rs Γ (rv x)) (args.toList.map fun x => rs Γ (rv x))) := by
  intro ρ c res c' out he hg hΓ N R β a w hx hh hb hN hG hf
  cases hfn : fnOf (rs Γ (rv x)) with
  | none => simp [xCallV, hfn, M.fail] at he
  | some p =>
      simp only [xCallV, hfn] at he
      obtain ⟨cc, hcc, hp'⟩ := fnOf_spec hfn
      have hops : ∀ y, y ∈ args.toList → y ∈ (Op.call { callee := .value x, args := args, argTypes := argTypes }).operands := fun y hy => by
        simp [Op.operands, Call.operands]; exact .inr (by simpa using hy)
      have hv := asFn_mt hp' (mt_cell hcc (rs_mt hΓ (hx x (by simp [Op.operands, Call.operands]))))
      obtain ⟨g, ws, hve, h1, h2⟩ := callAlt_ok hH _ _ _ _ he hg hΓ (mtAll_map (f := fun x => rs Γ (rv x)) (ev := a.eval) fun x hxm => rs_mt hΓ (hx x (hops x hxm))) hh hb hN hG hf hv
      have hargs : (args.toList.map a.eval ++ ws).toArray = args.map a.eval ++ ws.toArray := by
        apply Array.toList_inj.1; simp
      rw [hargs] at h2
      refine OpG.calls (f := g) (args := args.map a.eval ++ ws.toArray) (w' := w) ?_ h2
      have := h1 (args.map a.eval ++ ws.toArray) w
      simp [execOp, resolve, hve, Deferred.ofValue, invoke, this]

def opx (P : Program) (X : Hnd) (Γ : Gd) (hp : Hp) (rv : Operand → SV) : Op → M Res
  | .move x => do pure { s := ← pure (rs Γ (rv x)), w := [] }
  | .assign x => do pure { s := ← pure (rs Γ (rv x)), w := [] }
  | .pick c a b => do pure { s := ← xPick Γ (rv c) (rv a) (rv b), w := [] }
  | .alloc t => xAlloc P t
  | .box t x => xBox (rs Γ (rv x))
  | .build t parts => do pure { s := ← xBuild P t (parts.toList.map fun p => (p.1, rs Γ (rv p.2))), w := [] }
  | .buildSlice t n parts => xBuildSlice P t n (parts.toList.map fun p => (p.1, rs Γ (rv p.2)))
  | .load t x => do pure { s := ← xLoad P Γ hp t (rs Γ (rv x)), w := [] }
  | .store t x y => xStore P Γ hp t (rs Γ (rv x)) (rs Γ (rv y))
  | .nilCheck x => do pure { s := ← xNil (rs Γ (rv x)), w := [] }
  | .binOp op t x y _ => do pure { s := ← xBinA P op t (rs Γ (rv x)) (rs Γ (rv y)), w := [] }
  | .unOp op _ x => do pure { s := ← xUn op (rs Γ (rv x)), w := [] }
  | .convert src dst x => do pure { s := ← xConv P src dst (rs Γ (rv x)), w := [] }
  | .fieldAddr t x f => do pure { s := ← xFieldAddr P t f (rs Γ (rv x)), w := [] }
  | .field t x f => do pure { s := ← xField P t f (rs Γ (rv x)), w := [] }
  | .indexAddr t x i => do pure { s := ← xIndexAddr P t (rs Γ (rv x)) (rs Γ (rv i)), w := [] }
  | .index t x i => do pure { s := ← xIndex P t (rs Γ (rv x)) (rs Γ (rv i)), w := [] }
  | .extract x i => do pure { s := ← xExtract i (rs Γ (rv x)), w := [] }
  | .call { callee := .value (.func f), args, argTypes } => X f Γ hp (args.toList.map fun x => rs Γ (rv x))
  | .call { callee := .value (.tmp t), args, argTypes } => xCallV X Γ hp (rs Γ (rv (.tmp t))) (args.toList.map fun x => rs Γ (rv x))
  | .slice t x lo hi none => do pure { s := ← xSliceS P t (rs Γ (rv x)) (lo.map fun x => rs Γ (rv x)) (hi.map fun x => rs Γ (rv x)), w := [] }
  | .makeFunc fn first captured => do pure { s := ← xMakeFunc fn first.toList (captured.toList.map fun x => rs Γ (rv x)), w := [] }
  | .call { callee := .builtin b, args, argTypes } => do pure { s := ← xBuiltin P b argTypes (args.toList.map fun x => rs Γ (rv x)), w := [] }
  | _ => M.fail
theorem opx_ok {X : Hnd} (hX : HOk P Φ gl X) (o : Oper) : LOk P Φ (GB gl) Γ hp rv o (opx P X Γ hp rv o.op) := by
  obtain ⟨dst, op, ty, pos, after, guard⟩ := o
  cases op with
  | move x => exact LOk.of_pure fun ρ h => pure_move h _
  | assign x => exact LOk.of_pure fun ρ h => pure_assign h _
  | pick c a b => exact LOk.of_pure fun ρ h => pure_pick h _ _ _
  | alloc t => exact ok_alloc _
  | box t x => exact ok_box _ _
  | build t parts => exact LOk.of_pure fun ρ h => pure_build h _ _
  | buildSlice t n parts => exact ok_buildSlice _ _ _
  | load t x => exact LOk.of_pure fun ρ h => pure_load h _ _
  | store t x y => exact ok_store _ _ _
  | nilCheck x => exact LOk.of_pure fun ρ h => pure_nil h _
  | binOp op t x y t' => exact LOk.of_pure fun ρ h => pure_binA h _ _ _ _ _
  | unOp op t x => exact LOk.of_pure fun ρ h => pure_un h _ _ _
  | convert src d x => exact LOk.of_pure fun ρ h => pure_conv h _ _ _
  | fieldAddr t x f => exact LOk.of_pure fun ρ h => pure_fieldAddr h _ _ _
  | field t x f => exact LOk.of_pure fun ρ h => pure_field h _ _ _
  | indexAddr t x i => exact LOk.of_pure fun ρ h => pure_indexAddr h _ _ _
  | index t x i => exact LOk.of_pure fun ρ h => pure_index h _ _ _
  | extract x i => exact LOk.of_pure fun ρ h => pure_extract h _ _
  | slice t x lo hi mx => cases mx with
    | none => exact LOk.of_pure fun ρ h => pure_slice h _ _ _ _
    | some m => exact LOk.fail
  | makeFunc fn first captured => exact LOk.of_pure fun ρ h => pure_makeFunc h _ _ _
  | call c =>
    obtain ⟨callee, args, argTypes⟩ := c
    cases callee with
    | value f =>
      cases f with
      | func f => exact ok_callH hX _ _ _
      | tmp t => exact ok_callV hX _ _ _
      | _ => exact LOk.fail
    | builtin b => exact LOk.of_pure fun ρ h => pure_builtin h _ _ _
    | invoke r m => exact LOk.fail
  | _ => exact LOk.fail
end
end Go.Proofs.YtalnndmnnffnmaaGreat.Sx
/-! ## SxM -/
set_option linter.unusedVariables false
set_option linter.unusedSimpArgs false
namespace Go.Proofs.YtalnndmnnffnmaaGreat.Sx
open Go


def opS (P : Program) (X : Hnd) (gh : Hl) (ng : Nat) (ops : Array Oper) (o : Oper) (σ : St) : M St := do
  let g ← lift (gdOf ops σ o)
  match normG g with
  | none => do
    let tm ← lift (setT σ.tm o.dst undefSV)
    pure { tm := tm, hp := σ.hp }
  | some Γ => do
    let r ← M.mono (M.under Γ (opx P X Γ (hpX gh ng σ.hp) (ev ng σ) o.op))
    let tm ← lift (setT σ.tm o.dst { g := Γ, s := r.s })
    let hp ← M.mono (do
      let sel ← (if r.w.isEmpty || Γ.isEmpty then pure (.c (Γ.isEmpty)) else gAtom Γ)
      layB Γ sel σ.hp r.w)
    pure { tm := tm, hp := hp }
def regL (P : Program) (X : Hnd) (gh : Hl) (ng : Nat) (ops : Array Oper) : List Oper → St → M St
  | [], σ => pure σ
  | o :: l, σ => do
    let σ' ← opS P X gh ng ops o σ
    regL P X gh ng ops l σ'

section
variable {P : Program} {Φ : Funs} {X : Hnd} {x : Cx} {ρ : Env}

theorem opS_sound (hX : HOk P Φ x.gl X) (hG : ∀ w, Keep x.R x.w0 w → Laid x.gl w) {ops : Array Oper} {o : Oper} {σ σ' : St} {c c' : Ctr} {out : List Em} (h : opS P X x.gh x.ng ops o σ c = some (σ', c', out)) (hg : Good Φ ρ out)
    {β : Beta} {a : Act} {w : World} (hR : Rel x ρ β σ a w) (hf : Fresh β c) (next : Act → World → Prop) (Q : Exit → Act → World → Prop)
    (hn : ∀ β' a' w', Ext β β' → Rel x ρ β' σ' a' w' → Fresh β' c' → next a' w') :
    if Region.wanted o (yielded ops a.tmps) then o.wp P a w next Q else next (a.put o.dst undef) w := by
  unfold opS at h
  obtain ⟨g, c1, o1, c2, o2, y, h1, h2, he⟩ := M.bind_inv h
  obtain ⟨g', hgd, he1⟩ := lift_inv h1
  simp only [Prod.mk.injEq] at he1 he
  obtain ⟨rfl, rfl, rfl⟩ := he1
  obtain ⟨rfl, rfl, rfl⟩ := he
  rw [gdOf_wanted hR hgd]
  cases hno : normG g with
  | none =>
    rw [hno] at h2
    rw [normG_none (ρ := ρ) hno]
    simp only [Bool.false_eq_true, if_false]
    obtain ⟨tm, c3, o3, c4, o4, y, h3, h4, he⟩ := M.bind_inv h2
    obtain ⟨tm', ht, he3⟩ := lift_inv h3
    simp only [Prod.mk.injEq] at he3 he
    obtain ⟨rfl, rfl, rfl⟩ := he3
    have he4 := M.pure_inv h4
    simp only [Prod.mk.injEq] at he4
    obtain ⟨rfl, rfl, rfl⟩ := he4
    obtain ⟨rfl, rfl, rfl⟩ := he
    obtain ⟨s1, s2⟩ := slot_put (dst := o.dst) hR.size hR.slot ht undefSV_mt
    exact hn β _ w (Ext.refl β) ⟨s1, s2, (put_tmps a _ _).1.trans hR.df, hR.hm, hR.gm, hR.gro, hR.bo, hR.kp, hR.gl, hR.ra⟩ hf
  | some Γ =>
    rw [hno] at h2
    obtain ⟨r, c3, o3, c4, o4, y, h3, h4, he⟩ := M.bind_inv h2
    obtain ⟨h3, hle1⟩ := mono_inv h3
    obtain ⟨r', c3', o3', h3', he3⟩ := under_inv h3
    simp only [Prod.mk.injEq] at he3 he
    obtain ⟨rfl, rfl, rfl⟩ := he3
    obtain ⟨tm, c5, o5, c6, o6, y', h5, h6, he'⟩ := M.bind_inv h4
    obtain ⟨tm', ht, he5⟩ := lift_inv h5
    simp only [Prod.mk.injEq] at he5 he'
    obtain ⟨rfl, rfl, rfl⟩ := he5
    obtain ⟨hp, c7, o7, c8, o8, y'', h7, h8, he''⟩ := M.bind_inv h6
    obtain ⟨h7, hle2⟩ := mono_inv h7
    have he8 := M.pure_inv h8
    simp only [Prod.mk.injEq] at he8 he''
    obtain ⟨rfl, rfl, rfl⟩ := he8
    obtain ⟨rfl, rfl, rfl⟩ := he''
    obtain ⟨rfl, rfl, rfl⟩ := he'
    obtain ⟨rfl, rfl, rfl⟩ := he
    simp only [List.nil_append, List.append_nil] at hg
    rw [Good.append] at hg
    obtain ⟨hg1, hg2⟩ := hg
    have hΓe := normG_some (ρ := ρ) hno
    obtain ⟨sel, c9, o9, c10, o10, y3, h9, h10, he3⟩ := M.bind_inv h7
    simp only [Prod.mk.injEq] at he3
    obtain ⟨rfl, rfl, rfl⟩ := he3
    rw [Good.append] at hg2
    have hsel : (sel.d ρ = Gd.d ρ Γ) ∨ r.w = [] := by
      split at h9
      · rename_i hc
        have he := M.pure_inv h9
        simp only [Prod.mk.injEq] at he
        obtain ⟨rfl, _⟩ := he
        simp only [Bool.or_eq_true, List.isEmpty_iff] at hc
        rcases hc with h | h
        · exact .inr h
        · left; rw [h]; rfl
      · exact .inl (gAtom_snd Γ _ _ _ _ h9 hg2.1)
    simp only at hle1 hle2
    cases hgg : Gd.d ρ g
    · simp only [Bool.false_eq_true, if_false]
      rw [hgg] at hΓe
      have hlay : ∀ β w, heapMt β ρ (hpOf σ.hp) w → heapMt β ρ (hpOf hp) w := by
        rcases hsel with hsel | hsel
        · exact layB_idle (Φ := Φ) hΓe (by rw [hsel, hΓe]) r.w _ _ _ _ h10 hg2.2
        · rw [hsel] at h10
          have he := M.pure_inv h10
          simp only [Prod.mk.injEq] at he
          obtain ⟨rfl, _⟩ := he
          exact fun β w h => h
      obtain ⟨s1, s2⟩ := slot_put (v := undef) (dst := o.dst) hR.size hR.slot ht ⟨fun h => (by simp only at h; rw [hΓe] at h; cases h), fun _ => rfl⟩
      exact hn β _ w (Ext.refl β) ⟨s1, s2, (put_tmps a _ _).1.trans hR.df, hlay β w hR.hm, hR.gm, hR.gro, hR.bo, hR.kp, hR.gl, hR.ra⟩ (hf.le (by omega))
    · simp only [if_true]
      rw [hgg] at hΓe
      have hg1' := Good.under hΓe hg1
      have hlok := opx_ok (Γ := Γ) (hp := hpX x.gh x.ng σ.hp) (rv := ev x.ng σ) hX o ρ _ _ _ _ h3' hg1' hΓe x.w0.heap.size x.R β a w (fun z _ => ev_mt hR z) hR.hx hR.bo hR.kp.size ⟨hG w hR.kp, hR.gl⟩
        (fun i hi _ => hf i hi)
      refine hlok next Q fun v w' hpost => ?_
      obtain ⟨β', hst, hsv, hbl⟩ := hpost
      have hlay : ∀ (β : Beta) (w : World), (∀ p, p ∈ r.w → blkMt β ρ w p.1 p.2) → (∀ id b, hpOf σ.hp id = some b → id ∉ r.w.map (·.1) → Gd.d ρ b.g = true → blkMt β ρ w id b) → heapMt β ρ (hpOf hp) w := by
        rcases hsel with hsel | hsel
        · exact layB_ran (Φ := Φ) hΓe (by rw [hsel, hΓe]) r.w _ _ _ _ h10 hg2.2
        · rw [hsel] at h10 ⊢
          have he := M.pure_inv h10
          simp only [Prod.mk.injEq] at he
          obtain ⟨rfl, _⟩ := he
          exact fun β w _ h id b hb hg => h id b hb (by simp) hg
      obtain ⟨W, hW, hkW⟩ := hst.kp
      obtain ⟨s1, s2⟩ := slot_put (v := v) (β := β') (dst := o.dst) hR.size (fun t y hy => SV.mt_ext hst.ext (hR.slot t y hy)) ht ⟨fun _ => hsv, fun h => (by simp only at h; rw [hΓe] at h; cases h)⟩
      refine hn β' _ w' hst.ext ⟨s1, s2, (put_tmps a _ _).1.trans hR.df, hlay β' w' hbl fun id b hb hni hbg => ?_, fun id b hb hbg => ?_, hR.gro, hst.bo, hR.kp.trans hkW fun r hr => ?_, fun g vs hg => hst.ext _ _ (hR.gl g vs hg), fun j r hr => hst.ext _ _ (hR.ra j r hr)⟩ (fun i hi => ?_)
      · refine blkMt_keep hst.ext hR.bo hkW (fun r q hr hq => ?_) (hR.hm id b hb hbg)
        obtain ⟨id', hid', hβ', hro, _⟩ := hW r hr
        exact hR.bo.apartW (i := id') (j := id) (fun e => hni (e ▸ hid')) hβ' hq hro
      · have hgm := hR.gm id b hb hbg
        refine blkMt_keep hst.ext hR.bo hkW (fun r q hr hq => ?_) hgm
        obtain ⟨id', hid', hβ', hro, _⟩ := hW r hr
        refine hR.bo.apartW (fun e => ?_) hβ' hq hro
        subst e
        obtain ⟨q', hq', _, hro', _⟩ := hgm
        rw [hβ'] at hq'
        cases hq'
        rw [hro, hR.gro _ b hb] at hro'
        cases hro'
      · obtain ⟨id', hid', hβ', hro, _⟩ := hW r hr
        rcases hR.bo.may id' r hβ' with h | h
        · rw [hro] at h; cases h
        · exact h
      · rw [hst.dom i (.inr (by omega))]
        exact hf i (by omega)

theorem regL_sound (hX : HOk P Φ x.gl X) (hG : ∀ w, Keep x.R x.w0 w → Laid x.gl w) {ops : Array Oper} {Q : Exit → Act → World → Prop} : ∀ (l : List Oper) {σ σ' : St} {c c' : Ctr} {out : List Em}, regL P X x.gh x.ng ops l σ c = some (σ', c', out) → Good Φ ρ out →
    ∀ {β : Beta} {a : Act} {w : World}, Rel x ρ β σ a w → Fresh β c → (∀ β' a' w', Ext β β' → Rel x ρ β' σ' a' w' → Fresh β' c' → Q .normal a' w') → wpList P ops Q l a w
  | [], σ, σ', c, c', out, h, hg, β, a, w, hR, hf, hn => by
    have he := M.pure_inv h
    simp only [Prod.mk.injEq] at he
    obtain ⟨rfl, rfl, rfl⟩ := he
    exact hn β a w (Ext.refl β) hR hf
  | o :: l, σ, σ', c, c', out, h, hg, β, a, w, hR, hf, hn => by
    obtain ⟨σ1, c1, o1, c2, o2, y, h1, h2, he⟩ := M.bind_inv h
    simp only [Prod.mk.injEq] at he
    obtain ⟨rfl, rfl, rfl⟩ := he
    rw [Good.append] at hg
    refine wpList_step fun K hK => ?_
    refine opS_sound hX hG h1 hg.1 hR hf K Q fun β' a' w' he' hR' hf' => hK _ _ ?_
    exact regL_sound hX hG l h2 hg.2 hR' hf' fun β'' a'' w'' he'' hR'' hf'' => hn β'' a'' w'' (he'.trans he'') hR'' hf''
end

/-! ### Two frames as one -/
def muxSV (sel : B) (u v : SV) : M SV :=
  if u.g.isEmpty && v.g.isEmpty then do pure { g := [], s := ← muxS sel u.s v.s } else pure anySV
def muxTm (sel : B) : List Bool → List SV → List SV → M (List SV)
  | _, [], [] => pure []
  | k, u :: us, v :: vs => do
    let z ← (if k.headD false then muxSV sel u v else pure anySV)
    let zs ← muxTm sel k.tail us vs
    pure (z :: zs)
  | _, _, _ => M.fail
def dedup : List Nat → List Nat
  | [] => []
  | i :: l => if l.contains i then dedup l else i :: dedup l
def muxHp (sel : B) (h1 h2 : Hl) : List Nat → M Hl
  | [] => pure []
  | i :: l => do
    let r ← muxHp sel h1 h2 l
    match hpOf h1 i, hpOf h2 i with
    | some b1, some b2 =>
      if b1.g.isEmpty && b2.g.isEmpty && b1.ro == b2.ro && b1.cells.length == b2.cells.length then do
        let z ← muxL sel b1.cells b2.cells
        pure ((i, { g := [], ro := b1.ro, cells := z }) :: r)
      else pure r
    | _, _ => pure r
def muxSt (keep : List Bool) (sel : B) (u v : St) : M St := do
  let tm ← muxTm sel keep u.tm v.tm
  let hp ← muxHp sel u.hp v.hp (dedup (u.hp.map (·.1)))
  pure { tm := tm, hp := hp }

section
variable {Φ : Funs} {x : Cx} {ρ : Env}
theorem muxSV_snd (sel : B) (u v : SV) : Snd Φ ρ (muxSV sel u v) (fun z => ∀ β y, (if sel.d ρ then u.mt β ρ y else v.mt β ρ y) → z.mt β ρ y) := by
  unfold muxSV
  split
  · rename_i hc
    simp only [Bool.and_eq_true, List.isEmpty_iff] at hc
    refine Snd.bind (muxS_snd sel u.s v.s) fun s hs => Snd.pure fun β y h => ⟨fun _ => hs β y ?_, fun h => (by cases h)⟩
    split at h
    · rename_i hb; rw [if_pos hb]; exact h.1 (by rw [hc.1]; rfl)
    · rename_i hb; rw [if_neg hb]; exact h.1 (by rw [hc.2]; rfl)
  · exact Snd.pure fun β y _ => anySV_mt y
theorem muxTm_snd (sel : B) : ∀ (k : List Bool) (us vs : List SV), Snd Φ ρ (muxTm sel k us vs) (fun zs => zs.length = us.length ∧ us.length = vs.length ∧ ∀ (t : Nat) (z : SV), zs[t]? = some z → ∃ u v, us[t]? = some u ∧ vs[t]? = some v ∧
    ∀ β y, (if sel.d ρ then u.mt β ρ y else v.mt β ρ y) → z.mt β ρ y)
  | k, [], [] => by
    unfold muxTm
    exact Snd.pure ⟨rfl, rfl, fun t z h => by simp at h⟩
  | k, u :: us, v :: vs => by
    unfold muxTm
    refine Snd.bind (p := fun z => ∀ β y, (if sel.d ρ then u.mt β ρ y else v.mt β ρ y) → z.mt β ρ y) ?_ fun z hz => Snd.bind (muxTm_snd sel k.tail us vs) fun zs hzs => Snd.pure ?_
    · split
      · exact muxSV_snd sel u v
      · exact Snd.pure fun β y _ => anySV_mt y
    · obtain ⟨h1, h2, h3⟩ := hzs
      refine ⟨by simp [h1], by simp [h2], fun t q hq => ?_⟩
      cases t with
      | zero => simp at hq; subst hq; exact ⟨u, v, by simp, by simp, hz⟩
      | succ t => simp at hq; simpa using h3 t q hq
  | k, [], _ :: _ => by unfold muxTm; exact Snd.fail
  | k, _ :: _, [] => by unfold muxTm; exact Snd.fail
theorem muxHp_snd (sel : B) (h1 h2 : Hl) : ∀ (l : List Nat), Snd Φ ρ (muxHp sel h1 h2 l) (fun r => ∀ β w, (if sel.d ρ then heapMt β ρ (hpOf h1) w else heapMt β ρ (hpOf h2) w) → heapMt β ρ (hpOf r) w)
  | [] => Snd.pure fun β w _ id b hb => by simp [hpOf] at hb
  | i :: l => by
    unfold muxHp
    refine Snd.bind (muxHp_snd sel h1 h2 l) fun r hr => ?_
    split
    · rename_i b1 b2 hb1 hb2
      split
      · rename_i hc
        simp only [Bool.and_eq_true, List.isEmpty_iff, beq_iff_eq] at hc
        obtain ⟨⟨⟨hg1, hg2⟩, hro⟩, hlen⟩ := hc
        refine Snd.bind (muxL_snd sel b1.cells b2.cells) fun z hz => Snd.pure fun β w h id b hb hg => ?_
        unfold hpOf at hb
        split at hb
        · rename_i he
          simp only [beq_iff_eq] at he
          subst he
          simp only [Option.some.injEq] at hb
          subst hb
          obtain ⟨z1, z2, _, z4⟩ := hz
          by_cases hs : sel.d ρ = true
          · rw [if_pos hs] at h
            obtain ⟨q, hq, hl, hro', hcs, hf⟩ := h _ b1 hb1 (by rw [hg1]; rfl)
            exact ⟨q, hq, by simp only; omega, hro', z4 _ _ _ _ (by rw [if_pos hs]; exact hcs), fun h0 j hj => hf h0 j (by simp only at hj; omega)⟩
          · rw [if_neg hs] at h
            obtain ⟨q, hq, hl, hro', hcs, hf⟩ := h _ b2 hb2 (by rw [hg2]; rfl)
            exact ⟨q, hq, by simp only; omega, by rw [hro', hro], z4 _ _ _ _ (by rw [if_neg hs]; exact hcs), fun h0 j hj => hf (by rw [← hro]; exact h0) j (by simp only at hj; omega)⟩
        · exact hr β w h id b hb hg
      · exact Snd.pure hr
    · exact Snd.pure hr
theorem muxSt_snd (keep : List Bool) (sel : B) (u v : St) : Snd Φ ρ (muxSt keep sel u v) (fun z => ∀ β a w, (if sel.d ρ then Rel x ρ β u a w else Rel x ρ β v a w) → Rel x ρ β z a w) := by
  unfold muxSt
  refine Snd.bind (muxTm_snd sel keep u.tm v.tm) fun tm htm => Snd.bind (muxHp_snd sel u.hp v.hp _) fun hp hhp => Snd.pure fun β a w h => ?_
  obtain ⟨h1, h2, h3⟩ := htm
  have hm := hhp β w (by
    split at h
    · rename_i hs; rw [if_pos hs]; exact h.hm
    · rename_i hs; rw [if_neg hs]; exact h.hm)
  have hsl : ∀ (t : Nat) (z : SV), tm[t]? = some z → z.mt β ρ (a.tmps.getD t undef) := fun t z hz => by
    obtain ⟨p, q, hp, hq, hpq⟩ := h3 t z hz
    refine hpq β _ ?_
    split at h
    · rename_i hs; rw [if_pos hs]; exact h.slot t p hp
    · rename_i hs; rw [if_neg hs]; exact h.slot t q hq
  split at h
  · exact ⟨by rw [h.size, h1], hsl, h.df, hm, h.gm, h.gro, h.bo, h.kp, h.gl, h.ra⟩
  · exact ⟨by rw [h.size, h1, h2], hsl, h.df, hm, h.gm, h.gro, h.bo, h.kp, h.gl, h.ra⟩
end

/-! ### Ways out of code -/
inductive Kd where
  | n
  | r
  | x (id : Nat)
def Kd.eq : Kd → Kd → Bool
  | .n, .n | .r, .r => true
  | .x i, .x j => i == j
  | _, _ => false
theorem Kd.eq_sound {k l : Kd} (h : k.eq l = true) : k = l := by
  cases k <;> cases l <;> simp_all [Kd.eq]
theorem Kd.eq_refl (k : Kd) : k.eq k = true := by cases k <;> simp [Kd.eq]
theorem Kd.eq_ne {k l : Kd} (h : k ≠ l) : k.eq l = false := by
  cases hk : k.eq l
  · rfl
  · exact absurd (Kd.eq_sound hk) h

abbrev Outs := List (Kd × Gd × St)
def getK (k : Kd) : Outs → Option (Gd × St)
  | [] => none
  | (l, q, s) :: o => if k.eq l then some (q, s) else getK k o
def kdOf : Exit → Option Kd
  | .normal => some .n
  | .ret => some .r
  | .exit id => some (.x id)
  | _ => none

/-- Just one way out's conditions hold: the one that was taken; and there it is known what holds. -/
def OutMt (x : Cx) (ρ : Env) (β : Beta) (c : Ctr) (O : Outs) (K : Kd) (a : Act) (w : World) : Prop :=
  (∀ k q s, getK k O = some (q, s) → (Gd.d ρ q = true ↔ k = K)) ∧ ∃ q s β', getK K O = some (q, s) ∧ Ext β β' ∧ Rel x ρ β' s a w ∧ Fresh β' c

def single (O : Outs) : Outs :=
  match O with
  | [(k, _, s)] => [(k, [], s)]
  | O => O
theorem single_mt {x : Cx} {ρ : Env} {β : Beta} {c : Ctr} {O : Outs} {K : Kd} {a : Act} {w : World} (h : OutMt x ρ β c O K a w) : OutMt x ρ β c (single O) K a w := by
  unfold single
  split
  · rename_i k q s
    obtain ⟨h1, q', s', β', h2, h3⟩ := h
    unfold getK at h2
    split at h2
    · rename_i he
      have := Kd.eq_sound he
      subst this
      simp only [Option.some.injEq, Prod.mk.injEq] at h2
      obtain ⟨rfl, rfl⟩ := h2
      refine ⟨fun k q s hk => ?_, [], _, β', by simp [getK, Kd.eq_refl], h3⟩
      unfold getK at hk
      split at hk
      · rename_i he'
        simp only [Option.some.injEq, Prod.mk.injEq] at hk
        obtain ⟨rfl, rfl⟩ := hk
        simp [Kd.eq_sound he']
      · simp [getK] at hk
    · simp [getK] at h2
  · exact h

def mergeGo (keep : List Bool) (sel : B) (p1 : Gd) (O2 : Outs) : Outs → M Outs
  | [] => pure []
  | (k, q1, s1) :: l => do
    let r ← mergeGo keep sel p1 O2 l
    match getK k O2 with
    | none => pure ((k, p1 ++ q1, s1) :: r)
    | some (q2, s2) => do
      let q ← (if q1.isEmpty && q2.isEmpty then pure [] else do
        let a1 ← gAtom q1
        let a2 ← gAtom q2
        let b ← mkIteB sel a1 a2
        pure [(b, true)])
      let s ← muxSt keep sel s1 s2
      pure ((k, q, s) :: r)
def restGo (p2 : Gd) (O1 : Outs) : Outs → Outs
  | [] => []
  | (k, q, s) :: l => match getK k O1 with
    | none => (k, p2 ++ q, s) :: restGo p2 O1 l
    | some _ => restGo p2 O1 l
def mergeAny (keep : List Bool) (sel : B) (p1 p2 : Gd) (O1 O2 : Outs) : M Outs := do
  let r ← mergeGo keep sel p1 O2 O1
  pure (single (r ++ restGo p2 O1 O2))
def ones (O1 O2 : Outs) : Option (Kd × St × St) :=
  match O1, O2 with
  | [(k1, _, s1)], [(k2, _, s2)] => if k1.eq k2 then some (k1, s1, s2) else none
  | _, _ => none
def merge (keep : List Bool) (sel : B) (p1 p2 : Gd) (O1 O2 : Outs) : M Outs :=
  match ones O1 O2 with
  | some (k, s1, s2) => do pure [(k, [], ← muxSt keep sel s1 s2)]
  | none => mergeAny keep sel p1 p2 O1 O2

section
variable {Φ : Funs} {x : Cx} {ρ : Env}
theorem getK_append (k : Kd) : ∀ (O O' : Outs), getK k (O ++ O') = match getK k O with | some p => some p | none => getK k O'
  | [], O' => rfl
  | (l, q, s) :: O, O' => by
    simp only [List.cons_append, getK]
    split
    · rfl
    · exact getK_append k O O'
theorem restGo_get (p2 : Gd) (O1 : Outs) (k : Kd) : ∀ (O : Outs), getK k (restGo p2 O1 O) = match getK k O1 with | some _ => none | none => (getK k O).map fun p => (p2 ++ p.1, p.2)
  | [] => by simp only [restGo, getK]; split <;> rfl
  | (l, q, s) :: O => by
    unfold restGo
    have ih := restGo_get p2 O1 k O
    split
    · rename_i hl
      simp only [getK]
      split
      · rename_i he
        rw [Kd.eq_sound he, hl]
        rfl
      · exact ih
    · rename_i v hl
      rw [ih]
      split
      · rfl
      · rename_i hk
        simp only [getK]
        split
        · rename_i he
          rw [Kd.eq_sound he, hl] at hk
          cases hk
        · rfl
theorem mergeGo_snd (keep : List Bool) (sel : B) (p1 : Gd) (O2 : Outs) : ∀ (O1 : Outs), Snd Φ ρ (mergeGo keep sel p1 O2 O1) (fun r => ∀ k, match getK k O1 with
    | none => getK k r = none
    | some (q1, s1) => match getK k O2 with
      | none => getK k r = some (p1 ++ q1, s1)
      | some (q2, s2) => ∃ q s, getK k r = some (q, s) ∧ (Gd.d ρ q = if sel.d ρ then Gd.d ρ q1 else Gd.d ρ q2) ∧ ∀ β a w, (if sel.d ρ then Rel x ρ β s1 a w else Rel x ρ β s2 a w) → Rel x ρ β s a w)
  | [] => Snd.pure fun k => rfl
  | (l, q1, s1) :: O1 => by
    unfold mergeGo
    refine Snd.bind (mergeGo_snd keep sel p1 O2 O1) fun r hr => ?_
    split
    · rename_i hl
      refine Snd.pure fun k => ?_
      simp only [getK]
      by_cases he : k.eq l = true
      · rw [if_pos he, if_pos he]
        rw [Kd.eq_sound he, hl]
      · rw [if_neg he, if_neg he]
        exact hr k
    · rename_i q2 s2 hl
      refine Snd.bind (p := fun q => Gd.d ρ q = if sel.d ρ then Gd.d ρ q1 else Gd.d ρ q2) ?_ fun q hq => Snd.bind (muxSt_snd (x := x) keep sel s1 s2) fun s hs => Snd.pure fun k => ?_
      · split
        · rename_i hc
          simp only [Bool.and_eq_true, List.isEmpty_iff] at hc
          obtain ⟨rfl, rfl⟩ := hc
          exact Snd.pure (by simp)
        · refine Snd.bind (gAtom_snd q1) fun a1 h1 => Snd.bind (gAtom_snd q2) fun a2 h2 => Snd.bind (mkIteB_snd sel a1 a2) fun b hb => Snd.pure ?_
          rw [Gd.d_cons, Gd.d_nil, hb, h1, h2]
          cases sel.d ρ <;> simp
      · simp only [getK]
        by_cases he : k.eq l = true
        · rw [if_pos he, if_pos he]
          rw [Kd.eq_sound he, hl]
          exact ⟨q, s, rfl, hq, hs⟩
        · rw [if_neg he, if_neg he]
          exact hr k
/-- The first one was taken. -/
theorem mergeAny_left {keep : List Bool} {sel : B} {p1 p2 : Gd} {O1 O2 : Outs} (hsel : sel.d ρ = true) (hp1 : Gd.d ρ p1 = true) (h2 : ∀ k q s, getK k O2 = some (q, s) → getK k O1 = none → Gd.d ρ (p2 ++ q) = false) :
    Snd Φ ρ (mergeAny keep sel p1 p2 O1 O2) (fun O => ∀ β c K a w, OutMt x ρ β c O1 K a w → OutMt x ρ β c O K a w) := by
  unfold mergeAny
  refine Snd.bind (mergeGo_snd (x := x) keep sel p1 O2 O1) fun r hr => Snd.pure fun β c K a w h => single_mt ?_
  obtain ⟨h1, q, s, β', hK, hE, hR, hF⟩ := h
  refine ⟨fun k q' s' hk => ?_, ?_⟩
  · have hrk := hr k
    rw [getK_append] at hk
    cases hg1 : getK k O1 with
    | none =>
      rw [hg1] at hrk
      simp only at hrk
      rw [hrk] at hk
      simp only at hk
      rw [restGo_get, hg1] at hk
      simp only [Option.map_eq_some_iff] at hk
      obtain ⟨p, hp, he⟩ := hk
      obtain ⟨q2, s2⟩ := p
      simp only [Prod.mk.injEq] at he
      obtain ⟨rfl, rfl⟩ := he
      rw [h2 k q2 s2 hp hg1]
      constructor
      · intro hc; cases hc
      · intro hc; subst hc; rw [hg1] at hK; cases hK
    | some p =>
      obtain ⟨q1, s1⟩ := p
      rw [hg1] at hrk
      simp only at hrk
      have hq1 := h1 k q1 s1 hg1
      cases hg2 : getK k O2 with
      | none =>
        rw [hg2] at hrk
        simp only at hrk
        rw [hrk] at hk
        simp only [Option.some.injEq, Prod.mk.injEq] at hk
        obtain ⟨rfl, rfl⟩ := hk
        rw [Gd.d_append, hp1, Bool.true_and]
        exact hq1
      | some p2' =>
        obtain ⟨q2, s2⟩ := p2'
        rw [hg2] at hrk
        simp only at hrk
        obtain ⟨q3, s3, g1, g2, _⟩ := hrk
        rw [g1] at hk
        simp only [Option.some.injEq, Prod.mk.injEq] at hk
        obtain ⟨rfl, rfl⟩ := hk
        rw [g2, if_pos hsel]
        exact hq1
  · have hrk := hr K
    rw [hK] at hrk
    simp only at hrk
    cases hg2 : getK K O2 with
    | none =>
      rw [hg2] at hrk
      simp only at hrk
      exact ⟨_, s, β', by rw [getK_append, hrk], hE, hR, hF⟩
    | some p2' =>
      obtain ⟨q2, s2⟩ := p2'
      rw [hg2] at hrk
      simp only at hrk
      obtain ⟨q3, s3, g1, g2, g3⟩ := hrk
      exact ⟨q3, s3, β', by rw [getK_append, g1], hE, g3 β' a w (by rw [if_pos hsel]; exact hR), hF⟩
/-- The second one was taken. -/
theorem mergeAny_right {keep : List Bool} {sel : B} {p1 p2 : Gd} {O1 O2 : Outs} (hsel : sel.d ρ = false) (hp2 : Gd.d ρ p2 = true) (h1 : ∀ k q s, getK k O1 = some (q, s) → getK k O2 = none → Gd.d ρ (p1 ++ q) = false) :
    Snd Φ ρ (mergeAny keep sel p1 p2 O1 O2) (fun O => ∀ β c K a w, OutMt x ρ β c O2 K a w → OutMt x ρ β c O K a w) := by
  unfold mergeAny
  refine Snd.bind (mergeGo_snd (x := x) keep sel p1 O2 O1) fun r hr => Snd.pure fun β c K a w h => single_mt ?_
  obtain ⟨h2, q, s, β', hK, hE, hR, hF⟩ := h
  have hsel' : ¬ (sel.d ρ = true) := by simp [hsel]
  refine ⟨fun k q' s' hk => ?_, ?_⟩
  · have hrk := hr k
    rw [getK_append] at hk
    cases hg1 : getK k O1 with
    | none =>
      rw [hg1] at hrk
      simp only at hrk
      rw [hrk] at hk
      simp only at hk
      rw [restGo_get, hg1] at hk
      simp only [Option.map_eq_some_iff] at hk
      obtain ⟨p, hp, he⟩ := hk
      obtain ⟨q2, s2⟩ := p
      simp only [Prod.mk.injEq] at he
      obtain ⟨rfl, rfl⟩ := he
      rw [Gd.d_append, hp2, Bool.true_and]
      exact h2 k q2 s2 hp
    | some p =>
      obtain ⟨q1, s1⟩ := p
      rw [hg1] at hrk
      simp only at hrk
      cases hg2 : getK k O2 with
      | none =>
        rw [hg2] at hrk
        simp only at hrk
        rw [hrk] at hk
        simp only [Option.some.injEq, Prod.mk.injEq] at hk
        obtain ⟨rfl, rfl⟩ := hk
        rw [h1 k q1 _ hg1 hg2]
        constructor
        · intro hc; cases hc
        · intro hc; subst hc; rw [hg2] at hK; cases hK
      | some p2' =>
        obtain ⟨q2, s2⟩ := p2'
        rw [hg2] at hrk
        simp only at hrk
        obtain ⟨q3, s3, g1, g2, _⟩ := hrk
        rw [g1] at hk
        simp only [Option.some.injEq, Prod.mk.injEq] at hk
        obtain ⟨rfl, rfl⟩ := hk
        rw [g2, if_neg hsel']
        exact h2 k q2 s2 hg2
  · have hrk := hr K
    cases hg1 : getK K O1 with
    | none =>
      rw [hg1] at hrk
      simp only at hrk
      refine ⟨_, s, β', by rw [getK_append, hrk, restGo_get, hg1, hK]; rfl, hE, hR, hF⟩
    | some p1' =>
      obtain ⟨q1, s1⟩ := p1'
      rw [hg1] at hrk
      simp only at hrk
      rw [hK] at hrk
      simp only at hrk
      obtain ⟨q3, s3, g1, g2, g3⟩ := hrk
      exact ⟨q3, s3, β', by rw [getK_append, g1], hE, g3 β' a w (by rw [if_neg hsel']; exact hR), hF⟩
theorem ones_spec {O1 O2 : Outs} {k : Kd} {s1 s2 : St} (h : ones O1 O2 = some (k, s1, s2)) : (∃ q, O1 = [(k, q, s1)]) ∧ ∃ q, O2 = [(k, q, s2)] := by
  unfold ones at h
  split at h
  · split at h
    · rename_i hk
      simp only [Option.some.injEq, Prod.mk.injEq] at h
      obtain ⟨rfl, rfl, rfl⟩ := h
      rw [← Kd.eq_sound hk]
      exact ⟨⟨_, rfl⟩, ⟨_, rfl⟩⟩
    · cases h
  · cases h
theorem one_mt {β : Beta} {c : Ctr} {k K : Kd} {q : Gd} {s s' : St} {a : Act} {w : World} (h : OutMt x ρ β c [(k, q, s)] K a w) (hs : ∀ β, Rel x ρ β s a w → Rel x ρ β s' a w) : OutMt x ρ β c [(k, [], s')] K a w := by
  obtain ⟨h1, q', t, β', h2, hE, hR, hF⟩ := h
  unfold getK at h2
  split at h2
  · rename_i he
    have := Kd.eq_sound he
    subst this
    simp only [Option.some.injEq, Prod.mk.injEq] at h2
    obtain ⟨rfl, rfl⟩ := h2
    refine ⟨fun k q s hk => ?_, [], s', β', by simp [getK, Kd.eq_refl], hE, hs β' hR, hF⟩
    unfold getK at hk
    split at hk
    · rename_i he'
      simp only [Option.some.injEq, Prod.mk.injEq] at hk
      obtain ⟨rfl, rfl⟩ := hk
      simp [Kd.eq_sound he']
    · simp [getK] at hk
  · simp [getK] at h2
theorem merge_left {keep : List Bool} {sel : B} {p1 p2 : Gd} {O1 O2 : Outs} (hsel : sel.d ρ = true) (hp1 : Gd.d ρ p1 = true) (h2 : ∀ k q s, getK k O2 = some (q, s) → getK k O1 = none → Gd.d ρ (p2 ++ q) = false) :
    Snd Φ ρ (merge keep sel p1 p2 O1 O2) (fun O => ∀ β c K a w, OutMt x ρ β c O1 K a w → OutMt x ρ β c O K a w) := by
  unfold merge
  split
  · rename_i k s1 s2 ho
    obtain ⟨⟨q1, rfl⟩, q2, rfl⟩ := ones_spec ho
    exact Snd.bind (muxSt_snd (x := x) keep sel s1 s2) fun s hs => Snd.pure fun β c K a w h => one_mt h fun β hR => hs β a w (by rw [if_pos hsel]; exact hR)
  · exact mergeAny_left hsel hp1 h2
theorem merge_right {keep : List Bool} {sel : B} {p1 p2 : Gd} {O1 O2 : Outs} (hsel : sel.d ρ = false) (hp2 : Gd.d ρ p2 = true) (h1 : ∀ k q s, getK k O1 = some (q, s) → getK k O2 = none → Gd.d ρ (p1 ++ q) = false) :
    Snd Φ ρ (merge keep sel p1 p2 O1 O2) (fun O => ∀ β c K a w, OutMt x ρ β c O2 K a w → OutMt x ρ β c O K a w) := by
  unfold merge
  split
  · rename_i k s1 s2 ho
    obtain ⟨⟨q1, rfl⟩, q2, rfl⟩ := ones_spec ho
    exact Snd.bind (muxSt_snd (x := x) keep sel s1 s2) fun s hs => Snd.pure fun β c K a w h => one_mt h fun β hR => hs β a w (by rw [if_neg (by simp [hsel])]; exact hR)
  · exact mergeAny_right hsel hp2 h1
end
end Go.Proofs.YtalnndmnnffnmaaGreat.Sx
/-! ## SxMp -/
set_option linter.unusedVariables false
set_option linter.unusedSimpArgs false
namespace Go.Proofs.YtalnndmnnffnmaaGreat.Sx
open Go

/-- What was put into a map: keys, and what stands there. -/
abbrev MEs := List (ByteArray × S)
def mapMt (N : Nat) (β : Beta) (ρ : Env) (w : World) (M : Nat) (es : MEs) : Prop :=
  ∃ r ents clock, (β M = some r ∧ r.off = 0 ∧ r.len = 1 ∧ r.ro = false) ∧ N ≤ r.blk ∧ w.heap[r.blk]? = some (.map ents clock) ∧ (∀ p, p ∈ es → ∃ e, e ∈ ents.toList ∧ e.key = .string p.1) ∧
    ∀ e, e ∈ ents.toList → ∃ p, p ∈ es ∧ e.key = .string p.1 ∧ p.2.mt β ρ e.val
theorem mapMt_congr {N : Nat} {β : Beta} {ρ : Env} {w : World} {M : Nat} {es es' : MEs} (h : ∀ p, p ∈ es ↔ p ∈ es') (hm : mapMt N β ρ w M es) : mapMt N β ρ w M es' := by
  obtain ⟨r, ents, clock, h1, h2, h3, h4, h5⟩ := hm
  refine ⟨r, ents, clock, h1, h2, h3, fun p hp => h4 p ((h p).2 hp), fun e he => ?_⟩
  obtain ⟨p, hp, hq⟩ := h5 e he
  exact ⟨p, (h p).1 hp, hq⟩
theorem mapMt_ext {N : Nat} {β β' : Beta} {ρ : Env} {w w' : World} {M : Nat} {es : MEs} (hE : Ext β β') (hk : ∀ (k : Nat) (m : Array MapEntry) (c : Nat), w.heap[k]? = some (Obj.map m c) → w'.heap[k]? = some (Obj.map m c)) (hm : mapMt N β ρ w M es) : mapMt N β' ρ w' M es := by
  obtain ⟨r, ents, clock, h1, h2, h3, h4, h5⟩ := hm
  refine ⟨r, ents, clock, ⟨hE _ _ h1.1, h1.2⟩, h2, hk _ _ _ h3, h4, fun e he => ?_⟩
  obtain ⟨p, hp, hq, hs⟩ := h5 e he
  exact ⟨p, hp, hq, S.mt_ext hE hs⟩
theorem live_map {W : List Rg} {w w' : World} (hW : ∀ r, r ∈ W → ∃ j v, w.cell? ⟨r.blk, j, none⟩ = some v) (hk : Keep W w w') (k : Nat) (m : Array MapEntry) (c : Nat) (h : w.heap[k]? = some (Obj.map m c)) : w'.heap[k]? = some (Obj.map m c) := by
  rw [hk.blk k ?_ ?_]
  · exact h
  · exact (Array.getElem?_eq_some_iff.1 h).1
  · intro r hr e
    obtain ⟨j, v, hv⟩ := hW r hr
    unfold World.cell? at hv
    simp only [e, h] at hv
    cases hv
theorem run_mkMap {P : Program} (t : TypeId) (w : World) : (Instr.makeMap t none).run P w = .ok (.map (some w.heap.size)) (w.alloc (.map #[] 0)) := rfl
theorem heap_alloc_new (w : World) (o : Obj) : (w.alloc o).heap[w.heap.size]? = some o := by
  show (w.heap.push o)[w.heap.size]? = some o
  simp
theorem run_setObj_mp {P : Program} {w : World} {r : Nat} {es : Array MapEntry} {clock : Nat} (o : Obj) (hb : w.heap[r]? = some (.map es clock)) : (setObj r o).run P w = .ok () { w with heap := w.heap.setIfInBounds r o } := by
  simp [setObj, Sem.run, hb]
theorem ba_beq (a b : ByteArray) : (a == b) = true ↔ a = b := by
  rw [beq_toListBytes, ← encS_beq, beq_iff_eq]
  exact ⟨encS_inj, fun h => by rw [h]⟩
theorem findNow_no {s : ByteArray} : ∀ {l : List MapEntry} {i : Nat}, (∀ e, e ∈ l → ∃ k, e.key = .string k ∧ k ≠ s) → Instr.findNow .string (.string s) l i = some none
  | [], _, _ => rfl
  | e :: l, i, h => by
    obtain ⟨k, hk, hne⟩ := h e (by simp)
    unfold Instr.findNow
    have : (s == k) = false := by
      cases hb : (s == k) with
      | false => rfl
      | true => exact absurd ((ba_beq s k).1 hb).symm hne
    simp only [hk, Instr.sameNow, this]
    exact findNow_no fun e he => h e (by simp [he])
theorem findNow_yes {s : ByteArray} : ∀ {l : List MapEntry} {i : Nat}, (∀ e, e ∈ l → ∃ k, e.key = .string k) → (∃ e, e ∈ l ∧ e.key = .string s) → ∃ j e, e ∈ l ∧ e.key = .string s ∧ Instr.findNow .string (.string s) l i = some (some (j, e.val))
  | [], _, _, ⟨e, he, _⟩ => by cases he
  | e :: l, i, h, hx => by
    obtain ⟨k, hk⟩ := h e (by simp)
    unfold Instr.findNow
    cases hb : (s == k) with
    | true =>
      have := (ba_beq s k).1 hb
      subst this
      refine ⟨i, e, by simp, hk, ?_⟩
      simp only [hk, Instr.sameNow, hb]
    | false =>
      have hne : s ≠ k := fun he => by rw [(ba_beq s k).2 he] at hb; cases hb
      obtain ⟨e', he', hk'⟩ := hx
      have he' : e' ∈ l := by
        rcases List.mem_cons.1 he' with rfl | he'
        · rw [hk] at hk'
          simp only [Value.string.injEq] at hk'
          exact absurd hk'.symm hne
        · exact he'
      obtain ⟨j, e2, g1, g2, g3⟩ := findNow_yes (i := i + 1) (fun e he => h e (by simp [he])) ⟨e', he', hk'⟩
      refine ⟨j, e2, by simp [g1], g2, ?_⟩
      simp only [hk, Instr.sameNow, hb]
      exact g3
/-- A map's type with such keys: what its elements are. -/
def strMap (P : Program) (t : TypeId) : Option TypeId :=
  match P.underlying t with
  | some (.map k e) => match P.underlying k with
    | some .string => some e
    | _ => none
  | _ => none
theorem strMap_spec {P : Program} {t e : TypeId} (h : strMap P t = some e) : ∃ k, P.underlying t = some (.map k e) ∧ P.underlying k = some .string := by
  unfold strMap at h
  split at h
  · rename_i k e' hu
    split at h
    · rename_i hk
      simp only [Option.some.injEq] at h
      subst h
      exact ⟨k, hu, hk⟩
    · cases h
  · cases h
def zeroS (P : Program) (t : TypeId) : Option S := ((P.info? t).bind (·.zero)).map ofV
theorem zeroS_spec {P : Program} {t : TypeId} {s : S} (h : zeroS P t = some s) (w : World) : ∃ v, (zeroValue t).run P w = .ok v w ∧ ∀ β ρ, s.mt β ρ v := by
  unfold zeroS at h
  cases hi : P.info? t with
  | none => rw [hi] at h; simp at h
  | some i =>
    rw [hi] at h
    simp only [Option.bind_some] at h
    cases hv : i.zero with
    | none => rw [hv] at h; simp at h
    | some v =>
      rw [hv] at h
      simp only [Option.map_some, Option.some.injEq] at h
      subst h
      refine ⟨v, ?_, fun β ρ => ofV_mt v⟩
      simp [zeroValue, typeInfo, hi, hv]
/-- What stands at a key, in a map that holds these. -/
def lookM (q : A) (z : S) : MEs → M S
  | [] => pure z
  | (k, s) :: l => do
    let b ← mkCm .eql q (.c (encS k))
    let r ← lookM q z l
    match b with
    | .c true => pure s
    | .c false => pure r
    | b => muxS b s r
theorem lookM_snd {Φ : Funs} {ρ : Env} (q : A) (z : S) : ∀ es : MEs, Snd Φ ρ (lookM q z es) (fun r => ∀ β v, (∀ k, q.d ρ = encS k → (∃ p, p ∈ es ∧ p.1 = k ∧ p.2.mt β ρ v) ∨ ((∀ p, p ∈ es → p.1 ≠ k) ∧ z.mt β ρ v)) → (∃ k, q.d ρ = encS k) → (es.map (·.1)).Nodup → r.mt β ρ v)
  | [] => Snd.pure fun β v h ⟨k, hk⟩ _ => by
    rcases h k hk with ⟨p, hp, _⟩ | ⟨_, h⟩
    · cases hp
    · exact h
  | (k0, s) :: l => by
    unfold lookM
    refine Snd.bind (mkCm_snd _ q _) fun b hb => Snd.bind (lookM_snd q z l) fun r hr => ?_
    have key : ∀ β v, (∀ k, q.d ρ = encS k → (∃ p, p ∈ (k0, s) :: l ∧ p.1 = k ∧ p.2.mt β ρ v) ∨ ((∀ p, p ∈ (k0, s) :: l → p.1 ≠ k) ∧ z.mt β ρ v)) → (∃ k, q.d ρ = encS k) → (((k0, s) :: l).map (·.1)).Nodup → if b.d ρ then s.mt β ρ v else r.mt β ρ v := by
      intro β v h ⟨k, hk⟩ hnd
      have hbe : b.d ρ = (encS k == encS k0) := by rw [hb, ← hk]; rfl
      simp only [List.map_cons, List.nodup_cons] at hnd
      by_cases e : k = k0
      · subst e
        have : b.d ρ = true := by rw [hbe]; simp
        rw [if_pos this]
        rcases h k hk with ⟨p, hp, h1, h2⟩ | ⟨h1, _⟩
        · rcases List.mem_cons.1 hp with rfl | hp
          · exact h2
          · exact absurd (List.mem_map.2 ⟨p, hp, h1⟩) hnd.1
        · exact absurd rfl (h1 (k, s) (by simp))
      · have : b.d ρ = false := by
          rw [hbe]
          simp only [beq_eq_false_iff_ne, ne_eq]
          exact fun he => e (encS_inj he)
        rw [if_neg (by simp [this])]
        refine hr β v (fun k' hk' => ?_) ⟨k, hk⟩ hnd.2
        have hkk : k' = k := encS_inj (by rw [← hk', hk])
        subst hkk
        rcases h k' hk with ⟨p, hp, h1, h2⟩ | ⟨h1, h2⟩
        · rcases List.mem_cons.1 hp with rfl | hp
          · exact absurd h1.symm e
          · exact .inl ⟨p, hp, h1, h2⟩
        · exact .inr ⟨fun p hp => h1 p (by simp [hp]), h2⟩
    split
    · rename_i hbt
      exact Snd.pure fun β v h1 h2 h3 => by have := key β v h1 h2 h3; simpa using this
    · rename_i hbt
      exact Snd.pure fun β v h1 h2 h3 => by have := key β v h1 h2 h3; simpa using this
    · exact (muxS_snd b s r).mono fun y hy β v h1 h2 h3 => hy β v (key β v h1 h2 h3)
section
variable {P : Program} {N : Nat} {β : Beta} {ρ : Env} {w : World} {M : Nat} {es : MEs}
theorem run_look {t e : TypeId} (ht : strMap P t = some e) (hm : mapMt N β ρ w M es) {r : Rg} (hr : β M = some r) (s : ByteArray) {zv : Value} (hz : (zeroValue e).run P w = .ok zv w) :
    ∃ v, (Instr.lookup t (.map (some r.blk)) (.string s) false).run P w = .ok v w ∧ ((∃ p, p ∈ es ∧ p.1 = s ∧ p.2.mt β ρ v) ∨ ((∀ p, p ∈ es → p.1 ≠ s) ∧ v = zv)) := by
  obtain ⟨k, h1, h2⟩ := strMap_spec ht
  obtain ⟨r', ents, clock, g1, g2, g3, g4, g5⟩ := hm
  have g1 := g1.1
  rw [hr] at g1
  cases g1
  have hck : ∀ b n, (Instr.checkKey b (n + 1) k (.string s)).run P w = .ok () w := fun b n => by
    unfold Instr.checkKey
    simp [underlying, h2]
  have hkeys : ∀ e, e ∈ ents.toList → ∃ k, e.key = .string k := fun e he => by obtain ⟨p, _, hp, _⟩ := g5 e he; exact ⟨_, hp⟩
  by_cases hx : ∃ e, e ∈ ents.toList ∧ e.key = .string s
  · obtain ⟨j, e', k1, k2, k3⟩ := findNow_yes (i := 0) hkeys hx
    obtain ⟨p, q1, q2, q3⟩ := g5 e' k1
    rw [k2] at q2
    simp only [Value.string.injEq] at q2
    refine ⟨e'.val, ?_, .inl ⟨p, q1, q2.symm, q3⟩⟩
    unfold Instr.lookup Instr.findKey
    simp only [Sem.run_bind, underlying, run_program, Result.andThen_ok, h1, Sem.run_pure, run_getObj_map w _ _ _ g3, hck _ 9999, h2, k3]
    simp [h1, h2, run_getObj_map w _ _ _ g3, hck _ 9999, k3]
  · have hno := findNow_no (s := s) (l := ents.toList) (i := 0) fun e he => by
      obtain ⟨k, hk⟩ := hkeys e he
      exact ⟨k, hk, fun e2 => hx ⟨e, he, by rw [hk, e2]⟩⟩
    refine ⟨zv, ?_, .inr ⟨fun p hp e => ?_, rfl⟩⟩
    · unfold Instr.lookup Instr.findKey
      simp [underlying, h1, h2, run_getObj_map w _ _ _ g3, hck _ 9999, hno, hz]
    · obtain ⟨e', he', hk'⟩ := g4 p hp
      exact hx ⟨e', he', by rw [hk', e]⟩
theorem run_ins {t e : TypeId} (ht : strMap P t = some e) (hm : mapMt N β ρ w M es) {r : Rg} (hr : β M = some r) {s : ByteArray} (hnew : ∀ p, p ∈ es → p.1 ≠ s) (v : Value) :
    ∃ ents clock, w.heap[r.blk]? = some (.map ents clock) ∧ (Instr.mapUpdate t (.map (some r.blk)) (.string s) v).run P w = .ok () { w with heap := w.heap.setIfInBounds r.blk (.map (ents.push { key := .string s, val := v, born := clock }) (clock + 1)) } := by
  obtain ⟨k, h1, h2⟩ := strMap_spec ht
  obtain ⟨r', ents, clock, g1, g2, g3, g4, g5⟩ := hm
  have g1 := g1.1
  rw [hr] at g1
  cases g1
  have hck : ∀ b n, (Instr.checkKey b (n + 1) k (.string s)).run P w = .ok () w := fun b n => by
    unfold Instr.checkKey
    simp [underlying, h2]
  have hno := findNow_no (s := s) (l := ents.toList) (i := 0) fun e he => by
    obtain ⟨p, q1, q2, _⟩ := g5 e he
    exact ⟨p.1, q2, hnew p q1⟩
  refine ⟨ents, clock, g3, ?_⟩
  unfold Instr.mapUpdate Instr.findKey
  simp [underlying, h1, h2, run_getObj_map w _ _ _ g3, hck _ 9999, hno, run_setObj_mp _ g3]
/-- One more entry. -/
theorem mapMt_push (hm : mapMt N β ρ w M es) {r : Rg} (hr : β M = some r) {ents : Array MapEntry} {clock : Nat} (hb : w.heap[r.blk]? = some (.map ents clock)) (s : ByteArray) {x : S} {v : Value} (hv : x.mt β ρ v) :
    mapMt N β ρ { w with heap := w.heap.setIfInBounds r.blk (.map (ents.push { key := .string s, val := v, born := clock }) (clock + 1)) } M (es ++ [(s, x)]) := by
  obtain ⟨r', ents', clock', g1, g2, g3, g4, g5⟩ := hm
  have g1' := g1.1
  rw [hr] at g1'
  cases g1'
  rw [hb] at g3
  simp only [Option.some.injEq, Obj.map.injEq] at g3
  obtain ⟨rfl, rfl⟩ := g3
  have hlt := (Array.getElem?_eq_some_iff.1 hb).1
  refine ⟨r, ents.push { key := .string s, val := v, born := clock }, clock + 1, g1, g2, by simp [hlt], fun p hp => ?_, fun e he => ?_⟩
  · rw [List.mem_append, List.mem_singleton] at hp
    rcases hp with hp | rfl
    · obtain ⟨e, he, hk⟩ := g4 p hp
      exact ⟨e, by rw [Array.toList_push, List.mem_append]; exact .inl he, hk⟩
    · exact ⟨{ key := .string s, val := v, born := clock }, by simp, rfl⟩
  · rw [Array.toList_push, List.mem_append, List.mem_singleton] at he
    rcases he with he | rfl
    · obtain ⟨p, hp, hk, hm⟩ := g5 e he
      exact ⟨p, by simp [hp], hk, hm⟩
    · exact ⟨(s, x), by simp, rfl, hv⟩
/-- Another map stays. -/
theorem mapMt_else {M' : Nat} {es' : MEs} {R : List Rg} (hne : M' ≠ M) (hb : BetaOk N R β w) (hm : mapMt N β ρ w M es) {r : Rg} (hr : β M = some r) (o : Obj) (hm' : mapMt N β ρ w M' es') : mapMt N β ρ { w with heap := w.heap.setIfInBounds r.blk o } M' es' := by
  obtain ⟨r0, _, _, g1, _⟩ := hm
  have g1' := g1.1
  rw [hr] at g1'
  cases g1'
  obtain ⟨r', ents', clock', h1, h2, h3, h4, h5⟩ := hm'
  have hap := hb.apartW hne h1.1 hr h1.2.2.2
  refine ⟨r', ents', clock', h1, h2, ?_, h4, h5⟩
  show (w.heap.setIfInBounds r.blk o)[r'.blk]? = _
  rw [Array.getElem?_setIfInBounds_ne]
  · exact h3
  · intro e
    unfold Rg.apart at hap
    have e1 := h1.2
    have e2 := g1.2
    omega
end
end Go.Proofs.YtalnndmnnffnmaaGreat.Sx
/-! ## SxR -/
set_option linter.unusedVariables false
set_option linter.unusedSimpArgs false
namespace Go.Proofs.YtalnndmnnffnmaaGreat.Sx
open Go

/-- What an operation does: where it writes, what; which blocks; what it reads; the stretches that it numbers. -/
structure DAct where
  dst : Option Tmp
  sv : SV
  bl : Hl
  rs : List Nat
  rb : List Nat
  lo : Nat
  hi : Nat
  mkm : Option Nat := none
  ins : Option (Nat × ByteArray × S) := none
  lk : List (Nat × MEs) := []
  sm : List Nat := []
def insOf (d : DAct) (M : Nat) : MEs := match d.ins with
  | some (M', k, s) => if M' == M then [(k, s)] else []
  | none => []
/-- What stands in a map behind the listed ones. -/
def insL (L : Nat → Bool) (M : Nat) : List DAct → Nat → MEs
  | [], _ => []
  | d :: l, k => (if L k then insOf d M else []) ++ insL L M l (k + 1)
theorem insL_mem {L : Nat → Bool} {M : Nat} {p : ByteArray × S} : ∀ {l : List DAct} {k : Nat}, p ∈ insL L M l k ↔ ∃ i d, l[i]? = some d ∧ L (k + i) = true ∧ p ∈ insOf d M
  | [], k => by simp [insL]
  | d :: l, k => by
    unfold insL
    rw [List.mem_append, insL_mem]
    constructor
    · rintro (h | ⟨i, e, h1, h2, h3⟩)
      · split at h
        · rename_i hk
          exact ⟨0, d, by simp, by simpa using hk, h⟩
        · cases h
      · exact ⟨i + 1, e, by simpa using h1, by rw [show k + (i + 1) = k + 1 + i by omega]; exact h2, h3⟩
    · rintro ⟨i, e, h1, h2, h3⟩
      cases i with
      | zero =>
        simp at h1
        subst h1
        simp only [Nat.add_zero] at h2
        exact .inl (by rw [if_pos h2]; exact h3)
      | succ i => exact .inr ⟨i, e, by simpa using h1, by rw [show k + 1 + i = k + (i + 1) by omega]; exact h2, h3⟩

/-- What stands behind the listed ones, each as in the text's order. -/
def tS (L : Nat → Bool) (t : Nat) : List DAct → Nat → Option SV → Option SV
  | [], _, b => b
  | d :: l, k, b => tS L t l (k + 1) (if L k && d.dst == some t then some d.sv else b)
def hS (L : Nat → Bool) (id : Nat) : List DAct → Nat → Option Blk → Option Blk
  | [], _, b => b
  | d :: l, k, b => hS L id l (k + 1) (match hpOf d.bl id with | some x => if L k then some x else b | none => b)
theorem tS_congr {L L' : Nat → Bool} {t : Nat} : ∀ {l : List DAct} {k : Nat} {b : Option SV}, (∀ i d, l[i]? = some d → d.dst = some t → L (k + i) = L' (k + i)) → tS L t l k b = tS L' t l k b
  | [], _, _, _ => rfl
  | d :: l, k, b, h => by
    unfold tS
    have e : (if L k && d.dst == some t then some d.sv else b) = (if L' k && d.dst == some t then some d.sv else b) := by
      by_cases hd : d.dst = some t
      · have := h 0 d (by simp) hd
        simp only [Nat.add_zero] at this
        rw [this]
      · have : (d.dst == some t) = false := by simpa using hd
        simp [this]
    rw [e]
    exact tS_congr fun i d hi hd => by have := h (i + 1) d (by simpa using hi) hd; rwa [show k + (i + 1) = k + 1 + i by omega] at this
theorem hS_congr {L L' : Nat → Bool} {id : Nat} : ∀ {l : List DAct} {k : Nat} {b : Option Blk}, (∀ i d, l[i]? = some d → (hpOf d.bl id).isSome = true → L (k + i) = L' (k + i)) → hS L id l k b = hS L' id l k b
  | [], _, _, _ => rfl
  | d :: l, k, b, h => by
    unfold hS
    have e : (match hpOf d.bl id with | some x => if L k then some x else b | none => b) = (match hpOf d.bl id with | some x => if L' k then some x else b | none => b) := by
      cases hd : hpOf d.bl id with
      | none => rfl
      | some x =>
        have := h 0 d (by simp) (by rw [hd]; rfl)
        simp only [Nat.add_zero] at this
        simp only [this]
    rw [e]
    exact hS_congr fun i d hi hd => by have := h (i + 1) d (by simpa using hi) hd; rwa [show k + (i + 1) = k + 1 + i by omega] at this
theorem tS_none {L : Nat → Bool} {t : Nat} : ∀ {l : List DAct} {k : Nat} {b : Option SV}, (∀ i d, l[i]? = some d → d.dst = some t → L (k + i) = false) → tS L t l k b = b
  | [], _, _, _ => rfl
  | d :: l, k, b, h => by
    unfold tS
    rw [tS_none fun i d hi hd => by have := h (i + 1) d (by simpa using hi) hd; rwa [show k + (i + 1) = k + 1 + i by omega] at this]
    by_cases hd : d.dst = some t
    · have := h 0 d (by simp) hd
      simp only [Nat.add_zero] at this
      simp [this]
    · have : (d.dst == some t) = false := by simpa using hd
      simp [this]
theorem hS_none {L : Nat → Bool} {id : Nat} : ∀ {l : List DAct} {k : Nat} {b : Option Blk}, (∀ i d, l[i]? = some d → (hpOf d.bl id).isSome = true → L (k + i) = false) → hS L id l k b = b
  | [], _, _, _ => rfl
  | d :: l, k, b, h => by
    unfold hS
    rw [hS_none fun i d hi hd => by have := h (i + 1) d (by simpa using hi) hd; rwa [show k + (i + 1) = k + 1 + i by omega] at this]
    cases hd : hpOf d.bl id with
    | none => rfl
    | some x =>
      have := h 0 d (by simp) (by rw [hd]; rfl)
      simp only [Nat.add_zero] at this
      simp [this]
theorem tS_last {t : Nat} {j : Nat} {d : DAct} (hd : d.dst = some t) : ∀ {l : List DAct} {k : Nat} {b : Option SV}, k ≤ j → l[j - k]? = some d → tS (fun i => Nat.ble i j) t l k b = some d.sv
  | [], k, b, hk, h => by simp at h
  | e :: l, k, b, hk, h => by
    unfold tS
    by_cases hjk : k = j
    · subst hjk
      simp at h
      subst h
      rw [tS_none fun i d' hi _ => by simp only [Bool.eq_false_iff, ne_eq, Nat.ble_eq]; omega]
      have h1 : Nat.ble k k = true := by simp
      have h2 : (e.dst == some t) = true := by simp [hd]
      simp [h1, h2]
    · refine tS_last hd (by omega) ?_
      rw [show j - k = (j - (k + 1)) + 1 by omega] at h
      simpa using h
theorem hS_last {id : Nat} {j : Nat} {d : DAct} {x : Blk} (hd : hpOf d.bl id = some x) : ∀ {l : List DAct} {k : Nat} {b : Option Blk}, k ≤ j → l[j - k]? = some d → hS (fun i => Nat.ble i j) id l k b = some x
  | [], k, b, hk, h => by simp at h
  | e :: l, k, b, hk, h => by
    unfold hS
    by_cases hjk : k = j
    · subst hjk
      simp at h
      subst h
      rw [hS_none fun i d' hi _ => by simp only [Bool.eq_false_iff, ne_eq, Nat.ble_eq]; omega]
      have h1 : Nat.ble k k = true := by simp
      simp [hd]
    · refine hS_last hd (by omega) ?_
      rw [show j - k = (j - (k + 1)) + 1 by omega] at h
      simpa using h

/-! ### One operation, by what it reads alone -/
structure Com (x : Cx) (ρ : Env) (n : Nat) (β : Beta) (a : Act) (w : World) : Prop where
  size : a.tmps.size = n
  df : a.defers = []
  gm : heapMt β ρ (hpOf x.gh) w
  gro : ∀ id b, hpOf x.gh id = some b → b.ro = true
  bo : BetaOk x.w0.heap.size x.R β w
  kp : Keep x.R x.w0 w
  gl : ∀ (g : Nat) (vs : List Value), x.gl[g]? = some vs → β g = some (gRg g vs)
  ra : ∀ (j : Nat) (r : Rg), x.gr[j]? = some r → β (x.ng + j) = some r
theorem Rel.com {x : Cx} {ρ : Env} {β : Beta} {σ : St} {a : Act} {w : World} (h : Rel x ρ β σ a w) : Com x ρ σ.tm.length β a w :=
  ⟨h.size, h.df, h.gm, h.gro, h.bo, h.kp, h.gl, h.ra⟩

def fvIds : FV → List Nat
  | none => []
  | some p => p.2.map (·.1)
def cIds : List C → List Nat
  | [] => []
  | .ptr l i _ :: r => i :: (ptrIds l ++ cIds r)
  | .pix i _ _ _ _ _ :: r => i :: cIds r
  | .sli i _ _ _ :: r => i :: cIds r
  | .slx i _ _ _ :: r => i :: cIds r
  | .pxq i _ _ _ _ :: r => i :: cIds r
  | .fn l d :: r => fvIds d ++ ((l.map fun p => fvIds p.2).flatten ++ cIds r)
  | .mp i :: r => i :: cIds r
  | _ :: r => cIds r
def sIds : S → List Nat
  | .one _ l => cIds l
  | _ => []
def tmpsOf : List Operand → List Nat
  | [] => []
  | .tmp t :: l => t :: tmpsOf l
  | _ :: l => tmpsOf l
def hpR (gh : Hl) (ng : Nat) (hp : Hl) (ids : List Nat) : Hp := fun i => if Nat.blt i ng then hpOf gh i else if ids.contains i then hpOf hp i else none
def gSlot (ops : Array Oper) (o : Oper) : List Nat :=
  match o.guard with
  | none => []
  | some (j, _) => match (ops[j]?).bind (·.dst) with | some t => [t] | none => []

/-- Operations that look at no block, whatever they are handed. -/
def blind : Op → Bool
  | .move _ => true
  | .nilCheck _ => true
  | .fieldAddr _ _ _ => true
  | .binOp _ _ _ _ _ => true
  | .pick _ _ _ => true
  | .assign _ => true
  | .field _ _ _ => true
  | .indexAddr _ _ _ => true
  | .extract _ _ => true
  | .makeFunc _ _ _ => true
  | _ => false
/-- What these lead to. -/
def reachH (hp : Hp) : Nat → List Nat → List Nat
  | 0, l => l
  | n + 1, l => reachH hp n (dedupN (l ++ (l.map fun i => match hp i with | some b => cIds b.cells | none => []).flatten))
def isCall : Op → Bool
  | .call _ => true
  | _ => false
def rdIds (ng : Nat) (σ : St) (o : Oper) : List Nat := if blind o.op then [] else
  let l := (o.op.operands.toList.map fun x => sIds (ev ng σ x).s).flatten
  if isCall o.op then reachH (hpOf σ.hp) 3 l else l

def layD (Γ : Gd) (lo : Nat) : List (Nat × Blk) → Option Hl
  | [] => some []
  | (id, b) :: l => match layD Γ lo l with
    | none => none
    | some r => if Γ.isEmpty then some ((id, b) :: r) else if Nat.ble lo id && b.g.isEmpty then some ((id, { b with g := Γ }) :: r) else none
/-- The same cell, word by word. -/
def cSame : C → C → Bool
  | .int k a, .int l b => k == l && a.eq b
  | .bool a, .bool b => a.eq b
  | .ptr [] i o, .ptr [] j p => i == j && o == p
  | .str a, .str b => a.eq b
  | .val u, .val v => vEq u v
  | .sli i o l c, .sli j p m d => i == j && o == p && l == m && c == d
  | .slx i ks q l, .slx j ks' q' l' => i == j && cksEq ks ks' && q.eq q' && l.eq l'
  | .fn [] d, .fn [] e => d == e
  | _, _ => false
theorem cSame_sound {x y : C} (h : cSame x y = true) : x = y := by
  unfold cSame at h
  split at h <;> (try simp only [Bool.and_eq_true, beq_iff_eq] at h)
  · rw [h.1, A.eq_sound h.2]
  · rw [B.eq_sound h]
  · rw [h.1, h.2]
  · rw [A.eq_sound h]
  · rw [vEq_sound h]
  · rw [h.1.1.1, h.1.1.2, h.1.2, h.2]
  · rw [h.1.1.1, cksEq_sound h.1.1.2, A.eq_sound h.1.2, A.eq_sound h.2]
  · rw [h]
  · cases h
def lSame : List C → List C → Bool
  | [], [] => true
  | x :: l, y :: m => cSame x y && lSame l m
  | _, _ => false
theorem lSame_sound : ∀ {l m : List C}, lSame l m = true → l = m
  | [], [], _ => rfl
  | x :: l, y :: m, h => by
    simp only [lSame, Bool.and_eq_true] at h
    rw [cSame_sound h.1, lSame_sound h.2]
  | [], _ :: _, h => by simp [lSame] at h
  | _ :: _, [], h => by simp [lSame] at h
/-- Does a block stay as it was? -/
def stays (ng : Nat) (hp : Hl) (ids : List Nat) (p : Nat × Blk) : Bool := !(Nat.blt p.1 ng) && ids.contains p.1 && match hpOf hp p.1 with
  | some b => lSame b.cells p.2.cells && b.ro == p.2.ro
  | none => false
def opD (P : Program) (X : Hnd) (gh : Hl) (ng : Nat) (ops : Array Oper) (o : Oper) (σ : St) : M DAct := do
  let g ← lift (gdOf ops σ o)
  let rs := tmpsOf o.op.operands.toList ++ gSlot ops o
  let lo ← getId
  match normG g with
  | none => pure { dst := o.dst, sv := undefSV, bl := [], rs := rs, rb := [], lo := lo, hi := lo }
  | some Γ => do
    let ids := rdIds ng σ o
    let r ← M.mono (M.under Γ (opx P X Γ (hpR gh ng σ.hp ids) (ev ng σ) o.op))
    let hi ← getId
    let bl ← lift (layD Γ lo (r.w.filter fun p => !(stays ng σ.hp ids p)))
    pure { dst := o.dst, sv := { g := Γ, s := r.s }, bl := bl, rs := rs, rb := ids, lo := lo, hi := hi, sm := (r.w.filter (stays ng σ.hp ids)).map (·.1) }
def applyD (d : DAct) (σ : St) : Option St :=
  match setT σ.tm d.dst d.sv with
  | some tm => some { tm := tm, hp := d.bl ++ σ.hp }
  | none => none

section
variable {P : Program} {Φ : Funs} {X : Hnd} {x : Cx} {ρ : Env}

/-- What an operation's action is worth, wherever what it reads is as it was. -/
def ActOk (P : Program) (x : Cx) (ρ : Env) (ops : Array Oper) (o : Oper) (σ : St) (d : DAct) : Prop :=
  d.dst = o.dst ∧ d.lo ≤ d.hi ∧ (∀ i, i ∈ d.sm → i ∈ d.rb) ∧ (∀ M, d.mkm = some M → d.lo ≤ M ∧ M < d.hi) ∧ ∀ (β : Beta) (a : Act) (w : World), Com x ρ σ.tm.length β a w →
    (∀ t, t ∈ d.rs → ∀ v, σ.tm[t]? = some v → v.mt β ρ (a.tmps.getD t undef)) →
    (∀ id, id ∈ d.rb → ∀ b, hpOf σ.hp id = some b → Gd.d ρ b.g = true → blkMt β ρ w id b) →
    (∀ i, d.lo ≤ i → i < d.hi → β i = none) → (∀ p, p ∈ d.lk → mapMt x.w0.heap.size β ρ w p.1 p.2 ∧ (p.2.map (·.1)).Nodup) →
    (∀ M k s, d.ins = some (M, k, s) → ∃ es, mapMt x.w0.heap.size β ρ w M es ∧ ∀ p, p ∈ es → p.1 ≠ k) → ∀ (next : Act → World → Prop) (Q : Exit → Act → World → Prop),
    (∀ v w' β', Ext β β' → Com x ρ σ.tm.length β' (a.put o.dst v) w' → (∀ i, (i < d.lo ∨ d.hi ≤ i) → β' i = β i) → d.sv.mt β' ρ v → (∀ id b, hpOf d.bl id = some b → Gd.d ρ b.g = true → blkMt β' ρ w' id b) →
      (∀ id b, hpOf d.bl id = none → (id ∈ d.sm → hpOf σ.hp id = some b) → blkMt β ρ w id b → blkMt β' ρ w' id b) → (∀ M es, mapMt x.w0.heap.size β ρ w M es → (∀ k s, d.ins = some (M, k, s) → ∀ p, p ∈ es → p.1 ≠ k) → mapMt x.w0.heap.size β' ρ w' M (es ++ insOf d M)) →
      (∀ M, d.mkm = some M → mapMt x.w0.heap.size β' ρ w' M []) → next (a.put o.dst v) w') →
    if Region.wanted o (yielded ops a.tmps) then o.wp P a w next Q else next (a.put o.dst undef) w

theorem mem_tmpsOf : ∀ {l : List Operand} {t : Nat}, Operand.tmp t ∈ l → t ∈ tmpsOf l
  | o :: l, t, h => by
    rcases List.mem_cons.1 h with rfl | h
    · simp [tmpsOf]
    · have := mem_tmpsOf h
      cases o <;> simp [tmpsOf, this]
/-- An operand's slot, read alone. -/
theorem ev_mt' {β : Beta} {σ : St} {a : Act} {w : World} (h : Com x ρ σ.tm.length β a w) (o : Operand) (ho : ∀ t, o = .tmp t → ∀ v, σ.tm[t]? = some v → v.mt β ρ (a.tmps.getD t undef)) : (ev x.ng σ o).mt β ρ (a.eval o) := by
  cases o with
  | tmp t =>
    show (σ.tm.getD t anySV).mt β ρ (a.tmps.getD t undef)
    rw [List.getD_eq_getElem?_getD]
    cases ht : σ.tm[t]? with
    | none => exact anySV_mt _
    | some v => exact ho t rfl v ht
  | const v => exact ⟨fun _ => ofV_mt v, fun h => (by cases h)⟩
  | global g =>
    show (if Nat.blt g x.ng then ({ g := [], s := .one false [.ptr [] g 0] } : SV) else anySV).mt β ρ (.pointer (some ⟨g, 0, none⟩))
    split
    · rename_i hg
      simp only [Nat.blt_eq] at hg
      exact ⟨fun _ => ⟨_, rfl, _, h.gl g _ (List.getElem?_eq_getElem hg), by simp [pick, gRg]⟩, fun h => (by cases h)⟩
    · exact anySV_mt _
  | func f => exact ⟨fun _ => ⟨_, rfl, rfl, rfl⟩, fun h => (by cases h)⟩
theorem gdOf_wanted' {n : Nat} {β : Beta} {σ : St} {a : Act} {w : World} (h : a.tmps.size = σ.tm.length) {ops : Array Oper} {o : Oper} {g : Gd} (hs : ∀ t, t ∈ gSlot ops o → ∀ v, σ.tm[t]? = some v → v.mt β ρ (a.tmps.getD t undef)) (hg : gdOf ops σ o = some g) :
    Region.wanted o (yielded ops a.tmps) = Gd.d ρ g := by
  unfold gdOf at hg
  unfold gSlot at hs
  unfold Region.wanted
  split at hg
  · rename_i h1
    simp only [Option.some.injEq] at hg
    subst hg
    rw [h1]
    rfl
  · rename_i j want h1
    rw [h1] at hs ⊢
    simp only at hs ⊢
    split at hg
    · cases hg
    · rename_i t ht
      rw [ht] at hs
      simp only at hs
      split at hg
      · rename_i g' b hsv
        simp only [Option.some.injEq] at hg
        subst hg
        have hlt : t < a.tmps.size := by rw [h]; exact (List.getElem?_eq_some_iff.1 hsv).1
        have hm := hs t (by simp) _ hsv
        unfold yielded
        rw [ht]
        simp only [Option.bind_some]
        have hget : a.tmps[t]? = some (a.tmps.getD t undef) := by simp [hlt]
        rw [hget]
        cases hgd : Gd.d ρ g'
        · have := hm.2 hgd
          rw [this]
          simp [undef, hgd]
        · have := mt_bool rfl (hm.1 hgd)
          rw [this]
          simp [hgd]
      · rename_i g' sg' hsv
        simp only [Option.some.injEq] at hg
        subst hg
        have hlt : t < a.tmps.size := by rw [h]; exact (List.getElem?_eq_some_iff.1 hsv).1
        have hm := hs t (by simp) _ hsv
        unfold yielded
        rw [ht]
        simp only [Option.bind_some]
        have hget : a.tmps[t]? = some (a.tmps.getD t undef) := by simp [hlt]
        rw [hget]
        have hgd : ∀ l : Gd, Gd.d ρ ((.c true, false) :: l) = false := fun l => by rw [Gd.d_cons]; rfl
        rw [hm.2 (hgd _), hgd]
        simp [undef]
      · cases hg
theorem layD_spec {Γ : Gd} {lo : Nat} : ∀ {l : List (Nat × Blk)} {r : Hl}, layD Γ lo l = some r → (∀ id b, hpOf r id = some b → ∃ b', (id, b') ∈ l ∧ (b = b' ∨ (b = { b' with g := Γ }))) ∧ (∀ id, hpOf r id = none → id ∉ l.map (·.1)) ∧ (Γ ≠ [] → ∀ id b, hpOf r id = some b → b.g = Γ)
  | [], r, h => by simp only [layD, Option.some.injEq] at h; subst h; simp [hpOf]
  | (i, b0) :: l, r, h => by
    unfold layD at h
    split at h
    · cases h
    · rename_i r' hr
      obtain ⟨h1, h2, h3⟩ := layD_spec hr
      split at h
      · rename_i hΓ
        simp only [Option.some.injEq] at h
        subst h
        rw [List.isEmpty_iff] at hΓ
        refine ⟨fun id b hb => ?_, fun id hn => ?_, fun hne => absurd hΓ hne⟩
        · unfold hpOf at hb
          split at hb
          · rename_i he
            simp only [beq_iff_eq] at he
            simp only [Option.some.injEq] at hb
            subst he; subst hb
            exact ⟨b0, by simp, .inl rfl⟩
          · obtain ⟨b', hb', hx⟩ := h1 id b hb
            exact ⟨b', by simp [hb'], hx⟩
        · unfold hpOf at hn
          split at hn
          · cases hn
          · rename_i he
            have := h2 id hn
            simp only [List.map_cons, List.mem_cons, not_or]
            exact ⟨fun e => he (by simp [e]), this⟩
      · split at h
        · rename_i hc
          simp only [Option.some.injEq] at h
          subst h
          refine ⟨fun id b hb => ?_, fun id hn => ?_, fun hne id b hb => ?_⟩
          · unfold hpOf at hb
            split at hb
            · rename_i he
              simp only [beq_iff_eq] at he
              simp only [Option.some.injEq] at hb
              subst he; subst hb
              exact ⟨b0, by simp, .inr rfl⟩
            · obtain ⟨b', hb', hx⟩ := h1 id b hb
              exact ⟨b', by simp [hb'], hx⟩
          · unfold hpOf at hn
            split at hn
            · cases hn
            · rename_i he
              have := h2 id hn
              simp only [List.map_cons, List.mem_cons, not_or]
              exact ⟨fun e => he (by simp [e]), this⟩
          · unfold hpOf at hb
            split at hb
            · simp only [Option.some.injEq] at hb
              subst hb
              rfl
            · exact h3 hne id b hb
        · cases h

theorem opD_lk {ops : Array Oper} {o : Oper} {σ : St} {gh : Hl} {ng : Nat} {c c' : Ctr} {d : DAct} {out : List Em} (h : opD P X gh ng ops o σ c = some (d, c', out)) : d.lk = [] := by
  unfold opD at h
  obtain ⟨g, c1, o1, c2, o2, y, h1, h2, he⟩ := M.bind_inv h
  simp only [Prod.mk.injEq] at he
  obtain ⟨rfl, rfl, rfl⟩ := he
  obtain ⟨lo, c3, o3, c4, o4, y, h3, h4, he⟩ := M.bind_inv h2
  simp only [Prod.mk.injEq] at he
  obtain ⟨rfl, rfl, rfl⟩ := he
  cases hno : normG g with
  | none =>
    rw [hno] at h4
    have he := M.pure_inv h4
    simp only [Prod.mk.injEq] at he
    rw [he.1]
  | some Γ =>
    rw [hno] at h4
    obtain ⟨r, c5, o5, c6, o6, y, h5, h6, he⟩ := M.bind_inv h4
    simp only [Prod.mk.injEq] at he
    obtain ⟨rfl, rfl, rfl⟩ := he
    obtain ⟨hi, c7, o7, c8, o8, y, h7, h8, he⟩ := M.bind_inv h6
    simp only [Prod.mk.injEq] at he
    obtain ⟨rfl, rfl, rfl⟩ := he
    obtain ⟨bl, c9, o9, c10, o10, y, h9, h10, he⟩ := M.bind_inv h8
    simp only [Prod.mk.injEq] at he
    obtain ⟨rfl, rfl, rfl⟩ := he
    have he := M.pure_inv h10
    simp only [Prod.mk.injEq] at he
    rw [he.1]
theorem opD_ok (hX : HOk P Φ x.gl X) (hG : ∀ w, Keep x.R x.w0 w → Laid x.gl w) {ops : Array Oper} {o : Oper} {σ : St} {c c' : Ctr} {d : DAct} {out : List Em} (h : opD P X x.gh x.ng ops o σ c = some (d, c', out)) (hg : Good Φ ρ out) :
    ActOk P x ρ ops o σ d ∧ d.lo = c.id ∧ d.hi = c'.id := by
  unfold opD at h
  obtain ⟨g, c1, o1, c2, o2, y, h1, h2, he⟩ := M.bind_inv h
  simp only [Prod.mk.injEq] at he
  obtain ⟨rfl, rfl, rfl⟩ := he
  obtain ⟨g', hgd, he⟩ := lift_inv h1
  simp only [Prod.mk.injEq] at he
  obtain ⟨rfl, rfl, rfl⟩ := he
  obtain ⟨lo, c3, o3, c4, o4, y, h3, h4, he⟩ := M.bind_inv h2
  simp only [Prod.mk.injEq] at he
  obtain ⟨rfl, rfl, rfl⟩ := he
  simp only [getId, Option.some.injEq, Prod.mk.injEq] at h3
  obtain ⟨rfl, rfl, rfl⟩ := h3
  cases hno : normG g with
  | none =>
    rw [hno] at h4
    have he := M.pure_inv h4
    simp only [Prod.mk.injEq] at he
    obtain ⟨rfl, rfl, rfl⟩ := he
    refine ⟨⟨rfl, Nat.le_refl _, fun i hi => (by cases hi), fun M hM => (by cases hM), fun β a w hC hsl hbl hf _ _ next Q hn => ?_⟩, rfl, rfl⟩
    rw [gdOf_wanted' (n := 0) (w := w) hC.size (fun t ht => hsl t (by simp [ht])) hgd, normG_none (ρ := ρ) hno]
    simp only [Bool.false_eq_true, if_false]
    exact hn undef w β (Ext.refl β) ⟨(put_tmps a _ _).2.trans hC.size, (put_tmps a _ _).1.trans hC.df, hC.gm, hC.gro, hC.bo, hC.kp, hC.gl, hC.ra⟩ (fun _ _ => rfl) undefSV_mt (fun id b hb => by simp [hpOf] at hb) (fun _ _ _ _ h => h) (fun M es h _ => by rw [show insOf _ M = [] from rfl, List.append_nil]; exact h) (fun M hM => by cases hM)
  | some Γ =>
    rw [hno] at h4
    obtain ⟨r, c5, o5, c6, o6, y, h5, h6, he⟩ := M.bind_inv h4
    simp only [Prod.mk.injEq] at he
    obtain ⟨rfl, rfl, rfl⟩ := he
    obtain ⟨h5, hle⟩ := mono_inv h5
    simp only at hle
    obtain ⟨r', c5', o5', h5', he⟩ := under_inv h5
    simp only [Prod.mk.injEq] at he
    obtain ⟨rfl, rfl, rfl⟩ := he
    obtain ⟨hi, c7, o7, c8, o8, y, h7, h8, he⟩ := M.bind_inv h6
    simp only [Prod.mk.injEq] at he
    obtain ⟨rfl, rfl, rfl⟩ := he
    simp only [getId, Option.some.injEq, Prod.mk.injEq] at h7
    obtain ⟨rfl, rfl, rfl⟩ := h7
    obtain ⟨bl, c9, o9, c10, o10, y, h9, h10, he⟩ := M.bind_inv h8
    simp only [Prod.mk.injEq] at he
    obtain ⟨rfl, rfl, rfl⟩ := he
    obtain ⟨bl', hlay, he⟩ := lift_inv h9
    simp only [Prod.mk.injEq] at he
    obtain ⟨rfl, rfl, rfl⟩ := he
    have he := M.pure_inv h10
    simp only [Prod.mk.injEq] at he
    obtain ⟨rfl, rfl, rfl⟩ := he
    simp only [Good.append] at hg
    have hg5 := hg.2.2.1
    have hsm : ∀ i, i ∈ ((r.w.filter (stays x.ng σ.hp (rdIds x.ng σ o))).map (·.1)) → i ∈ rdIds x.ng σ o ∧ ∃ b b', hpOf σ.hp i = some b ∧ (i, b') ∈ r.w ∧ b.cells = b'.cells ∧ b.ro = b'.ro := fun i hi => by
      obtain ⟨p, hp, rfl⟩ := List.mem_map.1 hi
      rw [List.mem_filter] at hp
      obtain ⟨hp1, hp2⟩ := hp
      unfold stays at hp2
      simp only [Bool.and_eq_true] at hp2
      obtain ⟨⟨h1, h2⟩, h3⟩ := hp2
      refine ⟨by simpa using h2, ?_⟩
      split at h3
      · rename_i b hb
        simp only [Bool.and_eq_true, beq_iff_eq] at h3
        exact ⟨b, p.2, hb, hp1, lSame_sound h3.1, h3.2⟩
      · cases h3
    refine ⟨⟨rfl, hle, fun i hi => (hsm i hi).1, fun M hM => (by cases hM), fun β a w hC hsl hbl hf _ _ next Q hn => ?_⟩, rfl, rfl⟩
    have hΓe := normG_some (ρ := ρ) hno
    rw [gdOf_wanted' (n := 0) (w := w) hC.size (fun t ht => hsl t (by simp [ht])) hgd]
    obtain ⟨l1, l2, l3⟩ := layD_spec hlay
    cases hgg : Gd.d ρ g
    · simp only [Bool.false_eq_true, if_false]
      rw [hgg] at hΓe
      have hne : Γ ≠ [] := fun e => by subst e; cases hΓe
      refine hn undef w β (Ext.refl β) ⟨(put_tmps a _ _).2.trans hC.size, (put_tmps a _ _).1.trans hC.df, hC.gm, hC.gro, hC.bo, hC.kp, hC.gl, hC.ra⟩ (fun _ _ => rfl) ⟨fun h => (by simp only at h; rw [hΓe] at h; cases h), fun _ => rfl⟩ (fun id b hb hbg => ?_) (fun _ _ _ _ h => h) (fun M es h _ => by rw [show insOf _ M = [] from rfl, List.append_nil]; exact h) (fun M hM => by cases hM)
      rw [l3 hne id b hb, hΓe] at hbg
      cases hbg
    · simp only [if_true]
      rw [hgg] at hΓe
      have hg1' := Good.under hΓe hg5
      have hlok := opx_ok (Γ := Γ) hX o ρ _ _ _ _ h5' hg1' hΓe x.w0.heap.size x.R β a w (fun z hz => ev_mt' hC z fun t ht => hsl t (by simp only [List.mem_append]; exact .inl (mem_tmpsOf (by rw [ht] at hz; simpa using hz)))) (fun id b hb hbg => by
          unfold hpR at hb
          split at hb
          · exact hC.gm id b hb hbg
          · split at hb
            · rename_i hc
              exact hbl id (by simpa using hc) b hb hbg
            · cases hb) hC.bo hC.kp.size ⟨hG w hC.kp, hC.gl⟩ (fun i hi1 hi2 => hf i hi1 hi2)
      refine hlok next Q fun v w' hpost => ?_
      obtain ⟨β', hst, hsv, hblk⟩ := hpost
      obtain ⟨W, hW, hkW⟩ := hst.kp
      refine hn v w' β' hst.ext ⟨(put_tmps a _ _).2.trans hC.size, (put_tmps a _ _).1.trans hC.df, fun id b hb hbg => ?_, hC.gro, hst.bo, hC.kp.trans hkW fun r hr => ?_, fun g vs hg => hst.ext _ _ (hC.gl g vs hg), fun j r hr => hst.ext _ _ (hC.ra j r hr)⟩ hst.dom
        ⟨fun _ => hsv, fun h => (by simp only at h; rw [hΓe] at h; cases h)⟩ (fun id b hb hbg => ?_) (fun id b hnb hsmb hb => ?_)
        (fun M es h _ => by
          rw [show insOf _ M = [] from rfl, List.append_nil]
          exact mapMt_ext hst.ext (live_map (fun r hr => by obtain ⟨_, _, _, _, hl⟩ := hW r hr; exact hl) hkW) h)
        (fun M hM => by cases hM)
      · have hgm := hC.gm id b hb hbg
        refine blkMt_keep hst.ext hC.bo hkW (fun r q hr hq => ?_) hgm
        obtain ⟨id', hid', hβ', hro, _⟩ := hW r hr
        refine hC.bo.apartW (fun e => ?_) hβ' hq hro
        subst e
        obtain ⟨q', hq', _, hro', _⟩ := hgm
        rw [hβ'] at hq'
        cases hq'
        rw [hro, hC.gro _ b hb] at hro'
        cases hro'
      · obtain ⟨id', hid', hβ', hro, _⟩ := hW r hr
        rcases hC.bo.may id' r hβ' with h | h
        · rw [hro] at h; cases h
        · exact h
      · obtain ⟨b', hb', he⟩ := l1 id b hb
        have := hblk _ (List.mem_filter.1 hb').1
        rcases he with rfl | rfl
        · exact this
        · exact this
      · by_cases hs : id ∈ ((r.w.filter (stays x.ng σ.hp (rdIds x.ng σ o))).map (·.1))
        · obtain ⟨_, b1, b', hb1, hbm, hc1, hr1⟩ := hsm id hs
          have hbb := hsmb hs
          rw [hb1] at hbb
          simp only [Option.some.injEq] at hbb
          subst hbb
          obtain ⟨r', g1, g2, g3, g4, g5⟩ := hblk _ hbm
          exact ⟨r', g1, by rw [g2, hc1], by rw [g3, hr1], by rw [hc1]; exact g4, fun h0 j hj => g5 (by rw [← hr1]; exact h0) j (by rw [← hc1]; exact hj)⟩
        · refine blkMt_keep hst.ext hC.bo hkW (fun r' q hr hq => ?_) hb
          obtain ⟨id', hid', hβ', hro, _⟩ := hW r' hr
          refine hC.bo.apartW (i := id') (j := id) (fun e => ?_) hβ' hq hro
          subst e
          obtain ⟨p, hp, he⟩ := List.mem_map.1 hid'
          by_cases hst' : stays x.ng σ.hp (rdIds x.ng σ o) p = true
          · exact hs (List.mem_map.2 ⟨p, List.mem_filter.2 ⟨hp, hst'⟩, he⟩)
          · exact l2 _ hnb (List.mem_map.2 ⟨p, List.mem_filter.2 ⟨hp, by simpa using hst'⟩, he⟩)

/-! ### Operations on maps -/
theorem heap_set_other {w : World} {k b : Nat} {o : Obj} (h : k ≠ b) : (w.heap.setIfInBounds b o)[k]? = w.heap[k]? := Array.getElem?_setIfInBounds_ne (fun e => h e.symm)
/-- A map's entries are turned: no cell is. -/
theorem set_map_cell {w : World} {b : Nat} {ents ents' : Array MapEntry} {c c' : Nat} (hb : w.heap[b]? = some (.map ents c)) (a : Addr) : ({ w with heap := w.heap.setIfInBounds b (.map ents' c') } : World).cell? a = w.cell? a ∧
    ({ w with heap := w.heap.setIfInBounds b (.map ents' c') } : World).frozen? a = w.frozen? a := by
  unfold World.cell? World.frozen?
  simp only
  by_cases h : a.block = b
  · rw [h, hb]
    have hlt := (Array.getElem?_eq_some_iff.1 hb).1
    have : (w.heap.setIfInBounds b (.map ents' c'))[b]? = some (.map ents' c') := by simp [hlt]
    rw [this]
    exact ⟨rfl, rfl⟩
  · rw [heap_set_other h]
    exact ⟨rfl, rfl⟩
theorem set_map_keep {w0 w : World} {R : List Rg} {b : Nat} {ents ents' : Array MapEntry} {c c' : Nat} (hb : w.heap[b]? = some (.map ents c)) (hk : Keep R w0 w) (hn : w0.heap.size ≤ b) : Keep R w0 { w with heap := w.heap.setIfInBounds b (.map ents' c') } := by
  refine ⟨hk.os, hk.tape, hk.output, by simpa using hk.size, fun a ha h => ?_, fun a ha => ?_, fun k h => ?_, fun k h hr => ?_⟩
  · rw [(set_map_cell hb a).1]; exact hk.cell a ha h
  · rw [(set_map_cell hb a).2]; exact hk.frz a ha
  · have : ({ w with heap := w.heap.setIfInBounds b (.map ents' c') } : World).shape? k = w.shape? k := by
      unfold World.shape?
      simp only
      rw [heap_set_other (by omega)]
    rw [this]; exact hk.shp k h
  · show (w.heap.setIfInBounds b _)[k]? = _
    rw [heap_set_other (by omega)]
    exact hk.blk k h hr
theorem blkMt_cells {β : Beta} {ρ : Env} {w w' : World} (h : ∀ a, w'.cell? a = w.cell? a ∧ w'.frozen? a = w.frozen? a) {id : Nat} {b : Blk} (hm : blkMt β ρ w id b) : blkMt β ρ w' id b := by
  obtain ⟨r, hr, hl, hro, hc, hf⟩ := hm
  exact ⟨r, hr, hl, hro, cellsAt_congr (Ext.refl β) (fun j hj => (h _).1) hc, fun h0 j hj => by rw [(h _).2]; exact hf h0 j hj⟩
theorem betaOk_cells {N : Nat} {R : List Rg} {β : Beta} {w w' : World} (h : ∀ a, w'.cell? a = w.cell? a) (hs : w.heap.size ≤ w'.heap.size) (hb : BetaOk N R β w) : BetaOk N R β w' := by
  refine ⟨hb.apart, fun i r hi => by have := hb.place i r hi; omega, hb.may, fun i r ks l hi hq => ?_⟩
  obtain ⟨h1, h2, h3⟩ := hb.sq i r ks l hi hq
  exact ⟨h1, h2, fun j n hj => by obtain ⟨ck, v, g1, g2, g3⟩ := h3 j n hj; exact ⟨ck, v, g1, by rw [h]; exact g2, g3⟩⟩
def mpOf (x : SV) : Option Nat := match x with
  | { g := [], s := .one false [.mp M] } => some M
  | _ => none
theorem mpOf_spec {x : SV} {M : Nat} (h : mpOf x = some M) : x = { g := [], s := .one false [.mp M] } := by
  unfold mpOf at h
  split at h
  · simp only [Option.some.injEq] at h
    subst h
    rfl
  · cases h
def esOf (M : Nat) : List (Nat × MEs) → MEs
  | [] => []
  | (m, es) :: l => if m == M then es ++ esOf M l else esOf M l
/-- Operations on maps. -/
inductive MapOp where
  | mak (t : TypeId)
  | ins (t : TypeId) (m : Operand) (key : ByteArray) (v : Operand)
  | look (t : TypeId) (m k : Operand)
def mapOp (o : Oper) : Option MapOp := match o.guard with
  | some _ => none
  | none => match o.op with
    | .makeMap t none => some (.mak t)
    | .insert t m (.const (.string key)) v => some (.ins t m key v)
    | .lookup t m k false => some (.look t m k)
    | _ => none
theorem mapOp_spec {o : Oper} {x : MapOp} (h : mapOp o = some x) : o.guard = none ∧ match x with
    | .mak t => o.op = .makeMap t none
    | .ins t m key v => o.op = .insert t m (.const (.string key)) v
    | .look t m k => o.op = .lookup t m k false := by
  unfold mapOp at h
  split at h
  · cases h
  · rename_i hg
    refine ⟨hg, ?_⟩
    split at h <;> first | (simp only [Option.some.injEq] at h; subst h; assumption) | cases h
def opMak (o : Oper) : M DAct := do
  let id ← newId
  pure { dst := o.dst, sv := { g := [], s := .one false [.mp id] }, bl := [], rs := [], rb := [], lo := id, hi := id + 1, mkm := some id }
def opIns (P : Program) (ng : Nat) (o : Oper) (σ : St) (t : TypeId) (m : Operand) (key : ByteArray) (v : Operand) : M DAct := do
  let lo ← getId
  let id ← lift (mpOf (ev ng σ m))
  let _ ← lift (strMap P t)
  pure { dst := o.dst, sv := anySV, bl := [], rs := tmpsOf [m, v], rb := [], lo := lo, hi := lo, ins := some (id, key, rs [] (ev ng σ v)) }
def keyOf1 (s : S) : Option A := match s with
  | .one false [c] => asStr c
  | _ => none
theorem keyOf1_spec {s : S} {q : A} (h : keyOf1 s = some q) : ∃ c, s = .one false [c] ∧ asStr c = some q := by
  unfold keyOf1 at h
  split at h
  · exact ⟨_, rfl, h⟩
  · cases h
def opLook (P : Program) (ng : Nat) (o : Oper) (σ : St) (acc : List DAct) (t : TypeId) (m k : Operand) : M DAct := do
  let lo ← getId
  let id ← lift (mpOf (ev ng σ m))
  let e ← lift (strMap P t)
  let z ← lift (zeroS P e)
  let q ← lift (keyOf1 (rs [] (ev ng σ k)))
  let s ← M.mono (lookM q z (insL (fun _ => true) id acc 0))
  let hi ← getId
  pure { dst := o.dst, sv := { g := [], s := s }, bl := [], rs := tmpsOf [m, k], rb := [], lo := lo, hi := hi, lk := [(id, insL (fun _ => true) id acc 0)] }
/-- An operation on a map; or any other one. 'acc': what went ahead. -/
def opDm (P : Program) (X : Hnd) (gh : Hl) (ng : Nat) (ops : Array Oper) (o : Oper) (σ : St) (acc : List DAct) : M DAct :=
  match mapOp o with
  | some (.mak t) => opMak o
  | some (.ins t m key v) => opIns P ng o σ t m key v
  | some (.look t m k) => opLook P ng o σ acc t m k
  | none => opD P X gh ng ops o σ
theorem wanted_none {o : Oper} (h : o.guard = none) (y : Nat → Option Bool) : Region.wanted o y = true := by
  unfold Region.wanted
  rw [h]
theorem opDm_ok (hX : HOk P Φ x.gl X) (hG : ∀ w, Keep x.R x.w0 w → Laid x.gl w) {ops : Array Oper} {o : Oper} {σ : St} {acc : List DAct} {c c' : Ctr} {d : DAct} {out : List Em} (h : opDm P X x.gh x.ng ops o σ acc c = some (d, c', out)) (hg : Good Φ ρ out) :
    ActOk P x ρ ops o σ d ∧ d.lo = c.id ∧ d.hi = c'.id ∧ ∀ p, p ∈ d.lk → p.2 = insL (fun _ => true) p.1 acc 0 := by
  cases hmo : mapOp o with
  | none =>
    simp only [opDm, hmo] at h
    obtain ⟨h1, h2, h3⟩ := opD_ok hX hG h hg
    refine ⟨h1, h2, h3, fun p hp => ?_⟩
    rw [opD_lk h] at hp
    cases hp
  | some mo =>
    obtain ⟨hgu, hop⟩ := mapOp_spec hmo
    cases mo with
    | mak t =>
      simp only [opDm, hmo, opMak, newId, Bind.bind, M.bind, Pure.pure, M.pure, Option.some.injEq, Prod.mk.injEq] at h
      obtain ⟨rfl, rfl, rfl⟩ := h
      refine ⟨⟨rfl, by simp, fun i hi => (by cases hi), fun M hM => (by simp only [Option.some.injEq] at hM; subst hM; exact ⟨Nat.le_refl _, Nat.lt_succ_self _⟩), fun β a w hC hsl hbl hf _ _ next Q hn => ?_⟩, rfl, rfl, fun p hp => by cases hp⟩
      rw [wanted_none hgu, if_pos rfl]
      have hrun : (execOp a.eval o).run P w = .ok (.value (.map (some w.heap.size))) (w.alloc (.map #[] 0)) := by
        obtain ⟨dst, op, ty, pos, after, guard⟩ := o
        simp only at hop
        subst hop
        simp [execOp, run_mkMap]
      have hnone := hf c.id (Nat.le_refl _) (Nat.lt_succ_self _)
      have hext := Beta.set_ext (r := { blk := w.heap.size, off := 0, len := 1, ro := false }) hnone
      have hkeep : Keep [] w (w.alloc (.map #[] 0)) := Keep.alloc [] w _
      refine OpG.value (Post := fun v w' => v = .map (some w.heap.size) ∧ w' = w.alloc (.map #[] 0)) hrun ⟨rfl, rfl⟩ next Q fun v w' ⟨hv, hw⟩ => ?_
      subst hv hw
      refine hn _ _ (β.set c.id { blk := w.heap.size, off := 0, len := 1, ro := false }) hext ⟨(put_tmps a _ _).2.trans hC.size, (put_tmps a _ _).1.trans hC.df, fun id b hb hbg => ?_, hC.gro, hC.bo.alloc hC.kp.size _ 1, hC.kp.trans hkeep (fun r hr => by cases hr), fun g vs hg => hext _ _ (hC.gl g vs hg), fun j r hr => hext _ _ (hC.ra j r hr)⟩
        (fun i hi => by unfold Beta.set; rw [if_neg (by simp only at hi; omega)]) ⟨fun _ => mt_of_cell ⟨_, Beta.set_same _ _ _, rfl⟩, fun h => by cases h⟩ (fun id b hb => by simp [hpOf] at hb) (fun id b _ _ hb => ?_) (fun M es hm _ => ?_) (fun M hM => ?_)
      · exact blkMt_keep hext hC.bo hkeep (fun r q hr => by cases hr) (hC.gm id b hb hbg)
      · exact blkMt_keep hext hC.bo hkeep (fun r q hr => by cases hr) hb
      · rw [show insOf _ M = [] from rfl, List.append_nil]
        exact mapMt_ext hext (live_map (fun r hr => by cases hr) hkeep) hm
      · simp only [Option.some.injEq] at hM
        subst hM
        exact ⟨_, #[], 0, ⟨Beta.set_same _ _ _, rfl, rfl, rfl⟩, hC.kp.size, heap_alloc_new _ _, fun p hp => (by cases hp), fun e he => by simp at he⟩
    | ins t m key v =>
      simp only [opDm, hmo] at h
      unfold opIns at h
      obtain ⟨lo, c1, o1, c2, o2, y, h1, h2, he⟩ := M.bind_inv h
      simp only [Prod.mk.injEq] at he
      obtain ⟨rfl, rfl, rfl⟩ := he
      simp only [getId, Option.some.injEq, Prod.mk.injEq] at h1
      obtain ⟨rfl, rfl, rfl⟩ := h1
      obtain ⟨id, c3, o3, c4, o4, y, h3, h4, he⟩ := M.bind_inv h2
      simp only [Prod.mk.injEq] at he
      obtain ⟨rfl, rfl, rfl⟩ := he
      obtain ⟨id', hid, he⟩ := lift_inv h3
      simp only [Prod.mk.injEq] at he
      obtain ⟨rfl, rfl, rfl⟩ := he
      obtain ⟨e, c5, o5, c6, o6, y, h5, h6, he⟩ := M.bind_inv h4
      simp only [Prod.mk.injEq] at he
      obtain ⟨rfl, rfl, rfl⟩ := he
      obtain ⟨e', hst, he⟩ := lift_inv h5
      simp only [Prod.mk.injEq] at he
      obtain ⟨rfl, rfl, rfl⟩ := he
      have he := M.pure_inv h6
      simp only [Prod.mk.injEq] at he
      obtain ⟨rfl, rfl, rfl⟩ := he
      refine ⟨⟨rfl, Nat.le_refl _, fun i hi => (by cases hi), fun M hM => (by cases hM), fun β a w hC hsl hbl hf _ hins next Q hn => ?_⟩, rfl, rfl, fun p hp => by cases hp⟩
      rw [wanted_none hgu, if_pos rfl]
      have hmv := ev_mt' hC m fun t' ht' => hsl t' (mem_tmpsOf (by simp [ht']))
      rw [mpOf_spec hid] at hmv
      obtain ⟨r, hr, hmv⟩ := mt_cell (s := .one false [.mp id]) rfl (hmv.1 rfl)
      have hvv := rs_mt (Γ := []) rfl (ev_mt' hC v fun t' ht' => hsl t' (mem_tmpsOf (by simp [ht'])))
      obtain ⟨es, hes, hnew⟩ := hins id key _ rfl
      obtain ⟨ents, clock, hb, hrun0⟩ := run_ins hst hes hr hnew (a.eval v)
      obtain ⟨w', hw'⟩ : ∃ w', w' = ({ w with heap := w.heap.setIfInBounds r.blk (.map (ents.push { key := .string key, val := a.eval v, born := clock }) (clock + 1)) } : World) := ⟨_, rfl⟩
      rw [← hw'] at hrun0
      have hrun : (execOp a.eval o).run P w = .ok .skip w' := by
        obtain ⟨dst, op, ty, pos, after, guard⟩ := o
        simp only at hop
        subst hop
        have hke : a.eval (.const (.string key)) = .string key := rfl
        simp only [execOp, hmv, hke]
        simp [hrun0]
      have hcell : ∀ a, w'.cell? a = w.cell? a ∧ w'.frozen? a = w.frozen? a := fun a => by rw [hw']; exact set_map_cell hb a
      have hN : x.w0.heap.size ≤ r.blk := by
        obtain ⟨r', _, _, g1, g2, _⟩ := hes
        have g1 := g1.1
        rw [hr] at g1
        cases g1
        exact g2
      refine OpG.skip (Post := fun v w2 => v = undef ∧ w2 = w') hrun ⟨rfl, rfl⟩ next Q fun u w2 ⟨hu, hw2⟩ => ?_
      subst hu hw2
      refine hn _ _ β (Ext.refl β) ⟨(put_tmps a _ _).2.trans hC.size, (put_tmps a _ _).1.trans hC.df, fun id b hb hbg => blkMt_cells hcell (hC.gm id b hb hbg), hC.gro, betaOk_cells (fun a => (hcell a).1) (by rw [hw']; simp) hC.bo, by rw [hw']; exact set_map_keep hb hC.kp hN, hC.gl, hC.ra⟩
        (fun _ _ => rfl) (anySV_mt _) (fun id b hb => by simp [hpOf] at hb) (fun id b _ _ hb => blkMt_cells hcell hb) (fun M es' hm' _ => ?_) (fun M hM => by cases hM)
      rw [hw']
      by_cases hMe : M = id
      · subst hMe
        unfold insOf
        simp only [beq_self_eq_true, if_true]
        exact mapMt_push hm' hr hb key hvv
      · unfold insOf
        simp only
        rw [if_neg (by simpa using fun e => hMe (Eq.symm e)), List.append_nil]
        exact mapMt_else hMe hC.bo hes hr _ hm'
    | look t m k =>
      simp only [opDm, hmo] at h
      unfold opLook at h
      obtain ⟨lo, c1, o1, c2, o2, y, h1, h2, he⟩ := M.bind_inv h
      simp only [Prod.mk.injEq] at he
      obtain ⟨rfl, rfl, rfl⟩ := he
      simp only [getId, Option.some.injEq, Prod.mk.injEq] at h1
      obtain ⟨rfl, rfl, rfl⟩ := h1
      obtain ⟨id, c3, o3, c4, o4, y, h3, h4, he⟩ := M.bind_inv h2
      simp only [Prod.mk.injEq] at he
      obtain ⟨rfl, rfl, rfl⟩ := he
      obtain ⟨id', hid, he⟩ := lift_inv h3
      simp only [Prod.mk.injEq] at he
      obtain ⟨rfl, rfl, rfl⟩ := he
      obtain ⟨e, c5, o5, c6, o6, y, h5, h6, he⟩ := M.bind_inv h4
      simp only [Prod.mk.injEq] at he
      obtain ⟨rfl, rfl, rfl⟩ := he
      obtain ⟨e', hst, he⟩ := lift_inv h5
      simp only [Prod.mk.injEq] at he
      obtain ⟨rfl, rfl, rfl⟩ := he
      obtain ⟨z, c7, o7, c8, o8, y, h7, h8, he⟩ := M.bind_inv h6
      simp only [Prod.mk.injEq] at he
      obtain ⟨rfl, rfl, rfl⟩ := he
      obtain ⟨z', hz, he⟩ := lift_inv h7
      simp only [Prod.mk.injEq] at he
      obtain ⟨rfl, rfl, rfl⟩ := he
      obtain ⟨q, c9, o9, c10, o10, y, h9, h10, he⟩ := M.bind_inv h8
      simp only [Prod.mk.injEq] at he
      obtain ⟨rfl, rfl, rfl⟩ := he
      obtain ⟨q', hq, he⟩ := lift_inv h9
      simp only [Prod.mk.injEq] at he
      obtain ⟨rfl, rfl, rfl⟩ := he
      obtain ⟨s, c11, o11, c12, o12, y, h11, h12, he⟩ := M.bind_inv h10
      simp only [Prod.mk.injEq] at he
      obtain ⟨rfl, rfl, rfl⟩ := he
      obtain ⟨h11, le11⟩ := mono_inv h11
      simp only at le11
      obtain ⟨hi, c13, o13, c14, o14, y, h13, h14, he⟩ := M.bind_inv h12
      simp only [Prod.mk.injEq] at he
      obtain ⟨rfl, rfl, rfl⟩ := he
      simp only [getId, Option.some.injEq, Prod.mk.injEq] at h13
      obtain ⟨rfl, rfl, rfl⟩ := h13
      have he := M.pure_inv h14
      simp only [Prod.mk.injEq] at he
      obtain ⟨rfl, rfl, rfl⟩ := he
      simp only [Good.append] at hg
      have hls := lookM_snd (Φ := Φ) (ρ := ρ) q z _ _ _ _ _ h11 hg.2.2.2.2.2.1
      obtain ⟨es, hese⟩ : ∃ es, es = insL (fun _ => true) id acc 0 := ⟨_, rfl⟩
      rw [← hese] at hls
      refine ⟨⟨rfl, le11, fun i hi => (by cases hi), fun M hM => (by cases hM), fun β a w hC hsl hbl hf hlk _ next Q hn => ?_⟩, rfl, rfl, fun p hp => by simp only [List.mem_singleton] at hp; rw [hp]⟩
      rw [wanted_none hgu, if_pos rfl]
      have hmv := ev_mt' hC m fun t' ht' => hsl t' (mem_tmpsOf (by simp [ht']))
      rw [mpOf_spec hid] at hmv
      obtain ⟨r, hr, hmv⟩ := mt_cell (s := .one false [.mp id]) rfl (hmv.1 rfl)
      obtain ⟨cc, hcc, hsc⟩ := keyOf1_spec hq
      have hkv := rs_mt (Γ := []) rfl (ev_mt' hC k fun t' ht' => hsl t' (mem_tmpsOf (by simp [ht'])))
      obtain ⟨str, hks, hqe, _⟩ := asStr_mt hsc (mt_cell hcc hkv)
      obtain ⟨hmm, hnd⟩ := hlk (id, es) (by simp [hese])
      obtain ⟨zv, hzr, hzm⟩ := zeroS_spec hz w
      obtain ⟨v, hrun0, hcase⟩ := run_look hst hmm hr str hzr
      have hsm : s.mt β ρ v := hls β v (fun k' hk' => by
        have hkk : k' = str := encS_inj (by rw [← hk', hqe])
        subst hkk
        rcases hcase with ⟨p, g1, g2, g3⟩ | ⟨g1, g2⟩
        · exact .inl ⟨p, g1, g2, g3⟩
        · exact .inr ⟨g1, by rw [g2]; exact hzm β ρ⟩) ⟨str, hqe⟩ hnd
      have hrun : (execOp a.eval o).run P w = .ok (.value v) w := by
        obtain ⟨dst, op, ty, pos, after, guard⟩ := o
        simp only at hop
        subst hop
        simp [execOp, hmv, hks, hrun0]
      refine OpG.value (Post := fun u w2 => u = v ∧ w2 = w) hrun ⟨rfl, rfl⟩ next Q fun u w2 ⟨hu, hw2⟩ => ?_
      subst hu hw2
      exact hn _ _ β (Ext.refl β) ⟨(put_tmps a _ _).2.trans hC.size, (put_tmps a _ _).1.trans hC.df, hC.gm, hC.gro, hC.bo, hC.kp, hC.gl, hC.ra⟩ (fun _ _ => rfl) ⟨fun _ => hsm, fun h => by cases h⟩ (fun id b hb => by simp [hpOf] at hb) (fun _ _ _ _ h => h)
        (fun M es h _ => by rw [show insOf _ M = [] from rfl, List.append_nil]; exact h) (fun M hM => by cases hM)
end
end Go.Proofs.YtalnndmnnffnmaaGreat.Sx
/-! ## SxS -/
set_option linter.unusedVariables false
set_option linter.unusedSimpArgs false
namespace Go.Proofs.YtalnndmnnffnmaaGreat.Sx
open Go

def runD (P : Program) (X : Hnd) (gh : Hl) (ng : Nat) (ops : Array Oper) : List Oper → St → List DAct → M (List DAct × St)
  | [], σ, _ => pure ([], σ)
  | o :: l, σ, acc => do
    let d ← opDm P X gh ng ops o σ acc
    let σ' ← lift (applyD d σ)
    let r ← runD P X gh ng ops l σ' (acc ++ [d])
    pure (d :: r.1, r.2)

/-! ### Maps: made ahead of what is put in, all put in ahead of what is looked up -/
def mkAt (M m : Nat) : List DAct → Nat → Bool
  | [], _ => false
  | d :: l, k => (d.mkm == some M && m.testBit k) || mkAt M m l (k + 1)
theorem mkAt_spec {M m : Nat} : ∀ {l : List DAct} {k : Nat}, mkAt M m l k = true → ∃ i d, l[i]? = some d ∧ d.mkm = some M ∧ m.testBit (k + i) = true
  | d :: l, k, h => by
    simp only [mkAt, Bool.or_eq_true, Bool.and_eq_true, beq_iff_eq] at h
    rcases h with h | h
    · exact ⟨0, d, by simp, h.1, by simpa using h.2⟩
    · obtain ⟨i, e, h1, h2, h3⟩ := mkAt_spec h
      exact ⟨i + 1, e, by simpa using h1, h2, by rw [show k + (i + 1) = k + 1 + i by omega]; exact h3⟩
def insIn (M m j : Nat) : List DAct → Nat → Bool
  | [], _ => true
  | d :: l, k => ((insOf d M).isEmpty || (Nat.blt k j && m.testBit k)) && insIn M m j l (k + 1)
theorem insIn_spec {M m j : Nat} : ∀ {l : List DAct} {k : Nat}, insIn M m j l k = true → ∀ i d, l[i]? = some d → insOf d M ≠ [] → k + i < j ∧ m.testBit (k + i) = true
  | [], k, h, i, d, hi, _ => by simp at hi
  | e :: l, k, h, i, d, hi, hne => by
    simp only [insIn, Bool.and_eq_true, Bool.or_eq_true, List.isEmpty_iff, Nat.blt_eq] at h
    cases i with
    | zero =>
      simp at hi
      subst hi
      rcases h.1 with h1 | h1
      · exact absurd h1 hne
      · simpa using h1
    | succ i =>
      have := insIn_spec h.2 i d (by simpa using hi) hne
      rw [show k + 1 + i = k + (i + 1) by omega] at this
      exact this
def keyNew (M : Nat) (key : ByteArray) (j : Nat) : List DAct → Nat → Bool
  | [], _ => true
  | d :: l, k => (k == j || (insOf d M).all fun p => !(p.1.data.toList == key.data.toList)) && keyNew M key j l (k + 1)
theorem keyNew_spec {M : Nat} {key : ByteArray} {j : Nat} : ∀ {l : List DAct} {k : Nat}, keyNew M key j l k = true → ∀ i d, l[i]? = some d → k + i ≠ j → ∀ p, p ∈ insOf d M → p.1 ≠ key
  | [], k, h, i, d, hi, _, _, _ => by simp at hi
  | e :: l, k, h, i, d, hi, hne, p, hp => by
    simp only [keyNew, Bool.and_eq_true, Bool.or_eq_true, beq_iff_eq, List.all_eq_true, Bool.not_eq_true', beq_eq_false_iff_ne, ne_eq] at h
    cases i with
    | zero =>
      simp at hi
      subst hi
      rcases h.1 with h1 | h1
      · exact absurd h1 (by simpa using hne)
      · exact fun e => h1 p hp (by rw [e])
    | succ i => exact keyNew_spec h.2 i d (by simpa using hi) (by omega) p hp
def nodupK : MEs → Bool
  | [] => true
  | (k, _) :: l => (l.all fun p => !(p.1.data.toList == k.data.toList)) && nodupK l
theorem nodupK_spec : ∀ {l : MEs}, nodupK l = true → (l.map (·.1)).Nodup
  | [], _ => by simp
  | (k, s) :: l, h => by
    simp only [nodupK, Bool.and_eq_true, List.all_eq_true, Bool.not_eq_true', beq_eq_false_iff_ne, ne_eq] at h
    simp only [List.map_cons, List.nodup_cons]
    refine ⟨fun hm => ?_, nodupK_spec h.2⟩
    obtain ⟨p, hp, he⟩ := List.mem_map.1 hm
    exact h.1 p hp (by rw [he])
def mapsOne (all : List DAct) (m j : Nat) (d : DAct) : Bool :=
  (match d.ins with | some (M, k, _) => mkAt M m all 0 && keyNew M k j all 0 | none => true) && d.lk.all fun p => mkAt p.1 m all 0 && insIn p.1 m j all 0 && nodupK p.2
def mapsAll (all : List DAct) : List Nat → List DAct → Nat → Bool
  | _, [], _ => true
  | [], _ :: _, _ => false
  | m :: ms, d :: l, j => mapsOne all m j d && mapsAll all ms l (j + 1)
theorem mapsAll_spec {all : List DAct} : ∀ {ms : List Nat} {l : List DAct} {j : Nat}, mapsAll all ms l j = true → ∀ i d, l[i]? = some d → ∃ m, ms[i]? = some m ∧ mapsOne all m (j + i) d = true
  | _, [], j, _, i, d, hi => by simp at hi
  | [], _ :: _, j, h, _, _, _ => by simp [mapsAll] at h
  | m :: ms, e :: l, j, h, i, d, hi => by
    simp only [mapsAll, Bool.and_eq_true] at h
    cases i with
    | zero =>
      simp at hi
      subst hi
      exact ⟨m, by simp, by simpa using h.1⟩
    | succ i =>
      obtain ⟨m', h1, h2⟩ := mapsAll_spec h.2 i d (by simpa using hi)
      exact ⟨m', by simpa using h1, by rw [show j + (i + 1) = j + 1 + i by omega]; exact h2⟩
/-- What an operation asks of maps, where it is drawn. -/
structure MapsAt (ds : List DAct) (L : Nat → Bool) (i : Nat) (d : DAct) : Prop where
  ins : ∀ M k s, d.ins = some (M, k, s) → (∃ m e, ds[m]? = some e ∧ e.mkm = some M ∧ L m = true) ∧ ∀ j e, ds[j]? = some e → j ≠ i → ∀ p, p ∈ insOf e M → p.1 ≠ k
  lk : ∀ p, p ∈ d.lk → (∃ m e, ds[m]? = some e ∧ e.mkm = some p.1 ∧ L m = true) ∧ (∀ j e, ds[j]? = some e → insOf e p.1 ≠ [] → j < i ∧ L j = true) ∧ (p.2.map (·.1)).Nodup
  mak : ∀ M, d.mkm = some M → ∀ j e, ds[j]? = some e → insOf e M ≠ [] → L j = false ∧ j ≠ i
theorem insOf_ins {d : DAct} {M : Nat} (h : insOf d M ≠ []) : ∃ k s, d.ins = some (M, k, s) := by
  unfold insOf at h
  split at h
  · rename_i M' k s hi
    split at h
    · rename_i he
      simp only [beq_iff_eq] at he
      subst he
      exact ⟨k, s, hi⟩
    · exact absurd rfl h
  · exact absurd rfl h

/-! ### Which go first, whatever order is drawn -/
def bEdges (o : Oper) : List Nat := (o.after.toList.filter (Region.binds .any)).map (·.on)
def maskOf (cs : List Nat) : List Nat → Nat
  | [] => 0
  | e :: l => ((1 <<< e) ||| cs.getD e 0) ||| maskOf cs l
def masks : List Oper → List Nat → List Nat
  | [], cs => cs
  | o :: l, cs => masks l (cs ++ [maskOf cs (bEdges o)])
def hasBl (l : Hl) (id : Nat) : Bool := match hpOf l id with | some _ => true | none => false
def half (d e : DAct) : Bool :=
  (match d.dst with | none => false | some t => e.rs.contains t || e.dst == some t) || d.bl.any fun p => e.rb.contains p.1 || hasBl e.bl p.1
def conf (d e : DAct) : Bool := half d e || half e d
def ordOne (m : Nat) (d : DAct) : List DAct → Nat → Bool
  | [], _ => true
  | e :: l, i => (Nat.testBit m i || !conf e d) && ordOne m d l (i + 1)
def ordAll : List Nat → List DAct → List DAct → Bool
  | _, _, [] => true
  | [], _, _ :: _ => false
  | m :: ms, pre, d :: l => ordOne m d pre 0 && ordAll ms (pre ++ [d]) l
def edgesOk : List Oper → Nat → Bool
  | [], _ => true
  | o :: l, j => (bEdges o).all (fun e => Nat.blt e j) && edgesOk l (j + 1)
def regD (P : Program) (X : Hnd) (gh : Hl) (ng : Nat) (ops : Array Oper) (σ : St) : M St := do
  let r ← M.mono (runD P X gh ng ops ops.toList σ [])
  if P.follows .mixedOrders && edgesOk ops.toList 0 && (ordAll (masks ops.toList []) [] r.1 && mapsAll r.1 (masks ops.toList []) r.1 0) then pure r.2 else M.fail
/-- A region that draws nothing, in which there are maps. -/
def seqMasks : Nat → Nat → List Nat
  | 0, _ => []
  | n + 1, k => (2 ^ k - 1) :: seqMasks n (k + 1)
theorem seqMasks_get : ∀ {n k i : Nat} {m : Nat}, (seqMasks n k)[i]? = some m → m = 2 ^ (k + i) - 1
  | 0, k, i, m, h => by simp [seqMasks] at h
  | n + 1, k, i, m, h => by
    cases i with
    | zero => simp [seqMasks] at h; simp [← h]
    | succ i =>
      have := seqMasks_get (n := n) (k := k + 1) (i := i) (m := m) (by simpa [seqMasks] using h)
      rw [this, show k + 1 + i = k + (i + 1) by omega]
def regM (P : Program) (X : Hnd) (gh : Hl) (ng : Nat) (ops : Array Oper) (σ : St) : M St := do
  let r ← M.mono (runD P X gh ng ops ops.toList σ [])
  if mapsAll r.1 (seqMasks r.1.length 0) r.1 0 then pure r.2 else M.fail
def hasMaps (ops : Array Oper) : Bool := ops.toList.any fun o => (mapOp o).isSome

theorem maskOf_spec {cs : List Nat} {b : Nat} : ∀ {l : List Nat}, (maskOf cs l).testBit b = true → ∃ e, e ∈ l ∧ (b = e ∨ (cs.getD e 0).testBit b = true)
  | [], h => by simp [maskOf] at h
  | e :: l, h => by
    unfold maskOf at h
    rw [Nat.testBit_or, Nat.testBit_or, Bool.or_eq_true, Bool.or_eq_true] at h
    rcases h with (h | h) | h
    · rw [Nat.testBit_shiftLeft] at h
      simp only [Bool.and_eq_true, decide_eq_true_eq] at h
      have : b - e = 0 := by
        by_cases h0 : b - e = 0
        · exact h0
        · exfalso
          have h2 := h.2
          rw [Nat.testBit_eq_decide_div_mod_eq] at h2
          have : 1 / 2 ^ (b - e) = 0 := Nat.div_eq_of_lt (Nat.one_lt_two_pow h0)
          simp [this] at h2
      exact ⟨e, by simp, .inl (by omega)⟩
    · exact ⟨e, by simp, .inr h⟩
    · obtain ⟨e', he, hb⟩ := maskOf_spec h
      exact ⟨e', by simp [he], hb⟩
theorem masks_len : ∀ {l : List Oper} {cs : List Nat}, (masks l cs).length = cs.length + l.length
  | [], cs => by simp [masks]
  | o :: l, cs => by
    unfold masks
    rw [masks_len]
    simp
    omega
theorem masks_spec {ops : List Oper} {L : Nat → Bool} (hL : ∀ j o, ops[j]? = some o → L j = true → ∀ e, e ∈ bEdges o → L e = true) : ∀ {l : List Oper} {cs : List Nat}, (∀ i, l[i]? = ops[cs.length + i]?) →
    (∀ (j m : Nat) (o : Oper), cs[j]? = some m → ops[j]? = some o → (∀ e, e ∈ bEdges o → L e = true) → ∀ b, m.testBit b = true → L b = true) →
    ∀ (j m : Nat) (o : Oper), (masks l cs)[j]? = some m → ops[j]? = some o → (∀ e, e ∈ bEdges o → L e = true) → ∀ b, m.testBit b = true → L b = true
  | [], cs, _, h => h
  | o :: l, cs, hl, h => by
    unfold masks
    have h0 : ops[cs.length]? = some o := by have := hl 0; simpa using this.symm
    refine masks_spec hL (fun i => by have := hl (i + 1); simp only [List.length_append, List.length_singleton]; rw [show cs.length + 1 + i = cs.length + (i + 1) by omega, ← this]; simp) fun j m oj hj ho he b hb => ?_
    by_cases hlt : j < cs.length
    · rw [List.getElem?_append_left hlt] at hj
      exact h j m oj hj ho he b hb
    · rw [List.getElem?_append_right (by omega)] at hj
      have hj0 : j = cs.length := by
        by_cases h1 : j - cs.length = 0
        · omega
        · rw [List.getElem?_eq_none (by simp; omega)] at hj
          cases hj
      subst hj0
      simp at hj
      subst hj
      rw [h0] at ho
      simp only [Option.some.injEq] at ho
      subst ho
      obtain ⟨e, hm, hb⟩ := maskOf_spec hb
      rcases hb with rfl | hb
      · exact he _ hm
      · rw [List.getD_eq_getElem?_getD] at hb
        cases hc : cs[e]? with
        | none => rw [hc] at hb; simp at hb
        | some me =>
          rw [hc] at hb
          have hle := (List.getElem?_eq_some_iff.1 hc).1
          have hls : cs.length < ops.length := (List.getElem?_eq_some_iff.1 h0).1
          have hoe : ops[e]? = some (ops[e]'(by omega)) := List.getElem?_eq_getElem (by omega)
          exact h e me _ hc hoe (hL e _ hoe (he e hm)) b (by simpa using hb)
theorem ordOne_spec {m : Nat} {d : DAct} : ∀ {l : List DAct} {k : Nat}, ordOne m d l k = true → ∀ i e, l[i]? = some e → conf e d = true → m.testBit (k + i) = true
  | [], k, h, i, e, hi, _ => by simp at hi
  | x :: l, k, h, i, e, hi, hc => by
    simp only [ordOne, Bool.and_eq_true, Bool.or_eq_true, Bool.not_eq_true'] at h
    cases i with
    | zero =>
      simp at hi
      subst hi
      rcases h.1 with h1 | h1
      · exact h1
      · rw [h1] at hc; cases hc
    | succ i =>
      have := ordOne_spec h.2 i e (by simpa using hi) hc
      rwa [show k + 1 + i = k + (i + 1) by omega] at this
theorem ordAll_spec : ∀ {l : List DAct} {ms : List Nat} {pre : List DAct}, ordAll ms pre l = true → ∀ j d, l[j]? = some d → ∃ m, ms[j]? = some m ∧ ∀ i e, i < pre.length + j → (pre ++ l)[i]? = some e → conf e d = true → m.testBit i = true
  | [], ms, pre, h, j, d, hj => by simp at hj
  | d0 :: l, [], pre, h, j, d, hj => by simp [ordAll] at h
  | d0 :: l, m :: ms, pre, h, j, d, hj => by
    simp only [ordAll, Bool.and_eq_true] at h
    cases j with
    | zero =>
      simp at hj
      subst hj
      refine ⟨m, rfl, fun i e hi he hc => ?_⟩
      rw [List.getElem?_append_left (by omega)] at he
      have := ordOne_spec h.1 i e he hc
      simpa using this
    | succ j =>
      obtain ⟨m', hm, hx⟩ := ordAll_spec h.2 j d (by simpa using hj)
      refine ⟨m', by simpa using hm, fun i e hi he hc => hx i e (by simp; omega) (by simpa using he) hc⟩
theorem edgesOk_spec : ∀ {l : List Oper} {k : Nat}, edgesOk l k = true → ∀ j o, l[j]? = some o → ∀ e, e ∈ bEdges o → e < k + j
  | [], k, h, j, o, hj => by simp at hj
  | x :: l, k, h, j, o, hj => fun e he => by
    simp only [edgesOk, Bool.and_eq_true, List.all_eq_true, Nat.blt_eq] at h
    cases j with
    | zero =>
      simp at hj
      subst hj
      exact h.1 e he
    | succ j =>
      have := edgesOk_spec h.2 j o (by simpa using hj) e he
      omega

theorem conf_symm {d e : DAct} : conf d e = conf e d := by unfold conf; rw [Bool.or_comm]
theorem half_rs {d e : DAct} {t : Nat} (h : d.dst = some t) (ht : t ∈ e.rs) : half d e = true := by
  unfold half
  rw [h]
  simp [ht]
theorem half_dst {d e : DAct} {t : Nat} (h : d.dst = some t) (ht : e.dst = some t) : half d e = true := by
  unfold half
  rw [h]
  simp [ht]
theorem hpOf_mem : ∀ {l : Hl} {id : Nat} {b : Blk}, hpOf l id = some b → (id, b) ∈ l
  | [], _, _, h => by simp [hpOf] at h
  | (i, c) :: l, id, b, h => by
    unfold hpOf at h
    split at h
    · rename_i he
      simp only [beq_iff_eq] at he
      simp only [Option.some.injEq] at h
      subst he; subst h
      simp
    · simp [hpOf_mem h]
theorem half_rb {d e : DAct} {id : Nat} (h : (hpOf d.bl id).isSome = true) (ht : id ∈ e.rb) : half d e = true := by
  unfold half
  rw [Bool.or_eq_true]
  right
  obtain ⟨b, hb⟩ := Option.isSome_iff_exists.1 h
  rw [List.any_eq_true]
  exact ⟨(id, b), hpOf_mem hb, by simp [ht]⟩
theorem half_bl {d e : DAct} {id : Nat} (h : (hpOf d.bl id).isSome = true) (ht : (hpOf e.bl id).isSome = true) : half d e = true := by
  unfold half
  rw [Bool.or_eq_true]
  right
  obtain ⟨b, hb⟩ := Option.isSome_iff_exists.1 h
  obtain ⟨b', hb'⟩ := Option.isSome_iff_exists.1 ht
  rw [List.any_eq_true]
  exact ⟨(id, b), hpOf_mem hb, by simp [hasBl, hb']⟩

/-! ### What the list of actions is -/
theorem tS_shift {L : Nat → Bool} {t : Nat} : ∀ {l : List DAct} {k : Nat} {b : Option SV}, tS L t l (k + 1) b = tS (fun m => L (m + 1)) t l k b
  | [], _, _ => rfl
  | d :: l, k, b => by
    unfold tS
    exact tS_shift
theorem hS_shift {L : Nat → Bool} {id : Nat} : ∀ {l : List DAct} {k : Nat} {b : Option Blk}, hS L id l (k + 1) b = hS (fun m => L (m + 1)) id l k b
  | [], _, _ => rfl
  | d :: l, k, b => by
    unfold hS
    exact hS_shift
theorem tS_cons {L : Nat → Bool} {t : Nat} {d : DAct} {l : List DAct} {k : Nat} {b : Option SV} (h : L k = true) : tS L t (d :: l) k b = tS L t l (k + 1) (if d.dst == some t then some d.sv else b) := by
  simp only [tS, h, Bool.true_and]
theorem hS_cons {L : Nat → Bool} {id : Nat} {d : DAct} {l : List DAct} {k : Nat} {b : Option Blk} (h : L k = true) : hS L id (d :: l) k b = hS L id l (k + 1) (match hpOf d.bl id with | some x => some x | none => b) := by
  conv => lhs; unfold hS
  cases hpOf d.bl id <;> simp [h]
theorem hpOf_append {id : Nat} : ∀ {l r : Hl}, hpOf (l ++ r) id = match hpOf l id with | some b => some b | none => hpOf r id
  | [], r => rfl
  | (i, b) :: l, r => by
    simp only [List.cons_append, hpOf]
    split
    · rfl
    · exact hpOf_append
theorem applyD_spec {d : DAct} {σ σ' : St} (h : applyD d σ = some σ') : σ'.tm.length = σ.tm.length ∧ (∀ t, d.dst = some t → t < σ.tm.length) ∧ (∀ t, σ'.tm[t]? = if d.dst == some t then some d.sv else σ.tm[t]?) ∧
    (∀ id, hpOf σ'.hp id = match hpOf d.bl id with | some b => some b | none => hpOf σ.hp id) := by
  unfold applyD at h
  split at h
  · rename_i tm htm
    simp only [Option.some.injEq] at h
    subst h
    unfold setT at htm
    split at htm
    · rename_i hd
      simp only [Option.some.injEq] at htm
      subst htm
      refine ⟨rfl, fun t ht => ?_, fun t => ?_, fun id => hpOf_append⟩
      · rw [hd] at ht; cases ht
      · rw [hd]; rfl
    · rename_i s hd
      split at htm
      · rename_i hlt
        simp only [Nat.blt_eq] at hlt
        simp only [Option.some.injEq] at htm
        subst htm
        refine ⟨by simp, fun t ht => ?_, fun t => ?_, fun id => hpOf_append⟩
        · rw [hd] at ht
          simp only [Option.some.injEq] at ht
          subst ht
          exact hlt
        · rw [hd, List.getElem?_set]
          by_cases he : s = t
          · subst he
            simp [hlt]
          · have : ¬ ((some s == some t) = true) := by simpa using he
            rw [if_neg he, if_neg this]
      · cases htm
  · cases h

section
variable {P : Program} {Φ : Funs} {X : Hnd} {x : Cx} {ρ : Env}

structure Ran (P : Program) (x : Cx) (ρ : Env) (ops : Array Oper) (l : List Oper) (σ σn : St) (acc ds : List DAct) (lo hi : Nat) : Prop where
  le : lo ≤ hi
  len : ds.length = l.length
  act : ∀ i d, ds[i]? = some d → ∃ o σi, l[i]? = some o ∧ ActOk P x ρ ops o σi d ∧ (∀ t, σi.tm[t]? = tS (fun m => Nat.blt m i) t ds 0 σ.tm[t]?) ∧ (∀ id, hpOf σi.hp id = hS (fun m => Nat.blt m i) id ds 0 (hpOf σ.hp id)) ∧
    σi.tm.length = σ.tm.length ∧ (∀ t, d.dst = some t → t < σ.tm.length) ∧ lo ≤ d.lo ∧ d.hi ≤ hi ∧ ∀ p, p ∈ d.lk → p.2 = insL (fun _ => true) p.1 (acc ++ ds.take i) 0
  apart : ∀ (i j : Nat) (d e : DAct), i < j → ds[i]? = some d → ds[j]? = some e → d.hi ≤ e.lo
  tm : ∀ t, σn.tm[t]? = tS (fun _ => true) t ds 0 σ.tm[t]?
  hp : ∀ id, hpOf σn.hp id = hS (fun _ => true) id ds 0 (hpOf σ.hp id)
  tl : σn.tm.length = σ.tm.length

theorem runD_ok (hX : HOk P Φ x.gl X) (hG : ∀ w, Keep x.R x.w0 w → Laid x.gl w) {ops : Array Oper} : ∀ {l : List Oper} {σ σn : St} {acc ds : List DAct} {c c' : Ctr} {out : List Em},
    runD P X x.gh x.ng ops l σ acc c = some ((ds, σn), c', out) → Good Φ ρ out → Ran P x ρ ops l σ σn acc ds c.id c'.id
  | [], σ, σn, acc, ds, c, c', out, h, hg => by
    have he := M.pure_inv h
    simp only [Prod.mk.injEq] at he
    obtain ⟨⟨rfl, rfl⟩, rfl, rfl⟩ := he
    exact ⟨Nat.le_refl _, rfl, fun i d hd => by simp at hd, fun i j d e _ hd => by simp at hd, fun t => rfl, fun id => rfl, rfl⟩
  | o :: l, σ, σn, acc, ds, c, c', out, h, hg => by
    unfold runD at h
    obtain ⟨d, c1, o1, c2, o2, y, h1, h2, he⟩ := M.bind_inv h
    simp only [Prod.mk.injEq] at he
    obtain ⟨rfl, rfl, rfl⟩ := he
    obtain ⟨σ', c3, o3, c4, o4, y, h3, h4, he⟩ := M.bind_inv h2
    simp only [Prod.mk.injEq] at he
    obtain ⟨rfl, rfl, rfl⟩ := he
    obtain ⟨σ'', hap, he⟩ := lift_inv h3
    simp only [Prod.mk.injEq] at he
    obtain ⟨rfl, rfl, rfl⟩ := he
    obtain ⟨r, c5, o5, c6, o6, y, h5, h6, he⟩ := M.bind_inv h4
    simp only [Prod.mk.injEq] at he
    obtain ⟨rfl, rfl, rfl⟩ := he
    have he := M.pure_inv h6
    simp only [Prod.mk.injEq] at he
    obtain ⟨⟨rfl, rfl⟩, rfl, rfl⟩ := he
    simp only [Good.append] at hg
    obtain ⟨ha, hlo, hhi, hlk⟩ := opDm_ok hX hG h1 hg.1
    obtain ⟨ds', σn'⟩ := r
    have ih := runD_ok hX hG h5 hg.2.2.1
    obtain ⟨a1, a2, a3, a4⟩ := applyD_spec hap
    have hle : c.id ≤ c3.id := by have := ha.2.1; omega
    refine ⟨by have := ih.le; omega, by simp [ih.len], fun i e hi => ?_, fun i j e f hij hi hj => ?_, fun t => ?_, fun id => ?_, ih.tl.trans a1⟩
    · cases i with
      | zero =>
        simp at hi
        subst hi
        refine ⟨o, σ, by simp, ha, fun t => ?_, fun id => ?_, rfl, a2, by omega, by have := ih.le; omega, fun p hp => by rw [hlk p hp]; simp⟩
        · rw [tS_none fun i d _ _ => by simp [Nat.blt_eq, Bool.eq_false_iff]]
        · rw [hS_none fun i d _ _ => by simp [Nat.blt_eq, Bool.eq_false_iff]]
      | succ i =>
        obtain ⟨o', σi, b1, b2, b3, b4, b5, b6, b7, b8, b9⟩ := ih.act i e (by simpa using hi)
        refine ⟨o', σi, by simpa using b1, b2, fun t => ?_, fun id => ?_, b5.trans a1, fun t ht => ?_, by omega, b8, fun p hp => by rw [b9 p hp, List.append_assoc]; rfl⟩
        · rw [b3 t, a3 t]
          have h0 : (fun m => Nat.blt m (i + 1)) 0 = true := by simp
          rw [tS_cons (L := fun m => Nat.blt m (i + 1)) h0, tS_shift (k := 0)]
          exact tS_congr fun m d hm hd => by
            rw [Bool.eq_iff_iff, Nat.blt_eq, Nat.blt_eq]
            omega
        · rw [b4 id, a4 id]
          have h0 : (fun m => Nat.blt m (i + 1)) 0 = true := by simp
          rw [hS_cons (L := fun m => Nat.blt m (i + 1)) h0, hS_shift (k := 0)]
          exact hS_congr fun m d hm hd => by
            rw [Bool.eq_iff_iff, Nat.blt_eq, Nat.blt_eq]
            omega
        · rw [← a1]
          exact b6 t ht
    · cases j with
      | zero => omega
      | succ j =>
        have hj' : ds'[j]? = some f := by simpa using hj
        cases i with
        | zero =>
          simp at hi
          subst hi
          obtain ⟨_, _, _, _, _, _, _, _, b7, _, _⟩ := ih.act j f hj'
          omega
        | succ i => exact ih.apart i j e f (by omega) (by simpa using hi) hj'
    · rw [ih.tm t, a3 t]
      rw [tS_cons rfl, tS_shift (k := 0)]
    · rw [ih.hp id, a4 id]
      rw [hS_cons rfl, hS_shift (k := 0)]

structure Mid (x : Cx) (ρ : Env) (σ : St) (ds : List DAct) (hi : Nat) (β0 β : Beta) (L : Nat → Bool) (a : Act) (w : World) : Prop where
  ext : Ext β0 β
  com : Com x ρ σ.tm.length β a w
  slot : ∀ t v, tS L t ds 0 σ.tm[t]? = some v → v.mt β ρ (a.tmps.getD t undef)
  blk : ∀ id b, hS L id ds 0 (hpOf σ.hp id) = some b → Gd.d ρ b.g = true → blkMt β ρ w id b
  free : ∀ j d, ds[j]? = some d → L j = false → ∀ i, d.lo ≤ i → i < d.hi → β i = none
  fresh : ∀ i, hi ≤ i → β i = none
  mp : ∀ m d M, ds[m]? = some d → d.mkm = some M → L m = true → mapMt x.w0.heap.size β ρ w M (insL L M ds 0)

/-- One of them, drawn out of its turn. -/
theorem Mid.step {ops : Array Oper} {l : List Oper} {σ σn : St} {ds : List DAct} {lo hi : Nat} (hr : Ran P x ρ ops l σ σn [] ds lo hi) {β0 β : Beta} {L L' : Nat → Bool} {a : Act} {w : World} (hm : Mid x ρ σ ds hi β0 β L a w)
    {i : Nat} {d : DAct} {o : Oper} (hd : ds[i]? = some d) (ho : l[i]? = some o) (hL : L i = false) (hL' : ∀ k, L' k = (L k || k == i)) (hord : ∀ k e, ds[k]? = some e → k ≠ i → conf e d = true → L k = Nat.blt k i) (hmap : MapsAt ds L i d) (next : Act → World → Prop) (Q : Exit → Act → World → Prop)
    (hn : ∀ β' a' w', Mid x ρ σ ds hi β0 β' L' a' w' → next a' w') : if Region.wanted o (yielded ops a.tmps) then o.wp P a w next Q else next (a.put o.dst undef) w := by
  obtain ⟨o', σi, b1, ⟨b2, b9, bsm, b10, hA⟩, b3, b4, b5, b6, b7, b8, b11⟩ := hr.act i d hd
  rw [ho] at b1
  simp only [Option.some.injEq] at b1
  subst b1
  have hcom := hm.com
  rw [← b5] at hcom
  have hrd : ∀ t, t ∈ d.rs → tS L t ds 0 σ.tm[t]? = σi.tm[t]? := fun t ht => by
    rw [b3 t]
    refine tS_congr fun k e hk he => ?_
    rw [Nat.zero_add]
    by_cases hki : k = i
    · subst hki; rw [hL]; simp [Bool.eq_false_iff, Nat.blt_eq]
    · exact hord k e hk hki (by unfold conf; rw [half_rs he ht, Bool.true_or])
  have hrb : ∀ id, id ∈ d.rb → hS L id ds 0 (hpOf σ.hp id) = hpOf σi.hp id := fun id ht => by
    rw [b4 id]
    refine hS_congr fun k e hk he => ?_
    rw [Nat.zero_add]
    by_cases hki : k = i
    · subst hki; rw [hL]; simp [Bool.eq_false_iff, Nat.blt_eq]
    · exact hord k e hk hki (by unfold conf; rw [half_rb he ht, Bool.true_or])
  refine hA β a w hcom (fun t ht v hv => hm.slot t v (by rw [hrd t ht]; exact hv)) (fun id ht b hb hbg => hm.blk id b (by rw [hrb id ht]; exact hb) hbg) (hm.free i d hd hL) (fun p hp => ?_) (fun M k s hins => ?_) next Q fun v w' β' h1 h2 h3 h4 h5 h6 h7 h8 => ?_
  · obtain ⟨⟨m, e, e1, e2, e3⟩, hall, hnd⟩ := hmap.lk p hp
    refine ⟨mapMt_congr (fun q => ?_) (hm.mp m e p.1 e1 e2 e3), hnd⟩
    rw [b11 p hp, List.nil_append, insL_mem, insL_mem]
    constructor
    · rintro ⟨k, f, g1, g2, g3⟩
      obtain ⟨g4, g5⟩ := hall k f g1 (fun e => by rw [e] at g3; cases g3)
      exact ⟨k, f, by rw [List.getElem?_take, if_pos g4]; exact g1, rfl, g3⟩
    · rintro ⟨k, f, g1, _, g3⟩
      rw [List.getElem?_take] at g1
      split at g1
      · exact ⟨k, f, g1, by rw [Nat.zero_add]; exact (hall k f g1 (fun e => by rw [e] at g3; cases g3)).2, g3⟩
      · cases g1
  · obtain ⟨⟨m, e, e1, e2, e3⟩, hkey⟩ := hmap.ins M k s hins
    refine ⟨_, hm.mp m e M e1 e2 e3, fun p hp => ?_⟩
    rw [insL_mem] at hp
    obtain ⟨j, f, g1, g2, g3⟩ := hp
    rw [Nat.zero_add] at g2
    exact hkey j f g1 (fun e => by rw [e, hL] at g2; cases g2) p g3
  rw [← b2] at h2 ⊢
  rw [b5] at h2
  refine hn β' _ w' ⟨hm.ext.trans h1, h2, fun t u hu => ?_, fun id b hb hbg => ?_, fun j e hj hLj k hk1 hk2 => ?_, fun k hk => ?_, fun m e M hme hmk hLm => ?_⟩
  · by_cases hdt : d.dst = some t
    · have hs : tS L' t ds 0 σ.tm[t]? = some d.sv := by
        rw [show tS L' t ds 0 σ.tm[t]? = tS (fun k => Nat.ble k i) t ds 0 σ.tm[t]? from tS_congr fun k e hk he => by
          rw [Nat.zero_add, hL']
          by_cases hki : k = i
          · subst hki; simp
          · rw [hord k e hk hki (by unfold conf; rw [half_dst he hdt, Bool.true_or]), Bool.eq_iff_iff]
            simp only [Bool.or_eq_true, Nat.blt_eq, beq_iff_eq, Nat.ble_eq]
            omega]
        exact tS_last hdt (Nat.zero_le _) (by simpa using hd)
      rw [hs] at hu
      simp only [Option.some.injEq] at hu
      subst hu
      have hlt := b6 t hdt
      rw [hdt]
      have hsz : t < a.tmps.size := by rw [hm.com.size]; exact hlt
      simpa [Act.put, hsz] using h4
    · have hs : tS L' t ds 0 σ.tm[t]? = tS L t ds 0 σ.tm[t]? := tS_congr fun k e hk he => by
        rw [Nat.zero_add, hL']
        have hki : k ≠ i := fun e0 => by
          subst e0
          rw [hd] at hk
          simp only [Option.some.injEq] at hk
          subst hk
          exact hdt he
        have : (k == i) = false := by simpa using hki
        rw [this, Bool.or_false]
      rw [hs] at hu
      have := SV.mt_ext h1 (hm.slot t u hu)
      cases hdd : d.dst with
      | none => simpa [Act.put] using this
      | some s =>
        have hne : s ≠ t := fun e => hdt (by rw [hdd, e])
        simpa [Act.put, Array.getElem?_setIfInBounds_ne hne] using this
  · cases hbl : hpOf d.bl id with
    | some b' =>
      have hs : hS L' id ds 0 (hpOf σ.hp id) = some b' := by
        rw [show hS L' id ds 0 (hpOf σ.hp id) = hS (fun k => Nat.ble k i) id ds 0 (hpOf σ.hp id) from hS_congr fun k e hk he => by
          rw [Nat.zero_add, hL']
          by_cases hki : k = i
          · subst hki; simp
          · rw [hord k e hk hki (by unfold conf; rw [half_bl he (by rw [hbl]; rfl), Bool.true_or]), Bool.eq_iff_iff]
            simp only [Bool.or_eq_true, Nat.blt_eq, beq_iff_eq, Nat.ble_eq]
            omega]
        exact hS_last hbl (Nat.zero_le _) (by simpa using hd)
      rw [hs] at hb
      simp only [Option.some.injEq] at hb
      subst hb
      exact h5 id _ hbl hbg
    | none =>
      have hs : hS L' id ds 0 (hpOf σ.hp id) = hS L id ds 0 (hpOf σ.hp id) := hS_congr fun k e hk he => by
        rw [Nat.zero_add, hL']
        have hki : k ≠ i := fun e0 => by
          subst e0
          rw [hd] at hk
          simp only [Option.some.injEq] at hk
          subst hk
          rw [hbl] at he
          cases he
        have : (k == i) = false := by simpa using hki
        rw [this, Bool.or_false]
      rw [hs] at hb
      exact h6 id b hbl (fun hsm => by rw [← hrb id (bsm id hsm)]; exact hb) (hm.blk id b hb hbg)
  · rw [hL'] at hLj
    simp only [Bool.or_eq_false_iff, beq_eq_false_iff_ne, ne_eq] at hLj
    rw [h3 k (by
      rcases Nat.lt_or_gt_of_ne hLj.2 with h | h
      · have := hr.apart j i e d h hj hd; omega
      · have := hr.apart i j d e h hd hj; omega)]
    exact hm.free j e hj hLj.1 k hk1 hk2
  · rw [h3 k (by omega)]
    exact hm.fresh k hk
  · by_cases hmi : m = i
    · subst hmi
      rw [hd] at hme
      simp only [Option.some.injEq] at hme
      subst hme
      refine mapMt_congr (fun q => ?_) (h8 M hmk)
      rw [insL_mem]
      constructor
      · intro h; cases h
      · rintro ⟨k, f, g1, g2, g3⟩
        obtain ⟨g4, g5⟩ := hmap.mak M hmk k f g1 (fun e => by rw [e] at g3; cases g3)
        rw [Nat.zero_add, hL', g4] at g2
        exact absurd (by simpa using g2) g5
    · have hLm' : L m = true := by
        rw [hL'] at hLm
        have : (m == i) = false := by simpa using hmi
        rw [this, Bool.or_false] at hLm
        exact hLm
      refine mapMt_congr (fun q => ?_) (h7 M _ (hm.mp m e M hme hmk hLm') fun k s hins p hp => ?_)
      · rw [List.mem_append, insL_mem, insL_mem]
        constructor
        · rintro (⟨k, f, g1, g2, g3⟩ | h)
          · exact ⟨k, f, g1, by rw [hL', g2]; rfl, g3⟩
          · exact ⟨i, d, hd, by rw [Nat.zero_add, hL']; simp, h⟩
        · rintro ⟨k, f, g1, g2, g3⟩
          rw [Nat.zero_add, hL'] at g2
          simp only [Bool.or_eq_true, beq_iff_eq] at g2
          rcases g2 with g2 | g2
          · exact .inl ⟨k, f, g1, by rw [Nat.zero_add]; exact g2, g3⟩
          · subst g2
            rw [hd] at g1
            simp only [Option.some.injEq] at g1
            subst g1
            exact .inr g3
      · obtain ⟨_, hkey⟩ := hmap.ins M k s hins
        rw [insL_mem] at hp
        obtain ⟨j, f, g1, g2, g3⟩ := hp
        rw [Nat.zero_add] at g2
        exact hkey j f g1 (fun e => by rw [e, hL] at g2; cases g2) p g3

/-- The maker of a map is one. -/
theorem Ran.maker {ops : Array Oper} {l : List Oper} {σ σn : St} {ds : List DAct} {lo hi : Nat} (hr : Ran P x ρ ops l σ σn [] ds lo hi) {i j : Nat} {d e : DAct} {M : Nat} (hi' : ds[i]? = some d) (hj : ds[j]? = some e) (h1 : d.mkm = some M) (h2 : e.mkm = some M) : i = j := by
  obtain ⟨_, _, _, ⟨_, _, _, a1, _⟩, _⟩ := hr.act i d hi'
  obtain ⟨_, _, _, ⟨_, _, _, a2, _⟩, _⟩ := hr.act j e hj
  have b1 := a1 M h1
  have b2 := a2 M h2
  rcases Nat.lt_trichotomy i j with h | h | h
  · have := hr.apart i j d e h hi' hj; omega
  · exact h
  · have := hr.apart j i e d h hj hi'; omega

/-- Whatever order is drawn, the same comes of it. -/
theorem any_ok {ops : Array Oper} {σ σn : St} {ds : List DAct} {lo hi : Nat} (hr : Ran P x ρ ops ops.toList σ σn [] ds lo hi) (he : edgesOk ops.toList 0 = true) (hs : ordAll (masks ops.toList []) [] ds = true) (hmp : mapsAll ds (masks ops.toList []) ds 0 = true) {β0 : Beta} {Q : Exit → Act → World → Prop}
    (hQ : ∀ β a w, Mid x ρ σ ds hi β0 β (fun _ => true) a w → Q .normal a w) : ∀ (fuel : Nat) (listed : Array Bool) (β : Beta) (a : Act) (w : World), listed.size = ops.size → listed.toList.count false = fuel →
      (∀ j o, ops.toList[j]? = some o → listed.getD j false = true → ∀ e, e ∈ bEdges o → listed.getD e false = true) →
      Mid x ρ σ ds hi β0 β (fun k => listed.getD k false) a w → wpAny P .any ops Q fuel listed a w := by
  have hall : ∀ (listed : Array Bool), listed.size = ops.size → Region.ready .any ops listed = [] → ∀ n j, j ≤ n → j < ops.size → listed.getD j false = true := by
    intro listed hsz h0 n
    induction n with
    | zero =>
      intro j hj hlt
      by_cases hl : listed.getD j false = true
      · exact hl
      · exfalso
        have hmem : j ∈ Region.ready .any ops listed := by
          unfold Region.ready
          rw [List.mem_filter]
          refine ⟨List.mem_range.2 hlt, ?_⟩
          have ho : ops.toList[j]? = some ops[j] := by simp [hlt]
          have hed := edgesOk_spec he j ops[j] ho
          simp only [Bool.and_eq_true, Bool.not_eq_true']
          refine ⟨by simpa [hsz, hlt] using hl, ?_⟩
          rw [Array.getElem?_eq_getElem hlt]
          simp only [Option.map_some, Option.getD_some, Array.all_eq_true_iff_forall_mem]
          intro e hme
          cases hb : Region.binds .any e with
          | false => rfl
          | true =>
            have := hed e.on (by unfold bEdges; rw [List.mem_map]; exact ⟨e, by rw [List.mem_filter]; exact ⟨hme.val, hb⟩, rfl⟩)
            omega
        rw [h0] at hmem
        cases hmem
    | succ n ih =>
      intro j hj hlt
      by_cases hl : listed.getD j false = true
      · exact hl
      · exfalso
        have hmem : j ∈ Region.ready .any ops listed := by
          unfold Region.ready
          rw [List.mem_filter]
          refine ⟨List.mem_range.2 hlt, ?_⟩
          have ho : ops.toList[j]? = some ops[j] := by simp [hlt]
          have hed := edgesOk_spec he j ops[j] ho
          simp only [Bool.and_eq_true, Bool.not_eq_true']
          refine ⟨by simpa [hsz, hlt] using hl, ?_⟩
          rw [Array.getElem?_eq_getElem hlt]
          simp only [Option.map_some, Option.getD_some, Array.all_eq_true_iff_forall_mem]
          intro e hme
          cases hb : Region.binds .any e with
          | false => rfl
          | true =>
            have h1 := hed e.on (by unfold bEdges; rw [List.mem_map]; exact ⟨e, by rw [List.mem_filter]; exact ⟨hme.val, hb⟩, rfl⟩)
            have := ih e.on (by omega) (by omega)
            rw [this]
            rfl
        rw [h0] at hmem
        cases hmem
  have hfin : ∀ (listed : Array Bool) (β : Beta) (a : Act) (w : World), listed.size = ops.size → Region.ready .any ops listed = [] → Mid x ρ σ ds hi β0 β (fun k => listed.getD k false) a w → Q .normal a w := by
    intro listed β a w hsz h0 hm
    have hl : ∀ k d, ds[k]? = some d → listed.getD k false = true := fun k d hk => by
      have hk' := (List.getElem?_eq_some_iff.1 hk).1
      rw [hr.len] at hk'
      exact hall listed hsz h0 k k (Nat.le_refl _) (by simpa using hk')
    refine hQ β a w ⟨hm.ext, hm.com, fun t v hv => hm.slot t v ?_, fun id b hb => hm.blk id b ?_, fun j d hj h => (by cases h), hm.fresh, fun m d M h1 h2 _ => mapMt_congr (fun q => by
        rw [insL_mem, insL_mem]
        constructor
        · rintro ⟨k, f, g1, g2, g3⟩; exact ⟨k, f, g1, rfl, g3⟩
        · rintro ⟨k, f, g1, g2, g3⟩; exact ⟨k, f, g1, by rw [Nat.zero_add]; exact hl k f g1, g3⟩) (hm.mp m d M h1 h2 (hl m d h1))⟩
    · rw [← hv]
      exact tS_congr fun k d hk _ => by rw [Nat.zero_add, hl k d hk]
    · rw [← hb]
      exact hS_congr fun k d hk _ => by rw [Nat.zero_add, hl k d hk]
  intro fuel
  induction fuel with
  | zero =>
    intro listed β a w hsz hc hcl hm
    have h0 : Region.ready .any ops listed = [] := by
      unfold Region.ready
      rw [List.filter_eq_nil_iff]
      intro i hi
      have hlt : i < listed.size := by rw [hsz]; exact List.mem_range.1 hi
      have : listed[i] ≠ false := fun e => by
        have := List.count_eq_zero.1 hc
        exact this (by rw [← e]; simp)
      simp only [Bool.not_eq_false] at this
      simp [hlt, this]
    exact ⟨h0, hfin listed β a w hsz h0 hm⟩
  | succ fuel ih =>
    intro listed β a w hsz hc hcl hm
    refine ⟨fun h0 => hfin listed β a w hsz h0 hm, fun i hi => ?_⟩
    unfold Region.ready at hi
    rw [List.mem_filter] at hi
    obtain ⟨hi1, hi2⟩ := hi
    have hlt := List.mem_range.1 hi1
    have hlt' : i < listed.size := by omega
    simp only [Bool.and_eq_true, Bool.not_eq_true'] at hi2
    obtain ⟨hnl, hed⟩ := hi2
    rw [Array.getElem?_eq_getElem hlt] at hed
    simp only [Option.map_some, Option.getD_some, Array.all_eq_true_iff_forall_mem] at hed
    have hLi : listed[i] = false := by simpa [hlt'] using hnl
    have hLi' : listed.getD i false = false := by simp [hlt', hLi]
    have ho : ops.toList[i]? = some ops[i] := by simp [hlt]
    have hdl : i < ds.length := by rw [hr.len]; simpa using hlt
    have hd := List.getElem?_eq_getElem hdl
    have hedge : ∀ e, e ∈ bEdges ops[i] → listed.getD e false = true := fun e hm => by
      unfold bEdges at hm
      rw [List.mem_map] at hm
      obtain ⟨e', hm, rfl⟩ := hm
      rw [List.mem_filter] at hm
      have := hed e' (by simpa using hm.1)
      rw [hm.2] at this
      simpa using this
    have hmask := masks_spec (ops := ops.toList) (L := fun k => listed.getD k false) hcl (l := ops.toList) (cs := []) (fun i => by simp) (fun j m o hj => by simp at hj)
    unfold wpOp
    rw [Array.getElem?_eq_getElem hlt]
    simp only
    have hstep := hm.step (L' := fun k => (listed.setIfInBounds i true).getD k false) hr hd ho hLi' (fun k => by
        by_cases hk : k = i
        · subst hk; simp [hlt']
        · have : (k == i) = false := by simpa using hk
          have hne : i ≠ k := fun e => hk e.symm
          rw [this, Bool.or_false]
          simp [Array.getElem?_setIfInBounds_ne hne]) (fun k e hk hki hcf => by
        rcases Nat.lt_or_gt_of_ne hki with h | h
        · obtain ⟨m, hm1, hm2⟩ := ordAll_spec hs i _ hd
          have hb := hm2 k e (by simpa using h) (by simpa using hk) hcf
          rw [hmask i m _ hm1 ho hedge k hb]
          simp [h]
        · obtain ⟨m, hm1, hm2⟩ := ordAll_spec hs k _ hk
          rw [conf_symm] at hcf
          have hb := hm2 i _ (by simpa using h) (by simp) hcf
          have hkl : k < ops.size := by have := (List.getElem?_eq_some_iff.1 hk).1; rw [hr.len] at this; simpa using this
          have hok : ops.toList[k]? = some ops[k] := by simp [hkl]
          have hblt : Nat.blt k i = false := by simp only [Bool.eq_false_iff, ne_eq, Nat.blt_eq]; omega
          rw [hblt]
          cases hLk : listed.getD k false with
          | false => rfl
          | true =>
            have := hmask k m _ hm1 hok (hcl k _ hok hLk) i hb
            rw [hLi'] at this
            cases this) (by
        have hbits : ∀ (j m : Nat) (e : DAct), ds[j]? = some e → (masks ops.toList [])[j]? = some m → listed.getD j false = true ∨ j = i → ∀ b, m.testBit b = true → listed.getD b false = true := fun j m e hj hm' hLj b hb => by
          have hjl : j < ops.size := by have := (List.getElem?_eq_some_iff.1 hj).1; rw [hr.len] at this; simpa using this
          have hok : ops.toList[j]? = some ops[j] := by simp [hjl]
          rcases hLj with hLj | rfl
          · exact hmask j m _ hm' hok (hcl j _ hok hLj) b hb
          · exact hmask j m _ hm' ho hedge b hb
        obtain ⟨m, hm1, hm2⟩ := mapsAll_spec hmp i _ hd
        rw [Nat.zero_add] at hm2
        unfold mapsOne at hm2
        simp only [Bool.and_eq_true, List.all_eq_true] at hm2
        refine ⟨fun M k s hins => ?_, fun p hp => ?_, fun M hmk j e hj hne => ?_⟩
        · have hm2 := hm2.1
          rw [hins] at hm2
          simp only [Bool.and_eq_true] at hm2
          obtain ⟨a, e, g1, g2, g3⟩ := mkAt_spec hm2.1
          rw [Nat.zero_add] at g3
          exact ⟨⟨a, e, g1, g2, hbits i m _ hd hm1 (.inr rfl) a g3⟩, fun j e hj hne => keyNew_spec hm2.2 j e hj (by simpa using hne)⟩
        · have := hm2.2 p hp
          obtain ⟨a, e, g1, g2, g3⟩ := mkAt_spec this.1.1
          rw [Nat.zero_add] at g3
          refine ⟨⟨a, e, g1, g2, hbits i m _ hd hm1 (.inr rfl) a g3⟩, fun j e hj hne => ?_, nodupK_spec this.2⟩
          obtain ⟨k1, k2⟩ := insIn_spec this.1.2 j e hj hne
          rw [Nat.zero_add] at k1 k2
          exact ⟨k1, hbits i m _ hd hm1 (.inr rfl) j k2⟩
        · obtain ⟨k, s, hins⟩ := insOf_ins hne
          obtain ⟨m', hm1', hm2'⟩ := mapsAll_spec hmp j _ hj
          rw [Nat.zero_add] at hm2'
          unfold mapsOne at hm2'
          simp only [Bool.and_eq_true] at hm2'
          have hm2' := hm2'.1
          rw [hins] at hm2'
          simp only [Bool.and_eq_true] at hm2'
          obtain ⟨a, f, g1, g2, g3⟩ := mkAt_spec hm2'.1
          rw [Nat.zero_add] at g3
          have := hr.maker hd g1 hmk g2
          subst this
          refine ⟨?_, fun e => ?_⟩
          · cases hLj : listed.getD j false with
            | false => rfl
            | true => have := hbits j m' _ hj hm1' (.inl hLj) i g3; rw [hLi'] at this; cases this
          · have := hbits j m' _ hj hm1' (.inr e) i g3
            rw [hLi'] at this
            cases this) (wpAny P .any ops Q fuel (listed.setIfInBounds i true)) Q (fun β' a' w' hm' => by
        refine ih _ β' a' w' (by simpa using hsz) ?_ (fun j o hj hLj e he => ?_) hm'
        · rw [Array.toList_setIfInBounds, List.count_set (by simpa using hlt')]
          have : listed.toList[i]'(by simpa using hlt') = false := by simpa using hLi
          rw [this, hc]
          simp
        · have hmono : ∀ k, listed.getD k false = true → (listed.setIfInBounds i true).getD k false = true := fun k hk => by
            by_cases h : k = i
            · subst h; simp [hlt']
            · have hne : i ≠ k := fun e => h e.symm
              simpa [Array.getElem?_setIfInBounds_ne hne] using hk
          by_cases h : j = i
          · subst h
            rw [ho] at hj
            simp only [Option.some.injEq] at hj
            subst hj
            exact hmono _ (hedge e he)
          · have hne : i ≠ j := fun e => h e.symm
            have : listed.getD j false = true := by simpa [Array.getElem?_setIfInBounds_ne hne] using hLj
            exact hmono _ (hcl j o hj this e he))
    split
    · rename_i hw
      rw [if_pos hw] at hstep
      exact .inl hstep
    · rename_i hw
      rw [if_neg hw] at hstep
      exact hstep

theorem regD_sound (hX : HOk P Φ x.gl X) (hG : ∀ w, Keep x.R x.w0 w → Laid x.gl w) {id : Nat} {ops : Array Oper} {σ σ' : St} {c c' : Ctr} {out : List Em} (h : regD P X x.gh x.ng ops σ c = some (σ', c', out)) (hg : Good Φ ρ out)
    {β : Beta} {a : Act} {w : World} (hR : Rel x ρ β σ a w) (hf : Fresh β c) {Q : Exit → Act → World → Prop} (hn : ∀ β' a' w', Ext β β' → Rel x ρ β' σ' a' w' → Fresh β' c' → Q .normal a' w') : (Code.region id ops true).wp P Q a w := by
  unfold regD at h
  obtain ⟨⟨ds, σn⟩, c1, o1, c2, o2, y, h1, h2, he⟩ := M.bind_inv h
  simp only [Prod.mk.injEq] at he
  obtain ⟨rfl, rfl, rfl⟩ := he
  obtain ⟨h1, hle⟩ := mono_inv h1
  split at h2
  · rename_i hc
    simp only [Bool.and_eq_true] at hc
    have he := M.pure_inv h2
    simp only [Prod.mk.injEq] at he
    obtain ⟨rfl, rfl, rfl⟩ := he
    rw [Good.append] at hg
    have hran := runD_ok hX hG h1 hg.1
    refine wp_region_any hc.1.1 (any_ok hran hc.1.2 hc.2.1 hc.2.2 (β0 := β) (fun β' a' w' hm => ?_) _ _ β a _ (by simp) (by simp) (fun j o hj hl => ?_) ⟨Ext.refl β, ?_, fun t v hv => ?_, fun i b hb hbg => ?_, fun j d hj _ i hi _ => ?_, fun i hi => hf i (by simp only at hle; omega), fun m d M _ _ h => (by
        exfalso
        simp [Array.getElem?_replicate] at h
        split at h <;> simp_all)⟩)
    · have hC := hm.com
      refine hn β' a' w' hm.ext ⟨hC.size.trans hran.tl.symm, fun t v hv => hm.slot t v (by rw [← hran.tm t]; exact hv), hC.df, fun i b hb hbg => hm.blk i b (by rw [← hran.hp i]; exact hb) hbg, hC.gm, hC.gro, hC.bo, hC.kp, hC.gl, hC.ra⟩ (fun i hi => hm.fresh i hi)
    · exfalso
      simp [Array.getElem?_replicate] at hl
      split at hl <;> simp_all
    · have hC := hR.com
      refine ⟨hC.size, hC.df, fun i b hb hbg => ?_, hC.gro, ⟨hC.bo.apart, hC.bo.place, hC.bo.may, hC.bo.sq⟩, hC.kp.trans (Keep.drew [] w) (fun r hr => by simp at hr), hC.gl, hC.ra⟩
      exact blkMt_keep (Ext.refl β) hC.bo (Keep.drew [] w) (fun r q hr _ => by simp at hr) (hC.gm i b hb hbg)
    · rw [tS_none fun i d _ _ => by simp [Array.getElem?_replicate]; split <;> rfl] at hv
      exact hR.slot t v hv
    · rw [hS_none fun i d _ _ => by simp [Array.getElem?_replicate]; split <;> rfl] at hb
      exact blkMt_keep (Ext.refl β) hR.bo (Keep.drew [] w) (fun r q hr _ => by simp at hr) (hR.hm i b hb hbg)
    · obtain ⟨_, _, _, _, _, _, _, _, b7, _, _⟩ := hran.act j d hj
      exact hf i (by omega)
  · simp [M.fail] at h2
/-- One behind the other. -/
theorem seq_ok {ops : Array Oper} {l0 : List Oper} {σ σn : St} {ds : List DAct} {lo hi : Nat} (hr : Ran P x ρ ops l0 σ σn [] ds lo hi) (hmp : mapsAll ds (seqMasks ds.length 0) ds 0 = true) {β0 : Beta} {Q : Exit → Act → World → Prop}
    (hQ : ∀ β a w, Mid x ρ σ ds hi β0 β (fun _ => true) a w → Q .normal a w) : ∀ (l : List Oper) (i : Nat) (β : Beta) (a : Act) (w : World), l0.drop i = l → i ≤ l0.length → Mid x ρ σ ds hi β0 β (fun k => Nat.blt k i) a w → wpList P ops Q l a w
  | [], i, β, a, w, hl, hle, hm => by
    have hlen : l0.length ≤ i := by
      rcases Nat.lt_or_ge i l0.length with h | h
      · rw [List.drop_eq_getElem_cons h] at hl; cases hl
      · exact h
    have hlt : ∀ k d, ds[k]? = some d → k < i := fun k d hk => by have := (List.getElem?_eq_some_iff.1 hk).1; rw [hr.len] at this; omega
    refine hQ β a w ⟨hm.ext, hm.com, fun t v hv => hm.slot t v ?_, fun id b hb => hm.blk id b ?_, fun j d hj h => (by cases h), hm.fresh, fun m d M h1 h2 _ => mapMt_congr (fun q => ?_) (hm.mp m d M h1 h2 (by simpa using hlt m d h1))⟩
    · rw [← hv]
      exact tS_congr fun k d hk _ => by simp [hlt k d hk]
    · rw [← hb]
      exact hS_congr fun k d hk _ => by simp [hlt k d hk]
    · rw [insL_mem, insL_mem]
      constructor
      · rintro ⟨k, f, g1, g2, g3⟩; exact ⟨k, f, g1, rfl, g3⟩
      · rintro ⟨k, f, g1, g2, g3⟩; exact ⟨k, f, g1, by simp [hlt k f g1], g3⟩
  | o :: l, i, β, a, w, hl, hle, hm => by
    have hlt : i < l0.length := by
      rcases Nat.lt_or_ge i l0.length with h | h
      · exact h
      · rw [List.drop_eq_nil_of_le h] at hl; cases hl
    rw [List.drop_eq_getElem_cons hlt] at hl
    simp only [List.cons.injEq] at hl
    obtain ⟨ho, hl⟩ := hl
    have ho' : l0[i]? = some o := by rw [List.getElem?_eq_getElem hlt, ho]
    have hdl : i < ds.length := by rw [hr.len]; exact hlt
    have hd := List.getElem?_eq_getElem hdl
    have hstep := hm.step (L' := fun k => Nat.blt k (i + 1)) hr hd ho' (by simp [Bool.eq_false_iff, Nat.blt_eq]) (fun k => by
        rw [Bool.eq_iff_iff]
        simp only [Nat.blt_eq, Bool.or_eq_true, beq_iff_eq]
        omega) (fun k e hk hki hcf => rfl) (by
        have hbits : ∀ (j m : Nat) (e : DAct), ds[j]? = some e → (seqMasks ds.length 0)[j]? = some m → ∀ b, m.testBit b = true → b < j := fun j m e hj hm' b hb => by
          have := seqMasks_get hm'
          rw [this, Nat.zero_add, Nat.testBit_two_pow_sub_one] at hb
          simpa using hb
        obtain ⟨m, hm1, hm2⟩ := mapsAll_spec hmp i _ hd
        rw [Nat.zero_add] at hm2
        unfold mapsOne at hm2
        simp only [Bool.and_eq_true, List.all_eq_true] at hm2
        refine ⟨fun M k s hins => ?_, fun p hp => ?_, fun M hmk j e hj hne => ?_⟩
        · have hm2 := hm2.1
          rw [hins] at hm2
          simp only [Bool.and_eq_true] at hm2
          obtain ⟨a, e, g1, g2, g3⟩ := mkAt_spec hm2.1
          rw [Nat.zero_add] at g3
          exact ⟨⟨a, e, g1, g2, by simpa using hbits i m _ hd hm1 a g3⟩, fun j e hj hne => keyNew_spec hm2.2 j e hj (by simpa using hne)⟩
        · have := hm2.2 p hp
          obtain ⟨a, e, g1, g2, g3⟩ := mkAt_spec this.1.1
          rw [Nat.zero_add] at g3
          refine ⟨⟨a, e, g1, g2, by simpa using hbits i m _ hd hm1 a g3⟩, fun j e hj hne => ?_, nodupK_spec this.2⟩
          obtain ⟨k1, k2⟩ := insIn_spec this.1.2 j e hj hne
          rw [Nat.zero_add] at k1
          exact ⟨k1, by simpa using k1⟩
        · obtain ⟨k, s, hins⟩ := insOf_ins hne
          obtain ⟨m', hm1', hm2'⟩ := mapsAll_spec hmp j _ hj
          rw [Nat.zero_add] at hm2'
          unfold mapsOne at hm2'
          simp only [Bool.and_eq_true] at hm2'
          have hm2' := hm2'.1
          rw [hins] at hm2'
          simp only [Bool.and_eq_true] at hm2'
          obtain ⟨a, f, g1, g2, g3⟩ := mkAt_spec hm2'.1
          rw [Nat.zero_add] at g3
          have := hr.maker hd g1 hmk g2
          subst this
          have := hbits j m' _ hj hm1' i g3
          exact ⟨by simp only [Bool.eq_false_iff, ne_eq, Nat.blt_eq]; omega, by omega⟩) (wpList P ops Q l) Q (fun β' a' w' hm' => seq_ok hr hmp hQ l (i + 1) β' a' w' hl (by omega) hm')
    unfold wpList
    split
    · rename_i hw
      rw [if_pos hw] at hstep
      exact .inl hstep
    · rename_i hw
      rw [if_neg hw] at hstep
      exact hstep
theorem regM_sound (hX : HOk P Φ x.gl X) (hG : ∀ w, Keep x.R x.w0 w → Laid x.gl w) {ops : Array Oper} {σ σ' : St} {c c' : Ctr} {out : List Em} (h : regM P X x.gh x.ng ops σ c = some (σ', c', out)) (hg : Good Φ ρ out)
    {β : Beta} {a : Act} {w : World} (hR : Rel x ρ β σ a w) (hf : Fresh β c) {Q : Exit → Act → World → Prop} (hn : ∀ β' a' w', Ext β β' → Rel x ρ β' σ' a' w' → Fresh β' c' → Q .normal a' w') : wpList P ops Q ops.toList a w := by
  unfold regM at h
  obtain ⟨⟨ds, σn⟩, c1, o1, c2, o2, y, h1, h2, he⟩ := M.bind_inv h
  simp only [Prod.mk.injEq] at he
  obtain ⟨rfl, rfl, rfl⟩ := he
  obtain ⟨h1, hle⟩ := mono_inv h1
  split at h2
  · rename_i hc
    have he := M.pure_inv h2
    simp only [Prod.mk.injEq] at he
    obtain ⟨rfl, rfl, rfl⟩ := he
    rw [Good.append] at hg
    have hran := runD_ok hX hG h1 hg.1
    refine seq_ok hran hc (β0 := β) (fun β' a' w' hm => ?_) _ 0 β a w rfl (Nat.zero_le _) ⟨Ext.refl β, hR.com, fun t v hv => ?_, fun i b hb hbg => ?_, fun j d hj _ i hi _ => ?_, fun i hi => hf i (by simp only at hle; omega), fun m d M _ _ h => (by simp at h)⟩
    · have hC := hm.com
      exact hn β' a' w' hm.ext ⟨hC.size.trans hran.tl.symm, fun t v hv => hm.slot t v (by rw [← hran.tm t]; exact hv), hC.df, fun i b hb hbg => hm.blk i b (by rw [← hran.hp i]; exact hb) hbg, hC.gm, hC.gro, hC.bo, hC.kp, hC.gl, hC.ra⟩ (fun i hi => hm.fresh i hi)
    · rw [tS_none fun i d _ _ => by simp [Bool.eq_false_iff, Nat.blt_eq]] at hv
      exact hR.slot t v hv
    · rw [hS_none fun i d _ _ => by simp [Bool.eq_false_iff, Nat.blt_eq]] at hb
      exact hR.hm i b hb hbg
    · obtain ⟨_, _, _, _, _, _, _, _, b7, _, _⟩ := hran.act j d hj
      exact hf i (by omega)
  · simp [M.fail] at h2
end
end Go.Proofs.YtalnndmnnffnmaaGreat.Sx
/-! ## SxV -/
set_option linter.unusedVariables false
set_option linter.unusedSimpArgs false
namespace Go.Proofs.YtalnndmnnffnmaaGreat.Sx
open Go

/-! ### A template, held against a state -/
section mat
variable (ni : Nat → Option A) (nb : Nat → Option B)
def A.mat : A → A → Bool
  | .v j, a => match ni j with | some x => x.eq a | none => false
  | .c n, .c m => n == m
  | .c _, .v _ => false
def B.mat : B → B → Bool
  | .v j, a => match nb j with | some x => x.eq a | none => false
  | .c n, .c m => n == m
  | .c _, .v _ => false
def gMat : Gd → Gd → Bool
  | [], [] => true
  | (b, k) :: g, (c, l) :: h => b.mat nb c && k == l && gMat g h
  | _, _ => false
def altMat : List (B × Nat × Nat) → List (B × Nat × Nat) → Bool
  | [], [] => true
  | (b, i, o) :: g, (c, j, p) :: h => b.mat nb c && i == j && o == p && altMat g h
  | _, _ => false
def C.mat : C → C → Bool
  | .int k t, .int l a => k == l && t.mat ni a
  | .bool t, .bool a => t.mat nb a
  | .ptr l i o, .ptr m j p => i == j && o == p && altMat nb l m
  | .pix i o s n a k, .pix j p s' n' a' k' => i == j && o == p && s == s' && n == n' && k == k' && a.mat ni a'
  | .sli i o n c, .sli j p n' c' => i == j && o == p && n == n' && c == c'
  | .slx i ks q n, .slx j ks' q' n' => i == j && cksEq ks ks' && q.mat ni q' && n.mat ni n'
  | .val u, .val v => vEq u v
  | .junk, _ => true
  | .str q, c => match asStr c with | some p => q.mat ni p | none => false
  | .fn l d, .fn l' d' => l.isEmpty && l'.isEmpty && d == d'
  | _, _ => false
def lMat : List C → List C → Bool
  | [], [] => true
  | c :: l, d :: m => c.mat ni nb d && lMat l m
  | _, _ => false
def tMat : List (Bool × List C) → List (Bool × List C) → Bool
  | [], [] => true
  | p :: l, q :: m => p.1 == q.1 && lMat ni nb p.2 q.2 && tMat l m
  | _, _ => false
def S.mat : S → S → Bool
  | .any, _ => true
  | .one p l, .one q m => p == q && lMat ni nb l m
  | .tup l, .tup m => tMat ni nb l m
  | _, _ => false
def isAny : SV → Bool
  | { g := [], s := .any } => true
  | _ => false
def SV.mat (t v : SV) : Bool := isAny t || (gMat nb t.g v.g && t.s.mat ni nb v.s)
def tmMat : List SV → List SV → Bool
  | [], [] => true
  | t :: l, v :: m => t.mat ni nb v && tmMat l m
  | _, _ => false
def blMat (s : Hl) (p : Nat × Blk) : Bool := match hpOf s p.1 with
  | some b => gMat nb p.2.g b.g && p.2.ro == b.ro && lMat ni nb p.2.cells b.cells
  | none => false
def St.mat (t s : St) : Bool := tmMat ni nb t.tm s.tm && t.hp.all (blMat ni nb s.hp)
end mat

/-- The template's numbers are those. -/
structure NEnv (ni : Nat → Option A) (nb : Nat → Option B) (ρ0 ρ1 : Env) : Prop where
  i : ∀ j a, ni j = some a → ρ0.i j = a.d ρ1
  b : ∀ j a, nb j = some a → ρ0.b j = a.d ρ1
section
variable {ni : Nat → Option A} {nb : Nat → Option B} {ρ0 ρ1 : Env} (hn : NEnv ni nb ρ0 ρ1)
include hn
theorem A.mat_d {t a : A} (h : t.mat ni a = true) : t.d ρ0 = a.d ρ1 := by
  cases t with
  | v j =>
    simp only [A.mat] at h
    split at h
    · rename_i x hx
      rw [← A.eq_sound h]
      exact hn.i j x hx
    · cases h
  | c n =>
    cases a with
    | v _ => simp [A.mat] at h
    | c m => simp only [A.mat, beq_iff_eq] at h; rw [h]; rfl
theorem B.mat_d {t a : B} (h : t.mat nb a = true) : t.d ρ0 = a.d ρ1 := by
  cases t with
  | v j =>
    simp only [B.mat] at h
    split at h
    · rename_i x hx
      rw [← B.eq_sound h]
      exact hn.b j x hx
    · cases h
  | c n =>
    cases a with
    | v _ => simp [B.mat] at h
    | c m => simp only [B.mat, beq_iff_eq] at h; rw [h]; rfl
theorem gMat_d : ∀ {g h : Gd}, gMat nb g h = true → Gd.d ρ0 g = Gd.d ρ1 h
  | [], [], _ => rfl
  | (b, k) :: g, (c, l) :: h, he => by
    simp only [gMat, Bool.and_eq_true, beq_iff_eq] at he
    rw [Gd.d_cons, Gd.d_cons, gMat_d he.2, B.mat_d hn he.1.1, he.1.2]
  | [], _ :: _, he => by simp [gMat] at he
  | _ :: _, [], he => by simp [gMat] at he
theorem altMat_pick {i o : Nat} : ∀ {l m : List (B × Nat × Nat)}, altMat nb l m = true → pick ρ0 l i o = pick ρ1 m i o
  | [], [], _ => rfl
  | (b, j, p) :: l, (c, j', p') :: m, he => by
    simp only [altMat, Bool.and_eq_true, beq_iff_eq] at he
    obtain ⟨⟨⟨h1, rfl⟩, rfl⟩, h2⟩ := he
    unfold pick
    rw [B.mat_d hn h1, altMat_pick h2]
  | [], _ :: _, he => by simp [altMat] at he
  | _ :: _, [], he => by simp [altMat] at he
theorem C.mat_mt {β : Beta} {t c : C} {v : Value} (h : t.mat ni nb c = true) (hm : c.mt β ρ1 v) : t.mt β ρ0 v := by
  unfold C.mat at h
  split at h
  · simp only [Bool.and_eq_true, beq_iff_eq] at h
    obtain ⟨rfl, h⟩ := h
    simp only [C.mt] at *
    rw [A.mat_d hn h]
    exact hm
  · simp only [C.mt] at *
    rw [B.mat_d hn h]
    exact hm
  · simp only [Bool.and_eq_true, beq_iff_eq] at h
    obtain ⟨⟨rfl, rfl⟩, h⟩ := h
    simp only [C.mt] at *
    rw [altMat_pick hn h]
    exact hm
  · simp only [Bool.and_eq_true, beq_iff_eq] at h
    obtain ⟨⟨⟨⟨⟨rfl, rfl⟩, rfl⟩, rfl⟩, rfl⟩, h⟩ := h
    simp only [C.mt] at *
    rw [A.mat_d hn h]
    exact hm
  · simp only [Bool.and_eq_true, beq_iff_eq] at h
    obtain ⟨⟨⟨rfl, rfl⟩, rfl⟩, rfl⟩ := h
    exact hm
  · simp only [Bool.and_eq_true, beq_iff_eq] at h
    obtain ⟨⟨⟨rfl, h1⟩, h2⟩, h3⟩ := h
    have := cksEq_sound h1
    subst this
    simp only [C.mt] at *
    rw [A.mat_d hn h2, A.mat_d hn h3]
    exact hm
  · rw [vEq_sound h]; exact hm
  · exact C.mt_oneCell hm
  · split at h
    · rename_i p hp
      obtain ⟨s, h1, h2, h3⟩ := asStr_mt hp hm
      exact ⟨s, h1, by rw [A.mat_d hn h]; exact h2, h3⟩
    · cases h
  · simp only [Bool.and_eq_true, beq_iff_eq, List.isEmpty_iff] at h
    obtain ⟨⟨rfl, rfl⟩, rfl⟩ := h
    exact hm
  · cases h
theorem lMat_mt {β : Beta} : ∀ {l m : List C} {vs : List Value}, lMat ni nb l m = true → mtL β ρ1 m vs → mtL β ρ0 l vs
  | [], [], [], _, _ => trivial
  | [], [], _ :: _, _, h => h.elim
  | c :: l, d :: m, v :: vs, he, ⟨h1, h2⟩ => by
    simp only [lMat, Bool.and_eq_true] at he
    exact ⟨C.mat_mt hn he.1 h1, lMat_mt he.2 h2⟩
  | _ :: _, _ :: _, [], _, h => h.elim
  | [], _ :: _, _, he, _ => by simp [lMat] at he
  | _ :: _, [], _, he, _ => by simp [lMat] at he
theorem lMat_cells {β : Beta} {w : World} {b : Nat} : ∀ {l m : List C} {o : Nat}, lMat ni nb l m = true → cellsAt β ρ1 w b o m → cellsAt β ρ0 w b o l
  | [], [], _, _, _ => trivial
  | c :: l, d :: m, o, he, ⟨⟨v, hv, h1⟩, h2⟩ => by
    simp only [lMat, Bool.and_eq_true] at he
    exact ⟨⟨v, hv, C.mat_mt hn he.1 h1⟩, lMat_cells he.2 h2⟩
  | [], _ :: _, _, he, _ => by simp [lMat] at he
  | _ :: _, [], _, he, _ => by simp [lMat] at he
omit hn in
theorem lMat_length : ∀ {l m : List C}, lMat ni nb l m = true → l.length = m.length
  | [], [], _ => rfl
  | c :: l, d :: m, he => by
    simp only [lMat, Bool.and_eq_true] at he
    simp [lMat_length he.2]
  | [], _ :: _, he => by simp [lMat] at he
  | _ :: _, [], he => by simp [lMat] at he
theorem mt1_mat {β : Beta} {agg : Bool} {l m : List C} {v : Value} (h : lMat ni nb l m = true) (hm : mt1 β ρ1 agg m v) : mt1 β ρ0 agg l v := by
  unfold mt1 at *
  cases agg
  · obtain ⟨c, rfl, hc⟩ := hm
    match l, h with
    | [d], h =>
      simp only [lMat, Bool.and_true] at h
      exact ⟨d, rfl, C.mat_mt hn h hc⟩
    | [], h => simp [lMat] at h
    | _ :: _ :: _, h => simp [lMat] at h
  · obtain ⟨vs, rfl, hc⟩ := hm
    exact ⟨vs, rfl, lMat_mt hn h hc⟩
theorem tMat_mt {β : Beta} : ∀ {l m : List (Bool × List C)} {vs : List Value}, tMat ni nb l m = true → mtT β ρ1 m vs → mtT β ρ0 l vs
  | [], [], [], _, _ => trivial
  | [], [], _ :: _, _, h => h.elim
  | p :: l, q :: m, v :: vs, he, ⟨h1, h2⟩ => by
    simp only [tMat, Bool.and_eq_true, beq_iff_eq] at he
    refine ⟨?_, tMat_mt he.2 h2⟩
    rw [he.1.1]
    exact mt1_mat hn he.1.2 h1
  | _ :: _, _ :: _, [], _, h => h.elim
  | [], _ :: _, _, he, _ => by simp [tMat] at he
  | _ :: _, [], _, he, _ => by simp [tMat] at he
theorem S.mat_mt {β : Beta} {t s : S} {v : Value} (h : t.mat ni nb s = true) (hm : s.mt β ρ1 v) : t.mt β ρ0 v := by
  unfold S.mat at h
  split at h
  · trivial
  · simp only [Bool.and_eq_true, beq_iff_eq] at h
    obtain ⟨rfl, h⟩ := h
    exact mt1_mat hn h hm
  · obtain ⟨vs, h1, h2⟩ := hm
    exact ⟨vs, h1, tMat_mt hn h h2⟩
  · cases h
theorem SV.mat_mt {β : Beta} {t s : SV} {v : Value} (h : t.mat ni nb s = true) (hm : s.mt β ρ1 v) : t.mt β ρ0 v := by
  unfold SV.mat at h
  rw [Bool.or_eq_true] at h
  rcases h with h | h
  · unfold isAny at h
    split at h
    · exact anySV_mt v
    · cases h
  · simp only [Bool.and_eq_true] at h
    unfold SV.mt at *
    rw [gMat_d hn h.1]
    exact ⟨fun hg => S.mat_mt hn h.2 (hm.1 hg), hm.2⟩
theorem tmMat_get {β : Beta} : ∀ {l m : List SV}, tmMat ni nb l m = true → l.length = m.length ∧ ∀ (t : Nat) (u : SV), l[t]? = some u → ∃ v, m[t]? = some v ∧ ∀ y, v.mt β ρ1 y → u.mt β ρ0 y
  | [], [], _ => ⟨rfl, fun t u h => by simp at h⟩
  | a :: l, b :: m, he => by
    simp only [tmMat, Bool.and_eq_true] at he
    obtain ⟨h1, h2⟩ := tmMat_get (β := β) he.2
    refine ⟨by simp [h1], fun t u h => ?_⟩
    cases t with
    | zero => simp at h; subst h; exact ⟨b, by simp, fun y hy => SV.mat_mt hn he.1 hy⟩
    | succ t => simp at h; simpa using h2 t u h
  | [], _ :: _, he => by simp [tmMat] at he
  | _ :: _, [], he => by simp [tmMat] at he
omit hn in
theorem ghOf_any {β : Beta} {ρ ρ' : Env} {gl : Gl} {w : World} (h : heapMt β ρ (hpOf (ghOf gl 0)) w) : heapMt β ρ' (hpOf (ghOf gl 0)) w := by
  have hc : ∀ (v : Value) (u : Value), (ofC v).mt β ρ u → (ofC v).mt β ρ' u := by
    intro v u hm
    have key : ∀ c : C, ofC v = c → c.mt β ρ u → c.mt β ρ' u := by
      intro c hc h
      unfold ofC at hc
      split at hc
      · split at hc <;> (subst hc; exact h)
      · subst hc; exact h
      · subst hc; exact h
    exact key _ rfl hm
  have hl : ∀ (vs : List Value) (b o : Nat), cellsAt β ρ w b o (vs.map ofC) → cellsAt β ρ' w b o (vs.map ofC) := by
    intro vs
    induction vs with
    | nil => exact fun _ _ h => h
    | cons v vs ih => exact fun b o ⟨⟨u, h1, h2⟩, h3⟩ => ⟨⟨u, h1, hc v u h2⟩, ih b (o + 1) h3⟩
  have hg : ∀ (gl : Gl) (g id : Nat) (b : Blk), hpOf (ghOf gl g) id = some b → ∃ vs : List Value, b = { g := [], ro := true, cells := vs.map ofC } := by
    intro gl
    induction gl with
    | nil => intro g id b hb; simp [ghOf, hpOf] at hb
    | cons vs gl ih =>
      intro g id b hb
      unfold ghOf hpOf at hb
      split at hb
      · simp only [Option.some.injEq] at hb; exact ⟨vs, hb.symm⟩
      · exact ih _ _ _ hb
  intro id b hb hgd
  obtain ⟨vs, rfl⟩ := hg _ _ _ _ hb
  obtain ⟨r, h1, h2, h3, h4, h5⟩ := h id _ hb rfl
  exact ⟨r, h1, h2, h3, hl _ _ _ h4, h5⟩
theorem Rel.mat {x : Cx} {β : Beta} {t s : St} {a : Act} {w : World} (h : Rel x ρ1 β s a w) (hm : t.mat ni nb s = true) : Rel x ρ0 β t a w := by
  simp only [St.mat, Bool.and_eq_true, List.all_eq_true] at hm
  obtain ⟨h1, h2⟩ := hm
  obtain ⟨e1, e2⟩ := tmMat_get (β := β) hn h1
  refine ⟨h.size.trans e1.symm, fun t' v hv => ?_, h.df, fun id b hb hg => ?_, ghOf_any h.gm, h.gro, h.bo, h.kp, h.gl, h.ra⟩
  · obtain ⟨u, hu, hy⟩ := e2 t' v hv
    exact hy _ (h.slot t' u hu)
  · have := h2 (id, b) (hpOf_mem hb)
    unfold blMat at this
    split at this
    · rename_i b' hb'
      simp only [Bool.and_eq_true, beq_iff_eq] at this
      obtain ⟨⟨h3, h4⟩, h5⟩ := this
      obtain ⟨r, hr, hl, hro, hc, hf⟩ := h.hm id b' hb' (by rw [← gMat_d hn h3]; exact hg)
      exact ⟨r, hr, by rw [hl, lMat_length h5], by rw [hro, h4], lMat_cells hn h5 hc, fun h0 j hj => hf (by rw [← h4]; exact h0) j (by rw [← lMat_length h5]; exact hj)⟩
    · cases this
end

/-! ### Stretches below a number -/
def Beta.cut (β : Beta) (n : Nat) : Beta := fun i => if i < n then β i else none
def fvBelow (n : Nat) : FV → Bool
  | none => true
  | some p => p.2.all fun q => Nat.blt q.1 n
def C.below (n : Nat) : C → Bool
  | .ptr l id _ => Nat.blt id n && l.all fun p => Nat.blt p.2.1 n
  | .pix id _ _ _ _ _ => Nat.blt id n
  | .sli id _ _ _ => Nat.blt id n
  | .slx id _ _ _ => Nat.blt id n
  | .pxq id _ _ _ _ => Nat.blt id n
  | .fn l d => l.isEmpty && fvBelow n d
  | .mp id => Nat.blt id n
  | _ => true
def S.below (n : Nat) : S → Bool
  | .one _ l => l.all (C.below n)
  | .tup l => l.all fun p => p.2.all (C.below n)
  | .any => true
def St.below (n : Nat) (s : St) : Bool := s.tm.all (fun v => v.s.below n) && s.hp.all fun p => Nat.blt p.1 n && p.2.cells.all (C.below n)
theorem pick_below {ρ : Env} {n : Nat} : ∀ {l : List (B × Nat × Nat)} {i o : Nat}, i < n → (l.all fun p => Nat.blt p.2.1 n) = true → (pick ρ l i o).1 < n
  | [], i, o, hi, _ => hi
  | (b, j, p) :: l, i, o, hi, h => by
    simp only [List.all_cons, Bool.and_eq_true, Nat.blt_eq] at h
    unfold pick
    split
    · exact h.1
    · exact pick_below hi h.2
theorem capMt_cut {β : Beta} {n : Nat} : ∀ {l : List (Nat × Nat)} {vs : List Value}, (l.all fun q => Nat.blt q.1 n) = true → capMt β l vs → capMt (β.cut n) l vs
  | [], [], _, _ => trivial
  | q :: l, v :: vs, hc, ⟨⟨r, hr, hv⟩, h2⟩ => by
    simp only [List.all_cons, Bool.and_eq_true, Nat.blt_eq] at hc
    exact ⟨⟨r, by unfold Beta.cut; rw [if_pos hc.1]; exact hr, hv⟩, capMt_cut hc.2 h2⟩
  | [], _ :: _, _, h => h.elim
  | _ :: _, [], _, h => h.elim
theorem C.cut_mt {β : Beta} {ρ : Env} {n : Nat} {c : C} {v : Value} (hc : c.below n = true) (h : c.mt β ρ v) : c.mt (β.cut n) ρ v := by
  cases c with
  | ptr l id off =>
    simp only [C.below, Bool.and_eq_true, Nat.blt_eq] at hc
    obtain ⟨r, hr, hv⟩ := h
    exact ⟨r, by unfold Beta.cut; rw [if_pos (pick_below hc.1 hc.2)]; exact hr, hv⟩
  | pix id off s len a k =>
    simp only [C.below, Nat.blt_eq] at hc
    obtain ⟨h1, h2, r, hr, hv⟩ := h
    exact ⟨h1, h2, r, by unfold Beta.cut; rw [if_pos hc]; exact hr, hv⟩
  | sli id off len cap =>
    simp only [C.below, Nat.blt_eq] at hc
    obtain ⟨r, hr, hv⟩ := h
    exact ⟨r, by unfold Beta.cut; rw [if_pos hc]; exact hr, hv⟩
  | slx id ks q len =>
    simp only [C.below, Nat.blt_eq] at hc
    obtain ⟨h1, h2, h3⟩ := h
    refine ⟨h1, h2, ?_⟩
    rcases h3 with h3 | ⟨r, cap, l, hr, h4⟩
    · exact .inl h3
    · exact .inr ⟨r, cap, l, by unfold Beta.cut; rw [if_pos hc]; exact hr, h4⟩
  | pxq id ks q a k =>
    simp only [C.below, Nat.blt_eq] at hc
    obtain ⟨h1, r, l, hr, h2⟩ := h
    exact ⟨h1, r, l, by unfold Beta.cut; rw [if_pos hc]; exact hr, h2⟩
  | fn l d =>
    simp only [C.below, Bool.and_eq_true, List.isEmpty_iff] at hc
    obtain ⟨rfl, hc⟩ := hc
    have h : fvMt β d v := h
    show fvMt (β.cut n) d v
    unfold fvMt at *
    cases d with
    | none => exact h
    | some p =>
      obtain ⟨vs, h1, h2⟩ := h
      exact ⟨vs, h1, capMt_cut hc h2⟩
  | mp id =>
    simp only [C.below, Nat.blt_eq] at hc
    obtain ⟨r, hr, hv⟩ := h
    exact ⟨r, by unfold Beta.cut; rw [if_pos hc]; exact hr, hv⟩
  | _ => exact h
theorem cut_mtL {β : Beta} {ρ : Env} {n : Nat} : ∀ {l : List C} {vs : List Value}, l.all (C.below n) = true → mtL β ρ l vs → mtL (β.cut n) ρ l vs
  | [], [], _, _ => trivial
  | c :: l, v :: vs, hc, ⟨h1, h2⟩ => by
    simp only [List.all_cons, Bool.and_eq_true] at hc
    exact ⟨C.cut_mt hc.1 h1, cut_mtL hc.2 h2⟩
  | [], _ :: _, _, h => h.elim
  | _ :: _, [], _, h => h.elim
theorem cut_cells {β : Beta} {ρ : Env} {n : Nat} {w : World} {b : Nat} : ∀ {l : List C} {o : Nat}, l.all (C.below n) = true → cellsAt β ρ w b o l → cellsAt (β.cut n) ρ w b o l
  | [], _, _, _ => trivial
  | c :: l, o, hc, ⟨⟨v, hv, h1⟩, h2⟩ => by
    simp only [List.all_cons, Bool.and_eq_true] at hc
    exact ⟨⟨v, hv, C.cut_mt hc.1 h1⟩, cut_cells hc.2 h2⟩
theorem cut_mt1 {β : Beta} {ρ : Env} {n : Nat} {agg : Bool} {l : List C} {v : Value} (hc : l.all (C.below n) = true) (h : mt1 β ρ agg l v) : mt1 (β.cut n) ρ agg l v := by
  unfold mt1 at *
  cases agg
  · obtain ⟨c, rfl, h⟩ := h
    simp only [List.all_cons, List.all_nil, Bool.and_true] at hc
    exact ⟨c, rfl, C.cut_mt hc h⟩
  · obtain ⟨vs, rfl, h⟩ := h
    exact ⟨vs, rfl, cut_mtL hc h⟩
theorem cut_mtT {β : Beta} {ρ : Env} {n : Nat} : ∀ {l : List (Bool × List C)} {vs : List Value}, (l.all fun p => p.2.all (C.below n)) = true → mtT β ρ l vs → mtT (β.cut n) ρ l vs
  | [], [], _, _ => trivial
  | p :: l, v :: vs, hc, ⟨h1, h2⟩ => by
    simp only [List.all_cons, Bool.and_eq_true] at hc
    exact ⟨cut_mt1 hc.1 h1, cut_mtT hc.2 h2⟩
  | [], _ :: _, _, h => h.elim
  | _ :: _, [], _, h => h.elim
theorem S.cut_mt {β : Beta} {ρ : Env} {n : Nat} {s : S} {v : Value} (hc : s.below n = true) (h : s.mt β ρ v) : s.mt (β.cut n) ρ v := by
  cases s with
  | one agg l => exact cut_mt1 hc h
  | tup l => obtain ⟨vs, h1, h2⟩ := h; exact ⟨vs, h1, cut_mtT hc h2⟩
  | any => trivial
theorem BetaOk.cut {N : Nat} {R : List Rg} {β : Beta} {w : World} (h : BetaOk N R β w) (n : Nat) : BetaOk N R (β.cut n) w := by
  have hc : ∀ i r, β.cut n i = some r → β i = some r := fun i r hi => by
    unfold Beta.cut at hi
    split at hi
    · exact hi
    · cases hi
  exact ⟨fun i j r q hij hi hj => h.apart i j r q hij (hc _ _ hi) (hc _ _ hj), fun i r hi => h.place i r (hc _ _ hi), fun i r hi => h.may i r (hc _ _ hi), fun i r ks l hi hs => h.sq i r ks l (hc _ _ hi) hs⟩
theorem cut_low {β : Beta} {n i : Nat} {r : Rg} (hi : i < n) (h : β i = some r) : β.cut n i = some r := by
  unfold Beta.cut; rw [if_pos hi]; exact h
/-- Where all that is named lies below, the rest can be forgotten. -/
theorem Rel.cut {x : Cx} {ρ : Env} {β β0 : Beta} {s : St} {a : Act} {w : World} {n : Nat} (h : Rel x ρ β s a w) (hs : s.below n = true) (he : Ext β0 β) (h0 : ∀ i r, β0 i = some r → i < n)
    (hg : ∀ (g : Nat) (vs : List Value), x.gl[g]? = some vs → β0 g = some (gRg g vs)) (hr : ∀ (j : Nat) (r : Rg), x.gr[j]? = some r → β0 (x.ng + j) = some r) : Rel x ρ (β.cut n) s a w := by
  simp only [St.below, Bool.and_eq_true, List.all_eq_true] at hs
  obtain ⟨h1, h2⟩ := hs
  refine ⟨h.size, fun t v hv => ?_, h.df, fun id b hb hgd => ?_, fun id b hb hgd => ?_, h.gro, h.bo.cut n, h.kp, fun g vs hgl => cut_low (h0 _ _ (hg g vs hgl)) (h.gl g vs hgl), fun j r hj => cut_low (h0 _ _ (hr j r hj)) (h.ra j r hj)⟩
  · have hm := h.slot t v hv
    exact ⟨fun hgd => S.cut_mt (h1 v (List.mem_of_getElem? hv)) (hm.1 hgd), hm.2⟩
  · have hb2 := h2 (id, b) (hpOf_mem hb)
    simp only [Nat.blt_eq] at hb2
    obtain ⟨r, hr, hl, hro, hc, hf⟩ := h.hm id b hb hgd
    exact ⟨r, cut_low hb2.1 hr, hl, hro, cut_cells (List.all_eq_true.2 hb2.2) hc, hf⟩
  · obtain ⟨r, hrr, hl, hro, hc, hf⟩ := h.gm id b hb hgd
    have hid : ∃ vs : List Value, x.gl[id]? = some vs ∧ b.cells = vs.map ofC := by
      have key : ∀ (gl : Gl) (g : Nat), hpOf (ghOf gl g) id = some b → ∃ vs : List Value, g ≤ id ∧ gl[id - g]? = some vs ∧ b.cells = vs.map ofC := by
        intro gl
        induction gl with
        | nil => intro g hb; simp [ghOf, hpOf] at hb
        | cons vs gl ih =>
          intro g hb
          unfold ghOf hpOf at hb
          split at hb
          · rename_i he
            simp only [beq_iff_eq] at he
            simp only [Option.some.injEq] at hb
            exact ⟨vs, by omega, by simp [he], by rw [← hb]⟩
          · rename_i he
            obtain ⟨us, e1, e2, e3⟩ := ih (g + 1) hb
            have : g ≠ id := by simpa using he
            exact ⟨us, by omega, by rw [show id - g = (id - (g + 1)) + 1 by omega]; simpa using e2, e3⟩
      obtain ⟨vs, _, e1, e2⟩ := key x.gl 0 hb
      exact ⟨vs, by simpa using e1, e2⟩
    obtain ⟨vs, e1, e2⟩ := hid
    refine ⟨r, cut_low (h0 _ _ (hg id vs e1)) hrr, hl, hro, cut_cells ?_ hc, hf⟩
    rw [e2, List.all_eq_true]
    intro c hcm
    obtain ⟨v, _, rfl⟩ := List.mem_map.1 hcm
    unfold ofC
    split
    · split <;> rfl
    · rfl
    · rfl

/-! ### A state, told by other numbers; what these do not tell is forgotten -/
structure Ren where
  i : Nat → Option A
  b : Nat → Option B
  n : Nat
def A.ren (R : Ren) : A → Option A
  | .v j => R.i j
  | .c k => some (.c k)
def B.ren (R : Ren) : B → Option B
  | .v j => R.b j
  | .c k => some (.c k)
def gRen (R : Ren) : Gd → Option Gd
  | [] => some []
  | (b, k) :: g => match b.ren R, gRen R g with
    | some b, some g => some ((b, k) :: g)
    | _, _ => none
def altRen (R : Ren) : List (B × Nat × Nat) → Option (List (B × Nat × Nat))
  | [] => some []
  | (b, k) :: g => match b.ren R, altRen R g with
    | some b, some g => some ((b, k) :: g)
    | _, _ => none
def C.ren (R : Ren) : C → C
  | .int k a => match a.ren R with | some a => .int k a | none => .junk
  | .bool b => match b.ren R with | some b => .bool b | none => .junk
  | .ptr l id off => match altRen R l with | some l => if (C.ptr l id off).below R.n then .ptr l id off else .junk | none => .junk
  | .pix id off s len a k => match a.ren R with | some a => if Nat.blt id R.n then .pix id off s len a k else .junk | none => .junk
  | .sli id off len cap => if Nat.blt id R.n then .sli id off len cap else .junk
  | .slx id ks q len => match q.ren R, len.ren R with | some q, some len => if Nat.blt id R.n then .slx id ks q len else .junk | _, _ => .junk
  | .pxq _ _ _ _ _ => .junk
  | .val u => .val u
  | .junk => .junk
  | .str q => match q.ren R with | some q => .str q | none => .junk
  | .fn l d => if (C.fn l d).below R.n then .fn l d else .junk
  | .mp id => if Nat.blt id R.n then .mp id else .junk
def S.ren (R : Ren) : S → S
  | .one agg l => .one agg (l.map (C.ren R))
  | .tup l => .tup (l.map fun p => (p.1, p.2.map (C.ren R)))
  | .any => .any
def SV.ren (R : Ren) (v : SV) : SV := match gRen R v.g with
  | some g => { g := g, s := v.s.ren R }
  | none => anySV
def hpRen (R : Ren) (hp : Hl) : List Nat → Hl
  | [] => []
  | i :: l => match Nat.blt i R.n, hpOf hp i with
    | true, some b => match gRen R b.g with
      | some g => (i, { b with g := g, cells := b.cells.map (C.ren R) }) :: hpRen R hp l
      | none => hpRen R hp l
    | _, _ => hpRen R hp l
def St.ren (R : Ren) (s : St) : St := { tm := s.tm.map (SV.ren R), hp := hpRen R s.hp (dedup (s.hp.map (·.1))) }
structure NRen (R : Ren) (ρ1 ρ2 : Env) : Prop where
  i : ∀ j a, R.i j = some a → a.d ρ2 = ρ1.i j
  b : ∀ j a, R.b j = some a → a.d ρ2 = ρ1.b j
section
variable {R : Ren} {ρ1 ρ2 : Env} (hr : NRen R ρ1 ρ2)
include hr
theorem A.ren_d {a a' : A} (h : a.ren R = some a') : a'.d ρ2 = a.d ρ1 := by
  cases a with
  | v j => exact hr.i j a' h
  | c k => simp only [A.ren, Option.some.injEq] at h; subst h; rfl
theorem B.ren_d {a a' : B} (h : a.ren R = some a') : a'.d ρ2 = a.d ρ1 := by
  cases a with
  | v j => exact hr.b j a' h
  | c k => simp only [B.ren, Option.some.injEq] at h; subst h; rfl
theorem gRen_d : ∀ {g g' : Gd}, gRen R g = some g' → Gd.d ρ2 g' = Gd.d ρ1 g
  | [], g', h => by simp only [gRen, Option.some.injEq] at h; subst h; rfl
  | (b, k) :: g, g', h => by
    unfold gRen at h
    split at h
    · rename_i b' g'' h1 h2
      simp only [Option.some.injEq] at h
      subst h
      rw [Gd.d_cons, Gd.d_cons, B.ren_d hr h1, gRen_d h2]
    · cases h
theorem altRen_pick {i o : Nat} : ∀ {l l' : List (B × Nat × Nat)}, altRen R l = some l' → pick ρ2 l' i o = pick ρ1 l i o
  | [], l', h => by simp only [altRen, Option.some.injEq] at h; subst h; rfl
  | (b, k) :: l, l', h => by
    unfold altRen at h
    split at h
    · rename_i b' g'' h1 h2
      simp only [Option.some.injEq] at h
      subst h
      obtain ⟨k1, k2⟩ := k
      unfold pick
      rw [B.ren_d hr h1, altRen_pick h2]
    · cases h
theorem C.ren_mt {β : Beta} {c : C} {v : Value} (h : c.mt β ρ1 v) : (c.ren R).mt (β.cut R.n) ρ2 v := by
  have ho := C.mt_oneCell h
  cases c with
  | int k a =>
    unfold C.ren
    simp only
    split
    · rename_i a' ha
      simp only [C.mt] at *
      rw [A.ren_d hr ha]
      exact h
    · exact ho
  | bool b =>
    unfold C.ren
    simp only
    split
    · rename_i a' ha
      simp only [C.mt] at *
      rw [B.ren_d hr ha]
      exact h
    · exact ho
  | ptr l id off =>
    unfold C.ren
    simp only
    split
    · rename_i l' hl
      split
      · rename_i hb
        refine C.cut_mt hb ?_
        simp only [C.mt] at *
        rw [altRen_pick hr hl]
        exact h
      · exact ho
    · exact ho
  | pix id off s len a k =>
    unfold C.ren
    simp only
    split
    · rename_i a' ha
      split
      · rename_i hb
        refine C.cut_mt (by simpa [C.below] using hb) ?_
        simp only [C.mt] at *
        rw [A.ren_d hr ha]
        exact h
      · exact ho
    · exact ho
  | sli id off len cap =>
    unfold C.ren
    simp only
    split
    · rename_i hb
      exact C.cut_mt (by simpa [C.below] using hb) h
    · exact ho
  | slx id ks q len =>
    unfold C.ren
    simp only
    split
    · rename_i q' len' hq hl
      split
      · rename_i hb
        refine C.cut_mt (by simpa [C.below] using hb) ?_
        simp only [C.mt] at *
        rw [A.ren_d hr hq, A.ren_d hr hl]
        exact h
      · exact ho
    · exact ho
  | pxq id ks q a k => exact ho
  | str q =>
    unfold C.ren
    simp only
    split
    · rename_i q' hq
      obtain ⟨s, h1, h2, h3⟩ := h
      exact ⟨s, h1, by rw [A.ren_d hr hq]; exact h2, h3⟩
    · exact ho
  | fn l d =>
    unfold C.ren
    simp only
    split
    · rename_i hb
      refine C.cut_mt hb ?_
      have hb' := hb
      simp only [C.below, Bool.and_eq_true, List.isEmpty_iff] at hb'
      obtain ⟨rfl, _⟩ := hb'
      exact h
    · exact ho
  | mp id =>
    unfold C.ren
    simp only
    split
    · rename_i hb
      exact C.cut_mt (by simpa [C.below] using hb) h
    · exact ho
  | val u => exact h
  | junk => exact h
theorem ren_mtL {β : Beta} : ∀ {l : List C} {vs : List Value}, mtL β ρ1 l vs → mtL (β.cut R.n) ρ2 (l.map (C.ren R)) vs
  | [], [], _ => trivial
  | c :: l, v :: vs, ⟨h1, h2⟩ => ⟨C.ren_mt hr h1, ren_mtL h2⟩
  | [], _ :: _, h => h.elim
  | _ :: _, [], h => h.elim
theorem ren_cells {β : Beta} {w : World} {b : Nat} : ∀ {l : List C} {o : Nat}, cellsAt β ρ1 w b o l → cellsAt (β.cut R.n) ρ2 w b o (l.map (C.ren R))
  | [], _, _ => trivial
  | c :: l, o, ⟨⟨v, hv, h1⟩, h2⟩ => ⟨⟨v, hv, C.ren_mt hr h1⟩, ren_cells h2⟩
theorem ren_mt1 {β : Beta} {agg : Bool} {l : List C} {v : Value} (h : mt1 β ρ1 agg l v) : mt1 (β.cut R.n) ρ2 agg (l.map (C.ren R)) v := by
  unfold mt1 at *
  cases agg
  · obtain ⟨c, rfl, h⟩ := h
    exact ⟨_, rfl, C.ren_mt hr h⟩
  · obtain ⟨vs, rfl, h⟩ := h
    exact ⟨vs, rfl, ren_mtL hr h⟩
theorem ren_mtT {β : Beta} : ∀ {l : List (Bool × List C)} {vs : List Value}, mtT β ρ1 l vs → mtT (β.cut R.n) ρ2 (l.map fun p => (p.1, p.2.map (C.ren R))) vs
  | [], [], _ => trivial
  | p :: l, v :: vs, ⟨h1, h2⟩ => ⟨ren_mt1 hr h1, ren_mtT h2⟩
  | [], _ :: _, h => h.elim
  | _ :: _, [], h => h.elim
theorem S.ren_mt {β : Beta} {s : S} {v : Value} (h : s.mt β ρ1 v) : (s.ren R).mt (β.cut R.n) ρ2 v := by
  cases s with
  | one agg l => exact ren_mt1 hr h
  | tup l => obtain ⟨vs, h1, h2⟩ := h; exact ⟨vs, h1, ren_mtT hr h2⟩
  | any => trivial
theorem SV.ren_mt {β : Beta} {s : SV} {v : Value} (h : s.mt β ρ1 v) : (s.ren R).mt (β.cut R.n) ρ2 v := by
  unfold SV.ren
  split
  · rename_i g hg
    unfold SV.mt at *
    simp only
    rw [gRen_d hr hg]
    exact ⟨fun hgd => S.ren_mt hr (h.1 hgd), h.2⟩
  · exact anySV_mt v
omit hr in
theorem hpRen_get {hp : Hl} : ∀ {l : List Nat} {id : Nat} {b : Blk}, hpOf (hpRen R hp l) id = some b → ∃ b' g, id < R.n ∧ hpOf hp id = some b' ∧ gRen R b'.g = some g ∧ b = { b' with g := g, cells := b'.cells.map (C.ren R) }
  | [], id, b, h => by simp [hpRen, hpOf] at h
  | i :: l, id, b, h => by
    unfold hpRen at h
    split at h
    · rename_i b' h1 h2
      split at h
      · rename_i g hg
        unfold hpOf at h
        split at h
        · rename_i he
          simp only [beq_iff_eq] at he
          subst he
          simp only [Option.some.injEq] at h
          exact ⟨b', g, by simpa using h1, h2, hg, h.symm⟩
        · exact hpRen_get h
      · exact hpRen_get h
    · exact hpRen_get h
theorem Rel.ren {x : Cx} {β β0 : Beta} {s : St} {a : Act} {w : World} (h : Rel x ρ1 β s a w) (he : Ext β0 β) (h0 : ∀ i r, β0 i = some r → i < R.n)
    (hg : ∀ (g : Nat) (vs : List Value), x.gl[g]? = some vs → β0 g = some (gRg g vs)) (hra : ∀ (j : Nat) (r : Rg), x.gr[j]? = some r → β0 (x.ng + j) = some r) : Rel x ρ2 (β.cut R.n) (s.ren R) a w := by
  -- the tables' own part, by the state without anything
  have hb0 : Rel x ρ1 (β.cut R.n) { tm := s.tm.map fun _ => anySV, hp := [] } a w :=
    Rel.cut (s := { tm := s.tm.map fun _ => anySV, hp := [] }) ⟨by rw [h.size]; simp, fun t v hv => by
      rw [List.getElem?_map] at hv
      cases ht : s.tm[t]? with
      | none => rw [ht] at hv; simp at hv
      | some u => rw [ht] at hv; simp only [Option.map_some, Option.some.injEq] at hv; subst hv; exact anySV_mt _, h.df, fun id b hb => by simp [hpOf] at hb, h.gm, h.gro, h.bo, h.kp, h.gl, h.ra⟩
      (by simp [St.below, anySV, S.below]) he h0 hg hra
  refine ⟨by rw [h.size]; simp [St.ren], fun t v hv => ?_, h.df, fun id b hb hgd => ?_, ghOf_any hb0.gm, h.gro, hb0.bo, h.kp, hb0.gl, hb0.ra⟩
  · simp only [St.ren, List.getElem?_map] at hv
    cases ht : s.tm[t]? with
    | none => rw [ht] at hv; simp at hv
    | some u =>
      rw [ht] at hv
      simp only [Option.map_some, Option.some.injEq] at hv
      subst hv
      exact SV.ren_mt hr (h.slot t u ht)
  · obtain ⟨b', g, hid, hb', hgg, rfl⟩ := hpRen_get hb
    obtain ⟨r, hrr, hl, hro, hc, hf⟩ := h.hm id b' hb' (by rw [← gRen_d hr hgg]; exact hgd)
    exact ⟨r, cut_low hid hrr, by simp [hl], hro, ren_cells hr hc, fun h0 j hj => hf h0 j (by simpa using hj)⟩
end

def dropK (k : Kd) : Outs → Outs
  | [] => []
  | (l, q, s) :: O => if k.eq l then dropK k O else (l, q, s) :: dropK k O
theorem dropK_get {k l : Kd} : ∀ (O : Outs), getK l (dropK k O) = if k.eq l then none else getK l O
  | [] => by simp [dropK, getK]
  | (m, q, s) :: O => by
    unfold dropK
    split
    · rename_i h
      rw [dropK_get O]
      split
      · rfl
      · rename_i h2
        simp only [getK]
        rw [if_neg (fun h3 => h2 (by rw [Kd.eq_sound h3]; exact h))]
    · rename_i h
      simp only [getK]
      split
      · rename_i h3
        rw [if_neg (fun h4 => h (by rw [Kd.eq_sound h4, Kd.eq_sound h3]; exact Kd.eq_refl _))]
      · exact dropK_get O

section
variable {P : Program} {Φ : Funs} {x : Cx} {ρ : Env}
/-- Code, or so many turns of a loop, does what the executor says. -/
def OkW (Φ : Funs) (x : Cx) (ρ : Env) (W : (Exit → Act → World → Prop) → Act → World → Prop) (f : St → M Outs) : Prop :=
  ∀ (s : St) (c c' : Ctr) (O : Outs) (out : List Em), f s c = some (O, c', out) → Good Φ ρ out → ∀ (β : Beta) (a : Act) (w : World), Rel x ρ β s a w → Fresh β c →
    ∀ (Q : Exit → Act → World → Prop), (∀ e a' w' K, kdOf e = some K → OutMt x ρ β c' O K a' w' → Q e a' w') → W Q a w
abbrev CodeOk (P : Program) (Φ : Funs) (x : Cx) (ρ : Env) (cd : Code) (f : St → M Outs) : Prop := OkW Φ x ρ (fun Q a w => cd.wp P Q a w) f

theorem OutMt.le {β : Beta} {c c' : Ctr} {O : Outs} {K : Kd} {a : Act} {w : World} (h : OutMt x ρ β c O K a w) (hc : c.id ≤ c'.id) : OutMt x ρ β c' O K a w := by
  obtain ⟨h1, q, s, β', h2, h3, h4, h5⟩ := h
  exact ⟨h1, q, s, β', h2, h3, h4, h5.le hc⟩
theorem OutMt.ext {β β0 : Beta} {c : Ctr} {O : Outs} {K : Kd} {a : Act} {w : World} (he : Ext β0 β) (h : OutMt x ρ β c O K a w) : OutMt x ρ β0 c O K a w := by
  obtain ⟨h1, q, s, β', h2, h3, h4, h5⟩ := h
  exact ⟨h1, q, s, β', h2, he.trans h3, h4, h5⟩
theorem OutMt.one {β : Beta} {c : Ctr} {k : Kd} {s : St} {a : Act} {w : World} {β' : Beta} (he : Ext β β') (h : Rel x ρ β' s a w) (hf : Fresh β' c) : OutMt x ρ β c [(k, [], s)] k a w := by
  refine ⟨fun l q t hl => ?_, [], s, β', by simp [getK, Kd.eq_refl], he, h, hf⟩
  unfold getK at hl
  split at hl
  · rename_i hk
    simp only [Option.some.injEq, Prod.mk.injEq] at hl
    obtain ⟨rfl, rfl⟩ := hl
    simp [Kd.eq_sound hk]
  · simp [getK] at hl

end
end Go.Proofs.YtalnndmnnffnmaaGreat.Sx
/-! ## SxX -/
set_option linter.unusedVariables false
set_option linter.unusedSimpArgs false
namespace Go.Proofs.YtalnndmnnffnmaaGreat.Sx
open Go

def A.lt (n : Nat) : A → Bool
  | .v i => Nat.blt i n
  | .c _ => true
def B.lt (n : Nat) : B → Bool
  | .v i => Nat.blt i n
  | .c _ => true
def RI.lt (i b : Nat) : RI → Bool
  | .ar _ _ x y => x.lt i && y.lt i
  | .cv _ x => x.lt i
  | .ite c x y => c.lt b && x.lt i && y.lt i
  | .mn x y => x.lt i && y.lt i
  | .mx x y => x.lt i && y.lt i
  | .tab _ x => x.lt i
  | .get q a _ _ => q.lt i && a.lt i
  | .lenq q _ => q.lt i
def RB.lt (i b : Nat) : RB → Bool
  | .cm _ x y => x.lt i && y.lt i
  | .not x => x.lt b
  | .and x y => x.lt b && y.lt b
  | .or x y => x.lt b && y.lt b
  | .eqb x y => x.lt b && y.lt b
  | .ite c x y => c.lt b && x.lt b && y.lt b
  | .getb q a _ _ => q.lt i && a.lt i
def wsEm : List Em → Nat → Nat → Bool
  | [], _, _ => true
  | .di n r :: l, i, b => n == i && r.lt i b && wsEm l (i + 1) b
  | .db n r :: l, i, b => n == b && r.lt i b && wsEm l i (b + 1)
  | .call _ ai ab i0 ni b0 nb :: l, i, b => i0 == i && b0 == b && ai.all (A.lt i) && ab.all (B.lt b) && wsEm l (i + ni) (b + nb)
  | .ob _ _ :: l, i, b => wsEm l i b

/-- Two environments that agree below. -/
def Agree (i b : Nat) (ρ ρ' : Env) : Prop := (∀ n, n < i → ρ'.i n = ρ.i n) ∧ (∀ n, n < b → ρ'.b n = ρ.b n)
theorem A.d_agree {i b : Nat} {ρ ρ' : Env} (h : Agree i b ρ ρ') {x : A} (hx : x.lt i = true) : x.d ρ' = x.d ρ := by
  cases x with
  | v n => simp only [A.lt, Nat.blt_eq] at hx; exact h.1 n hx
  | c k => rfl
theorem B.d_agree {i b : Nat} {ρ ρ' : Env} (h : Agree i b ρ ρ') {x : B} (hx : x.lt b = true) : x.d ρ' = x.d ρ := by
  cases x with
  | v n => simp only [B.lt, Nat.blt_eq] at hx; exact h.2 n hx
  | c k => rfl
theorem RI.d_agree {i b : Nat} {ρ ρ' : Env} (h : Agree i b ρ ρ') {r : RI} (hr : r.lt i b = true) : r.d ρ' = r.d ρ := by
  cases r <;> simp only [RI.lt, Bool.and_eq_true] at hr <;> simp only [RI.d]
  · rw [A.d_agree h hr.1, A.d_agree h hr.2]
  · rw [A.d_agree h hr]
  · rw [A.d_agree h hr.1.2, A.d_agree h hr.2, B.d_agree h hr.1.1]
  · rw [A.d_agree h hr.1, A.d_agree h hr.2]
  · rw [A.d_agree h hr.1, A.d_agree h hr.2]
  · rw [A.d_agree h hr]
  · rw [A.d_agree h hr.1, A.d_agree h hr.2]
  · rw [A.d_agree h hr]
theorem RB.d_agree {i b : Nat} {ρ ρ' : Env} (h : Agree i b ρ ρ') {r : RB} (hr : r.lt i b = true) : r.d ρ' = r.d ρ := by
  cases r <;> simp only [RB.lt, Bool.and_eq_true] at hr <;> simp only [RB.d]
  · rw [A.d_agree h hr.1, A.d_agree h hr.2]
  · rw [B.d_agree h hr]
  · rw [B.d_agree h hr.1, B.d_agree h hr.2]
  · rw [B.d_agree h hr.1, B.d_agree h hr.2]
  · rw [B.d_agree h hr.1, B.d_agree h hr.2]
  · rw [B.d_agree h hr.1.1, B.d_agree h hr.1.2, B.d_agree h hr.2]
  · rw [A.d_agree h hr.1, A.d_agree h hr.2]
theorem padTo_length {α : Type} (d : α) : ∀ (n : Nat) (l : List α), (padTo d n l).length = n
  | 0, _ => rfl
  | n + 1, [] => by simp [padTo, padTo_length d n]
  | n + 1, _ :: l => by simp [padTo, padTo_length d n]
theorem padTo_getD {α : Type} (d : α) : ∀ (n : Nat) (l : List α) (j : Nat), j < n → (padTo d n l).getD j d = l.getD j d
  | n + 1, [], 0, _ => by simp [padTo]
  | n + 1, x :: l, 0, _ => by simp [padTo]
  | n + 1, [], j + 1, h => by simpa [padTo] using padTo_getD d n [] j (by omega)
  | n + 1, x :: l, j + 1, h => by simpa [padTo] using padTo_getD d n l j (by omega)
theorem agree_append (is ks : List Int) (bs cs : List Bool) : Agree is.length bs.length (envOf is bs) (envOf (is ++ ks) (bs ++ cs)) :=
  ⟨fun n hn => getD_append_left _ _ _ _ hn, fun n hn => getD_append_left _ _ _ _ hn⟩
theorem Agree.trans {i b i' b' : Nat} {ρ ρ' ρ'' : Env} (h : Agree i b ρ ρ') (h' : Agree i' b' ρ' ρ'') (hi : i ≤ i') (hb : b ≤ b') : Agree i b ρ ρ'' :=
  ⟨fun n hn => (h'.1 n (by omega)).trans (h.1 n hn), fun n hn => (h'.2 n (by omega)).trans (h.2 n hn)⟩

theorem evEm_spec (Φ : Funs) : ∀ (l : List Em) (is : List Int) (bs : List Bool), wsEm l is.length bs.length = true →
    Agree is.length bs.length (envOf is bs) (envOf (evEm Φ l is bs).1 (evEm Φ l is bs).2) ∧
      ∀ e, e ∈ l → (match e with | .ob _ _ => True | e => e.ok Φ (envOf (evEm Φ l is bs).1 (evEm Φ l is bs).2))
  | [], is, bs, _ => ⟨⟨fun _ _ => rfl, fun _ _ => rfl⟩, fun e he => by cases he⟩
  | .di n r :: l, is, bs, h => by
    simp only [wsEm, Bool.and_eq_true, beq_iff_eq] at h
    obtain ⟨⟨rfl, hr⟩, hl⟩ := h
    have ih := evEm_spec Φ l (is ++ [r.d (envOf is bs)]) bs (by simpa using hl)
    simp only [evEm]
    have ha := agree_append is [r.d (envOf is bs)] bs []
    rw [List.append_nil] at ha
    have hA := ha.trans ih.1 (by simp) (Nat.le_refl _)
    refine ⟨hA, fun e he => ?_⟩
    rcases List.mem_cons.1 he with rfl | he
    · show (envOf _ _).i is.length = r.d _
      rw [RI.d_agree hA hr, ih.1.1 is.length (by simp)]
      simp [envOf]
    · exact ih.2 e he
  | .db n r :: l, is, bs, h => by
    simp only [wsEm, Bool.and_eq_true, beq_iff_eq] at h
    obtain ⟨⟨rfl, hr⟩, hl⟩ := h
    have ih := evEm_spec Φ l is (bs ++ [r.d (envOf is bs)]) (by simpa using hl)
    simp only [evEm]
    have ha := agree_append is [] bs [r.d (envOf is bs)]
    rw [List.append_nil] at ha
    have hA := ha.trans ih.1 (Nat.le_refl _) (by simp)
    refine ⟨hA, fun e he => ?_⟩
    rcases List.mem_cons.1 he with rfl | he
    · show (envOf _ _).b bs.length = r.d _
      rw [RB.d_agree hA hr, ih.1.2 bs.length (by simp)]
      simp [envOf]
    · exact ih.2 e he
  | .call f ai ab i0 ni b0 nb :: l, is, bs, h => by
    simp only [wsEm, Bool.and_eq_true, beq_iff_eq, List.all_eq_true] at h
    obtain ⟨⟨⟨⟨rfl, rfl⟩, hai⟩, hab⟩, hl⟩ := h
    have ih := evEm_spec Φ l (is ++ padTo 0 ni (Φ f (ai.map (A.d (envOf is bs))) (ab.map (B.d (envOf is bs)))).1) (bs ++ padTo false nb (Φ f (ai.map (A.d (envOf is bs))) (ab.map (B.d (envOf is bs)))).2)
      (by simpa [padTo_length] using hl)
    simp only [evEm]
    have ha := agree_append is (padTo 0 ni (Φ f (ai.map (A.d (envOf is bs))) (ab.map (B.d (envOf is bs)))).1) bs (padTo false nb (Φ f (ai.map (A.d (envOf is bs))) (ab.map (B.d (envOf is bs)))).2)
    have hA := ha.trans ih.1 (by simp) (by simp)
    refine ⟨hA, fun e he => ?_⟩
    rcases List.mem_cons.1 he with rfl | he
    · have e1 : ai.map (A.d (envOf (evEm Φ l (is ++ padTo 0 ni (Φ f (ai.map (A.d (envOf is bs))) (ab.map (B.d (envOf is bs)))).1) (bs ++ padTo false nb (Φ f (ai.map (A.d (envOf is bs))) (ab.map (B.d (envOf is bs)))).2)).1 (evEm Φ l (is ++ padTo 0 ni (Φ f (ai.map (A.d (envOf is bs))) (ab.map (B.d (envOf is bs)))).1) (bs ++ padTo false nb (Φ f (ai.map (A.d (envOf is bs))) (ab.map (B.d (envOf is bs)))).2)).2)) = ai.map (A.d (envOf is bs)) :=
        List.map_congr_left fun x hx => A.d_agree hA (hai x hx)
      have e2 : ab.map (B.d (envOf (evEm Φ l (is ++ padTo 0 ni (Φ f (ai.map (A.d (envOf is bs))) (ab.map (B.d (envOf is bs)))).1) (bs ++ padTo false nb (Φ f (ai.map (A.d (envOf is bs))) (ab.map (B.d (envOf is bs)))).2)).1 (evEm Φ l (is ++ padTo 0 ni (Φ f (ai.map (A.d (envOf is bs))) (ab.map (B.d (envOf is bs)))).1) (bs ++ padTo false nb (Φ f (ai.map (A.d (envOf is bs))) (ab.map (B.d (envOf is bs)))).2)).2)) = ab.map (B.d (envOf is bs)) :=
        List.map_congr_left fun x hx => B.d_agree hA (hab x hx)
      simp only [Em.ok]
      rw [e1, e2]
      refine ⟨fun j hj => ?_, fun j hj => ?_⟩
      · rw [ih.1.1 (is.length + j) (by simp [padTo_length]; omega)]
        simp only [envOf]
        rw [getD_append_right, padTo_getD _ _ _ _ hj]
      · rw [ih.1.2 (bs.length + j) (by simp [padTo_length]; omega)]
        simp only [envOf]
        rw [getD_append_right, padTo_getD _ _ _ _ hj]
    · exact ih.2 e he
  | .ob g b :: l, is, bs, h => by
    simp only [wsEm] at h
    have ih := evEm_spec Φ l is bs h
    simp only [evEm]
    refine ⟨ih.1, fun e he => ?_⟩
    rcases List.mem_cons.1 he with rfl | he
    · trivial
    · exact ih.2 e he

theorem good_of {Φ : Funs} {l : List Em} {is : List Int} {bs : List Bool} (hw : wsEm l is.length bs.length = true) (ho : obAll (envOf (evEm Φ l is bs).1 (evEm Φ l is bs).2) l = true) :
    Good Φ (envOf (evEm Φ l is bs).1 (evEm Φ l is bs).2) l := by
  intro e he
  have h1 := (evEm_spec Φ l is bs hw).2 e he
  cases e with
  | ob g b =>
    have := (List.all_eq_true.1 ho) _ he
    simp only [Bool.or_eq_true, Bool.not_eq_true'] at this
    intro hg
    rcases this with h | h
    · rw [hg] at h; cases h
    · exact h
  | _ => exact h1

end Go.Proofs.YtalnndmnnffnmaaGreat.Sx
/-! ## SxW -/
set_option linter.unusedVariables false
set_option linter.unusedSimpArgs false
namespace Go.Proofs.YtalnndmnnffnmaaGreat.Sx
open Go

/-! ### Turns -/
/-- 'F' is one turn: it answers the next numbers and what is told at the end; its bools begin with whether all is well, and whether it goes on. -/
inductive LRun (F : Fun) (nI nB : Nat) : Nat → List Int → List Bool → Fl → Prop
  | stop {is bs rb} : (F is bs).2 = true :: false :: rb → LRun F nI nB 1 is bs ((F is bs).1.drop nI, rb.drop nB)
  | turn {n is bs rb o} : (F is bs).2 = true :: true :: rb → LRun F nI nB n ((F is bs).1.take nI) (rb.take nB) o → LRun F nI nB (n + 1) is bs o
theorem LRun.det {F : Fun} {nI nB n : Nat} {is : List Int} {bs : List Bool} {o : Fl} (h : LRun F nI nB n is bs o) : ∀ {m : Nat} {o' : Fl}, LRun F nI nB m is bs o' → o' = o := by
  induction h with
  | stop he =>
    intro m o' h'
    cases h' with
    | stop he' =>
      rw [he] at he'
      simp only [List.cons.injEq, true_and] at he'
      rw [he']
    | turn he' _ => rw [he] at he'; simp at he'
  | turn he _ ih =>
    intro m o' h'
    cases h' with
    | stop he' => rw [he] at he'; simp at he'
    | turn he' h2 =>
      rw [he] at he'
      simp only [List.cons.injEq, true_and] at he'
      rw [← he'] at h2
      exact ih h2
noncomputable def loopF (F : Fun) (nI nB : Nat) : Fun := fun is bs => by
  classical exact if h : ∃ o n, LRun F nI nB n is bs o then ((Classical.choose h).1, true :: (Classical.choose h).2) else ([], [])
theorem loopF_of {F : Fun} {nI nB n : Nat} {is : List Int} {bs : List Bool} {o : Fl} (h : LRun F nI nB n is bs o) : loopF F nI nB is bs = (o.1, true :: o.2) := by
  have he : ∃ o n, LRun F nI nB n is bs o := ⟨o, n, h⟩
  unfold loopF
  rw [dif_pos he]
  obtain ⟨m, hm⟩ := Classical.choose_spec he
  rw [h.det hm]
theorem loopF_inv {F : Fun} {nI nB : Nat} {is : List Int} {bs : List Bool} (h : (loopF F nI nB is bs).2.getD 0 false = true) : ∃ n o, LRun F nI nB n is bs o ∧ loopF F nI nB is bs = (o.1, true :: o.2) := by
  by_cases he : ∃ o n, LRun F nI nB n is bs o
  · obtain ⟨o, n, hn⟩ := he
    exact ⟨n, o, hn, loopF_of hn⟩
  · unfold loopF at h
    rw [dif_neg he] at h
    simp at h

/-! ### The same summary -/
def listEq {α : Type} (f : α → α → Bool) : List α → List α → Bool
  | [], [] => true
  | x :: l, y :: m => f x y && listEq f l m
  | _, _ => false
theorem listEq_sound {α : Type} {f : α → α → Bool} (hf : ∀ x y, f x y = true → x = y) : ∀ {l m : List α}, listEq f l m = true → l = m
  | [], [], _ => rfl
  | x :: l, y :: m, h => by
    simp only [listEq, Bool.and_eq_true] at h
    rw [hf x y h.1, listEq_sound hf h.2]
  | [], _ :: _, h => by simp [listEq] at h
  | _ :: _, [], h => by simp [listEq] at h
def RI.eq : RI → RI → Bool
  | .ar o k a b, .ar o' k' a' b' => o == o' && k == k' && a.eq a' && b.eq b'
  | .cv k a, .cv k' a' => k == k' && a.eq a'
  | .ite c a b, .ite c' a' b' => c.eq c' && a.eq a' && b.eq b'
  | .mn a b, .mn a' b' => a.eq a' && b.eq b'
  | .mx a b, .mx a' b' => a.eq a' && b.eq b'
  | .tab l a, .tab l' a' => listEq (· == ·) l l' && a.eq a'
  | .get q a s k, .get q' a' s' k' => q.eq q' && a.eq a' && s == s' && k == k'
  | _, _ => false
def RB.eq : RB → RB → Bool
  | .cm o a b, .cm o' a' b' => o == o' && a.eq a' && b.eq b'
  | .not a, .not a' => a.eq a'
  | .and a b, .and a' b' => a.eq a' && b.eq b'
  | .or a b, .or a' b' => a.eq a' && b.eq b'
  | .eqb a b, .eqb a' b' => a.eq a' && b.eq b'
  | .ite c a b, .ite c' a' b' => c.eq c' && a.eq a' && b.eq b'
  | .getb q a s k, .getb q' a' s' k' => q.eq q' && a.eq a' && s == s' && k == k'
  | _, _ => false
def gEq : B × Bool → B × Bool → Bool := fun p q => p.1.eq q.1 && p.2 == q.2
def Em.eq : Em → Em → Bool
  | .di n r, .di n' r' => n == n' && r.eq r'
  | .db n r, .db n' r' => n == n' && r.eq r'
  | .call f ai ab i ni b nb, .call f' ai' ab' i' ni' b' nb' => f == f' && listEq A.eq ai ai' && listEq B.eq ab ab' && i == i' && ni == ni' && b == b' && nb == nb'
  | .ob g b, .ob g' b' => listEq gEq g g' && b.eq b'
  | _, _ => false
def Smry.eq (S T : Smry) : Bool := listEq Em.eq S.em T.em && listEq A.eq S.ri T.ri && listEq B.eq S.rb T.rb
theorem RI.eq_sound {r s : RI} (h : r.eq s = true) : r = s := by
  cases r <;> cases s <;> simp only [RI.eq, Bool.and_eq_true, beq_iff_eq, Bool.false_eq_true] at h
  · obtain ⟨⟨⟨rfl, rfl⟩, h1⟩, h2⟩ := h; rw [A.eq_sound h1, A.eq_sound h2]
  · obtain ⟨rfl, h1⟩ := h; rw [A.eq_sound h1]
  · obtain ⟨⟨h0, h1⟩, h2⟩ := h; rw [B.eq_sound h0, A.eq_sound h1, A.eq_sound h2]
  · rw [A.eq_sound h.1, A.eq_sound h.2]
  · rw [A.eq_sound h.1, A.eq_sound h.2]
  · rw [listEq_sound (fun x y h => by simpa using h) h.1, A.eq_sound h.2]
  · obtain ⟨⟨⟨h1, h2⟩, rfl⟩, rfl⟩ := h; rw [A.eq_sound h1, A.eq_sound h2]
theorem RB.eq_sound {r s : RB} (h : r.eq s = true) : r = s := by
  cases r <;> cases s <;> simp only [RB.eq, Bool.and_eq_true, beq_iff_eq, Bool.false_eq_true] at h
  · obtain ⟨⟨rfl, h1⟩, h2⟩ := h; rw [A.eq_sound h1, A.eq_sound h2]
  · rw [B.eq_sound h]
  · rw [B.eq_sound h.1, B.eq_sound h.2]
  · rw [B.eq_sound h.1, B.eq_sound h.2]
  · rw [B.eq_sound h.1, B.eq_sound h.2]
  · obtain ⟨⟨h0, h1⟩, h2⟩ := h; rw [B.eq_sound h0, B.eq_sound h1, B.eq_sound h2]
  · obtain ⟨⟨⟨h1, h2⟩, rfl⟩, rfl⟩ := h; rw [A.eq_sound h1, A.eq_sound h2]
theorem Em.eq_sound {r s : Em} (h : r.eq s = true) : r = s := by
  cases r <;> cases s <;> simp only [Em.eq, Bool.and_eq_true, beq_iff_eq, Bool.false_eq_true] at h
  · obtain ⟨rfl, h⟩ := h; rw [RI.eq_sound h]
  · obtain ⟨rfl, h⟩ := h; rw [RB.eq_sound h]
  · obtain ⟨⟨⟨⟨⟨⟨rfl, h1⟩, h2⟩, rfl⟩, rfl⟩, rfl⟩, rfl⟩ := h
    rw [listEq_sound (fun _ _ h => A.eq_sound h) h1, listEq_sound (fun _ _ h => B.eq_sound h) h2]
  · rw [listEq_sound (fun x y h => by
      simp only [gEq, Bool.and_eq_true, beq_iff_eq] at h
      cases x; cases y
      simp only at h
      rw [B.eq_sound h.1, h.2]) h.1, B.eq_sound h.2]
theorem Smry.eq_sound {S T : Smry} (h : S.eq T = true) : S = T := by
  simp only [Smry.eq, Bool.and_eq_true] at h
  cases S; cases T
  simp only at h
  rw [listEq_sound (fun _ _ h => Em.eq_sound h) h.1.1, listEq_sound (fun _ _ h => A.eq_sound h) h.1.2, listEq_sound (fun _ _ h => B.eq_sound h) h.2]

/-! ### A turn's own numbers, and those from outside -/
def bigG : Nat := 1000000
def ov (e o : Env) : Env := { i := fun n => if n < bigG then e.i n else o.i (n - bigG), b := fun n => if n < bigG then e.b n else o.b (n - bigG) }

/-- How a loop is taken: its number among functions; which numbers from outside a turn needs; which slots turn, are forgotten; which stretches; which slots and stretches are told behind it; a turn. -/
structure LAnn where
  id : Nat
  ga : List Nat
  gb : List Nat
  hv : List Nat
  dr : List Nat
  hb : List Nat
  db : List Nat
  xs : List Nat
  xb : List Nat
  nI : Nat
  nB : Nat
  S : Smry

def idx (n : Nat) : List Nat → Nat → Option Nat
  | [], _ => none
  | m :: l, p => if m == n then some p else idx n l (p + 1)
theorem idx_spec {n : Nat} : ∀ {l : List Nat} {p q : Nat}, idx n l p = some q → p ≤ q ∧ l[q - p]? = some n
  | [], p, q, h => by simp [idx] at h
  | m :: l, p, q, h => by
    unfold idx at h
    split at h
    · rename_i he
      simp only [beq_iff_eq] at he
      simp only [Option.some.injEq] at h
      subst h; subst he
      simp
    · obtain ⟨h1, h2⟩ := idx_spec h
      refine ⟨by omega, ?_⟩
      rw [show q - p = (q - (p + 1)) + 1 by omega]
      simpa using h2
def rnA (ga : List Nat) : A → A
  | .v n => match idx n ga 0 with | some p => .v p | none => .v (bigG + n)
  | .c k => .c k
def rnB (gb : List Nat) : B → B
  | .v n => match idx n gb 0 with | some p => .v p | none => .v (bigG + n)
  | .c k => .c k
def rnC (L : LAnn) : C → C
  | .int k a => .int k (rnA L.ga a)
  | .bool b => .bool (rnB L.gb b)
  | .ptr l i o => .ptr (l.map fun p => (rnB L.gb p.1, p.2)) i o
  | .pix i o s n a k => .pix i o s n (rnA L.ga a) k
  | .slx i ks q n => .slx i ks (rnA L.ga q) (rnA L.ga n)
  | c => c
def rnS (L : LAnn) : S → S
  | .one agg l => .one agg (l.map (rnC L))
  | .tup l => .tup (l.map fun p => (p.1, p.2.map (rnC L)))
  | .any => .any
def rnG (L : LAnn) (g : Gd) : Gd := g.map fun p => (rnB L.gb p.1, p.2)
def hvC (L : LAnn) : List C → Nat → Nat → List C × Nat × Nat
  | [], i, b => ([], i, b)
  | .int k _ :: l, i, b => match hvC L l (i + 1) b with | (r, j) => (.int k (.v i) :: r, j)
  | .bool _ :: l, i, b => match hvC L l i (b + 1) with | (r, j) => (.bool (.v b) :: r, j)
  | c :: l, i, b => match hvC L l i b with | (r, j) => (rnC L c :: r, j)
def tmplTm (L : LAnn) : List SV → Nat → Nat → Nat → List SV × Nat × Nat
  | [], _, i, b => ([], i, b)
  | v :: l, t, i, b =>
    if L.dr.contains t then match tmplTm L l (t + 1) i b with | (r, j) => (anySV :: r, j)
    else if L.hv.contains t then match v with
      | { g := [], s := .one agg cs } => match hvC L cs i b with
        | (ds, i', b') => match tmplTm L l (t + 1) i' b' with | (r, j) => ({ g := [], s := .one agg ds } :: r, j)
      | _ => match tmplTm L l (t + 1) i b with | (r, j) => (anySV :: r, j)
    else match tmplTm L l (t + 1) i b with | (r, j) => ({ g := rnG L v.g, s := rnS L v.s } :: r, j)
def tmplHb (L : LAnn) (hp : Hl) : List Nat → Nat → Nat → Hl
  | [], _, _ => []
  | id :: l, i, b => match hpOf hp id with
    | some bl => match hvC L bl.cells i b with | (ds, i', b') => (id, { g := rnG L bl.g, ro := bl.ro, cells := ds }) :: tmplHb L hp l i' b'
    | none => tmplHb L hp l i b
def tmplHr (L : LAnn) (hp : Hl) : List Nat → Hl
  | [] => []
  | id :: l => if L.hb.contains id || L.db.contains id then tmplHr L hp l else match hpOf hp id with
    | some bl => (id, { g := rnG L bl.g, ro := bl.ro, cells := bl.cells.map (rnC L) }) :: tmplHr L hp l
    | none => tmplHr L hp l
def loopT (L : LAnn) (s : St) : St :=
  match tmplTm L s.tm 0 L.ga.length L.gb.length with
  | (tm, i, b) => { tm := tm, hp := tmplHb L s.hp L.hb i b ++ tmplHr L s.hp (dedup (s.hp.map (·.1))) }
def atI : List C → List A
  | [] => []
  | .int _ a :: l => a :: atI l
  | _ :: l => atI l
def atB : List C → List B
  | [] => []
  | .bool a :: l => a :: atB l
  | _ :: l => atB l
def sCells : S → List C
  | .one _ l => l
  | .tup l => (l.map (·.2)).flatten
  | .any => []
def cellsOfSt (ts bs : List Nat) (s : St) : List C := (ts.map fun t => match s.tm[t]? with | some v => sCells v.s | none => []).flatten ++ (bs.map fun i => match hpOf s.hp i with | some b => b.cells | none => []).flatten
def loopAi (L : LAnn) (s : St) : List A := L.ga.map A.v ++ atI (cellsOfSt L.hv L.hb s)
def loopAb (L : LAnn) (s : St) : List B := L.gb.map B.v ++ atB (cellsOfSt L.hv L.hb s)
def loopNi (L : LAnn) (s : St) : List A := (List.range L.ga.length).map A.v ++ atI (cellsOfSt L.hv L.hb s)
def loopNb (L : LAnn) (s : St) : List B := (List.range L.gb.length).map B.v ++ atB (cellsOfSt L.hv L.hb s)
def vsI (n : Nat) : List A → List Nat
  | [] => []
  | .v m :: l => if Nat.ble n m && Nat.blt m bigG then m :: vsI n l else vsI n l
  | .c _ :: l => vsI n l
def vsB (n : Nat) : List B → List Nat
  | [] => []
  | .v m :: l => if Nat.ble n m && Nat.blt m bigG then m :: vsB n l else vsB n l
  | .c _ :: l => vsB n l
def expI (L : LAnn) (O : Outs) : List Nat := dedup (O.map fun p => vsI L.ga.length (atI (cellsOfSt L.xs L.xb p.2.2))).flatten
def expB (L : LAnn) (O : Outs) : List Nat := dedup (O.map fun p => vsB L.gb.length (atB (cellsOfSt L.xs L.xb p.2.2))).flatten
def renI (ga : List Nat) (xi : List Nat) (i0 : Nat) (m : Nat) : Option A :=
  if Nat.blt m ga.length then (ga[m]?).map A.v else if Nat.blt m bigG then (idx m xi 0).map fun p => .v (i0 + p) else some (.v (m - bigG))
def renB (gb : List Nat) (xb : List Nat) (b0 : Nat) (m : Nat) : Option B :=
  if Nat.blt m gb.length then (gb[m]?).map B.v else if Nat.blt m bigG then (idx m xb 0).map fun p => .v (b0 + p) else some (.v (m - bigG))

def selsM : Outs → M (List B)
  | [] => pure []
  | (_, q, _) :: O => do
    let b ← gAtom q
    let l ← selsM O
    pure (b :: l)
theorem selsM_snd {Φ : Funs} {ρ : Env} : ∀ (O : Outs), Snd Φ ρ (selsM O) (fun l => l.length = O.length ∧ ∀ (i : Nat) p, O[i]? = some p → ∃ b, l[i]? = some b ∧ b.d ρ = Gd.d ρ p.2.1)
  | [] => Snd.pure ⟨rfl, fun i p h => by simp at h⟩
  | (k, q, s) :: O => by
    unfold selsM
    refine Snd.bind (gAtom_snd q) fun b hb => Snd.bind (selsM_snd O) fun l hl => Snd.pure ⟨by simp [hl.1], fun i p h => ?_⟩
    cases i with
    | zero => simp at h; subst h; exact ⟨b, by simp, hb⟩
    | succ i => simp at h; simpa using hl.2 i p h
def mapOuts (m : Nat) (R : Ren) : Nat → Outs → Outs
  | _, [] => []
  | j, (k, q, s) :: O => (k, [(.v (m + j), true)], s.ren R) :: mapOuts m R (j + 1) O
theorem mapOuts_get {m : Nat} {R : Ren} {k : Kd} : ∀ {O : Outs} {j : Nat}, match getK k O with
    | none => getK k (mapOuts m R j O) = none
    | some (q, s) => ∃ i k', O[i]? = some (k', q, s) ∧ getK k (mapOuts m R j O) = some ([(.v (m + (j + i)), true)], s.ren R)
  | [], j => by simp [getK, mapOuts]
  | (l, q, s) :: O, j => by
    have ih := mapOuts_get (m := m) (R := R) (k := k) (O := O) (j := j + 1)
    by_cases hk : k.eq l = true
    · rw [show getK k ((l, q, s) :: O) = some (q, s) by simp [getK, hk]]
      exact ⟨0, l, by simp, by simp [mapOuts, getK, hk]⟩
    · rw [show getK k ((l, q, s) :: O) = getK k O by simp [getK, hk]]
      cases hg : getK k O with
      | none =>
        rw [hg] at ih
        simp only at ih ⊢
        simp [mapOuts, getK, hk, ih]
      | some p =>
        obtain ⟨q', s'⟩ := p
        rw [hg] at ih
        simp only at ih ⊢
        obtain ⟨i, k', h1, h2⟩ := ih
        exact ⟨i + 1, k', by simpa using h1, by simp only [mapOuts, getK, hk]; simpa [Nat.add_assoc, Nat.add_comm 1 i] using h2⟩

def Em.ltG : Em → Bool
  | .di n r => Nat.blt n bigG && r.lt bigG bigG
  | .db n r => Nat.blt n bigG && r.lt bigG bigG
  | .call _ ai ab i ni b nb => ai.all (A.lt bigG) && ab.all (B.lt bigG) && Nat.ble (i + ni) bigG && Nat.ble (b + nb) bigG
  | .ob g b => (g.all fun p => p.1.lt bigG) && b.lt bigG
theorem ov_agree (e o : Env) : Agree bigG bigG e (ov e o) := ⟨fun n h => by show (if n < bigG then e.i n else _) = _; rw [if_pos h], fun n h => by show (if n < bigG then e.b n else _) = _; rw [if_pos h]⟩
theorem ov_i {e o : Env} {n : Nat} (h : n < bigG) : (ov e o).i n = e.i n := (ov_agree e o).1 n h
theorem ov_b {e o : Env} {n : Nat} (h : n < bigG) : (ov e o).b n = e.b n := (ov_agree e o).2 n h
theorem ov_i' {e o : Env} {n : Nat} (h : ¬ n < bigG) : (ov e o).i n = o.i (n - bigG) := by show (if n < bigG then e.i n else _) = _; rw [if_neg h]
theorem ov_b' {e o : Env} {n : Nat} (h : ¬ n < bigG) : (ov e o).b n = o.b (n - bigG) := by show (if n < bigG then e.b n else _) = _; rw [if_neg h]
theorem Gd.d_ov {e o : Env} : ∀ {g : Gd}, (g.all fun p => p.1.lt bigG) = true → Gd.d (ov e o) g = Gd.d e g
  | [], _ => rfl
  | (b, k) :: g, h => by
    simp only [List.all_cons, Bool.and_eq_true] at h
    rw [Gd.d_cons, Gd.d_cons, Gd.d_ov h.2, B.d_agree (ov_agree e o) h.1]
theorem Em.ok_ov {Φ : Funs} {e o : Env} {m : Em} (h : m.ltG = true) (hk : m.ok Φ e) : m.ok Φ (ov e o) := by
  have ha := ov_agree e o
  cases m with
  | di n r =>
    simp only [Em.ltG, Bool.and_eq_true, Nat.blt_eq] at h
    show (ov e o).i n = _
    rw [ov_i h.1, RI.d_agree ha h.2]
    exact hk
  | db n r =>
    simp only [Em.ltG, Bool.and_eq_true, Nat.blt_eq] at h
    show (ov e o).b n = _
    rw [ov_b h.1, RB.d_agree ha h.2]
    exact hk
  | call f ai ab i ni b nb =>
    simp only [Em.ltG, Bool.and_eq_true, Nat.ble_eq, List.all_eq_true] at h
    obtain ⟨⟨⟨h1, h2⟩, h3⟩, h4⟩ := h
    have e1 : ai.map (A.d (ov e o)) = ai.map (A.d e) := List.map_congr_left fun a hm => A.d_agree ha (h1 a hm)
    have e2 : ab.map (B.d (ov e o)) = ab.map (B.d e) := List.map_congr_left fun a hm => B.d_agree ha (h2 a hm)
    obtain ⟨k1, k2⟩ := hk
    refine ⟨fun j hj => ?_, fun j hj => ?_⟩
    · rw [e1, e2, ← k1 j hj]
      exact ov_i (by omega)
    · rw [e1, e2, ← k2 j hj]
      exact ov_b (by omega)
  | ob g b =>
    simp only [Em.ltG, Bool.and_eq_true] at h
    intro hg
    rw [Gd.d_ov h.1] at hg
    rw [B.d_agree ha h.2]
    exact hk hg

def nifE (l : List A) (m : Nat) : Option A := if Nat.blt m bigG then l[m]? else some (.v (m - bigG))
def nbfE (l : List B) (m : Nat) : Option B := if Nat.blt m bigG then l[m]? else some (.v (m - bigG))
def nifN (l : List A) (m : Nat) : Option A := if Nat.blt m bigG then l[m]? else some (.v m)
def nbfN (l : List B) (m : Nat) : Option B := if Nat.blt m bigG then l[m]? else some (.v m)

/-- What went wrong, for who looks. -/
def offTm (ni : Nat → Option A) (nb : Nat → Option B) : Nat → List SV → List SV → List A
  | t, u :: l, v :: m => if u.mat ni nb v then offTm ni nb (t + 1) l m else .c t :: offTm ni nb (t + 1) l m
  | _, _, _ => []
def offHp (ni : Nat → Option A) (nb : Nat → Option B) (s : Hl) (t : Hl) : List A := (t.filter fun p => !(blMat ni nb s p)).map fun p => .c p.1
def ghI : List A → List A
  | [] => []
  | .v n :: l => if Nat.blt n bigG then ghI l else .c (n - bigG : Nat) :: ghI l
  | _ :: l => ghI l
def ghB : List B → List A
  | [] => []
  | .v n :: l => if Nat.blt n bigG then ghB l else .c (n - bigG : Nat) :: ghB l
  | _ :: l => ghB l
def emIs : Em → List A
  | .di _ (.ar _ _ a b) => [a, b]
  | .di _ (.cv _ a) => [a]
  | .di _ (.ite _ a b) => [a, b]
  | .di _ (.mn a b) => [a, b]
  | .di _ (.mx a b) => [a, b]
  | .di _ (.tab _ a) => [a]
  | .di _ (.get q a _ _) => [q, a]
  | .di _ (.lenq q _) => [q]
  | .db _ (.getb q a _ _) => [q, a]
  | .db _ (.cm _ a b) => [a, b]
  | .call _ ai _ _ _ _ _ => ai
  | _ => []
def emBs : Em → List B
  | .di _ (.ite c _ _) => [c]
  | .db _ (.not a) => [a]
  | .db _ (.and a b) => [a, b]
  | .db _ (.or a b) => [a, b]
  | .db _ (.eqb a b) => [a, b]
  | .db _ (.ite c a b) => [c, a, b]
  | .call _ _ ab _ _ _ _ => ab
  | .ob g b => b :: g.map (·.1)
  | _ => []
def dgEm : Em → Em
  | .ob g b => .call 1000009 (g.map fun p => .c (if p.2 then 1 else 0)) (b :: g.map (·.1)) 0 0 0 0
  | e => e
def diag (t s sn : St) (ai ni : List A) (ab nb : List B) (S : Smry) : List Em :=
  [.call 1000001 (offTm (nifE ai) (nbfE ab) 0 t.tm s.tm) [] 0 0 0 0, .call 1000002 (offHp (nifE ai) (nbfE ab) s.hp t.hp) [] 0 0 0 0,
   .call 1000003 (offTm (nifN ni) (nbfN nb) 0 t.tm sn.tm) [] 0 0 0 0, .call 1000004 (offHp (nifN ni) (nbfN nb) sn.hp t.hp) [] 0 0 0 0,
   .call 1000005 (ghI ((S.em.map emIs).flatten ++ S.ri)) [] 0 0 0 0, .call 1000006 (ghB ((S.em.map emBs).flatten ++ S.rb)) [] 0 0 0 0,
   .call 1000007 [.c ai.length, .c ab.length] [] 0 0 0 0] ++ S.em.map dgEm ++ [.call 1000008 S.ri S.rb 0 0 0 0]

def loopChk (L : LAnn) (n : Nat) (t s sn : St) (ai ni : List A) (ab nb : List B) (S : Smry) : Bool :=
  t.mat (nifE ai) (nbfE ab) s && t.mat (nifN ni) (nbfN nb) sn && t.below n && wsEm S.em ai.length ab.length && S.em.all Em.ltG && S.ri.all (A.lt bigG) && S.rb.all (B.lt bigG) && S.eq L.S &&
  ai.length == L.nI && ab.length == L.nB && ni.length == L.nI && nb.length == L.nB && Nat.ble L.nI bigG && Nat.ble L.nB bigG
def loopM (L : LAnn) (f : St → M Outs) (s : St) : M Outs := fun c =>
  match f (loopT L s) { i := (loopAi L s).length, b := (loopAb L s).length, id := c.id } with
  | none => none
  | some (O, c1, o1) => match getK .n O with
    | none => none
    | some (qn, sn) => match gAtom qn c1 with
      | none => none
      | some (cont, c2, o2) => match selsM (dropK .n O) c2 with
        | none => none
        | some (sels, _, o3) =>
          let xi := expI L (dropK .n O)
          let xb := expB L (dropK .n O)
          let S : Smry := { em := o1 ++ (o2 ++ o3), ri := loopNi L sn ++ xi.map A.v, rb := cont :: (loopNb L sn ++ (sels ++ xb.map B.v)) }
          let nb := 1 + (sels.length + xb.length)
          some (single (mapOuts (c.b + 1) { i := renI L.ga xi c.i, b := renB L.gb xb (c.b + 1 + sels.length), n := c.id } 0 (dropK .n O)),
            { i := c.i + xi.length, b := c.b + nb, id := c.id },
            .call L.id (loopAi L s) (loopAb L s) c.i xi.length c.b nb :: .ob [] (.v c.b) ::
              (if loopChk L c.id (loopT L s) s sn (loopAi L s) (loopNi L sn) (loopAb L s) (loopNb L sn) S then [] else .ob [] (.c false) :: diag (loopT L s) s sn (loopAi L s) (loopNi L sn) (loopAb L s) (loopNb L sn) S))

def envE (Φ : Funs) (S : Smry) (is : List Int) (bs : List Bool) : Env := envOf (evEm Φ S.em is bs).1 (evEm Φ S.em is bs).2
theorem run_true (Φ : Funs) (S : Smry) (is : List Int) (bs : List Bool) : S.run Φ true is bs = (S.ri.map (A.d (envE Φ S is bs)), obAll (envE Φ S is bs) S.em :: S.rb.map (B.d (envE Φ S is bs))) := rfl
theorem envE_in {Φ : Funs} {S : Smry} {is : List Int} {bs : List Bool} (hw : wsEm S.em is.length bs.length = true) : (∀ m, m < is.length → (envE Φ S is bs).i m = is.getD m 0) ∧ (∀ m, m < bs.length → (envE Φ S is bs).b m = bs.getD m false) := by
  have := (evEm_spec Φ S.em is bs hw).1
  exact ⟨fun m hm => this.1 m hm, fun m hm => this.2 m hm⟩

/-- What a loop's site has, of one turn. -/
structure Turn (Φ : Funs) (f : St → M Outs) (L : LAnn) (c : Ctr) (t sn : St) (O : Outs) (c1 : Ctr) (qn : Gd) (cont : B) (sels : List B) (ni : List A) (nb : List B) (xi xb : List Nat) (S : Smry) : Prop where
  run : ∃ o1 o2 o3 c2 c3, f t { i := L.nI, b := L.nB, id := c.id } = some (O, c1, o1) ∧ gAtom qn c1 = some (cont, c2, o2) ∧ selsM (dropK .n O) c2 = some (sels, c3, o3) ∧ S.em = o1 ++ (o2 ++ o3)
  hn : getK .n O = some (qn, sn)
  ri : S.ri = ni ++ xi.map A.v
  rb : S.rb = cont :: (nb ++ (sels ++ xb.map B.v))
  lni : ni.length = L.nI
  lnb : nb.length = L.nB
  mat : t.mat (nifN ni) (nbfN nb) sn = true
  bel : t.below c.id = true
  ws : wsEm S.em L.nI L.nB = true
  em : ∀ e, e ∈ S.em → e.ltG = true
  rig : ∀ a, a ∈ S.ri → a.lt bigG = true
  rbg : ∀ a, a ∈ S.rb → a.lt bigG = true
  gI : L.nI ≤ bigG
  gB : L.nB ≤ bigG
  invI : ∀ m, m < L.ga.length → ni[m]? = some (.v m)
  invB : ∀ m, m < L.gb.length → nb[m]? = some (.v m)

theorem loop_turns {P : Program} {Φ : Funs} {x : Cx} {ρ : Env} {L : LAnn} {cd : Code} {f : St → M Outs} (hf : ∀ ρ, CodeOk P Φ x ρ cd f) {c : Ctr} {t sn : St} {O : Outs} {c1 : Ctr} {qn : Gd} {cont : B} {sels : List B}
    {ni : List A} {nb : List B} {xi xb : List Nat} {S : Smry} (T : Turn Φ f L c t sn O c1 qn cont sels ni nb xi xb S)
    {β : Beta} (hlow : ∀ i r, β i = some r → i < c.id) (hgl : ∀ (g : Nat) (vs : List Value), x.gl[g]? = some vs → β g = some (gRg g vs)) (hra : ∀ (j : Nat) (r : Rg), x.gr[j]? = some r → β (x.ng + j) = some r)
    {Q : Exit → Act → World → Prop} {n : Nat} {is : List Int} {bs : List Bool} {o : Fl} (h : LRun (S.run Φ true) L.nI L.nB n is bs o) :
    is.length = L.nI → bs.length = L.nB → (∀ m, m < L.ga.length → is.getD m 0 = ρ.i (L.ga.getD m 0)) → (∀ m, m < L.gb.length → bs.getD m false = ρ.b (L.gb.getD m 0)) →
    (∀ (is' : List Int) (bs' : List Bool), is'.length = L.nI → bs'.length = L.nB → (∀ m, m < L.ga.length → is'.getD m 0 = ρ.i (L.ga.getD m 0)) → (∀ m, m < L.gb.length → bs'.getD m false = ρ.b (L.gb.getD m 0)) →
      o = ((S.ri.map (A.d (envE Φ S is' bs'))).drop L.nI, ((nb ++ (sels ++ xb.map B.v)).map (B.d (envE Φ S is' bs'))).drop L.nB) → (∀ (i : Nat) p, (dropK .n O)[i]? = some p → ∃ b, sels[i]? = some b ∧ b.d (envE Φ S is' bs') = Gd.d (ov (envE Φ S is' bs') ρ) p.2.1) →
      ∀ (ex : Exit) (K : Kd) (a' : Act) (w' : World) (β1 : Beta), Ext β β1 → kdOf ex = some K → K ≠ .n → OutMt x (ov (envE Φ S is' bs') ρ) β1 c1 O K a' w' → Q ex a' w') →
    ∀ (β1 : Beta) (a : Act) (w : World), Ext β β1 → Fresh β1 c → Rel x (ov (envE Φ S is bs) ρ) β1 t a w → Code.rounds P cd Q n a w := by
  obtain ⟨o1, o2, o3, c2, c3, h1, h2, h3, hem⟩ := T.run
  -- one turn
  have one : ∀ (is : List Int) (bs : List Bool), is.length = L.nI → bs.length = L.nB → obAll (envE Φ S is bs) S.em = true → Good Φ (ov (envE Φ S is bs) ρ) o1 ∧ cont.d (ov (envE Φ S is bs) ρ) = Gd.d (ov (envE Φ S is bs) ρ) qn ∧
      (∀ (i : Nat) p, (dropK .n O)[i]? = some p → ∃ b, sels[i]? = some b ∧ b.d (envE Φ S is bs) = Gd.d (ov (envE Φ S is bs) ρ) p.2.1) := by
    intro is bs hi hb ho
    have hg : Good Φ (envE Φ S is bs) S.em := good_of (by rw [hi, hb]; exact T.ws) ho
    have hg' : Good Φ (ov (envE Φ S is bs) ρ) S.em := fun e he => Em.ok_ov (T.em e he) (hg e he)
    rw [hem, Good.append, Good.append] at hg'
    refine ⟨hg'.1, gAtom_snd qn _ _ _ _ h2 hg'.2.1, fun i p hp => ?_⟩
    obtain ⟨b, hb1, hb2⟩ := (selsM_snd (dropK .n O) _ _ _ _ h3 hg'.2.2).2 i p hp
    refine ⟨b, hb1, ?_⟩
    rw [← hb2, B.d_agree (ov_agree _ _) (T.rbg b _)]
    rw [T.rb]
    simp [List.mem_of_getElem? hb1]
  induction h with
  | @stop is bs rb he =>
    intro hi hb hiI hiB hend β1 a w hE hF hR
    rw [run_true] at he
    simp only [List.cons.injEq] at he
    obtain ⟨ho, he⟩ := he
    obtain ⟨g1, g2, g3⟩ := one is bs hi hb ho
    have hcont : cont.d (envE Φ S is bs) = false := by
      rw [T.rb] at he
      simp only [List.map_cons, List.cons.injEq] at he
      exact he.1
    have hrb : rb = (nb ++ (sels ++ xb.map B.v)).map (B.d (envE Φ S is bs)) := by
      rw [T.rb] at he
      simp only [List.map_cons, List.cons.injEq] at he
      exact he.2.symm
    have hcont' : cont.d (ov (envE Φ S is bs) ρ) = false := by
      rw [B.d_agree (ov_agree _ _) (T.rbg cont (by rw [T.rb]; simp))]; exact hcont
    show cd.wp P (Exit.then (Code.rounds P cd Q 0) Q) a w
    refine hf (ov (envE Φ S is bs) ρ) t _ c1 O o1 h1 g1 β1 a w hR (fun i hi => hF i hi) _ fun ex a' w' K hk hO => ?_
    have hK : K ≠ .n := by
      intro e
      subst e
      have := (hO.1 _ _ _ T.hn).2 rfl
      rw [← g2, hcont'] at this
      cases this
    have hq := hend is bs hi hb hiI hiB (by rw [hrb, run_true]) g3 ex K a' w' β1 hE hk hK hO
    cases ex <;> first | exact hq | (simp only [kdOf, Option.some.injEq] at hk; exact absurd hk.symm hK)
  | @turn n is bs rb o he hrun ih =>
    intro hi hb hiI hiB hend β1 a w hE hF hR
    rw [run_true] at he
    simp only [List.cons.injEq] at he
    obtain ⟨ho, he⟩ := he
    obtain ⟨g1, g2, g3⟩ := one is bs hi hb ho
    have hcont : cont.d (envE Φ S is bs) = true := by
      rw [T.rb] at he
      simp only [List.map_cons, List.cons.injEq] at he
      exact he.1
    have hrb : rb = (nb ++ (sels ++ xb.map B.v)).map (B.d (envE Φ S is bs)) := by
      rw [T.rb] at he
      simp only [List.map_cons, List.cons.injEq] at he
      exact he.2.symm
    have hcont' : cont.d (ov (envE Φ S is bs) ρ) = true := by
      rw [B.d_agree (ov_agree _ _) (T.rbg cont (by rw [T.rb]; simp))]; exact hcont
    -- the next numbers
    have hnis : (S.run Φ true is bs).1.take L.nI = ni.map (A.d (envE Φ S is bs)) := by
      rw [run_true, T.ri]
      simp [← T.lni]
    have hnbs : rb.take L.nB = nb.map (B.d (envE Φ S is bs)) := by
      rw [hrb]
      simp [← T.lnb]
    rw [hnis, hnbs] at ih hrun
    have hin := envE_in (Φ := Φ) (S := S) (is := is) (bs := bs) (by rw [hi, hb]; exact T.ws)
    have hin' := envE_in (Φ := Φ) (S := S) (is := ni.map (A.d (envE Φ S is bs))) (bs := nb.map (B.d (envE Φ S is bs))) (by simp only [List.length_map, T.lni, T.lnb]; exact T.ws)
    have hga : L.ga.length ≤ L.nI := by
      rcases Nat.lt_or_ge L.nI L.ga.length with h | h
      · have := T.invI L.nI h
        rw [← T.lni] at this
        simp at this
      · exact h
    have hgb : L.gb.length ≤ L.nB := by
      rcases Nat.lt_or_ge L.nB L.gb.length with h | h
      · have := T.invB L.nB h
        rw [← T.lnb] at this
        simp at this
      · exact h
    show cd.wp P (Exit.then (Code.rounds P cd Q n) Q) a w
    refine hf (ov (envE Φ S is bs) ρ) t _ c1 O o1 h1 g1 β1 a w hR (fun i hi => hF i hi) _ fun ex a' w' K hk hO => ?_
    obtain ⟨q, s', β', hK, hE', hR', hF'⟩ := hO.2
    have hKn : K = .n := by
      have := (hO.1 _ _ _ T.hn).1 (by rw [← g2]; exact hcont')
      exact this.symm
    subst hKn
    rw [T.hn] at hK
    simp only [Option.some.injEq, Prod.mk.injEq] at hK
    obtain ⟨rfl, rfl⟩ := hK
    have hex : ex = .normal := by cases ex <;> simp_all [kdOf]
    subst hex
    show Code.rounds P cd Q n a' w'
    have hEE : Ext β β' := hE.trans hE'
    have hcut : Ext β (β'.cut c.id) := fun i r hi => cut_low (hlow i r hi) (hEE i r hi)
    refine ih (by simp [T.lni]) (by simp [T.lnb]) (fun m hm => ?_) (fun m hm => ?_) hend (β'.cut c.id) a' w' hcut (fun i hi => by unfold Beta.cut; rw [if_neg (by omega)]) ?_
    · rw [← hiI m hm]
      have := T.invI m hm
      simp only [List.getD_eq_getElem?_getD, List.getElem?_map, this, Option.map_some, Option.getD_some]
      show (envE Φ S is bs).i m = _
      rw [hin.1 m (by omega)]
      simp
    · rw [← hiB m hm]
      have := T.invB m hm
      simp only [List.getD_eq_getElem?_getD, List.getElem?_map, this, Option.map_some, Option.getD_some]
      show (envE Φ S is bs).b m = _
      rw [hin.2 m (by omega)]
      simp
    · refine Rel.cut (Rel.mat (ρ1 := ov (envE Φ S is bs) ρ) ⟨fun j a hj => ?_, fun j a hj => ?_⟩ hR' T.mat) T.bel hEE hlow hgl hra
      · unfold nifN at hj
        split at hj
        · rename_i hlt
          simp only [Nat.blt_eq] at hlt
          have hjl := (List.getElem?_eq_some_iff.1 hj).1
          rw [ov_i hlt, hin'.1 j (by simpa using hjl)]
          simp only [List.getD_eq_getElem?_getD, List.getElem?_map, hj, Option.map_some, Option.getD_some]
          exact (A.d_agree (ov_agree _ _) (T.rig a (by rw [T.ri]; simp [List.mem_of_getElem? hj]))).symm
        · rename_i hlt
          simp only [Nat.blt_eq] at hlt
          simp only [Option.some.injEq] at hj
          subst hj
          rw [ov_i' hlt]
          show _ = (ov (envE Φ S is bs) ρ).i j
          rw [ov_i' hlt]
      · unfold nbfN at hj
        split at hj
        · rename_i hlt
          simp only [Nat.blt_eq] at hlt
          have hjl := (List.getElem?_eq_some_iff.1 hj).1
          rw [ov_b hlt, hin'.2 j (by simpa using hjl)]
          simp only [List.getD_eq_getElem?_getD, List.getElem?_map, hj, Option.map_some, Option.getD_some]
          exact (B.d_agree (ov_agree _ _) (T.rbg a (by rw [T.rb]; simp [List.mem_of_getElem? hj]))).symm
        · rename_i hlt
          simp only [Nat.blt_eq] at hlt
          simp only [Option.some.injEq] at hj
          subst hj
          rw [ov_b' hlt]
          show _ = (ov (envE Φ S is bs) ρ).b j
          rw [ov_b' hlt]

theorem loopM_ok {P : Program} {Φ : Funs} {x : Cx} {ρ : Env} {L : LAnn} {cd : Code} {f : St → M Outs} (hf : ∀ ρ, CodeOk P Φ x ρ cd f) (hΦ : Φ L.id = loopF (L.S.run Φ true) L.nI L.nB) :
    OkW Φ x ρ (fun Q a w => (Code.loop cd).wp P Q a w) (loopM L f) := by
  intro s c c' O' out h hg β a w hR hF Q hQ
  unfold loopM at h
  split at h
  · cases h
  rename_i O c1 o1 h1
  split at h
  · cases h
  rename_i qn sn hn
  split at h
  · cases h
  rename_i cont c2 o2 h2
  split at h
  · cases h
  rename_i sels c3 o3 h3
  simp only [Option.some.injEq, Prod.mk.injEq] at h
  obtain ⟨hO', hc', hout⟩ := h
  generalize hxi : expI L (dropK .n O) = xi at hO' hc' hout
  generalize hxb : expB L (dropK .n O) = xb at hO' hc' hout
  generalize hSd : ({ em := o1 ++ (o2 ++ o3), ri := loopNi L sn ++ xi.map A.v, rb := cont :: (loopNb L sn ++ (sels ++ xb.map B.v)) } : Smry) = S at hO' hc' hout
  -- nothing went wrong
  have hchk : loopChk L c.id (loopT L s) s sn (loopAi L s) (loopNi L sn) (loopAb L s) (loopNb L sn) S = true := by
    cases hd : loopChk L c.id (loopT L s) s sn (loopAi L s) (loopNi L sn) (loopAb L s) (loopNb L sn) S with
    | true => rfl
    | false =>
      rw [hd] at hout
      simp only [Bool.false_eq_true, if_false] at hout
      subst hout
      have := hg (.ob [] (.c false)) (by simp) rfl
      simp at this
  rw [hchk] at hout
  simp only [if_true] at hout
  subst hout
  simp only [loopChk, Bool.and_eq_true, beq_iff_eq, List.all_eq_true, Nat.ble_eq] at hchk
  obtain ⟨⟨⟨⟨⟨⟨⟨⟨⟨⟨⟨⟨⟨k1, k2⟩, k3⟩, k4⟩, k5⟩, k6⟩, k7⟩, k8⟩, k9⟩, k10⟩, k11⟩, k12⟩, k13⟩, k14⟩ := hchk
  have hSL := Smry.eq_sound k8
  rw [← hSL] at hΦ
  rw [Good.cons, Good.cons] at hg
  obtain ⟨⟨hcI, hcB⟩, hob, _⟩ := hg
  have hob' : (B.v c.b).d ρ = true := hob rfl
  have hb0 := hcB 0 (by omega)
  rw [Nat.add_zero, hΦ] at hb0
  have hok : (loopF (S.run Φ true) L.nI L.nB ((loopAi L s).map (A.d ρ)) ((loopAb L s).map (B.d ρ))).2.getD 0 false = true := by rw [← hb0]; exact hob'
  obtain ⟨n, o, hrun, hval⟩ := loopF_inv hok
  rw [hΦ, hval] at hcI hcB
  have hfr : ∀ i r, β i = some r → i < c.id := fun i r hi => by
    rcases Nat.lt_or_ge i c.id with h | h
    · exact h
    · rw [hF i h] at hi; cases hi
  have T : Turn Φ f L c (loopT L s) sn O c1 qn cont sels (loopNi L sn) (loopNb L sn) xi xb S := by
    refine ⟨⟨o1, o2, o3, c2, c3, ?_, h2, h3, ?_⟩, hn, ?_, ?_, k11, k12, k2, k3, ?_, k5, k6, k7, k13, k14, fun m hm => ?_, fun m hm => ?_⟩
    · rw [← k9, ← k10]; exact h1
    · rw [← hSd]
    · rw [← hSd]
    · rw [← hSd]
    · rw [← k9, ← k10]; exact k4
    · unfold loopNi
      rw [List.getElem?_append_left (by simpa using hm)]
      simp [hm]
    · unfold loopNb
      rw [List.getElem?_append_left (by simpa using hm)]
      simp [hm]
  have hai : ∀ m, m < L.ga.length → (loopAi L s)[m]? = some (.v (L.ga.getD m 0)) := fun m hm => by
    unfold loopAi
    rw [List.getElem?_append_left (by simpa using hm)]
    simp [hm]
  have hab : ∀ m, m < L.gb.length → (loopAb L s)[m]? = some (.v (L.gb.getD m 0)) := fun m hm => by
    unfold loopAb
    rw [List.getElem?_append_left (by simpa using hm)]
    simp [hm]
  have hin := envE_in (Φ := Φ) (S := S) (is := (loopAi L s).map (A.d ρ)) (bs := (loopAb L s).map (B.d ρ)) (by simp only [List.length_map]; exact k4)
  refine wp_loop_rounds n (loop_turns (ρ := ρ) hf T hfr (fun g vs hg => hR.gl g vs hg) (fun j r hj => hR.ra j r hj) hrun (by simp [k9]) (by simp [k10]) (fun m hm => ?_) (fun m hm => ?_) (fun is' bs' li lb hI hB ho hsel ex K a' w' β1 hE hk hKn hO => ?_) β a w (Ext.refl β) hF ?_)
  · simp only [List.getD_eq_getElem?_getD, List.getElem?_map, hai m hm, Option.map_some, Option.getD_some]
    rfl
  · simp only [List.getD_eq_getElem?_getD, List.getElem?_map, hab m hm, Option.map_some, Option.getD_some]
    rfl
  · -- left
    refine hQ ex a' w' K hk ?_
    subst hO'
    subst hc'
    have hin2 := envE_in (Φ := Φ) (S := S) (is := is') (bs := bs') (by rw [li, lb]; exact T.ws)
    have hga : L.ga.length ≤ L.nI := by
      have := k11
      unfold loopNi at this
      simp only [List.length_append, List.length_map, List.length_range] at this
      omega
    have hgb : L.gb.length ≤ L.nB := by
      have := k12
      unfold loopNb at this
      simp only [List.length_append, List.length_map, List.length_range] at this
      omega
    have ho1 : ∀ p m, xi[p]? = some m → ρ.i (c.i + p) = (envE Φ S is' bs').i m := fun p m hp => by
      have hpl := (List.getElem?_eq_some_iff.1 hp).1
      rw [hcI p hpl, ho]
      simp only [T.ri, List.map_append, List.getD_eq_getElem?_getD]
      rw [List.drop_left' (by simp [k11])]
      simp only [List.map_map, List.getElem?_map, hp, Option.map_some, Option.getD_some]
      rfl
    have ho2 : ∀ (j : Nat), j < sels.length + xb.length → ρ.b (c.b + 1 + j) = ((sels ++ xb.map B.v).map (B.d (envE Φ S is' bs'))).getD j false := fun j hj => by
      have := hcB (1 + j) (by omega)
      rw [show c.b + (1 + j) = c.b + 1 + j by omega] at this
      rw [this, ho, List.map_append, List.drop_left' (by simp [k12]), show 1 + j = j + 1 by omega, List.getD_cons_succ]
    refine single_mt ?_
    obtain ⟨hO1, q0, s0, β', hK, hE', hR', hF'⟩ := hO
    have hgk : getK K (dropK .n O) = some (q0, s0) := by
      rw [dropK_get, if_neg (fun h => hKn (Kd.eq_sound h).symm)]; exact hK
    have hren : NRen { i := renI L.ga xi c.i, b := renB L.gb xb (c.b + 1 + sels.length), n := c.id } (ov (envE Φ S is' bs') ρ) ρ := by
      refine ⟨fun j a hj => ?_, fun j a hj => ?_⟩
      · simp only [renI] at hj
        split at hj
        · rename_i hlt
          simp only [Nat.blt_eq] at hlt
          rw [List.getElem?_eq_getElem hlt] at hj
          simp only [Option.map_some, Option.some.injEq] at hj
          subst hj
          rw [ov_i (by omega), hin2.1 j (by omega), hI j hlt]
          simp [A.d, hlt]
        · split at hj
          · rename_i hlt
            simp only [Nat.blt_eq] at hlt
            cases hx : idx j xi 0 with
            | none => rw [hx] at hj; simp at hj
            | some p =>
              rw [hx] at hj
              simp only [Option.map_some, Option.some.injEq] at hj
              subst hj
              rw [ov_i hlt]
              have := (idx_spec hx).2
              rw [Nat.sub_zero] at this
              exact ho1 p j this
          · rename_i hlt
            simp only [Nat.blt_eq] at hlt
            simp only [Option.some.injEq] at hj
            subst hj
            rw [ov_i' hlt]
            rfl
      · simp only [renB] at hj
        split at hj
        · rename_i hlt
          simp only [Nat.blt_eq] at hlt
          rw [List.getElem?_eq_getElem hlt] at hj
          simp only [Option.map_some, Option.some.injEq] at hj
          subst hj
          rw [ov_b (by omega), hin2.2 j (by omega), hB j hlt]
          simp [B.d, hlt]
        · split at hj
          · rename_i hlt
            simp only [Nat.blt_eq] at hlt
            cases hx : idx j xb 0 with
            | none => rw [hx] at hj; simp at hj
            | some p =>
              rw [hx] at hj
              simp only [Option.map_some, Option.some.injEq] at hj
              subst hj
              rw [ov_b hlt]
              have := (idx_spec hx).2
              rw [Nat.sub_zero] at this
              have hpl := (List.getElem?_eq_some_iff.1 this).1
              have h2 := ho2 (sels.length + p) (by omega)
              show ρ.b (c.b + 1 + sels.length + p) = _
              rw [Nat.add_assoc (c.b + 1), h2]
              simp only [List.map_append, List.getD_eq_getElem?_getD]
              rw [List.getElem?_append_right (by simp)]
              simp [this, B.d]
          · rename_i hlt
            simp only [Nat.blt_eq] at hlt
            simp only [Option.some.injEq] at hj
            subst hj
            rw [ov_b' hlt]
            rfl
    have hguard : ∀ k q' s', getK k (mapOuts (c.b + 1) { i := renI L.ga xi c.i, b := renB L.gb xb (c.b + 1 + sels.length), n := c.id } 0 (dropK .n O)) = some (q', s') →
        ∃ q s, getK k (dropK .n O) = some (q, s) ∧ Gd.d ρ q' = Gd.d (ov (envE Φ S is' bs') ρ) q ∧ s' = s.ren { i := renI L.ga xi c.i, b := renB L.gb xb (c.b + 1 + sels.length), n := c.id } := by
      intro k q' s' hk'
      have hm := mapOuts_get (m := c.b + 1) (R := { i := renI L.ga xi c.i, b := renB L.gb xb (c.b + 1 + sels.length), n := c.id }) (k := k) (O := dropK .n O) (j := 0)
      cases hgk2 : getK k (dropK .n O) with
      | none => rw [hgk2] at hm; simp only at hm; rw [hm] at hk'; cases hk'
      | some p =>
        obtain ⟨q, s⟩ := p
        rw [hgk2] at hm
        simp only at hm
        obtain ⟨i, k', e1, e2⟩ := hm
        rw [hk'] at e2
        simp only [Option.some.injEq, Prod.mk.injEq] at e2
        obtain ⟨rfl, rfl⟩ := e2
        refine ⟨q, s, rfl, ?_, rfl⟩
        obtain ⟨b, hb1, hb2⟩ := hsel i _ e1
        have hbl := (List.getElem?_eq_some_iff.1 hb1).1
        have := ho2 i (by omega)
        simp only [Gd.d_cons, Gd.d_nil, Bool.and_true, B.d]
        rw [Nat.zero_add, this, ← hb2]
        simp only [List.map_append, List.getD_eq_getElem?_getD]
        rw [List.getElem?_append_left (by simpa using hbl)]
        simp [hb1]
    refine ⟨fun k q' s' hk' => ?_, ?_⟩
    · obtain ⟨q, s, e1, e2, _⟩ := hguard k q' s' hk'
      rw [e2]
      have hne : ¬ ((Kd.n).eq k = true) := fun h => by
        rw [dropK_get, if_pos h] at e1
        cases e1
      rw [dropK_get, if_neg hne] at e1
      exact hO1 k q s e1
    · have hm := mapOuts_get (m := c.b + 1) (R := { i := renI L.ga xi c.i, b := renB L.gb xb (c.b + 1 + sels.length), n := c.id }) (k := K) (O := dropK .n O) (j := 0)
      rw [hgk] at hm
      simp only at hm
      obtain ⟨i, k', e1, e2⟩ := hm
      refine ⟨_, _, β'.cut c.id, e2, fun i r hi => cut_low (hfr i r hi) (hE' i r (hE i r hi)), ?_, fun i hi => by unfold Beta.cut; rw [if_neg (by simp only at hi; omega)]⟩
      exact Rel.ren hren hR' (hE.trans hE') hfr (fun g vs hg => hR.gl g vs hg) (fun j r hj => hR.ra j r hj)
  · -- the first turn
    refine Rel.mat (ρ1 := ρ) ⟨fun j a hj => ?_, fun j a hj => ?_⟩ hR k1
    · unfold nifE at hj
      split at hj
      · rename_i hlt
        simp only [Nat.blt_eq] at hlt
        have hjl := (List.getElem?_eq_some_iff.1 hj).1
        rw [ov_i hlt, hin.1 j (by simpa using hjl)]
        simp [hj]
      · rename_i hlt
        simp only [Nat.blt_eq] at hlt
        simp only [Option.some.injEq] at hj
        subst hj
        rw [ov_i' hlt]
        rfl
    · unfold nbfE at hj
      split at hj
      · rename_i hlt
        simp only [Nat.blt_eq] at hlt
        have hjl := (List.getElem?_eq_some_iff.1 hj).1
        rw [ov_b hlt, hin.2 j (by simpa using hjl)]
        simp [hj]
      · rename_i hlt
        simp only [Nat.blt_eq] at hlt
        simp only [Option.some.injEq] at hj
        subst hj
        rw [ov_b' hlt]
        rfl
end Go.Proofs.YtalnndmnnffnmaaGreat.Sx
