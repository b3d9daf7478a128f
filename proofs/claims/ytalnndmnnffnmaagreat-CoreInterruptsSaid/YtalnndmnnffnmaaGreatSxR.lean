/-
  SX, part R: a region that draws its order: whatever order, the same comes of it. No condition.
-/
import Derived.Test.YtalnndmnnffnmaaGreatSxM
import Derived.Test.YtalnndmnnffnmaaGreatSxMp
import Derived.Orders
set_option linter.unusedVariables false
set_option linter.unusedSimpArgs false
namespace Go.Proofs.YtalnndmnnffnmaaGreat.Sx
open Go

/-- What an operation does: where it writes, what; which blocks; what it reads; the stretches that it numbers. -/
structure DAct where
  dst : Option Tmp
  sv : SV
  bl : Hl
  rs : List Nat
  rb : List Nat
  lo : Nat
  hi : Nat
  mkm : Option Nat := none
  ins : Option (Nat × ByteArray × S) := none
  lk : List (Nat × MEs) := []
  sm : List Nat := []
def insOf (d : DAct) (M : Nat) : MEs := match d.ins with
  | some (M', k, s) => if M' == M then [(k, s)] else []
  | none => []
/-- What stands in a map behind the listed ones. -/
def insL (L : Nat → Bool) (M : Nat) : List DAct → Nat → MEs
  | [], _ => []
  | d :: l, k => (if L k then insOf d M else []) ++ insL L M l (k + 1)
theorem insL_mem {L : Nat → Bool} {M : Nat} {p : ByteArray × S} : ∀ {l : List DAct} {k : Nat}, p ∈ insL L M l k ↔ ∃ i d, l[i]? = some d ∧ L (k + i) = true ∧ p ∈ insOf d M
  | [], k => by simp [insL]
  | d :: l, k => by
    unfold insL
    rw [List.mem_append, insL_mem]
    constructor
    · rintro (h | ⟨i, e, h1, h2, h3⟩)
      · split at h
        · rename_i hk
          exact ⟨0, d, by simp, by simpa using hk, h⟩
        · cases h
      · exact ⟨i + 1, e, by simpa using h1, by rw [show k + (i + 1) = k + 1 + i by omega]; exact h2, h3⟩
    · rintro ⟨i, e, h1, h2, h3⟩
      cases i with
      | zero =>
        simp at h1
        subst h1
        simp only [Nat.add_zero] at h2
        exact .inl (by rw [if_pos h2]; exact h3)
      | succ i => exact .inr ⟨i, e, by simpa using h1, by rw [show k + 1 + i = k + (i + 1) by omega]; exact h2, h3⟩

/-- What stands behind the listed ones, each as in the text's order. -/
def tS (L : Nat → Bool) (t : Nat) : List DAct → Nat → Option SV → Option SV
  | [], _, b => b
  | d :: l, k, b => tS L t l (k + 1) (if L k && d.dst == some t then some d.sv else b)
def hS (L : Nat → Bool) (id : Nat) : List DAct → Nat → Option Blk → Option Blk
  | [], _, b => b
  | d :: l, k, b => hS L id l (k + 1) (match hpOf d.bl id with | some x => if L k then some x else b | none => b)
theorem tS_congr {L L' : Nat → Bool} {t : Nat} : ∀ {l : List DAct} {k : Nat} {b : Option SV}, (∀ i d, l[i]? = some d → d.dst = some t → L (k + i) = L' (k + i)) → tS L t l k b = tS L' t l k b
  | [], _, _, _ => rfl
  | d :: l, k, b, h => by
    unfold tS
    have e : (if L k && d.dst == some t then some d.sv else b) = (if L' k && d.dst == some t then some d.sv else b) := by
      by_cases hd : d.dst = some t
      · have := h 0 d (by simp) hd
        simp only [Nat.add_zero] at this
        rw [this]
      · have : (d.dst == some t) = false := by simpa using hd
        simp [this]
    rw [e]
    exact tS_congr fun i d hi hd => by have := h (i + 1) d (by simpa using hi) hd; rwa [show k + (i + 1) = k + 1 + i by omega] at this
theorem hS_congr {L L' : Nat → Bool} {id : Nat} : ∀ {l : List DAct} {k : Nat} {b : Option Blk}, (∀ i d, l[i]? = some d → (hpOf d.bl id).isSome = true → L (k + i) = L' (k + i)) → hS L id l k b = hS L' id l k b
  | [], _, _, _ => rfl
  | d :: l, k, b, h => by
    unfold hS
    have e : (match hpOf d.bl id with | some x => if L k then some x else b | none => b) = (match hpOf d.bl id with | some x => if L' k then some x else b | none => b) := by
      cases hd : hpOf d.bl id with
      | none => rfl
      | some x =>
        have := h 0 d (by simp) (by rw [hd]; rfl)
        simp only [Nat.add_zero] at this
        simp only [this]
    rw [e]
    exact hS_congr fun i d hi hd => by have := h (i + 1) d (by simpa using hi) hd; rwa [show k + (i + 1) = k + 1 + i by omega] at this
theorem tS_none {L : Nat → Bool} {t : Nat} : ∀ {l : List DAct} {k : Nat} {b : Option SV}, (∀ i d, l[i]? = some d → d.dst = some t → L (k + i) = false) → tS L t l k b = b
  | [], _, _, _ => rfl
  | d :: l, k, b, h => by
    unfold tS
    rw [tS_none fun i d hi hd => by have := h (i + 1) d (by simpa using hi) hd; rwa [show k + (i + 1) = k + 1 + i by omega] at this]
    by_cases hd : d.dst = some t
    · have := h 0 d (by simp) hd
      simp only [Nat.add_zero] at this
      simp [this]
    · have : (d.dst == some t) = false := by simpa using hd
      simp [this]
theorem hS_none {L : Nat → Bool} {id : Nat} : ∀ {l : List DAct} {k : Nat} {b : Option Blk}, (∀ i d, l[i]? = some d → (hpOf d.bl id).isSome = true → L (k + i) = false) → hS L id l k b = b
  | [], _, _, _ => rfl
  | d :: l, k, b, h => by
    unfold hS
    rw [hS_none fun i d hi hd => by have := h (i + 1) d (by simpa using hi) hd; rwa [show k + (i + 1) = k + 1 + i by omega] at this]
    cases hd : hpOf d.bl id with
    | none => rfl
    | some x =>
      have := h 0 d (by simp) (by rw [hd]; rfl)
      simp only [Nat.add_zero] at this
      simp [this]
theorem tS_last {t : Nat} {j : Nat} {d : DAct} (hd : d.dst = some t) : ∀ {l : List DAct} {k : Nat} {b : Option SV}, k ≤ j → l[j - k]? = some d → tS (fun i => Nat.ble i j) t l k b = some d.sv
  | [], k, b, hk, h => by simp at h
  | e :: l, k, b, hk, h => by
    unfold tS
    by_cases hjk : k = j
    · subst hjk
      simp at h
      subst h
      rw [tS_none fun i d' hi _ => by simp only [Bool.eq_false_iff, ne_eq, Nat.ble_eq]; omega]
      have h1 : Nat.ble k k = true := by simp
      have h2 : (e.dst == some t) = true := by simp [hd]
      simp [h1, h2]
    · refine tS_last hd (by omega) ?_
      rw [show j - k = (j - (k + 1)) + 1 by omega] at h
      simpa using h
theorem hS_last {id : Nat} {j : Nat} {d : DAct} {x : Blk} (hd : hpOf d.bl id = some x) : ∀ {l : List DAct} {k : Nat} {b : Option Blk}, k ≤ j → l[j - k]? = some d → hS (fun i => Nat.ble i j) id l k b = some x
  | [], k, b, hk, h => by simp at h
  | e :: l, k, b, hk, h => by
    unfold hS
    by_cases hjk : k = j
    · subst hjk
      simp at h
      subst h
      rw [hS_none fun i d' hi _ => by simp only [Bool.eq_false_iff, ne_eq, Nat.ble_eq]; omega]
      have h1 : Nat.ble k k = true := by simp
      simp [hd]
    · refine hS_last hd (by omega) ?_
      rw [show j - k = (j - (k + 1)) + 1 by omega] at h
      simpa using h

/-! ### One operation, by what it reads alone -/
structure Com (x : Cx) (ρ : Env) (n : Nat) (β : Beta) (a : Act) (w : World) : Prop where
  size : a.tmps.size = n
  df : a.defers = []
  gm : heapMt β ρ (hpOf x.gh) w
  gro : ∀ id b, hpOf x.gh id = some b → b.ro = true
  bo : BetaOk x.w0.heap.size x.R β w
  kp : Keep x.R x.w0 w
  gl : ∀ (g : Nat) (vs : List Value), x.gl[g]? = some vs → β g = some (gRg g vs)
  ra : ∀ (j : Nat) (r : Rg), x.gr[j]? = some r → β (x.ng + j) = some r
theorem Rel.com {x : Cx} {ρ : Env} {β : Beta} {σ : St} {a : Act} {w : World} (h : Rel x ρ β σ a w) : Com x ρ σ.tm.length β a w :=
  ⟨h.size, h.df, h.gm, h.gro, h.bo, h.kp, h.gl, h.ra⟩

def fvIds : FV → List Nat
  | none => []
  | some p => p.2.map (·.1)
def cIds : List C → List Nat
  | [] => []
  | .ptr l i _ :: r => i :: (ptrIds l ++ cIds r)
  | .pix i _ _ _ _ _ :: r => i :: cIds r
  | .sli i _ _ _ :: r => i :: cIds r
  | .slx i _ _ _ :: r => i :: cIds r
  | .pxq i _ _ _ _ :: r => i :: cIds r
  | .fn l d :: r => fvIds d ++ ((l.map fun p => fvIds p.2).flatten ++ cIds r)
  | .mp i :: r => i :: cIds r
  | _ :: r => cIds r
def sIds : S → List Nat
  | .one _ l => cIds l
  | _ => []
def tmpsOf : List Operand → List Nat
  | [] => []
  | .tmp t :: l => t :: tmpsOf l
  | _ :: l => tmpsOf l
def hpR (gh : Hl) (ng : Nat) (hp : Hl) (ids : List Nat) : Hp := fun i => if Nat.blt i ng then hpOf gh i else if ids.contains i then hpOf hp i else none
def gSlot (ops : Array Oper) (o : Oper) : List Nat :=
  match o.guard with
  | none => []
  | some (j, _) => match (ops[j]?).bind (·.dst) with | some t => [t] | none => []

/-- Operations that look at no block, whatever they are handed. -/
def blind : Op → Bool
  | .move _ => true
  | .nilCheck _ => true
  | .fieldAddr _ _ _ => true
  | .binOp _ _ _ _ _ => true
  | .pick _ _ _ => true
  | .assign _ => true
  | .field _ _ _ => true
  | .indexAddr _ _ _ => true
  | .extract _ _ => true
  | .makeFunc _ _ _ => true
  | _ => false
/-- What these lead to. -/
def reachH (hp : Hp) : Nat → List Nat → List Nat
  | 0, l => l
  | n + 1, l => reachH hp n (dedupN (l ++ (l.map fun i => match hp i with | some b => cIds b.cells | none => []).flatten))
def isCall : Op → Bool
  | .call _ => true
  | _ => false
def rdIds (ng : Nat) (σ : St) (o : Oper) : List Nat := if blind o.op then [] else
  let l := (o.op.operands.toList.map fun x => sIds (ev ng σ x).s).flatten
  if isCall o.op then reachH (hpOf σ.hp) 3 l else l

def layD (Γ : Gd) (lo : Nat) : List (Nat × Blk) → Option Hl
  | [] => some []
  | (id, b) :: l => match layD Γ lo l with
    | none => none
    | some r => if Γ.isEmpty then some ((id, b) :: r) else if Nat.ble lo id && b.g.isEmpty then some ((id, { b with g := Γ }) :: r) else none
/-- The same cell, word by word. -/
def cSame : C → C → Bool
  | .int k a, .int l b => k == l && a.eq b
  | .bool a, .bool b => a.eq b
  | .ptr [] i o, .ptr [] j p => i == j && o == p
  | .str a, .str b => a.eq b
  | .val u, .val v => vEq u v
  | .sli i o l c, .sli j p m d => i == j && o == p && l == m && c == d
  | .slx i ks q l, .slx j ks' q' l' => i == j && cksEq ks ks' && q.eq q' && l.eq l'
  | .fn [] d, .fn [] e => d == e
  | _, _ => false
theorem cSame_sound {x y : C} (h : cSame x y = true) : x = y := by
  unfold cSame at h
  split at h <;> (try simp only [Bool.and_eq_true, beq_iff_eq] at h)
  · rw [h.1, A.eq_sound h.2]
  · rw [B.eq_sound h]
  · rw [h.1, h.2]
  · rw [A.eq_sound h]
  · rw [vEq_sound h]
  · rw [h.1.1.1, h.1.1.2, h.1.2, h.2]
  · rw [h.1.1.1, cksEq_sound h.1.1.2, A.eq_sound h.1.2, A.eq_sound h.2]
  · rw [h]
  · cases h
def lSame : List C → List C → Bool
  | [], [] => true
  | x :: l, y :: m => cSame x y && lSame l m
  | _, _ => false
theorem lSame_sound : ∀ {l m : List C}, lSame l m = true → l = m
  | [], [], _ => rfl
  | x :: l, y :: m, h => by
    simp only [lSame, Bool.and_eq_true] at h
    rw [cSame_sound h.1, lSame_sound h.2]
  | [], _ :: _, h => by simp [lSame] at h
  | _ :: _, [], h => by simp [lSame] at h
/-- Does a block stay as it was? -/
def stays (ng : Nat) (hp : Hl) (ids : List Nat) (p : Nat × Blk) : Bool := !(Nat.blt p.1 ng) && ids.contains p.1 && match hpOf hp p.1 with
  | some b => lSame b.cells p.2.cells && b.ro == p.2.ro
  | none => false
def opD (P : Program) (X : Hnd) (gh : Hl) (ng : Nat) (ops : Array Oper) (o : Oper) (σ : St) : M DAct := do
  let g ← lift (gdOf ops σ o)
  let rs := tmpsOf o.op.operands.toList ++ gSlot ops o
  let lo ← getId
  match normG g with
  | none => pure { dst := o.dst, sv := undefSV, bl := [], rs := rs, rb := [], lo := lo, hi := lo }
  | some Γ => do
    let ids := rdIds ng σ o
    let r ← M.mono (M.under Γ (opx P X Γ (hpR gh ng σ.hp ids) (ev ng σ) o.op))
    let hi ← getId
    let bl ← lift (layD Γ lo (r.w.filter fun p => !(stays ng σ.hp ids p)))
    pure { dst := o.dst, sv := { g := Γ, s := r.s }, bl := bl, rs := rs, rb := ids, lo := lo, hi := hi, sm := (r.w.filter (stays ng σ.hp ids)).map (·.1) }
def applyD (d : DAct) (σ : St) : Option St :=
  match setT σ.tm d.dst d.sv with
  | some tm => some { tm := tm, hp := d.bl ++ σ.hp }
  | none => none

section
variable {P : Program} {Φ : Funs} {X : Hnd} {x : Cx} {ρ : Env}

/-- What an operation's action is worth, wherever what it reads is as it was. -/
def ActOk (P : Program) (x : Cx) (ρ : Env) (ops : Array Oper) (o : Oper) (σ : St) (d : DAct) : Prop :=
  d.dst = o.dst ∧ d.lo ≤ d.hi ∧ (∀ i, i ∈ d.sm → i ∈ d.rb) ∧ (∀ M, d.mkm = some M → d.lo ≤ M ∧ M < d.hi) ∧ ∀ (β : Beta) (a : Act) (w : World), Com x ρ σ.tm.length β a w →
    (∀ t, t ∈ d.rs → ∀ v, σ.tm[t]? = some v → v.mt β ρ (a.tmps.getD t undef)) →
    (∀ id, id ∈ d.rb → ∀ b, hpOf σ.hp id = some b → Gd.d ρ b.g = true → blkMt β ρ w id b) →
    (∀ i, d.lo ≤ i → i < d.hi → β i = none) → (∀ p, p ∈ d.lk → mapMt x.w0.heap.size β ρ w p.1 p.2 ∧ (p.2.map (·.1)).Nodup) →
    (∀ M k s, d.ins = some (M, k, s) → ∃ es, mapMt x.w0.heap.size β ρ w M es ∧ ∀ p, p ∈ es → p.1 ≠ k) → ∀ (next : Act → World → Prop) (Q : Exit → Act → World → Prop),
    (∀ v w' β', Ext β β' → Com x ρ σ.tm.length β' (a.put o.dst v) w' → (∀ i, (i < d.lo ∨ d.hi ≤ i) → β' i = β i) → d.sv.mt β' ρ v → (∀ id b, hpOf d.bl id = some b → Gd.d ρ b.g = true → blkMt β' ρ w' id b) →
      (∀ id b, hpOf d.bl id = none → (id ∈ d.sm → hpOf σ.hp id = some b) → blkMt β ρ w id b → blkMt β' ρ w' id b) → (∀ M es, mapMt x.w0.heap.size β ρ w M es → (∀ k s, d.ins = some (M, k, s) → ∀ p, p ∈ es → p.1 ≠ k) → mapMt x.w0.heap.size β' ρ w' M (es ++ insOf d M)) →
      (∀ M, d.mkm = some M → mapMt x.w0.heap.size β' ρ w' M []) → next (a.put o.dst v) w') →
    if Region.wanted o (yielded ops a.tmps) then o.wp P a w next Q else next (a.put o.dst undef) w

theorem mem_tmpsOf : ∀ {l : List Operand} {t : Nat}, Operand.tmp t ∈ l → t ∈ tmpsOf l
  | o :: l, t, h => by
    rcases List.mem_cons.1 h with rfl | h
    · simp [tmpsOf]
    · have := mem_tmpsOf h
      cases o <;> simp [tmpsOf, this]
/-- An operand's slot, read alone. -/
theorem ev_mt' {β : Beta} {σ : St} {a : Act} {w : World} (h : Com x ρ σ.tm.length β a w) (o : Operand) (ho : ∀ t, o = .tmp t → ∀ v, σ.tm[t]? = some v → v.mt β ρ (a.tmps.getD t undef)) : (ev x.ng σ o).mt β ρ (a.eval o) := by
  cases o with
  | tmp t =>
    show (σ.tm.getD t anySV).mt β ρ (a.tmps.getD t undef)
    rw [List.getD_eq_getElem?_getD]
    cases ht : σ.tm[t]? with
    | none => exact anySV_mt _
    | some v => exact ho t rfl v ht
  | const v => exact ⟨fun _ => ofV_mt v, fun h => (by cases h)⟩
  | global g =>
    show (if Nat.blt g x.ng then ({ g := [], s := .one false [.ptr [] g 0] } : SV) else anySV).mt β ρ (.pointer (some ⟨g, 0, none⟩))
    split
    · rename_i hg
      simp only [Nat.blt_eq] at hg
      exact ⟨fun _ => ⟨_, rfl, _, h.gl g _ (List.getElem?_eq_getElem hg), by simp [pick, gRg]⟩, fun h => (by cases h)⟩
    · exact anySV_mt _
  | func f => exact ⟨fun _ => ⟨_, rfl, rfl, rfl⟩, fun h => (by cases h)⟩
theorem gdOf_wanted' {n : Nat} {β : Beta} {σ : St} {a : Act} {w : World} (h : a.tmps.size = σ.tm.length) {ops : Array Oper} {o : Oper} {g : Gd} (hs : ∀ t, t ∈ gSlot ops o → ∀ v, σ.tm[t]? = some v → v.mt β ρ (a.tmps.getD t undef)) (hg : gdOf ops σ o = some g) :
    Region.wanted o (yielded ops a.tmps) = Gd.d ρ g := by
  unfold gdOf at hg
  unfold gSlot at hs
  unfold Region.wanted
  split at hg
  · rename_i h1
    simp only [Option.some.injEq] at hg
    subst hg
    rw [h1]
    rfl
  · rename_i j want h1
    rw [h1] at hs ⊢
    simp only at hs ⊢
    split at hg
    · cases hg
    · rename_i t ht
      rw [ht] at hs
      simp only at hs
      split at hg
      · rename_i g' b hsv
        simp only [Option.some.injEq] at hg
        subst hg
        have hlt : t < a.tmps.size := by rw [h]; exact (List.getElem?_eq_some_iff.1 hsv).1
        have hm := hs t (by simp) _ hsv
        unfold yielded
        rw [ht]
        simp only [Option.bind_some]
        have hget : a.tmps[t]? = some (a.tmps.getD t undef) := by simp [hlt]
        rw [hget]
        cases hgd : Gd.d ρ g'
        · have := hm.2 hgd
          rw [this]
          simp [undef, hgd]
        · have := mt_bool rfl (hm.1 hgd)
          rw [this]
          simp [hgd]
      · rename_i g' sg' hsv
        simp only [Option.some.injEq] at hg
        subst hg
        have hlt : t < a.tmps.size := by rw [h]; exact (List.getElem?_eq_some_iff.1 hsv).1
        have hm := hs t (by simp) _ hsv
        unfold yielded
        rw [ht]
        simp only [Option.bind_some]
        have hget : a.tmps[t]? = some (a.tmps.getD t undef) := by simp [hlt]
        rw [hget]
        have hgd : ∀ l : Gd, Gd.d ρ ((.c true, false) :: l) = false := fun l => by rw [Gd.d_cons]; rfl
        rw [hm.2 (hgd _), hgd]
        simp [undef]
      · cases hg
theorem layD_spec {Γ : Gd} {lo : Nat} : ∀ {l : List (Nat × Blk)} {r : Hl}, layD Γ lo l = some r → (∀ id b, hpOf r id = some b → ∃ b', (id, b') ∈ l ∧ (b = b' ∨ (b = { b' with g := Γ }))) ∧ (∀ id, hpOf r id = none → id ∉ l.map (·.1)) ∧ (Γ ≠ [] → ∀ id b, hpOf r id = some b → b.g = Γ)
  | [], r, h => by simp only [layD, Option.some.injEq] at h; subst h; simp [hpOf]
  | (i, b0) :: l, r, h => by
    unfold layD at h
    split at h
    · cases h
    · rename_i r' hr
      obtain ⟨h1, h2, h3⟩ := layD_spec hr
      split at h
      · rename_i hΓ
        simp only [Option.some.injEq] at h
        subst h
        rw [List.isEmpty_iff] at hΓ
        refine ⟨fun id b hb => ?_, fun id hn => ?_, fun hne => absurd hΓ hne⟩
        · unfold hpOf at hb
          split at hb
          · rename_i he
            simp only [beq_iff_eq] at he
            simp only [Option.some.injEq] at hb
            subst he; subst hb
            exact ⟨b0, by simp, .inl rfl⟩
          · obtain ⟨b', hb', hx⟩ := h1 id b hb
            exact ⟨b', by simp [hb'], hx⟩
        · unfold hpOf at hn
          split at hn
          · cases hn
          · rename_i he
            have := h2 id hn
            simp only [List.map_cons, List.mem_cons, not_or]
            exact ⟨fun e => he (by simp [e]), this⟩
      · split at h
        · rename_i hc
          simp only [Option.some.injEq] at h
          subst h
          refine ⟨fun id b hb => ?_, fun id hn => ?_, fun hne id b hb => ?_⟩
          · unfold hpOf at hb
            split at hb
            · rename_i he
              simp only [beq_iff_eq] at he
              simp only [Option.some.injEq] at hb
              subst he; subst hb
              exact ⟨b0, by simp, .inr rfl⟩
            · obtain ⟨b', hb', hx⟩ := h1 id b hb
              exact ⟨b', by simp [hb'], hx⟩
          · unfold hpOf at hn
            split at hn
            · cases hn
            · rename_i he
              have := h2 id hn
              simp only [List.map_cons, List.mem_cons, not_or]
              exact ⟨fun e => he (by simp [e]), this⟩
          · unfold hpOf at hb
            split at hb
            · simp only [Option.some.injEq] at hb
              subst hb
              rfl
            · exact h3 hne id b hb
        · cases h

theorem opD_lk {ops : Array Oper} {o : Oper} {σ : St} {gh : Hl} {ng : Nat} {c c' : Ctr} {d : DAct} {out : List Em} (h : opD P X gh ng ops o σ c = some (d, c', out)) : d.lk = [] := by
  unfold opD at h
  obtain ⟨g, c1, o1, c2, o2, y, h1, h2, he⟩ := M.bind_inv h
  simp only [Prod.mk.injEq] at he
  obtain ⟨rfl, rfl, rfl⟩ := he
  obtain ⟨lo, c3, o3, c4, o4, y, h3, h4, he⟩ := M.bind_inv h2
  simp only [Prod.mk.injEq] at he
  obtain ⟨rfl, rfl, rfl⟩ := he
  cases hno : normG g with
  | none =>
    rw [hno] at h4
    have he := M.pure_inv h4
    simp only [Prod.mk.injEq] at he
    rw [he.1]
  | some Γ =>
    rw [hno] at h4
    obtain ⟨r, c5, o5, c6, o6, y, h5, h6, he⟩ := M.bind_inv h4
    simp only [Prod.mk.injEq] at he
    obtain ⟨rfl, rfl, rfl⟩ := he
    obtain ⟨hi, c7, o7, c8, o8, y, h7, h8, he⟩ := M.bind_inv h6
    simp only [Prod.mk.injEq] at he
    obtain ⟨rfl, rfl, rfl⟩ := he
    obtain ⟨bl, c9, o9, c10, o10, y, h9, h10, he⟩ := M.bind_inv h8
    simp only [Prod.mk.injEq] at he
    obtain ⟨rfl, rfl, rfl⟩ := he
    have he := M.pure_inv h10
    simp only [Prod.mk.injEq] at he
    rw [he.1]
theorem opD_ok (hX : HOk P Φ x.gl X) (hG : ∀ w, Keep x.R x.w0 w → Laid x.gl w) {ops : Array Oper} {o : Oper} {σ : St} {c c' : Ctr} {d : DAct} {out : List Em} (h : opD P X x.gh x.ng ops o σ c = some (d, c', out)) (hg : Good Φ ρ out) :
    ActOk P x ρ ops o σ d ∧ d.lo = c.id ∧ d.hi = c'.id := by
  unfold opD at h
  obtain ⟨g, c1, o1, c2, o2, y, h1, h2, he⟩ := M.bind_inv h
  simp only [Prod.mk.injEq] at he
  obtain ⟨rfl, rfl, rfl⟩ := he
  obtain ⟨g', hgd, he⟩ := lift_inv h1
  simp only [Prod.mk.injEq] at he
  obtain ⟨rfl, rfl, rfl⟩ := he
  obtain ⟨lo, c3, o3, c4, o4, y, h3, h4, he⟩ := M.bind_inv h2
  simp only [Prod.mk.injEq] at he
  obtain ⟨rfl, rfl, rfl⟩ := he
  simp only [getId, Option.some.injEq, Prod.mk.injEq] at h3
  obtain ⟨rfl, rfl, rfl⟩ := h3
  cases hno : normG g with
  | none =>
    rw [hno] at h4
    have he := M.pure_inv h4
    simp only [Prod.mk.injEq] at he
    obtain ⟨rfl, rfl, rfl⟩ := he
    refine ⟨⟨rfl, Nat.le_refl _, fun i hi => (by cases hi), fun M hM => (by cases hM), fun β a w hC hsl hbl hf _ _ next Q hn => ?_⟩, rfl, rfl⟩
    rw [gdOf_wanted' (n := 0) (w := w) hC.size (fun t ht => hsl t (by simp [ht])) hgd, normG_none (ρ := ρ) hno]
    simp only [Bool.false_eq_true, if_false]
    exact hn undef w β (Ext.refl β) ⟨(put_tmps a _ _).2.trans hC.size, (put_tmps a _ _).1.trans hC.df, hC.gm, hC.gro, hC.bo, hC.kp, hC.gl, hC.ra⟩ (fun _ _ => rfl) undefSV_mt (fun id b hb => by simp [hpOf] at hb) (fun _ _ _ _ h => h) (fun M es h _ => by rw [show insOf _ M = [] from rfl, List.append_nil]; exact h) (fun M hM => by cases hM)
  | some Γ =>
    rw [hno] at h4
    obtain ⟨r, c5, o5, c6, o6, y, h5, h6, he⟩ := M.bind_inv h4
    simp only [Prod.mk.injEq] at he
    obtain ⟨rfl, rfl, rfl⟩ := he
    obtain ⟨h5, hle⟩ := mono_inv h5
    simp only at hle
    obtain ⟨r', c5', o5', h5', he⟩ := under_inv h5
    simp only [Prod.mk.injEq] at he
    obtain ⟨rfl, rfl, rfl⟩ := he
    obtain ⟨hi, c7, o7, c8, o8, y, h7, h8, he⟩ := M.bind_inv h6
    simp only [Prod.mk.injEq] at he
    obtain ⟨rfl, rfl, rfl⟩ := he
    simp only [getId, Option.some.injEq, Prod.mk.injEq] at h7
    obtain ⟨rfl, rfl, rfl⟩ := h7
    obtain ⟨bl, c9, o9, c10, o10, y, h9, h10, he⟩ := M.bind_inv h8
    simp only [Prod.mk.injEq] at he
    obtain ⟨rfl, rfl, rfl⟩ := he
    obtain ⟨bl', hlay, he⟩ := lift_inv h9
    simp only [Prod.mk.injEq] at he
    obtain ⟨rfl, rfl, rfl⟩ := he
    have he := M.pure_inv h10
    simp only [Prod.mk.injEq] at he
    obtain ⟨rfl, rfl, rfl⟩ := he
    simp only [Good.append] at hg
    have hg5 := hg.2.2.1
    have hsm : ∀ i, i ∈ ((r.w.filter (stays x.ng σ.hp (rdIds x.ng σ o))).map (·.1)) → i ∈ rdIds x.ng σ o ∧ ∃ b b', hpOf σ.hp i = some b ∧ (i, b') ∈ r.w ∧ b.cells = b'.cells ∧ b.ro = b'.ro := fun i hi => by
      obtain ⟨p, hp, rfl⟩ := List.mem_map.1 hi
      rw [List.mem_filter] at hp
      obtain ⟨hp1, hp2⟩ := hp
      unfold stays at hp2
      simp only [Bool.and_eq_true] at hp2
      obtain ⟨⟨h1, h2⟩, h3⟩ := hp2
      refine ⟨by simpa using h2, ?_⟩
      split at h3
      · rename_i b hb
        simp only [Bool.and_eq_true, beq_iff_eq] at h3
        exact ⟨b, p.2, hb, hp1, lSame_sound h3.1, h3.2⟩
      · cases h3
    refine ⟨⟨rfl, hle, fun i hi => (hsm i hi).1, fun M hM => (by cases hM), fun β a w hC hsl hbl hf _ _ next Q hn => ?_⟩, rfl, rfl⟩
    have hΓe := normG_some (ρ := ρ) hno
    rw [gdOf_wanted' (n := 0) (w := w) hC.size (fun t ht => hsl t (by simp [ht])) hgd]
    obtain ⟨l1, l2, l3⟩ := layD_spec hlay
    cases hgg : Gd.d ρ g
    · simp only [Bool.false_eq_true, if_false]
      rw [hgg] at hΓe
      have hne : Γ ≠ [] := fun e => by subst e; cases hΓe
      refine hn undef w β (Ext.refl β) ⟨(put_tmps a _ _).2.trans hC.size, (put_tmps a _ _).1.trans hC.df, hC.gm, hC.gro, hC.bo, hC.kp, hC.gl, hC.ra⟩ (fun _ _ => rfl) ⟨fun h => (by simp only at h; rw [hΓe] at h; cases h), fun _ => rfl⟩ (fun id b hb hbg => ?_) (fun _ _ _ _ h => h) (fun M es h _ => by rw [show insOf _ M = [] from rfl, List.append_nil]; exact h) (fun M hM => by cases hM)
      rw [l3 hne id b hb, hΓe] at hbg
      cases hbg
    · simp only [if_true]
      rw [hgg] at hΓe
      have hg1' := Good.under hΓe hg5
      have hlok := opx_ok (Γ := Γ) hX o ρ _ _ _ _ h5' hg1' hΓe x.w0.heap.size x.R β a w (fun z hz => ev_mt' hC z fun t ht => hsl t (by simp only [List.mem_append]; exact .inl (mem_tmpsOf (by rw [ht] at hz; simpa using hz)))) (fun id b hb hbg => by
          unfold hpR at hb
          split at hb
          · exact hC.gm id b hb hbg
          · split at hb
            · rename_i hc
              exact hbl id (by simpa using hc) b hb hbg
            · cases hb) hC.bo hC.kp.size ⟨hG w hC.kp, hC.gl⟩ (fun i hi1 hi2 => hf i hi1 hi2)
      refine hlok next Q fun v w' hpost => ?_
      obtain ⟨β', hst, hsv, hblk⟩ := hpost
      obtain ⟨W, hW, hkW⟩ := hst.kp
      refine hn v w' β' hst.ext ⟨(put_tmps a _ _).2.trans hC.size, (put_tmps a _ _).1.trans hC.df, fun id b hb hbg => ?_, hC.gro, hst.bo, hC.kp.trans hkW fun r hr => ?_, fun g vs hg => hst.ext _ _ (hC.gl g vs hg), fun j r hr => hst.ext _ _ (hC.ra j r hr)⟩ hst.dom
        ⟨fun _ => hsv, fun h => (by simp only at h; rw [hΓe] at h; cases h)⟩ (fun id b hb hbg => ?_) (fun id b hnb hsmb hb => ?_)
        (fun M es h _ => by
          rw [show insOf _ M = [] from rfl, List.append_nil]
          exact mapMt_ext hst.ext (live_map (fun r hr => by obtain ⟨_, _, _, _, hl⟩ := hW r hr; exact hl) hkW) h)
        (fun M hM => by cases hM)
      · have hgm := hC.gm id b hb hbg
        refine blkMt_keep hst.ext hC.bo hkW (fun r q hr hq => ?_) hgm
        obtain ⟨id', hid', hβ', hro, _⟩ := hW r hr
        refine hC.bo.apartW (fun e => ?_) hβ' hq hro
        subst e
        obtain ⟨q', hq', _, hro', _⟩ := hgm
        rw [hβ'] at hq'
        cases hq'
        rw [hro, hC.gro _ b hb] at hro'
        cases hro'
      · obtain ⟨id', hid', hβ', hro, _⟩ := hW r hr
        rcases hC.bo.may id' r hβ' with h | h
        · rw [hro] at h; cases h
        · exact h
      · obtain ⟨b', hb', he⟩ := l1 id b hb
        have := hblk _ (List.mem_filter.1 hb').1
        rcases he with rfl | rfl
        · exact this
        · exact this
      · by_cases hs : id ∈ ((r.w.filter (stays x.ng σ.hp (rdIds x.ng σ o))).map (·.1))
        · obtain ⟨_, b1, b', hb1, hbm, hc1, hr1⟩ := hsm id hs
          have hbb := hsmb hs
          rw [hb1] at hbb
          simp only [Option.some.injEq] at hbb
          subst hbb
          obtain ⟨r', g1, g2, g3, g4, g5⟩ := hblk _ hbm
          exact ⟨r', g1, by rw [g2, hc1], by rw [g3, hr1], by rw [hc1]; exact g4, fun h0 j hj => g5 (by rw [← hr1]; exact h0) j (by rw [← hc1]; exact hj)⟩
        · refine blkMt_keep hst.ext hC.bo hkW (fun r' q hr hq => ?_) hb
          obtain ⟨id', hid', hβ', hro, _⟩ := hW r' hr
          refine hC.bo.apartW (i := id') (j := id) (fun e => ?_) hβ' hq hro
          subst e
          obtain ⟨p, hp, he⟩ := List.mem_map.1 hid'
          by_cases hst' : stays x.ng σ.hp (rdIds x.ng σ o) p = true
          · exact hs (List.mem_map.2 ⟨p, List.mem_filter.2 ⟨hp, hst'⟩, he⟩)
          · exact l2 _ hnb (List.mem_map.2 ⟨p, List.mem_filter.2 ⟨hp, by simpa using hst'⟩, he⟩)

/-! ### Operations on maps -/
theorem heap_set_other {w : World} {k b : Nat} {o : Obj} (h : k ≠ b) : (w.heap.setIfInBounds b o)[k]? = w.heap[k]? := Array.getElem?_setIfInBounds_ne (fun e => h e.symm)
/-- A map's entries are turned: no cell is. -/
theorem set_map_cell {w : World} {b : Nat} {ents ents' : Array MapEntry} {c c' : Nat} (hb : w.heap[b]? = some (.map ents c)) (a : Addr) : ({ w with heap := w.heap.setIfInBounds b (.map ents' c') } : World).cell? a = w.cell? a ∧
    ({ w with heap := w.heap.setIfInBounds b (.map ents' c') } : World).frozen? a = w.frozen? a := by
  unfold World.cell? World.frozen?
  simp only
  by_cases h : a.block = b
  · rw [h, hb]
    have hlt := (Array.getElem?_eq_some_iff.1 hb).1
    have : (w.heap.setIfInBounds b (.map ents' c'))[b]? = some (.map ents' c') := by simp [hlt]
    rw [this]
    exact ⟨rfl, rfl⟩
  · rw [heap_set_other h]
    exact ⟨rfl, rfl⟩
theorem set_map_keep {w0 w : World} {R : List Rg} {b : Nat} {ents ents' : Array MapEntry} {c c' : Nat} (hb : w.heap[b]? = some (.map ents c)) (hk : Keep R w0 w) (hn : w0.heap.size ≤ b) : Keep R w0 { w with heap := w.heap.setIfInBounds b (.map ents' c') } := by
  refine ⟨hk.os, hk.tape, hk.output, by simpa using hk.size, fun a ha h => ?_, fun a ha => ?_, fun k h => ?_, fun k h hr => ?_⟩
  · rw [(set_map_cell hb a).1]; exact hk.cell a ha h
  · rw [(set_map_cell hb a).2]; exact hk.frz a ha
  · have : ({ w with heap := w.heap.setIfInBounds b (.map ents' c') } : World).shape? k = w.shape? k := by
      unfold World.shape?
      simp only
      rw [heap_set_other (by omega)]
    rw [this]; exact hk.shp k h
  · show (w.heap.setIfInBounds b _)[k]? = _
    rw [heap_set_other (by omega)]
    exact hk.blk k h hr
theorem blkMt_cells {β : Beta} {ρ : Env} {w w' : World} (h : ∀ a, w'.cell? a = w.cell? a ∧ w'.frozen? a = w.frozen? a) {id : Nat} {b : Blk} (hm : blkMt β ρ w id b) : blkMt β ρ w' id b := by
  obtain ⟨r, hr, hl, hro, hc, hf⟩ := hm
  exact ⟨r, hr, hl, hro, cellsAt_congr (Ext.refl β) (fun j hj => (h _).1) hc, fun h0 j hj => by rw [(h _).2]; exact hf h0 j hj⟩
theorem betaOk_cells {N : Nat} {R : List Rg} {β : Beta} {w w' : World} (h : ∀ a, w'.cell? a = w.cell? a) (hs : w.heap.size ≤ w'.heap.size) (hb : BetaOk N R β w) : BetaOk N R β w' := by
  refine ⟨hb.apart, fun i r hi => by have := hb.place i r hi; omega, hb.may, fun i r ks l hi hq => ?_⟩
  obtain ⟨h1, h2, h3⟩ := hb.sq i r ks l hi hq
  exact ⟨h1, h2, fun j n hj => by obtain ⟨ck, v, g1, g2, g3⟩ := h3 j n hj; exact ⟨ck, v, g1, by rw [h]; exact g2, g3⟩⟩
def mpOf (x : SV) : Option Nat := match x with
  | { g := [], s := .one false [.mp M] } => some M
  | _ => none
theorem mpOf_spec {x : SV} {M : Nat} (h : mpOf x = some M) : x = { g := [], s := .one false [.mp M] } := by
  unfold mpOf at h
  split at h
  · simp only [Option.some.injEq] at h
    subst h
    rfl
  · cases h
def esOf (M : Nat) : List (Nat × MEs) → MEs
  | [] => []
  | (m, es) :: l => if m == M then es ++ esOf M l else esOf M l
/-- Operations on maps. -/
inductive MapOp where
  | mak (t : TypeId)
  | ins (t : TypeId) (m : Operand) (key : ByteArray) (v : Operand)
  | look (t : TypeId) (m k : Operand)
def mapOp (o : Oper) : Option MapOp := match o.guard with
  | some _ => none
  | none => match o.op with
    | .makeMap t none => some (.mak t)
    | .insert t m (.const (.string key)) v => some (.ins t m key v)
    | .lookup t m k false => some (.look t m k)
    | _ => none
theorem mapOp_spec {o : Oper} {x : MapOp} (h : mapOp o = some x) : o.guard = none ∧ match x with
    | .mak t => o.op = .makeMap t none
    | .ins t m key v => o.op = .insert t m (.const (.string key)) v
    | .look t m k => o.op = .lookup t m k false := by
  unfold mapOp at h
  split at h
  · cases h
  · rename_i hg
    refine ⟨hg, ?_⟩
    split at h <;> first | (simp only [Option.some.injEq] at h; subst h; assumption) | cases h
def opMak (o : Oper) : M DAct := do
  let id ← newId
  pure { dst := o.dst, sv := { g := [], s := .one false [.mp id] }, bl := [], rs := [], rb := [], lo := id, hi := id + 1, mkm := some id }
def opIns (P : Program) (ng : Nat) (o : Oper) (σ : St) (t : TypeId) (m : Operand) (key : ByteArray) (v : Operand) : M DAct := do
  let lo ← getId
  let id ← lift (mpOf (ev ng σ m))
  let _ ← lift (strMap P t)
  pure { dst := o.dst, sv := anySV, bl := [], rs := tmpsOf [m, v], rb := [], lo := lo, hi := lo, ins := some (id, key, rs [] (ev ng σ v)) }
def keyOf1 (s : S) : Option A := match s with
  | .one false [c] => asStr c
  | _ => none
theorem keyOf1_spec {s : S} {q : A} (h : keyOf1 s = some q) : ∃ c, s = .one false [c] ∧ asStr c = some q := by
  unfold keyOf1 at h
  split at h
  · exact ⟨_, rfl, h⟩
  · cases h
def opLook (P : Program) (ng : Nat) (o : Oper) (σ : St) (acc : List DAct) (t : TypeId) (m k : Operand) : M DAct := do
  let lo ← getId
  let id ← lift (mpOf (ev ng σ m))
  let e ← lift (strMap P t)
  let z ← lift (zeroS P e)
  let q ← lift (keyOf1 (rs [] (ev ng σ k)))
  let s ← M.mono (lookM q z (insL (fun _ => true) id acc 0))
  let hi ← getId
  pure { dst := o.dst, sv := { g := [], s := s }, bl := [], rs := tmpsOf [m, k], rb := [], lo := lo, hi := hi, lk := [(id, insL (fun _ => true) id acc 0)] }
/-- An operation on a map; or any other one. 'acc': what went ahead. -/
def opDm (P : Program) (X : Hnd) (gh : Hl) (ng : Nat) (ops : Array Oper) (o : Oper) (σ : St) (acc : List DAct) : M DAct :=
  match mapOp o with
  | some (.mak t) => opMak o
  | some (.ins t m key v) => opIns P ng o σ t m key v
  | some (.look t m k) => opLook P ng o σ acc t m k
  | none => opD P X gh ng ops o σ
theorem wanted_none {o : Oper} (h : o.guard = none) (y : Nat → Option Bool) : Region.wanted o y = true := by
  unfold Region.wanted
  rw [h]
theorem opDm_ok (hX : HOk P Φ x.gl X) (hG : ∀ w, Keep x.R x.w0 w → Laid x.gl w) {ops : Array Oper} {o : Oper} {σ : St} {acc : List DAct} {c c' : Ctr} {d : DAct} {out : List Em} (h : opDm P X x.gh x.ng ops o σ acc c = some (d, c', out)) (hg : Good Φ ρ out) :
    ActOk P x ρ ops o σ d ∧ d.lo = c.id ∧ d.hi = c'.id ∧ ∀ p, p ∈ d.lk → p.2 = insL (fun _ => true) p.1 acc 0 := by
  cases hmo : mapOp o with
  | none =>
    simp only [opDm, hmo] at h
    obtain ⟨h1, h2, h3⟩ := opD_ok hX hG h hg
    refine ⟨h1, h2, h3, fun p hp => ?_⟩
    rw [opD_lk h] at hp
    cases hp
  | some mo =>
    obtain ⟨hgu, hop⟩ := mapOp_spec hmo
    cases mo with
    | mak t =>
      simp only [opDm, hmo, opMak, newId, Bind.bind, M.bind, Pure.pure, M.pure, Option.some.injEq, Prod.mk.injEq] at h
      obtain ⟨rfl, rfl, rfl⟩ := h
      refine ⟨⟨rfl, by simp, fun i hi => (by cases hi), fun M hM => (by simp only [Option.some.injEq] at hM; subst hM; exact ⟨Nat.le_refl _, Nat.lt_succ_self _⟩), fun β a w hC hsl hbl hf _ _ next Q hn => ?_⟩, rfl, rfl, fun p hp => by cases hp⟩
      rw [wanted_none hgu, if_pos rfl]
      have hrun : (execOp a.eval o).run P w = .ok (.value (.map (some w.heap.size))) (w.alloc (.map #[] 0)) := by
        obtain ⟨dst, op, ty, pos, after, guard⟩ := o
        simp only at hop
        subst hop
        simp [execOp, run_mkMap]
      have hnone := hf c.id (Nat.le_refl _) (Nat.lt_succ_self _)
      have hext := Beta.set_ext (r := { blk := w.heap.size, off := 0, len := 1, ro := false }) hnone
      have hkeep : Keep [] w (w.alloc (.map #[] 0)) := Keep.alloc [] w _
      refine OpG.value (Post := fun v w' => v = .map (some w.heap.size) ∧ w' = w.alloc (.map #[] 0)) hrun ⟨rfl, rfl⟩ next Q fun v w' ⟨hv, hw⟩ => ?_
      subst hv hw
      refine hn _ _ (β.set c.id { blk := w.heap.size, off := 0, len := 1, ro := false }) hext ⟨(put_tmps a _ _).2.trans hC.size, (put_tmps a _ _).1.trans hC.df, fun id b hb hbg => ?_, hC.gro, hC.bo.alloc hC.kp.size _ 1, hC.kp.trans hkeep (fun r hr => by cases hr), fun g vs hg => hext _ _ (hC.gl g vs hg), fun j r hr => hext _ _ (hC.ra j r hr)⟩
        (fun i hi => by unfold Beta.set; rw [if_neg (by simp only at hi; omega)]) ⟨fun _ => mt_of_cell ⟨_, Beta.set_same _ _ _, rfl⟩, fun h => by cases h⟩ (fun id b hb => by simp [hpOf] at hb) (fun id b _ _ hb => ?_) (fun M es hm _ => ?_) (fun M hM => ?_)
      · exact blkMt_keep hext hC.bo hkeep (fun r q hr => by cases hr) (hC.gm id b hb hbg)
      · exact blkMt_keep hext hC.bo hkeep (fun r q hr => by cases hr) hb
      · rw [show insOf _ M = [] from rfl, List.append_nil]
        exact mapMt_ext hext (live_map (fun r hr => by cases hr) hkeep) hm
      · simp only [Option.some.injEq] at hM
        subst hM
        exact ⟨_, #[], 0, ⟨Beta.set_same _ _ _, rfl, rfl, rfl⟩, hC.kp.size, heap_alloc_new _ _, fun p hp => (by cases hp), fun e he => by simp at he⟩
    | ins t m key v =>
      simp only [opDm, hmo] at h
      unfold opIns at h
      obtain ⟨lo, c1, o1, c2, o2, y, h1, h2, he⟩ := M.bind_inv h
      simp only [Prod.mk.injEq] at he
      obtain ⟨rfl, rfl, rfl⟩ := he
      simp only [getId, Option.some.injEq, Prod.mk.injEq] at h1
      obtain ⟨rfl, rfl, rfl⟩ := h1
      obtain ⟨id, c3, o3, c4, o4, y, h3, h4, he⟩ := M.bind_inv h2
      simp only [Prod.mk.injEq] at he
      obtain ⟨rfl, rfl, rfl⟩ := he
      obtain ⟨id', hid, he⟩ := lift_inv h3
      simp only [Prod.mk.injEq] at he
      obtain ⟨rfl, rfl, rfl⟩ := he
      obtain ⟨e, c5, o5, c6, o6, y, h5, h6, he⟩ := M.bind_inv h4
      simp only [Prod.mk.injEq] at he
      obtain ⟨rfl, rfl, rfl⟩ := he
      obtain ⟨e', hst, he⟩ := lift_inv h5
      simp only [Prod.mk.injEq] at he
      obtain ⟨rfl, rfl, rfl⟩ := he
      have he := M.pure_inv h6
      simp only [Prod.mk.injEq] at he
      obtain ⟨rfl, rfl, rfl⟩ := he
      refine ⟨⟨rfl, Nat.le_refl _, fun i hi => (by cases hi), fun M hM => (by cases hM), fun β a w hC hsl hbl hf _ hins next Q hn => ?_⟩, rfl, rfl, fun p hp => by cases hp⟩
      rw [wanted_none hgu, if_pos rfl]
      have hmv := ev_mt' hC m fun t' ht' => hsl t' (mem_tmpsOf (by simp [ht']))
      rw [mpOf_spec hid] at hmv
      obtain ⟨r, hr, hmv⟩ := mt_cell (s := .one false [.mp id]) rfl (hmv.1 rfl)
      have hvv := rs_mt (Γ := []) rfl (ev_mt' hC v fun t' ht' => hsl t' (mem_tmpsOf (by simp [ht'])))
      obtain ⟨es, hes, hnew⟩ := hins id key _ rfl
      obtain ⟨ents, clock, hb, hrun0⟩ := run_ins hst hes hr hnew (a.eval v)
      obtain ⟨w', hw'⟩ : ∃ w', w' = ({ w with heap := w.heap.setIfInBounds r.blk (.map (ents.push { key := .string key, val := a.eval v, born := clock }) (clock + 1)) } : World) := ⟨_, rfl⟩
      rw [← hw'] at hrun0
      have hrun : (execOp a.eval o).run P w = .ok .skip w' := by
        obtain ⟨dst, op, ty, pos, after, guard⟩ := o
        simp only at hop
        subst hop
        have hke : a.eval (.const (.string key)) = .string key := rfl
        simp only [execOp, hmv, hke]
        simp [hrun0]
      have hcell : ∀ a, w'.cell? a = w.cell? a ∧ w'.frozen? a = w.frozen? a := fun a => by rw [hw']; exact set_map_cell hb a
      have hN : x.w0.heap.size ≤ r.blk := by
        obtain ⟨r', _, _, g1, g2, _⟩ := hes
        have g1 := g1.1
        rw [hr] at g1
        cases g1
        exact g2
      refine OpG.skip (Post := fun v w2 => v = undef ∧ w2 = w') hrun ⟨rfl, rfl⟩ next Q fun u w2 ⟨hu, hw2⟩ => ?_
      subst hu hw2
      refine hn _ _ β (Ext.refl β) ⟨(put_tmps a _ _).2.trans hC.size, (put_tmps a _ _).1.trans hC.df, fun id b hb hbg => blkMt_cells hcell (hC.gm id b hb hbg), hC.gro, betaOk_cells (fun a => (hcell a).1) (by rw [hw']; simp) hC.bo, by rw [hw']; exact set_map_keep hb hC.kp hN, hC.gl, hC.ra⟩
        (fun _ _ => rfl) (anySV_mt _) (fun id b hb => by simp [hpOf] at hb) (fun id b _ _ hb => blkMt_cells hcell hb) (fun M es' hm' _ => ?_) (fun M hM => by cases hM)
      rw [hw']
      by_cases hMe : M = id
      · subst hMe
        unfold insOf
        simp only [beq_self_eq_true, if_true]
        exact mapMt_push hm' hr hb key hvv
      · unfold insOf
        simp only
        rw [if_neg (by simpa using fun e => hMe (Eq.symm e)), List.append_nil]
        exact mapMt_else hMe hC.bo hes hr _ hm'
    | look t m k =>
      simp only [opDm, hmo] at h
      unfold opLook at h
      obtain ⟨lo, c1, o1, c2, o2, y, h1, h2, he⟩ := M.bind_inv h
      simp only [Prod.mk.injEq] at he
      obtain ⟨rfl, rfl, rfl⟩ := he
      simp only [getId, Option.some.injEq, Prod.mk.injEq] at h1
      obtain ⟨rfl, rfl, rfl⟩ := h1
      obtain ⟨id, c3, o3, c4, o4, y, h3, h4, he⟩ := M.bind_inv h2
      simp only [Prod.mk.injEq] at he
      obtain ⟨rfl, rfl, rfl⟩ := he
      obtain ⟨id', hid, he⟩ := lift_inv h3
      simp only [Prod.mk.injEq] at he
      obtain ⟨rfl, rfl, rfl⟩ := he
      obtain ⟨e, c5, o5, c6, o6, y, h5, h6, he⟩ := M.bind_inv h4
      simp only [Prod.mk.injEq] at he
      obtain ⟨rfl, rfl, rfl⟩ := he
      obtain ⟨e', hst, he⟩ := lift_inv h5
      simp only [Prod.mk.injEq] at he
      obtain ⟨rfl, rfl, rfl⟩ := he
      obtain ⟨z, c7, o7, c8, o8, y, h7, h8, he⟩ := M.bind_inv h6
      simp only [Prod.mk.injEq] at he
      obtain ⟨rfl, rfl, rfl⟩ := he
      obtain ⟨z', hz, he⟩ := lift_inv h7
      simp only [Prod.mk.injEq] at he
      obtain ⟨rfl, rfl, rfl⟩ := he
      obtain ⟨q, c9, o9, c10, o10, y, h9, h10, he⟩ := M.bind_inv h8
      simp only [Prod.mk.injEq] at he
      obtain ⟨rfl, rfl, rfl⟩ := he
      obtain ⟨q', hq, he⟩ := lift_inv h9
      simp only [Prod.mk.injEq] at he
      obtain ⟨rfl, rfl, rfl⟩ := he
      obtain ⟨s, c11, o11, c12, o12, y, h11, h12, he⟩ := M.bind_inv h10
      simp only [Prod.mk.injEq] at he
      obtain ⟨rfl, rfl, rfl⟩ := he
      obtain ⟨h11, le11⟩ := mono_inv h11
      simp only at le11
      obtain ⟨hi, c13, o13, c14, o14, y, h13, h14, he⟩ := M.bind_inv h12
      simp only [Prod.mk.injEq] at he
      obtain ⟨rfl, rfl, rfl⟩ := he
      simp only [getId, Option.some.injEq, Prod.mk.injEq] at h13
      obtain ⟨rfl, rfl, rfl⟩ := h13
      have he := M.pure_inv h14
      simp only [Prod.mk.injEq] at he
      obtain ⟨rfl, rfl, rfl⟩ := he
      simp only [Good.append] at hg
      have hls := lookM_snd (Φ := Φ) (ρ := ρ) q z _ _ _ _ _ h11 hg.2.2.2.2.2.1
      obtain ⟨es, hese⟩ : ∃ es, es = insL (fun _ => true) id acc 0 := ⟨_, rfl⟩
      rw [← hese] at hls
      refine ⟨⟨rfl, le11, fun i hi => (by cases hi), fun M hM => (by cases hM), fun β a w hC hsl hbl hf hlk _ next Q hn => ?_⟩, rfl, rfl, fun p hp => by simp only [List.mem_singleton] at hp; rw [hp]⟩
      rw [wanted_none hgu, if_pos rfl]
      have hmv := ev_mt' hC m fun t' ht' => hsl t' (mem_tmpsOf (by simp [ht']))
      rw [mpOf_spec hid] at hmv
      obtain ⟨r, hr, hmv⟩ := mt_cell (s := .one false [.mp id]) rfl (hmv.1 rfl)
      obtain ⟨cc, hcc, hsc⟩ := keyOf1_spec hq
      have hkv := rs_mt (Γ := []) rfl (ev_mt' hC k fun t' ht' => hsl t' (mem_tmpsOf (by simp [ht'])))
      obtain ⟨str, hks, hqe, _⟩ := asStr_mt hsc (mt_cell hcc hkv)
      obtain ⟨hmm, hnd⟩ := hlk (id, es) (by simp [hese])
      obtain ⟨zv, hzr, hzm⟩ := zeroS_spec hz w
      obtain ⟨v, hrun0, hcase⟩ := run_look hst hmm hr str hzr
      have hsm : s.mt β ρ v := hls β v (fun k' hk' => by
        have hkk : k' = str := encS_inj (by rw [← hk', hqe])
        subst hkk
        rcases hcase with ⟨p, g1, g2, g3⟩ | ⟨g1, g2⟩
        · exact .inl ⟨p, g1, g2, g3⟩
        · exact .inr ⟨g1, by rw [g2]; exact hzm β ρ⟩) ⟨str, hqe⟩ hnd
      have hrun : (execOp a.eval o).run P w = .ok (.value v) w := by
        obtain ⟨dst, op, ty, pos, after, guard⟩ := o
        simp only at hop
        subst hop
        simp [execOp, hmv, hks, hrun0]
      refine OpG.value (Post := fun u w2 => u = v ∧ w2 = w) hrun ⟨rfl, rfl⟩ next Q fun u w2 ⟨hu, hw2⟩ => ?_
      subst hu hw2
      exact hn _ _ β (Ext.refl β) ⟨(put_tmps a _ _).2.trans hC.size, (put_tmps a _ _).1.trans hC.df, hC.gm, hC.gro, hC.bo, hC.kp, hC.gl, hC.ra⟩ (fun _ _ => rfl) ⟨fun _ => hsm, fun h => by cases h⟩ (fun id b hb => by simp [hpOf] at hb) (fun _ _ _ _ h => h)
        (fun M es h _ => by rw [show insOf _ M = [] from rfl, List.append_nil]; exact h) (fun M hM => by cases hM)
end
end Go.Proofs.YtalnndmnnffnmaaGreat.Sx
