/-
  SX, part R: a region that draws its order: whatever order, the same comes of it. No condition.
-/
import Derived.Test.YtoempcgniokpiaaDoorSxM
import Derived.Orders
set_option linter.unusedVariables false
namespace Go.Proofs.YtoempcgniokpiaaDoor.Sx
open Go

/-- What an operation does: where it writes, what; which blocks; what it reads; the stretches that it numbers. -/
structure DAct where
  dst : Option Tmp
  sv : SV
  bl : Hl
  rs : List Nat
  rb : List Nat
  lo : Nat
  hi : Nat

/-- What stands behind the listed ones, each as in the text's order. -/
def tS (L : Nat → Bool) (t : Nat) : List DAct → Nat → Option SV → Option SV
  | [], _, b => b
  | d :: l, k, b => tS L t l (k + 1) (if L k && d.dst == some t then some d.sv else b)
def hS (L : Nat → Bool) (id : Nat) : List DAct → Nat → Option Blk → Option Blk
  | [], _, b => b
  | d :: l, k, b => hS L id l (k + 1) (match hpOf d.bl id with | some x => if L k then some x else b | none => b)
theorem tS_congr {L L' : Nat → Bool} {t : Nat} : ∀ {l : List DAct} {k : Nat} {b : Option SV}, (∀ i d, l[i]? = some d → d.dst = some t → L (k + i) = L' (k + i)) → tS L t l k b = tS L' t l k b
  | [], _, _, _ => rfl
  | d :: l, k, b, h => by
    unfold tS
    have e : (if L k && d.dst == some t then some d.sv else b) = (if L' k && d.dst == some t then some d.sv else b) := by
      by_cases hd : d.dst = some t
      · have := h 0 d (by simp) hd
        simp only [Nat.add_zero] at this
        rw [this]
      · have : (d.dst == some t) = false := by simpa using hd
        simp [this]
    rw [e]
    exact tS_congr fun i d hi hd => by have := h (i + 1) d (by simpa using hi) hd; rwa [show k + (i + 1) = k + 1 + i by omega] at this
theorem hS_congr {L L' : Nat → Bool} {id : Nat} : ∀ {l : List DAct} {k : Nat} {b : Option Blk}, (∀ i d, l[i]? = some d → (hpOf d.bl id).isSome = true → L (k + i) = L' (k + i)) → hS L id l k b = hS L' id l k b
  | [], _, _, _ => rfl
  | d :: l, k, b, h => by
    unfold hS
    have e : (match hpOf d.bl id with | some x => if L k then some x else b | none => b) = (match hpOf d.bl id with | some x => if L' k then some x else b | none => b) := by
      cases hd : hpOf d.bl id with
      | none => rfl
      | some x =>
        have := h 0 d (by simp) (by rw [hd]; rfl)
        simp only [Nat.add_zero] at this
        simp only [this]
    rw [e]
    exact hS_congr fun i d hi hd => by have := h (i + 1) d (by simpa using hi) hd; rwa [show k + (i + 1) = k + 1 + i by omega] at this
theorem tS_none {L : Nat → Bool} {t : Nat} : ∀ {l : List DAct} {k : Nat} {b : Option SV}, (∀ i d, l[i]? = some d → d.dst = some t → L (k + i) = false) → tS L t l k b = b
  | [], _, _, _ => rfl
  | d :: l, k, b, h => by
    unfold tS
    rw [tS_none fun i d hi hd => by have := h (i + 1) d (by simpa using hi) hd; rwa [show k + (i + 1) = k + 1 + i by omega] at this]
    by_cases hd : d.dst = some t
    · have := h 0 d (by simp) hd
      simp only [Nat.add_zero] at this
      simp [this]
    · have : (d.dst == some t) = false := by simpa using hd
      simp [this]
theorem hS_none {L : Nat → Bool} {id : Nat} : ∀ {l : List DAct} {k : Nat} {b : Option Blk}, (∀ i d, l[i]? = some d → (hpOf d.bl id).isSome = true → L (k + i) = false) → hS L id l k b = b
  | [], _, _, _ => rfl
  | d :: l, k, b, h => by
    unfold hS
    rw [hS_none fun i d hi hd => by have := h (i + 1) d (by simpa using hi) hd; rwa [show k + (i + 1) = k + 1 + i by omega] at this]
    cases hd : hpOf d.bl id with
    | none => rfl
    | some x =>
      have := h 0 d (by simp) (by rw [hd]; rfl)
      simp only [Nat.add_zero] at this
      simp [this]
theorem tS_last {t : Nat} {j : Nat} {d : DAct} (hd : d.dst = some t) : ∀ {l : List DAct} {k : Nat} {b : Option SV}, k ≤ j → l[j - k]? = some d → tS (fun i => Nat.ble i j) t l k b = some d.sv
  | [], k, b, hk, h => by simp at h
  | e :: l, k, b, hk, h => by
    unfold tS
    by_cases hjk : k = j
    · subst hjk
      simp at h
      subst h
      rw [tS_none fun i d' hi _ => by simp only [Bool.eq_false_iff, ne_eq, Nat.ble_eq]; omega]
      have h1 : Nat.ble k k = true := by simp
      have h2 : (e.dst == some t) = true := by simp [hd]
      simp [h1, h2]
    · refine tS_last hd (by omega) ?_
      rw [show j - k = (j - (k + 1)) + 1 by omega] at h
      simpa using h
theorem hS_last {id : Nat} {j : Nat} {d : DAct} {x : Blk} (hd : hpOf d.bl id = some x) : ∀ {l : List DAct} {k : Nat} {b : Option Blk}, k ≤ j → l[j - k]? = some d → hS (fun i => Nat.ble i j) id l k b = some x
  | [], k, b, hk, h => by simp at h
  | e :: l, k, b, hk, h => by
    unfold hS
    by_cases hjk : k = j
    · subst hjk
      simp at h
      subst h
      rw [hS_none fun i d' hi _ => by simp only [Bool.eq_false_iff, ne_eq, Nat.ble_eq]; omega]
      have h1 : Nat.ble k k = true := by simp
      simp [hd]
    · refine hS_last hd (by omega) ?_
      rw [show j - k = (j - (k + 1)) + 1 by omega] at h
      simpa using h

/-! ### One operation, by what it reads alone -/
structure Com (x : Cx) (ρ : Env) (n : Nat) (β : Beta) (a : Act) (w : World) : Prop where
  size : a.tmps.size = n
  df : a.defers = []
  gm : heapMt β ρ (hpOf x.gh) w
  gro : ∀ id b, hpOf x.gh id = some b → b.ro = true
  bo : BetaOk x.w0.heap.size x.R β w
  kp : Keep x.R x.w0 w
  gl : ∀ (g : Nat) (vs : List Value), x.gl[g]? = some vs → β g = some (gRg g vs)
  ra : ∀ (j : Nat) (r : Rg), x.gr[j]? = some r → β (x.ng + j) = some r
theorem Rel.com {x : Cx} {ρ : Env} {β : Beta} {σ : St} {a : Act} {w : World} (h : Rel x ρ β σ a w) : Com x ρ σ.tm.length β a w :=
  ⟨h.size, h.df, h.gm, h.gro, h.bo, h.kp, h.gl, h.ra⟩

def cIds : List C → List Nat
  | [] => []
  | .ptr l i _ :: r => i :: (ptrIds l ++ cIds r)
  | .pix i _ _ _ _ _ :: r => i :: cIds r
  | .sli i _ _ _ :: r => i :: cIds r
  | .slx i _ _ _ :: r => i :: cIds r
  | .pxq i _ _ _ _ :: r => i :: cIds r
  | _ :: r => cIds r
def sIds : S → List Nat
  | .one _ l => cIds l
  | _ => []
def tmpsOf : List Operand → List Nat
  | [] => []
  | .tmp t :: l => t :: tmpsOf l
  | _ :: l => tmpsOf l
def hpR (gh : Hl) (ng : Nat) (hp : Hl) (ids : List Nat) : Hp := fun i => if Nat.blt i ng then hpOf gh i else if ids.contains i then hpOf hp i else none
def gSlot (ops : Array Oper) (o : Oper) : List Nat :=
  match o.guard with
  | none => []
  | some (j, _) => match (ops[j]?).bind (·.dst) with | some t => [t] | none => []

/-- Operations that look at no block, whatever they are handed. -/
def blind : Op → Bool
  | .move _ => true
  | .nilCheck _ => true
  | .fieldAddr _ _ _ => true
  | .binOp _ _ _ _ _ => true
  | .pick _ _ _ => true
  | .assign _ => true
  | .field _ _ _ => true
  | .indexAddr _ _ _ => true
  | .extract _ _ => true
  | _ => false
def rdIds (ng : Nat) (σ : St) (o : Oper) : List Nat := if blind o.op then [] else (o.op.operands.toList.map fun x => sIds (ev ng σ x).s).flatten
def getId : M Nat := fun c => some (c.id, c, [])
def layD (Γ : Gd) (lo : Nat) : List (Nat × Blk) → Option Hl
  | [] => some []
  | (id, b) :: l => match layD Γ lo l with
    | none => none
    | some r => if Γ.isEmpty then some ((id, b) :: r) else if Nat.ble lo id && b.g.isEmpty then some ((id, { b with g := Γ }) :: r) else none
def opD (P : Program) (X : Sums) (gh : Hl) (ng : Nat) (ops : Array Oper) (o : Oper) (σ : St) : M DAct := do
  let g ← lift (gdOf ops σ o)
  let rs := tmpsOf o.op.operands.toList ++ gSlot ops o
  let lo ← getId
  match normG g with
  | none => pure { dst := o.dst, sv := undefSV, bl := [], rs := rs, rb := [], lo := lo, hi := lo }
  | some Γ => do
    let ids := rdIds ng σ o
    let r ← M.mono (M.under Γ (opx P X Γ (hpR gh ng σ.hp ids) (ev ng σ) o.op))
    let hi ← getId
    let bl ← lift (layD Γ lo r.w)
    pure { dst := o.dst, sv := { g := Γ, s := r.s }, bl := bl, rs := rs, rb := ids, lo := lo, hi := hi }
def applyD (d : DAct) (σ : St) : Option St :=
  match setT σ.tm d.dst d.sv with
  | some tm => some { tm := tm, hp := d.bl ++ σ.hp }
  | none => none

section
variable {P : Program} {Φ : Funs} {X : Sums} {x : Cx} {ρ : Env}

/-- What an operation's action is worth, wherever what it reads is as it was. -/
def ActOk (P : Program) (x : Cx) (ρ : Env) (ops : Array Oper) (o : Oper) (σ : St) (d : DAct) : Prop :=
  d.dst = o.dst ∧ d.lo ≤ d.hi ∧ ∀ (β : Beta) (a : Act) (w : World), Com x ρ σ.tm.length β a w →
    (∀ t, t ∈ d.rs → ∀ v, σ.tm[t]? = some v → v.mt β ρ (a.tmps.getD t undef)) →
    (∀ id, id ∈ d.rb → ∀ b, hpOf σ.hp id = some b → Gd.d ρ b.g = true → blkMt β ρ w id b) →
    (∀ i, d.lo ≤ i → i < d.hi → β i = none) → ∀ (next : Act → World → Prop) (Q : Exit → Act → World → Prop),
    (∀ v w' β', Ext β β' → Com x ρ σ.tm.length β' (a.put o.dst v) w' → (∀ i, (i < d.lo ∨ d.hi ≤ i) → β' i = β i) → d.sv.mt β' ρ v → (∀ id b, hpOf d.bl id = some b → Gd.d ρ b.g = true → blkMt β' ρ w' id b) →
      (∀ id b, hpOf d.bl id = none → blkMt β ρ w id b → blkMt β' ρ w' id b) → next (a.put o.dst v) w') →
    if Region.wanted o (yielded ops a.tmps) then o.wp P a w next Q else next (a.put o.dst undef) w

theorem mem_tmpsOf : ∀ {l : List Operand} {t : Nat}, Operand.tmp t ∈ l → t ∈ tmpsOf l
  | o :: l, t, h => by
    rcases List.mem_cons.1 h with rfl | h
    · simp [tmpsOf]
    · have := mem_tmpsOf h
      cases o <;> simp [tmpsOf, this]
/-- An operand's slot, read alone. -/
theorem ev_mt' {β : Beta} {σ : St} {a : Act} {w : World} (h : Com x ρ σ.tm.length β a w) (o : Operand) (ho : ∀ t, o = .tmp t → ∀ v, σ.tm[t]? = some v → v.mt β ρ (a.tmps.getD t undef)) : (ev x.ng σ o).mt β ρ (a.eval o) := by
  cases o with
  | tmp t =>
    show (σ.tm.getD t anySV).mt β ρ (a.tmps.getD t undef)
    rw [List.getD_eq_getElem?_getD]
    cases ht : σ.tm[t]? with
    | none => exact anySV_mt _
    | some v => exact ho t rfl v ht
  | const v => exact ⟨fun _ => ofV_mt v, fun h => (by cases h)⟩
  | global g =>
    show (if Nat.blt g x.ng then ({ g := [], s := .one false [.ptr [] g 0] } : SV) else anySV).mt β ρ (.pointer (some ⟨g, 0, none⟩))
    split
    · rename_i hg
      simp only [Nat.blt_eq] at hg
      exact ⟨fun _ => ⟨_, rfl, _, h.gl g _ (List.getElem?_eq_getElem hg), by simp [pick, gRg]⟩, fun h => (by cases h)⟩
    · exact anySV_mt _
  | func f => exact ⟨fun _ => ⟨_, rfl, rfl, rfl⟩, fun h => (by cases h)⟩
theorem gdOf_wanted' {n : Nat} {β : Beta} {σ : St} {a : Act} {w : World} (h : a.tmps.size = σ.tm.length) {ops : Array Oper} {o : Oper} {g : Gd} (hs : ∀ t, t ∈ gSlot ops o → ∀ v, σ.tm[t]? = some v → v.mt β ρ (a.tmps.getD t undef)) (hg : gdOf ops σ o = some g) :
    Region.wanted o (yielded ops a.tmps) = Gd.d ρ g := by
  unfold gdOf at hg
  unfold gSlot at hs
  unfold Region.wanted
  split at hg
  · rename_i h1
    simp only [Option.some.injEq] at hg
    subst hg
    rw [h1]
    rfl
  · rename_i j want h1
    rw [h1] at hs ⊢
    simp only at hs ⊢
    split at hg
    · cases hg
    · rename_i t ht
      rw [ht] at hs
      simp only at hs
      split at hg
      · rename_i g' b hsv
        simp only [Option.some.injEq] at hg
        subst hg
        have hlt : t < a.tmps.size := by rw [h]; exact (List.getElem?_eq_some_iff.1 hsv).1
        have hm := hs t (by simp) _ hsv
        unfold yielded
        rw [ht]
        simp only [Option.bind_some]
        have hget : a.tmps[t]? = some (a.tmps.getD t undef) := by simp [hlt]
        rw [hget]
        cases hgd : Gd.d ρ g'
        · have := hm.2 hgd
          rw [this]
          simp [undef, hgd]
        · have := mt_bool rfl (hm.1 hgd)
          rw [this]
          simp [hgd]
      · cases hg
theorem layD_spec {Γ : Gd} {lo : Nat} : ∀ {l : List (Nat × Blk)} {r : Hl}, layD Γ lo l = some r → (∀ id b, hpOf r id = some b → ∃ b', (id, b') ∈ l ∧ (b = b' ∨ (b = { b' with g := Γ }))) ∧ (∀ id, hpOf r id = none → id ∉ l.map (·.1)) ∧ (Γ ≠ [] → ∀ id b, hpOf r id = some b → b.g = Γ)
  | [], r, h => by simp only [layD, Option.some.injEq] at h; subst h; simp [hpOf]
  | (i, b0) :: l, r, h => by
    unfold layD at h
    split at h
    · cases h
    · rename_i r' hr
      obtain ⟨h1, h2, h3⟩ := layD_spec hr
      split at h
      · rename_i hΓ
        simp only [Option.some.injEq] at h
        subst h
        rw [List.isEmpty_iff] at hΓ
        refine ⟨fun id b hb => ?_, fun id hn => ?_, fun hne => absurd hΓ hne⟩
        · unfold hpOf at hb
          split at hb
          · rename_i he
            simp only [beq_iff_eq] at he
            simp only [Option.some.injEq] at hb
            subst he; subst hb
            exact ⟨b0, by simp, .inl rfl⟩
          · obtain ⟨b', hb', hx⟩ := h1 id b hb
            exact ⟨b', by simp [hb'], hx⟩
        · unfold hpOf at hn
          split at hn
          · cases hn
          · rename_i he
            have := h2 id hn
            simp only [List.map_cons, List.mem_cons, not_or]
            exact ⟨fun e => he (by simp [e]), this⟩
      · split at h
        · rename_i hc
          simp only [Option.some.injEq] at h
          subst h
          refine ⟨fun id b hb => ?_, fun id hn => ?_, fun hne id b hb => ?_⟩
          · unfold hpOf at hb
            split at hb
            · rename_i he
              simp only [beq_iff_eq] at he
              simp only [Option.some.injEq] at hb
              subst he; subst hb
              exact ⟨b0, by simp, .inr rfl⟩
            · obtain ⟨b', hb', hx⟩ := h1 id b hb
              exact ⟨b', by simp [hb'], hx⟩
          · unfold hpOf at hn
            split at hn
            · cases hn
            · rename_i he
              have := h2 id hn
              simp only [List.map_cons, List.mem_cons, not_or]
              exact ⟨fun e => he (by simp [e]), this⟩
          · unfold hpOf at hb
            split at hb
            · simp only [Option.some.injEq] at hb
              subst hb
              rfl
            · exact h3 hne id b hb
        · cases h

theorem opD_ok (hX : AllOk P Φ x.gl X) (hG : ∀ w, Keep x.R x.w0 w → Laid x.gl w) {ops : Array Oper} {o : Oper} {σ : St} {c c' : Ctr} {d : DAct} {out : List Em} (h : opD P X x.gh x.ng ops o σ c = some (d, c', out)) (hg : Good Φ ρ out) :
    ActOk P x ρ ops o σ d ∧ d.lo = c.id ∧ d.hi = c'.id := by
  unfold opD at h
  obtain ⟨g, c1, o1, c2, o2, y, h1, h2, he⟩ := M.bind_inv h
  simp only [Prod.mk.injEq] at he
  obtain ⟨rfl, rfl, rfl⟩ := he
  obtain ⟨g', hgd, he⟩ := lift_inv h1
  simp only [Prod.mk.injEq] at he
  obtain ⟨rfl, rfl, rfl⟩ := he
  obtain ⟨lo, c3, o3, c4, o4, y, h3, h4, he⟩ := M.bind_inv h2
  simp only [Prod.mk.injEq] at he
  obtain ⟨rfl, rfl, rfl⟩ := he
  simp only [getId, Option.some.injEq, Prod.mk.injEq] at h3
  obtain ⟨rfl, rfl, rfl⟩ := h3
  cases hno : normG g with
  | none =>
    rw [hno] at h4
    have he := M.pure_inv h4
    simp only [Prod.mk.injEq] at he
    obtain ⟨rfl, rfl, rfl⟩ := he
    refine ⟨⟨rfl, Nat.le_refl _, fun β a w hC hsl hbl hf next Q hn => ?_⟩, rfl, rfl⟩
    rw [gdOf_wanted' (n := 0) (w := w) hC.size (fun t ht => hsl t (by simp [ht])) hgd, normG_none (ρ := ρ) hno]
    simp only [Bool.false_eq_true, if_false]
    exact hn undef w β (Ext.refl β) ⟨(put_tmps a _ _).2.trans hC.size, (put_tmps a _ _).1.trans hC.df, hC.gm, hC.gro, hC.bo, hC.kp, hC.gl, hC.ra⟩ (fun _ _ => rfl) undefSV_mt (fun id b hb => by simp [hpOf] at hb) (fun _ _ _ h => h)
  | some Γ =>
    rw [hno] at h4
    obtain ⟨r, c5, o5, c6, o6, y, h5, h6, he⟩ := M.bind_inv h4
    simp only [Prod.mk.injEq] at he
    obtain ⟨rfl, rfl, rfl⟩ := he
    obtain ⟨h5, hle⟩ := mono_inv h5
    simp only at hle
    obtain ⟨r', c5', o5', h5', he⟩ := under_inv h5
    simp only [Prod.mk.injEq] at he
    obtain ⟨rfl, rfl, rfl⟩ := he
    obtain ⟨hi, c7, o7, c8, o8, y, h7, h8, he⟩ := M.bind_inv h6
    simp only [Prod.mk.injEq] at he
    obtain ⟨rfl, rfl, rfl⟩ := he
    simp only [getId, Option.some.injEq, Prod.mk.injEq] at h7
    obtain ⟨rfl, rfl, rfl⟩ := h7
    obtain ⟨bl, c9, o9, c10, o10, y, h9, h10, he⟩ := M.bind_inv h8
    simp only [Prod.mk.injEq] at he
    obtain ⟨rfl, rfl, rfl⟩ := he
    obtain ⟨bl', hlay, he⟩ := lift_inv h9
    simp only [Prod.mk.injEq] at he
    obtain ⟨rfl, rfl, rfl⟩ := he
    have he := M.pure_inv h10
    simp only [Prod.mk.injEq] at he
    obtain ⟨rfl, rfl, rfl⟩ := he
    simp only [Good.append] at hg
    have hg5 := hg.2.2.1
    refine ⟨⟨rfl, hle, fun β a w hC hsl hbl hf next Q hn => ?_⟩, rfl, rfl⟩
    have hΓe := normG_some (ρ := ρ) hno
    rw [gdOf_wanted' (n := 0) (w := w) hC.size (fun t ht => hsl t (by simp [ht])) hgd]
    obtain ⟨l1, l2, l3⟩ := layD_spec hlay
    cases hgg : Gd.d ρ g
    · simp only [Bool.false_eq_true, if_false]
      rw [hgg] at hΓe
      have hne : Γ ≠ [] := fun e => by subst e; cases hΓe
      refine hn undef w β (Ext.refl β) ⟨(put_tmps a _ _).2.trans hC.size, (put_tmps a _ _).1.trans hC.df, hC.gm, hC.gro, hC.bo, hC.kp, hC.gl, hC.ra⟩ (fun _ _ => rfl) ⟨fun h => (by simp only at h; rw [hΓe] at h; cases h), fun _ => rfl⟩ (fun id b hb hbg => ?_) (fun _ _ _ h => h)
      rw [l3 hne id b hb, hΓe] at hbg
      cases hbg
    · simp only [if_true]
      rw [hgg] at hΓe
      have hg1' := Good.under hΓe hg5
      have hlok := opx_ok (Γ := Γ) hX o ρ _ _ _ _ h5' hg1' hΓe x.w0.heap.size x.R β a w (fun z hz => ev_mt' hC z fun t ht => hsl t (by simp only [List.mem_append]; exact .inl (mem_tmpsOf (by rw [ht] at hz; simpa using hz)))) (fun id b hb hbg => by
          unfold hpR at hb
          split at hb
          · exact hC.gm id b hb hbg
          · split at hb
            · rename_i hc
              exact hbl id (by simpa using hc) b hb hbg
            · cases hb) hC.bo hC.kp.size ⟨hG w hC.kp, hC.gl⟩ (fun i hi1 hi2 => hf i hi1 hi2)
      refine hlok next Q fun v w' hpost => ?_
      obtain ⟨β', hst, hsv, hblk⟩ := hpost
      obtain ⟨W, hW, hkW⟩ := hst.kp
      refine hn v w' β' hst.ext ⟨(put_tmps a _ _).2.trans hC.size, (put_tmps a _ _).1.trans hC.df, fun id b hb hbg => ?_, hC.gro, hst.bo, hC.kp.trans hkW fun r hr => ?_, fun g vs hg => hst.ext _ _ (hC.gl g vs hg), fun j r hr => hst.ext _ _ (hC.ra j r hr)⟩ hst.dom
        ⟨fun _ => hsv, fun h => (by simp only at h; rw [hΓe] at h; cases h)⟩ (fun id b hb hbg => ?_) (fun id b hnb hb => ?_)
      · have hgm := hC.gm id b hb hbg
        refine blkMt_keep hst.ext hC.bo hkW (fun r q hr hq => ?_) hgm
        obtain ⟨id', hid', hβ', hro⟩ := hW r hr
        refine hC.bo.apartW (fun e => ?_) hβ' hq hro
        subst e
        obtain ⟨q', hq', _, hro', _⟩ := hgm
        rw [hβ'] at hq'
        cases hq'
        rw [hro, hC.gro _ b hb] at hro'
        cases hro'
      · obtain ⟨id', hid', hβ', hro⟩ := hW r hr
        rcases hC.bo.may id' r hβ' with h | h
        · rw [hro] at h; cases h
        · exact h
      · obtain ⟨b', hb', he⟩ := l1 id b hb
        have := hblk _ hb'
        rcases he with rfl | rfl
        · exact this
        · exact this
      · refine blkMt_keep hst.ext hC.bo hkW (fun r q hr hq => ?_) hb
        obtain ⟨id', hid', hβ', hro⟩ := hW r hr
        exact hC.bo.apartW (i := id') (j := id) (fun e => l2 id hnb (e ▸ hid')) hβ' hq hro
end
end Go.Proofs.YtoempcgniokpiaaDoor.Sx
