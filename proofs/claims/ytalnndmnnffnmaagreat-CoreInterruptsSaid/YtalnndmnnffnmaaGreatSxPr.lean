/-
  SX, part Pr: two runs of the same function side by side: what is known to be the same in both, and what is known in either one. No condition.
-/
import Derived.Test.YtalnndmnnffnmaaGreatSxY
set_option linter.unusedVariables false
set_option linter.unusedSimpArgs false
namespace Go.Proofs.YtalnndmnnffnmaaGreat.Sx
open Go

/-- What is known of a number in two runs: they are the same; the first one's, and the second one's, value. -/
structure Lb (α : Type) where
  s : Bool
  a : Option α
  b : Option α
def Lb.ok {α : Type} (l : Lb α) (x y : α) : Prop := (l.s = true → x = y) ∧ (∀ v, l.a = some v → x = v) ∧ ∀ v, l.b = some v → y = v
def Lb.top {α : Type} : Lb α := ⟨false, none, none⟩
def Lb.cst {α : Type} (v : α) : Lb α := ⟨true, some v, some v⟩
def Lb.eqv {α : Type} : Lb α := ⟨true, none, none⟩
theorem Lb.top_ok {α : Type} {x y : α} : (Lb.top : Lb α).ok x y := ⟨fun h => (by cases h), ⟨fun _ h => (by cases h), fun _ h => (by cases h)⟩⟩
theorem Lb.cst_ok {α : Type} {v : α} : (Lb.cst v).ok v v := ⟨fun _ => rfl, fun _ h => (by cases h; rfl), fun _ h => (by cases h; rfl)⟩

/-- One known value is known in both runs, if these are the same; two known ones may be the same. -/
def Lb.nrm {α : Type} [DecidableEq α] (l : Lb α) : Lb α :=
  match l with
  | ⟨true, none, none⟩ => ⟨true, none, none⟩
  | ⟨true, some v, _⟩ => ⟨true, some v, some v⟩
  | ⟨true, none, some v⟩ => ⟨true, some v, some v⟩
  | ⟨false, some v, some w⟩ => ⟨decide (v = w), some v, some w⟩
  | ⟨false, none, none⟩ => ⟨false, none, none⟩
  | ⟨false, some v, none⟩ => ⟨false, some v, none⟩
  | ⟨false, none, some v⟩ => ⟨false, none, some v⟩
theorem Lb.nrm_ok {α : Type} [DecidableEq α] {l : Lb α} {x y : α} (h : l.ok x y) : l.nrm.ok x y := by
  obtain ⟨s, a, b⟩ := l
  obtain ⟨h1, h2, h3⟩ := h
  simp only at h1 h2 h3
  cases s
  · cases a <;> cases b
    · exact ⟨h1, h2, h3⟩
    · exact ⟨h1, h2, h3⟩
    · exact ⟨h1, h2, h3⟩
    · rename_i v w
      refine ⟨fun h => ?_, h2, h3⟩
      rw [h2 v rfl, h3 w rfl]
      exact of_decide_eq_true h
  · have e := h1 rfl
    subst e
    cases a
    · cases b
      · exact ⟨h1, h2, h3⟩
      · rename_i v
        exact ⟨h1, h3, h3⟩
    · rename_i v
      exact ⟨h1, h2, h2⟩

def joinO {α : Type} [DecidableEq α] (x y : Option α) : Option α :=
  match x, y with
  | some u, some v => if u = v then some u else none
  | _, _ => none
theorem joinO_l {α : Type} [DecidableEq α] {x y : Option α} {v : α} (h : joinO x y = some v) : x = some v ∧ y = some v := by
  unfold joinO at h
  split at h
  · split at h
    · rename_i e; subst e; cases h; exact ⟨rfl, rfl⟩
    · cases h
  · cases h
def iteO {α : Type} [DecidableEq α] (c : Option Bool) (x y : Option α) : Option α :=
  match c with
  | some true => x
  | some false => y
  | none => joinO x y
theorem iteO_ok {α : Type} [DecidableEq α] {c : Option Bool} {x y : Option α} {c' : Bool} {x' y' : α} (hc : ∀ v, c = some v → c' = v) (hx : ∀ v, x = some v → x' = v) (hy : ∀ v, y = some v → y' = v) :
    ∀ v, iteO c x y = some v → (if c' then x' else y') = v := by
  intro v h
  unfold iteO at h
  split at h
  · rw [hc true rfl]; exact hx v h
  · rw [hc false rfl]; exact hy v h
  · obtain ⟨h1, h2⟩ := joinO_l h
    cases c'
    · exact hy v h2
    · exact hx v h1
def iteL {α : Type} [DecidableEq α] (c : Lb Bool) (x y : Lb α) : Lb α :=
  Lb.nrm ⟨match c.a, c.b with
    | some true, some true => x.s
    | some false, some false => y.s
    | _, _ => c.s && x.s && y.s, iteO c.a x.a y.a, iteO c.b x.b y.b⟩
theorem iteL_ok {α : Type} [DecidableEq α] {c : Lb Bool} {x y : Lb α} {c1 c2 : Bool} {x1 x2 y1 y2 : α} (hc : c.ok c1 c2) (hx : x.ok x1 x2) (hy : y.ok y1 y2) :
    (iteL c x y).ok (if c1 then x1 else y1) (if c2 then x2 else y2) := by
  refine Lb.nrm_ok ⟨fun h => ?_, iteO_ok hc.2.1 hx.2.1 hy.2.1, iteO_ok hc.2.2 hx.2.2 hy.2.2⟩
  simp only at h
  split at h
  · rename_i e1 e2
    rw [hc.2.1 _ e1, hc.2.2 _ e2]
    exact hx.1 h
  · rename_i e1 e2
    rw [hc.2.1 _ e1, hc.2.2 _ e2]
    exact hy.1 h
  · simp only [Bool.and_eq_true] at h
    rw [hc.1 h.1.1, hx.1 h.1.2, hy.1 h.2]

def op2 {α β γ : Type} (f : α → β → γ) : Option α → Option β → Option γ
  | some x, some y => some (f x y)
  | _, _ => none
theorem op2_ok {α β γ : Type} {f : α → β → γ} {x : Option α} {y : Option β} {x' : α} {y' : β} (hx : ∀ v, x = some v → x' = v) (hy : ∀ v, y = some v → y' = v) :
    ∀ v, op2 f x y = some v → f x' y' = v := by
  intro v h
  unfold op2 at h
  split at h
  · rw [hx _ rfl, hy _ rfl]; exact Option.some.inj h
  · cases h
def op2L {α β γ : Type} [DecidableEq γ] (f : α → β → γ) (x : Lb α) (y : Lb β) : Lb γ := Lb.nrm ⟨x.s && y.s, op2 f x.a y.a, op2 f x.b y.b⟩
theorem op2L_ok {α β γ : Type} [DecidableEq γ] {f : α → β → γ} {x : Lb α} {y : Lb β} {x1 x2 : α} {y1 y2 : β} (hx : x.ok x1 x2) (hy : y.ok y1 y2) : (op2L f x y).ok (f x1 y1) (f x2 y2) := by
  refine Lb.nrm_ok ⟨fun h => ?_, op2_ok hx.2.1 hy.2.1, op2_ok hx.2.2 hy.2.2⟩
  simp only [Bool.and_eq_true] at h
  rw [hx.1 h.1, hy.1 h.2]
def op1L {α β : Type} (f : α → β) (x : Lb α) : Lb β := ⟨x.s, x.a.map f, x.b.map f⟩
theorem op1L_ok {α β : Type} {f : α → β} {x : Lb α} {x1 x2 : α} (hx : x.ok x1 x2) : (op1L f x).ok (f x1) (f x2) := by
  refine ⟨fun h => by rw [hx.1 h], fun v h => ?_, fun v h => ?_⟩
  · simp only [op1L, Option.map_eq_some_iff] at h
    obtain ⟨u, h1, h2⟩ := h
    rw [hx.2.1 u h1]; exact h2
  · simp only [op1L, Option.map_eq_some_iff] at h
    obtain ⟨u, h1, h2⟩ := h
    rw [hx.2.2 u h1]; exact h2
def same2 {α β γ : Type} (x : Lb α) (y : Lb β) : Lb γ := ⟨x.s && y.s, none, none⟩
theorem same2_ok {α β γ : Type} {f : α → β → γ} {x : Lb α} {y : Lb β} {x1 x2 : α} {y1 y2 : β} (hx : x.ok x1 x2) (hy : y.ok y1 y2) : (same2 x y : Lb γ).ok (f x1 y1) (f x2 y2) := by
  refine ⟨fun h => ?_, fun v h => (by cases h), fun v h => (by cases h)⟩
  simp only [same2, Bool.and_eq_true] at h
  rw [hx.1 h.1, hy.1 h.2]

/-! ### Nothing comes of nothing -/
theorem and_zero_l (k : IntKind) (y : Int) : arI .and k 0 y = 0 := by
  show IntKind.wrap k ↑(BitVec.ofInt k.bits 0 &&& BitVec.ofInt k.bits y).toNat = 0
  simp
  cases k <;> rfl
theorem and_zero_r (k : IntKind) (x : Int) : arI .and k x 0 = 0 := by
  show IntKind.wrap k ↑(BitVec.ofInt k.bits x &&& BitVec.ofInt k.bits 0).toNat = 0
  simp
  cases k <;> rfl
theorem andNot_zero (k : IntKind) (y : Int) : arI .andNot k 0 y = 0 := by
  show IntKind.wrap k ↑(BitVec.ofInt k.bits 0 &&& ~~~ BitVec.ofInt k.bits y).toNat = 0
  simp
  cases k <;> rfl
def isZ : Option Int → Bool
  | some (.ofNat 0) => true
  | _ => false
theorem isZ_spec {x : Option Int} (h : isZ x = true) : x = some 0 := by
  unfold isZ at h
  split at h
  · rfl
  · cases h
def arO (op : BinOp) (k : IntKind) (x y : Option Int) : Option Int :=
  match op with
  | .and => if isZ x || isZ y then some 0 else op2 (arI .and k) x y
  | .andNot => if isZ x then some 0 else op2 (arI .andNot k) x y
  | op => op2 (arI op k) x y
theorem arO_ok {op : BinOp} {k : IntKind} {x y : Option Int} {x' y' : Int} (hx : ∀ v, x = some v → x' = v) (hy : ∀ v, y = some v → y' = v) : ∀ v, arO op k x y = some v → arI op k x' y' = v := by
  intro v h
  unfold arO at h
  split at h
  · split at h
    · rename_i hz
      simp only [Bool.or_eq_true] at hz
      cases h
      rcases hz with hz | hz
      · rw [hx _ (isZ_spec hz)]; exact and_zero_l k y'
      · rw [hy _ (isZ_spec hz)]; exact and_zero_r k x'
    · exact op2_ok hx hy v h
  · split at h
    · rename_i hz
      cases h
      rw [hx _ (isZ_spec hz)]; exact andNot_zero k y'
    · exact op2_ok hx hy v h
  · exact op2_ok hx hy v h
def arL (op : BinOp) (k : IntKind) (x y : Lb Int) : Lb Int := Lb.nrm ⟨x.s && y.s, arO op k x.a y.a, arO op k x.b y.b⟩
theorem arL_ok {op : BinOp} {k : IntKind} {x y : Lb Int} {x1 x2 y1 y2 : Int} (hx : x.ok x1 x2) (hy : y.ok y1 y2) : (arL op k x y).ok (arI op k x1 y1) (arI op k x2 y2) := by
  refine Lb.nrm_ok ⟨fun h => ?_, arO_ok hx.2.1 hy.2.1, arO_ok hx.2.2 hy.2.2⟩
  simp only [Bool.and_eq_true] at h
  rw [hx.1 h.1, hy.1 h.2]
def andO : Option Bool → Option Bool → Option Bool
  | some false, _ => some false
  | some true, y => y
  | none, some false => some false
  | none, _ => none
def orO : Option Bool → Option Bool → Option Bool
  | some true, _ => some true
  | some false, y => y
  | none, some true => some true
  | none, _ => none
theorem andO_ok {x y : Option Bool} {x' y' : Bool} (hx : ∀ v, x = some v → x' = v) (hy : ∀ v, y = some v → y' = v) : ∀ v, andO x y = some v → (x' && y') = v := by
  intro v h
  unfold andO at h
  split at h
  · cases h; rw [hx _ rfl]; rfl
  · rw [hx _ rfl, hy _ h]; simp
  · cases h; rw [hy _ rfl]; simp
  · cases h
theorem orO_ok {x y : Option Bool} {x' y' : Bool} (hx : ∀ v, x = some v → x' = v) (hy : ∀ v, y = some v → y' = v) : ∀ v, orO x y = some v → (x' || y') = v := by
  intro v h
  unfold orO at h
  split at h
  · cases h; rw [hx _ rfl]; rfl
  · rw [hx _ rfl, hy _ h]; simp
  · cases h; rw [hy _ rfl]; simp
  · cases h
def andL (x y : Lb Bool) : Lb Bool := Lb.nrm ⟨x.s && y.s, andO x.a y.a, andO x.b y.b⟩
def orL (x y : Lb Bool) : Lb Bool := Lb.nrm ⟨x.s && y.s, orO x.a y.a, orO x.b y.b⟩
theorem andL_ok {x y : Lb Bool} {x1 x2 y1 y2 : Bool} (hx : x.ok x1 x2) (hy : y.ok y1 y2) : (andL x y).ok (x1 && y1) (x2 && y2) := by
  refine Lb.nrm_ok ⟨fun h => ?_, andO_ok hx.2.1 hy.2.1, andO_ok hx.2.2 hy.2.2⟩
  simp only [Bool.and_eq_true] at h
  rw [hx.1 h.1, hy.1 h.2]
theorem orL_ok {x y : Lb Bool} {x1 x2 y1 y2 : Bool} (hx : x.ok x1 x2) (hy : y.ok y1 y2) : (orL x y).ok (x1 || y1) (x2 || y2) := by
  refine Lb.nrm_ok ⟨fun h => ?_, orO_ok hx.2.1 hy.2.1, orO_ok hx.2.2 hy.2.2⟩
  simp only [Bool.and_eq_true] at h
  rw [hx.1 h.1, hy.1 h.2]

/-! ### Trees: numbers to what is known -/
inductive Tr (α : Type) where
  | e
  | n (x : α) (l r : Tr α)
def Tr.get {α : Type} (d : α) : Tr α → Nat → α
  | .e, _ => d
  | .n x l r, i => match Nat.ble i 1 with
    | true => x
    | false => match Nat.beq (i % 2) 0 with
      | true => l.get d (i / 2)
      | false => r.get d (i / 2)
def Tr.set {α : Type} : Tr α → Nat → α → Tr α
  | .e, i, x => match Nat.ble i 1 with
    | true => .n x .e .e
    | false => .e
  | .n y l r, i, x => match Nat.ble i 1 with
    | true => .n x l r
    | false => match Nat.beq (i % 2) 0 with
      | true => .n y (l.set (i / 2) x) r
      | false => .n y l (r.set (i / 2) x)
theorem Tr.get_set_ne {α : Type} {d x : α} : ∀ {t : Tr α} {i j : Nat}, 1 ≤ i → 1 ≤ j → i ≠ j → (t.set i x).get d j = t.get d j
  | .e, i, j, hi, hj, hn => by
    unfold Tr.set
    split
    · rename_i h
      rw [Nat.ble_eq] at h
      have : Nat.ble j 1 = false := by rw [← Bool.not_eq_true, Nat.ble_eq]; omega
      unfold Tr.get
      simp only [this]
      split <;> unfold Tr.get <;> rfl
    · rfl
  | .n y l r, i, j, hi, hj, hn => by
    unfold Tr.set
    split
    · rename_i h
      rw [Nat.ble_eq] at h
      have : Nat.ble j 1 = false := by rw [← Bool.not_eq_true, Nat.ble_eq]; omega
      unfold Tr.get
      simp only [this]
    · rename_i h
      have h' : ¬ i ≤ 1 := by rw [← Nat.ble_eq]; simp [h]
      split
      · rename_i h2
        rw [Nat.beq_eq] at h2
        unfold Tr.get
        split
        · rfl
        · rename_i h3
          have h3' : ¬ j ≤ 1 := by rw [← Nat.ble_eq]; simp [h3]
          split
          · rename_i h4
            rw [Nat.beq_eq] at h4
            exact Tr.get_set_ne (by omega) (by omega) (by omega)
          · rfl
      · rename_i h2
        have h2' : ¬ i % 2 = 0 := by rw [← Nat.beq_eq]; simp [h2]
        unfold Tr.get
        split
        · rfl
        · rename_i h3
          have h3' : ¬ j ≤ 1 := by rw [← Nat.ble_eq]; simp [h3]
          split
          · rfl
          · rename_i h4
            have h4' : ¬ j % 2 = 0 := by rw [← Nat.beq_eq]; simp [h4]
            exact Tr.get_set_ne (by omega) (by omega) (by omega)
theorem Tr.get_set_eq {α : Type} {d x : α} : ∀ {t : Tr α} {i : Nat}, (t.set i x).get d i = x ∨ (t.set i x).get d i = d
  | .e, i => by
    unfold Tr.set
    split
    · rename_i h
      left
      unfold Tr.get
      simp only [h]
    · right; rfl
  | .n y l r, i => by
    unfold Tr.set
    split
    · rename_i h
      left
      unfold Tr.get
      simp only [h]
    · rename_i h
      split
      · rename_i h2
        unfold Tr.get
        simp only [h, h2]
        exact Tr.get_set_eq
      · rename_i h2
        unfold Tr.get
        simp only [h, h2]
        exact Tr.get_set_eq

/-! ### What was emitted, in two runs -/
/-- What is known so far: of how many numbers, of how many bools. -/
structure PrS where
  ni : Nat
  nb : Nat
  ti : Tr (Lb Int)
  tb : Tr (Lb Bool)
def PrS.i (σ : PrS) (n : Nat) : Lb Int := σ.ti.get Lb.top (n + 1)
def PrS.b (σ : PrS) (n : Nat) : Lb Bool := σ.tb.get Lb.top (n + 1)
def Rl {α : Type} (d : α) (n : Nat) (f : Nat → Lb α) (l m : List α) : Prop := l.length = n ∧ m.length = n ∧ ∀ j, j < n → (f j).ok (l.getD j d) (m.getD j d)
def PrS.ok (σ : PrS) (is1 : List Int) (bs1 : List Bool) (is2 : List Int) (bs2 : List Bool) : Prop := Rl 0 σ.ni σ.i is1 is2 ∧ Rl false σ.nb σ.b bs1 bs2
theorem Rl.get {α : Type} {d : α} {n : Nat} {f : Nat → Lb α} {l m : List α} (h : Rl d n f l m) (hf : ∀ j, n ≤ j → f j = Lb.top) (j : Nat) : (f j).ok (l.getD j d) (m.getD j d) := by
  by_cases hj : j < n
  · exact h.2.2 j hj
  · rw [hf j (by omega)]; exact Lb.top_ok
def AI (σ : PrS) : A → Lb Int
  | .v n => match Nat.blt n σ.ni with
    | true => σ.i n
    | false => Lb.cst 0
  | .c k => Lb.cst k
def BI (σ : PrS) : B → Lb Bool
  | .v n => match Nat.blt n σ.nb with
    | true => σ.b n
    | false => Lb.cst false
  | .c k => Lb.cst k
theorem getD_ge {α : Type} {d : α} {l : List α} {j : Nat} (h : l.length ≤ j) : l.getD j d = d := by
  rw [List.getD_eq_getElem?_getD, List.getElem?_eq_none h]; rfl
theorem AI_ok {σ : PrS} {is1 : List Int} {bs1 : List Bool} {is2 : List Int} {bs2 : List Bool} (h : σ.ok is1 bs1 is2 bs2) (x : A) : (AI σ x).ok (x.d (envOf is1 bs1)) (x.d (envOf is2 bs2)) := by
  cases x with
  | v n =>
    cases hn : Nat.blt n σ.ni with
    | true =>
      simp only [AI, hn]
      rw [Nat.blt_eq] at hn
      exact h.1.2.2 n hn
    | false =>
      simp only [AI, hn]
      have hn' : ¬ n < σ.ni := by rw [← Nat.blt_eq]; simp [hn]
      show (Lb.cst 0).ok (is1.getD n 0) (is2.getD n 0)
      rw [getD_ge (by rw [h.1.1]; omega), getD_ge (by rw [h.1.2.1]; omega)]
      exact Lb.cst_ok
  | c k => exact Lb.cst_ok
theorem BI_ok {σ : PrS} {is1 : List Int} {bs1 : List Bool} {is2 : List Int} {bs2 : List Bool} (h : σ.ok is1 bs1 is2 bs2) (x : B) : (BI σ x).ok (x.d (envOf is1 bs1)) (x.d (envOf is2 bs2)) := by
  cases x with
  | v n =>
    cases hn : Nat.blt n σ.nb with
    | true =>
      simp only [BI, hn]
      rw [Nat.blt_eq] at hn
      exact h.2.2.2 n hn
    | false =>
      simp only [BI, hn]
      have hn' : ¬ n < σ.nb := by rw [← Nat.blt_eq]; simp [hn]
      show (Lb.cst false).ok (bs1.getD n false) (bs2.getD n false)
      rw [getD_ge (by rw [h.2.1]; omega), getD_ge (by rw [h.2.2.1]; omega)]
      exact Lb.cst_ok
  | c k => exact Lb.cst_ok
def RI.lb (σ : PrS) : RI → Lb Int
  | .ar op k a b => arL op k (AI σ a) (AI σ b)
  | .cv k a => op1L (IntKind.wrap k) (AI σ a)
  | .ite c a b => iteL (BI σ c) (AI σ a) (AI σ b)
  | .mn a b => op2L (fun x y => if y < x then y else x) (AI σ a) (AI σ b)
  | .mx a b => op2L (fun x y => if y > x then y else x) (AI σ a) (AI σ b)
  | .tab l a => op1L (fun x : Int => l.getD x.toNat 0) (AI σ a)
  | .get q a s k => same2 (AI σ q) (AI σ a)
  | .lenq q s => ⟨(AI σ q).s, none, none⟩
def RB.lb (σ : PrS) : RB → Lb Bool
  | .cm op a b => op2L (cmB op) (AI σ a) (AI σ b)
  | .not a => op1L (fun x => !x) (BI σ a)
  | .and a b => andL (BI σ a) (BI σ b)
  | .or a b => orL (BI σ a) (BI σ b)
  | .eqb a b => op2L (fun x y => x == y) (BI σ a) (BI σ b)
  | .ite c a b => iteL (BI σ c) (BI σ a) (BI σ b)
  | .getb q a s k => same2 (AI σ q) (AI σ a)
theorem RI.lb_ok {σ : PrS} {is1 : List Int} {bs1 : List Bool} {is2 : List Int} {bs2 : List Bool} (h : σ.ok is1 bs1 is2 bs2) (r : RI) : (r.lb σ).ok (r.d (envOf is1 bs1)) (r.d (envOf is2 bs2)) := by
  cases r with
  | ar op k a b => exact arL_ok (AI_ok h a) (AI_ok h b)
  | cv k a => exact op1L_ok (AI_ok h a)
  | ite c a b => exact iteL_ok (BI_ok h c) (AI_ok h a) (AI_ok h b)
  | mn a b => exact op2L_ok (f := fun x y => if y < x then y else x) (AI_ok h a) (AI_ok h b)
  | mx a b => exact op2L_ok (f := fun x y => if y > x then y else x) (AI_ok h a) (AI_ok h b)
  | tab l a => exact op1L_ok (f := fun x : Int => l.getD x.toNat 0) (AI_ok h a)
  | get q a s k => exact same2_ok (f := fun q a => (dec q).getD (a.toNat * s + k) 0) (AI_ok h q) (AI_ok h a)
  | lenq q s => exact ⟨fun e => (by simp only [RI.d]; rw [(AI_ok h q).1 e]), fun v e => (by cases e), fun v e => (by cases e)⟩
theorem RB.lb_ok {σ : PrS} {is1 : List Int} {bs1 : List Bool} {is2 : List Int} {bs2 : List Bool} (h : σ.ok is1 bs1 is2 bs2) (r : RB) : (r.lb σ).ok (r.d (envOf is1 bs1)) (r.d (envOf is2 bs2)) := by
  cases r with
  | cm op a b => exact op2L_ok (AI_ok h a) (AI_ok h b)
  | not a => exact op1L_ok (f := fun x => !x) (BI_ok h a)
  | and a b => exact andL_ok (BI_ok h a) (BI_ok h b)
  | or a b => exact orL_ok (BI_ok h a) (BI_ok h b)
  | eqb a b => exact op2L_ok (f := fun x y => x == y) (BI_ok h a) (BI_ok h b)
  | ite c a b => exact iteL_ok (BI_ok h c) (BI_ok h a) (BI_ok h b)
  | getb q a s k => exact same2_ok (f := fun q a => (dec q).getD (a.toNat * s + k) 0 != 0) (AI_ok h q) (AI_ok h a)

def PrS.pushI (σ : PrS) (x : Lb Int) : PrS := { σ with ni := σ.ni + 1, ti := σ.ti.set (σ.ni + 1) x }
def PrS.pushB (σ : PrS) (x : Lb Bool) : PrS := { σ with nb := σ.nb + 1, tb := σ.tb.set (σ.nb + 1) x }
theorem getD_snoc_lt {α : Type} {d x : α} {l : List α} {j : Nat} (h : j < l.length) : (l ++ [x]).getD j d = l.getD j d := getD_append_left _ _ _ _ h
theorem getD_snoc_eq {α : Type} {d x : α} {l : List α} : (l ++ [x]).getD l.length d = x := by simp
theorem Rl.push {α : Type} {d x y : α} {n : Nat} {t : Tr (Lb α)} {u : Lb α} {l m : List α} (h : Rl d n (fun j => t.get Lb.top (j + 1)) l m) (hu : u.ok x y) :
    Rl d (n + 1) (fun j => (t.set (n + 1) u).get Lb.top (j + 1)) (l ++ [x]) (m ++ [y]) := by
  obtain ⟨h1, h2, h3⟩ := h
  refine ⟨by simp [h1], by simp [h2], fun j hj => ?_⟩
  simp only
  by_cases e : j = n
  · have e1 : (l ++ [x]).getD j d = x := by rw [e, ← h1]; exact getD_snoc_eq
    have e2 : (m ++ [y]).getD j d = y := by rw [e, ← h2]; exact getD_snoc_eq
    rw [e1, e2, e]
    rcases Tr.get_set_eq (d := Lb.top) (x := u) (t := t) (i := n + 1) with h | h
    · rw [h]; exact hu
    · rw [h]; exact Lb.top_ok
  · rw [getD_snoc_lt (by omega), getD_snoc_lt (by omega), Tr.get_set_ne (by omega) (by omega) (by omega)]
    exact h3 j (by omega)
theorem PrS.pushI_ok {σ : PrS} {is1 : List Int} {bs1 : List Bool} {is2 : List Int} {bs2 : List Bool} {u : Lb Int} {x y : Int} (h : σ.ok is1 bs1 is2 bs2) (hu : u.ok x y) : (σ.pushI u).ok (is1 ++ [x]) bs1 (is2 ++ [y]) bs2 :=
  ⟨Rl.push h.1 hu, h.2⟩
theorem PrS.pushB_ok {σ : PrS} {is1 : List Int} {bs1 : List Bool} {is2 : List Int} {bs2 : List Bool} {u : Lb Bool} {x y : Bool} (h : σ.ok is1 bs1 is2 bs2) (hu : u.ok x y) : (σ.pushB u).ok is1 (bs1 ++ [x]) is2 (bs2 ++ [y]) :=
  ⟨h.1, Rl.push h.2 hu⟩
def PrS.pushIs (σ : PrS) : Nat → List (Lb Int) → PrS
  | 0, _ => σ
  | n + 1, [] => (σ.pushI Lb.top).pushIs n []
  | n + 1, x :: l => (σ.pushI x).pushIs n l
def PrS.pushBs (σ : PrS) : Nat → List (Lb Bool) → PrS
  | 0, _ => σ
  | n + 1, [] => (σ.pushB Lb.top).pushBs n []
  | n + 1, x :: l => (σ.pushB x).pushBs n l
/-- What is known of two lists, one by one. -/
def Pw {α : Type} (d : α) (ls : List (Lb α)) (l m : List α) : Prop := ∀ j, (ls.getD j Lb.top).ok (l.getD j d) (m.getD j d)
theorem Pw.nil {α : Type} {d : α} {l m : List α} : Pw d [] l m := fun j => by simpa using Lb.top_ok
theorem Pw.cons {α : Type} {d x y : α} {u : Lb α} {ls : List (Lb α)} {l m : List α} (hu : u.ok x y) (h : Pw d ls l m) : Pw d (u :: ls) (x :: l) (y :: m) := by
  intro j
  cases j with
  | zero => simpa using hu
  | succ j => simpa using h j
theorem Pw.tail {α : Type} {d : α} {ls : List (Lb α)} {l m : List α} (h : Pw d ls l m) : Pw d ls.tail l.tail m.tail := fun j => by
  have := h (j + 1)
  cases ls <;> cases l <;> cases m <;> simpa using this
theorem padTo_succ {α : Type} {d : α} {n : Nat} {l : List α} : padTo d (n + 1) l = l.getD 0 d :: padTo d n l.tail := by
  cases l <;> simp [padTo]
theorem PrS.pushIs_ok : ∀ {n : Nat} {σ : PrS} {is1 : List Int} {bs1 : List Bool} {is2 : List Int} {bs2 : List Bool} {ls : List (Lb Int)} {l m : List Int}, σ.ok is1 bs1 is2 bs2 → Pw 0 ls l m →
    (σ.pushIs n ls).ok (is1 ++ padTo 0 n l) bs1 (is2 ++ padTo 0 n m) bs2
  | 0, σ, is1, bs1, is2, bs2, ls, l, m, h, hp => by simpa [padTo, PrS.pushIs] using h
  | n + 1, σ, is1, bs1, is2, bs2, ls, l, m, h, hp => by
    rw [padTo_succ, padTo_succ, show is1 ++ l.getD 0 0 :: padTo 0 n l.tail = (is1 ++ [l.getD 0 0]) ++ padTo 0 n l.tail by simp, show is2 ++ m.getD 0 0 :: padTo 0 n m.tail = (is2 ++ [m.getD 0 0]) ++ padTo 0 n m.tail by simp]
    cases ls with
    | nil => exact PrS.pushIs_ok (PrS.pushI_ok h (hp 0)) hp.tail
    | cons u ls => exact PrS.pushIs_ok (PrS.pushI_ok h (hp 0)) hp.tail
theorem PrS.pushBs_ok : ∀ {n : Nat} {σ : PrS} {is1 : List Int} {bs1 : List Bool} {is2 : List Int} {bs2 : List Bool} {ls : List (Lb Bool)} {l m : List Bool}, σ.ok is1 bs1 is2 bs2 → Pw false ls l m →
    (σ.pushBs n ls).ok is1 (bs1 ++ padTo false n l) is2 (bs2 ++ padTo false n m)
  | 0, σ, is1, bs1, is2, bs2, ls, l, m, h, hp => by simpa [padTo, PrS.pushBs] using h
  | n + 1, σ, is1, bs1, is2, bs2, ls, l, m, h, hp => by
    rw [padTo_succ, padTo_succ, show bs1 ++ l.getD 0 false :: padTo false n l.tail = (bs1 ++ [l.getD 0 false]) ++ padTo false n l.tail by simp, show bs2 ++ m.getD 0 false :: padTo false n m.tail = (bs2 ++ [m.getD 0 false]) ++ padTo false n m.tail by simp]
    cases ls with
    | nil => exact PrS.pushBs_ok (PrS.pushB_ok h (hp 0)) hp.tail
    | cons u ls => exact PrS.pushBs_ok (PrS.pushB_ok h (hp 0)) hp.tail

/-- What is known of a function's answers, from what is known of its arguments. -/
abbrev PF := List (Lb Int) → List (Lb Bool) → List (Lb Int) × List (Lb Bool)
def POk (F : Fun) (p : PF) : Prop := ∀ li lb is1 bs1 is2 bs2, is1.length = li.length → is2.length = li.length → bs1.length = lb.length → bs2.length = lb.length → Pw 0 li is1 is2 → Pw false lb bs1 bs2 → Pw 0 (p li lb).1 (F is1 bs1).1 (F is2 bs2).1 ∧ Pw false (p li lb).2 (F is1 bs1).2 (F is2 bs2).2
def prEm (T : Nat → PF) : List Em → PrS → PrS
  | [], σ => σ
  | .di _ r :: l, σ => prEm T l (σ.pushI (r.lb σ))
  | .db _ r :: l, σ => prEm T l (σ.pushB (r.lb σ))
  | .call f ai ab _ ni _ nb :: l, σ =>
    match T f (ai.map (AI σ)) (ab.map (BI σ)) with
    | (oi, ob) => prEm T l ((σ.pushIs ni oi).pushBs nb ob)
  | .ob _ _ :: l, σ => prEm T l σ
theorem Pw.map {α β : Type} {d : α} {f : β → Lb α} {g h : β → α} : ∀ {l : List β}, (∀ x, (f x).ok (g x) (h x)) → Pw d (l.map f) (l.map g) (l.map h)
  | [], _ => Pw.nil
  | x :: l, hx => Pw.cons (hx x) (Pw.map hx)
theorem prEm_ok {Φ : Funs} {T : Nat → PF} (hT : ∀ f, POk (Φ f) (T f)) : ∀ {l : List Em} {σ : PrS} {is1 : List Int} {bs1 : List Bool} {is2 : List Int} {bs2 : List Bool}, σ.ok is1 bs1 is2 bs2 →
    (prEm T l σ).ok (evEm Φ l is1 bs1).1 (evEm Φ l is1 bs1).2 (evEm Φ l is2 bs2).1 (evEm Φ l is2 bs2).2
  | [], σ, is1, bs1, is2, bs2, h => h
  | .di _ r :: l, σ, is1, bs1, is2, bs2, h => prEm_ok hT (l := l) (PrS.pushI_ok h (r.lb_ok h))
  | .db _ r :: l, σ, is1, bs1, is2, bs2, h => prEm_ok hT (l := l) (PrS.pushB_ok h (r.lb_ok h))
  | .call f ai ab _ ni _ nb :: l, σ, is1, bs1, is2, bs2, h => by
    have h1 := hT f (ai.map (AI σ)) (ab.map (BI σ)) (ai.map (A.d (envOf is1 bs1))) (ab.map (B.d (envOf is1 bs1))) (ai.map (A.d (envOf is2 bs2))) (ab.map (B.d (envOf is2 bs2))) (by simp) (by simp) (by simp) (by simp) (Pw.map (AI_ok h)) (Pw.map (BI_ok h))
    simp only [prEm, evEm]
    exact prEm_ok hT (PrS.pushBs_ok (PrS.pushIs_ok h h1.1) h1.2)
  | .ob _ _ :: l, σ, is1, bs1, is2, bs2, h => prEm_ok hT (l := l) h
/-- What is known at the beginning. -/
def PrS.of (li : List (Lb Int)) (lb : List (Lb Bool)) : PrS := (PrS.pushIs ⟨0, 0, .e, .e⟩ li.length li).pushBs lb.length lb
theorem PrS.of_ok {li : List (Lb Int)} {lb : List (Lb Bool)} {is1 is2 : List Int} {bs1 bs2 : List Bool} (hi : Pw 0 li is1 is2) (hb : Pw false lb bs1 bs2)
    (h1 : is1.length = li.length) (h2 : is2.length = li.length) (h3 : bs1.length = lb.length) (h4 : bs2.length = lb.length) : (PrS.of li lb).ok is1 bs1 is2 bs2 := by
  have e : ∀ {α : Type} (d : α) (l : List α), padTo d l.length l = l := by
    intro α d l
    induction l with
    | nil => rfl
    | cons x l ih => simp [padTo, ih]
  have h0 : (⟨0, 0, .e, .e⟩ : PrS).ok [] [] [] [] := ⟨⟨rfl, rfl, fun j hj => absurd hj (Nat.not_lt_zero j)⟩, rfl, rfl, fun j hj => absurd hj (Nat.not_lt_zero j)⟩
  have := PrS.pushBs_ok (n := lb.length) (PrS.pushIs_ok (n := li.length) h0 hi) hb
  rw [← h1, e 0 is1, h1, ← h2, e 0 is2, h2, ← h3, e false bs1, h3, ← h4, e false bs2, h4] at this
  exact this
def PF.nil : PF := fun _ _ => ([], [])
theorem POk.nil {F : Fun} : POk F PF.nil := fun _ _ _ _ _ _ _ _ _ _ _ _ => ⟨Pw.nil, Pw.nil⟩
def Smry.pr (T : Nat → PF) (pre : Bool) (S : Smry) : PF := fun li lb =>
  match prEm T S.em (PrS.of li lb) with
  | σ => (S.ri.map (AI σ), (if pre then [Lb.top] else []) ++ S.rb.map (BI σ))
theorem Smry.pr_ok {Φ : Funs} {T : Nat → PF} (hT : ∀ f, POk (Φ f) (T f)) {pre : Bool} {S : Smry} : POk (S.run Φ pre) (S.pr T pre) := by
  intro li lb is1 bs1 is2 bs2 h1 h2 h3 h4 hi hb
  have h := prEm_ok hT (l := S.em) (PrS.of_ok hi hb h1 h2 h3 h4)
  unfold Smry.pr Smry.run
  simp only
  refine ⟨Pw.map (AI_ok h), ?_⟩
  cases pre
  · simpa using Pw.map (BI_ok h)
  · simp only [if_true, List.cons_append, List.nil_append]
    exact Pw.cons Lb.top_ok (Pw.map (BI_ok h))
def tabP : List (Nat × PF) → Nat → PF
  | [], _ => PF.nil
  | (f, p) :: l, n => if Nat.beq n f then p else tabP l n
end Go.Proofs.YtalnndmnnffnmaaGreat.Sx
