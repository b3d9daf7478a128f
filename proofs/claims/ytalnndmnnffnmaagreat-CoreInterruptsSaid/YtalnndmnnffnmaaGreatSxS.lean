/-
  SX, part S: a region that draws its order, the whole of it. No condition.
-/
import Derived.Test.YtalnndmnnffnmaaGreatSxR
set_option linter.unusedVariables false
set_option linter.unusedSimpArgs false
namespace Go.Proofs.YtalnndmnnffnmaaGreat.Sx
open Go

def runD (P : Program) (X : Hnd) (gh : Hl) (ng : Nat) (ops : Array Oper) : List Oper → St → List DAct → M (List DAct × St)
  | [], σ, _ => pure ([], σ)
  | o :: l, σ, acc => do
    let d ← opDm P X gh ng ops o σ acc
    let σ' ← lift (applyD d σ)
    let r ← runD P X gh ng ops l σ' (acc ++ [d])
    pure (d :: r.1, r.2)

/-! ### Maps: made ahead of what is put in, all put in ahead of what is looked up -/
def mkAt (M m : Nat) : List DAct → Nat → Bool
  | [], _ => false
  | d :: l, k => (d.mkm == some M && m.testBit k) || mkAt M m l (k + 1)
theorem mkAt_spec {M m : Nat} : ∀ {l : List DAct} {k : Nat}, mkAt M m l k = true → ∃ i d, l[i]? = some d ∧ d.mkm = some M ∧ m.testBit (k + i) = true
  | d :: l, k, h => by
    simp only [mkAt, Bool.or_eq_true, Bool.and_eq_true, beq_iff_eq] at h
    rcases h with h | h
    · exact ⟨0, d, by simp, h.1, by simpa using h.2⟩
    · obtain ⟨i, e, h1, h2, h3⟩ := mkAt_spec h
      exact ⟨i + 1, e, by simpa using h1, h2, by rw [show k + (i + 1) = k + 1 + i by omega]; exact h3⟩
def insIn (M m j : Nat) : List DAct → Nat → Bool
  | [], _ => true
  | d :: l, k => ((insOf d M).isEmpty || (Nat.blt k j && m.testBit k)) && insIn M m j l (k + 1)
theorem insIn_spec {M m j : Nat} : ∀ {l : List DAct} {k : Nat}, insIn M m j l k = true → ∀ i d, l[i]? = some d → insOf d M ≠ [] → k + i < j ∧ m.testBit (k + i) = true
  | [], k, h, i, d, hi, _ => by simp at hi
  | e :: l, k, h, i, d, hi, hne => by
    simp only [insIn, Bool.and_eq_true, Bool.or_eq_true, List.isEmpty_iff, Nat.blt_eq] at h
    cases i with
    | zero =>
      simp at hi
      subst hi
      rcases h.1 with h1 | h1
      · exact absurd h1 hne
      · simpa using h1
    | succ i =>
      have := insIn_spec h.2 i d (by simpa using hi) hne
      rw [show k + 1 + i = k + (i + 1) by omega] at this
      exact this
def keyNew (M : Nat) (key : ByteArray) (j : Nat) : List DAct → Nat → Bool
  | [], _ => true
  | d :: l, k => (k == j || (insOf d M).all fun p => !(p.1.data.toList == key.data.toList)) && keyNew M key j l (k + 1)
theorem keyNew_spec {M : Nat} {key : ByteArray} {j : Nat} : ∀ {l : List DAct} {k : Nat}, keyNew M key j l k = true → ∀ i d, l[i]? = some d → k + i ≠ j → ∀ p, p ∈ insOf d M → p.1 ≠ key
  | [], k, h, i, d, hi, _, _, _ => by simp at hi
  | e :: l, k, h, i, d, hi, hne, p, hp => by
    simp only [keyNew, Bool.and_eq_true, Bool.or_eq_true, beq_iff_eq, List.all_eq_true, Bool.not_eq_true', beq_eq_false_iff_ne, ne_eq] at h
    cases i with
    | zero =>
      simp at hi
      subst hi
      rcases h.1 with h1 | h1
      · exact absurd h1 (by simpa using hne)
      · exact fun e => h1 p hp (by rw [e])
    | succ i => exact keyNew_spec h.2 i d (by simpa using hi) (by omega) p hp
def nodupK : MEs → Bool
  | [] => true
  | (k, _) :: l => (l.all fun p => !(p.1.data.toList == k.data.toList)) && nodupK l
theorem nodupK_spec : ∀ {l : MEs}, nodupK l = true → (l.map (·.1)).Nodup
  | [], _ => by simp
  | (k, s) :: l, h => by
    simp only [nodupK, Bool.and_eq_true, List.all_eq_true, Bool.not_eq_true', beq_eq_false_iff_ne, ne_eq] at h
    simp only [List.map_cons, List.nodup_cons]
    refine ⟨fun hm => ?_, nodupK_spec h.2⟩
    obtain ⟨p, hp, he⟩ := List.mem_map.1 hm
    exact h.1 p hp (by rw [he])
def mapsOne (all : List DAct) (m j : Nat) (d : DAct) : Bool :=
  (match d.ins with | some (M, k, _) => mkAt M m all 0 && keyNew M k j all 0 | none => true) && d.lk.all fun p => mkAt p.1 m all 0 && insIn p.1 m j all 0 && nodupK p.2
def mapsAll (all : List DAct) : List Nat → List DAct → Nat → Bool
  | _, [], _ => true
  | [], _ :: _, _ => false
  | m :: ms, d :: l, j => mapsOne all m j d && mapsAll all ms l (j + 1)
theorem mapsAll_spec {all : List DAct} : ∀ {ms : List Nat} {l : List DAct} {j : Nat}, mapsAll all ms l j = true → ∀ i d, l[i]? = some d → ∃ m, ms[i]? = some m ∧ mapsOne all m (j + i) d = true
  | _, [], j, _, i, d, hi => by simp at hi
  | [], _ :: _, j, h, _, _, _ => by simp [mapsAll] at h
  | m :: ms, e :: l, j, h, i, d, hi => by
    simp only [mapsAll, Bool.and_eq_true] at h
    cases i with
    | zero =>
      simp at hi
      subst hi
      exact ⟨m, by simp, by simpa using h.1⟩
    | succ i =>
      obtain ⟨m', h1, h2⟩ := mapsAll_spec h.2 i d (by simpa using hi)
      exact ⟨m', by simpa using h1, by rw [show j + (i + 1) = j + 1 + i by omega]; exact h2⟩
/-- What an operation asks of maps, where it is drawn. -/
structure MapsAt (ds : List DAct) (L : Nat → Bool) (i : Nat) (d : DAct) : Prop where
  ins : ∀ M k s, d.ins = some (M, k, s) → (∃ m e, ds[m]? = some e ∧ e.mkm = some M ∧ L m = true) ∧ ∀ j e, ds[j]? = some e → j ≠ i → ∀ p, p ∈ insOf e M → p.1 ≠ k
  lk : ∀ p, p ∈ d.lk → (∃ m e, ds[m]? = some e ∧ e.mkm = some p.1 ∧ L m = true) ∧ (∀ j e, ds[j]? = some e → insOf e p.1 ≠ [] → j < i ∧ L j = true) ∧ (p.2.map (·.1)).Nodup
  mak : ∀ M, d.mkm = some M → ∀ j e, ds[j]? = some e → insOf e M ≠ [] → L j = false ∧ j ≠ i
theorem insOf_ins {d : DAct} {M : Nat} (h : insOf d M ≠ []) : ∃ k s, d.ins = some (M, k, s) := by
  unfold insOf at h
  split at h
  · rename_i M' k s hi
    split at h
    · rename_i he
      simp only [beq_iff_eq] at he
      subst he
      exact ⟨k, s, hi⟩
    · exact absurd rfl h
  · exact absurd rfl h

/-! ### Which go first, whatever order is drawn -/
def bEdges (o : Oper) : List Nat := (o.after.toList.filter (Region.binds .any)).map (·.on)
def maskOf (cs : List Nat) : List Nat → Nat
  | [] => 0
  | e :: l => ((1 <<< e) ||| cs.getD e 0) ||| maskOf cs l
def masks : List Oper → List Nat → List Nat
  | [], cs => cs
  | o :: l, cs => masks l (cs ++ [maskOf cs (bEdges o)])
def hasBl (l : Hl) (id : Nat) : Bool := match hpOf l id with | some _ => true | none => false
def half (d e : DAct) : Bool :=
  (match d.dst with | none => false | some t => e.rs.contains t || e.dst == some t) || d.bl.any fun p => e.rb.contains p.1 || hasBl e.bl p.1
def conf (d e : DAct) : Bool := half d e || half e d
def ordOne (m : Nat) (d : DAct) : List DAct → Nat → Bool
  | [], _ => true
  | e :: l, i => (Nat.testBit m i || !conf e d) && ordOne m d l (i + 1)
def ordAll : List Nat → List DAct → List DAct → Bool
  | _, _, [] => true
  | [], _, _ :: _ => false
  | m :: ms, pre, d :: l => ordOne m d pre 0 && ordAll ms (pre ++ [d]) l
def edgesOk : List Oper → Nat → Bool
  | [], _ => true
  | o :: l, j => (bEdges o).all (fun e => Nat.blt e j) && edgesOk l (j + 1)
def regD (P : Program) (X : Hnd) (gh : Hl) (ng : Nat) (ops : Array Oper) (σ : St) : M St := do
  let r ← M.mono (runD P X gh ng ops ops.toList σ [])
  if P.follows .mixedOrders && edgesOk ops.toList 0 && (ordAll (masks ops.toList []) [] r.1 && mapsAll r.1 (masks ops.toList []) r.1 0) then pure r.2 else M.fail
/-- A region that draws nothing, in which there are maps. -/
def seqMasks : Nat → Nat → List Nat
  | 0, _ => []
  | n + 1, k => (2 ^ k - 1) :: seqMasks n (k + 1)
theorem seqMasks_get : ∀ {n k i : Nat} {m : Nat}, (seqMasks n k)[i]? = some m → m = 2 ^ (k + i) - 1
  | 0, k, i, m, h => by simp [seqMasks] at h
  | n + 1, k, i, m, h => by
    cases i with
    | zero => simp [seqMasks] at h; simp [← h]
    | succ i =>
      have := seqMasks_get (n := n) (k := k + 1) (i := i) (m := m) (by simpa [seqMasks] using h)
      rw [this, show k + 1 + i = k + (i + 1) by omega]
def regM (P : Program) (X : Hnd) (gh : Hl) (ng : Nat) (ops : Array Oper) (σ : St) : M St := do
  let r ← M.mono (runD P X gh ng ops ops.toList σ [])
  if mapsAll r.1 (seqMasks r.1.length 0) r.1 0 then pure r.2 else M.fail
def hasMaps (ops : Array Oper) : Bool := ops.toList.any fun o => (mapOp o).isSome

theorem maskOf_spec {cs : List Nat} {b : Nat} : ∀ {l : List Nat}, (maskOf cs l).testBit b = true → ∃ e, e ∈ l ∧ (b = e ∨ (cs.getD e 0).testBit b = true)
  | [], h => by simp [maskOf] at h
  | e :: l, h => by
    unfold maskOf at h
    rw [Nat.testBit_or, Nat.testBit_or, Bool.or_eq_true, Bool.or_eq_true] at h
    rcases h with (h | h) | h
    · rw [Nat.testBit_shiftLeft] at h
      simp only [Bool.and_eq_true, decide_eq_true_eq] at h
      have : b - e = 0 := by
        by_cases h0 : b - e = 0
        · exact h0
        · exfalso
          have h2 := h.2
          rw [Nat.testBit_eq_decide_div_mod_eq] at h2
          have : 1 / 2 ^ (b - e) = 0 := Nat.div_eq_of_lt (Nat.one_lt_two_pow h0)
          simp [this] at h2
      exact ⟨e, by simp, .inl (by omega)⟩
    · exact ⟨e, by simp, .inr h⟩
    · obtain ⟨e', he, hb⟩ := maskOf_spec h
      exact ⟨e', by simp [he], hb⟩
theorem masks_len : ∀ {l : List Oper} {cs : List Nat}, (masks l cs).length = cs.length + l.length
  | [], cs => by simp [masks]
  | o :: l, cs => by
    unfold masks
    rw [masks_len]
    simp
    omega
theorem masks_spec {ops : List Oper} {L : Nat → Bool} (hL : ∀ j o, ops[j]? = some o → L j = true → ∀ e, e ∈ bEdges o → L e = true) : ∀ {l : List Oper} {cs : List Nat}, (∀ i, l[i]? = ops[cs.length + i]?) →
    (∀ (j m : Nat) (o : Oper), cs[j]? = some m → ops[j]? = some o → (∀ e, e ∈ bEdges o → L e = true) → ∀ b, m.testBit b = true → L b = true) →
    ∀ (j m : Nat) (o : Oper), (masks l cs)[j]? = some m → ops[j]? = some o → (∀ e, e ∈ bEdges o → L e = true) → ∀ b, m.testBit b = true → L b = true
  | [], cs, _, h => h
  | o :: l, cs, hl, h => by
    unfold masks
    have h0 : ops[cs.length]? = some o := by have := hl 0; simpa using this.symm
    refine masks_spec hL (fun i => by have := hl (i + 1); simp only [List.length_append, List.length_singleton]; rw [show cs.length + 1 + i = cs.length + (i + 1) by omega, ← this]; simp) fun j m oj hj ho he b hb => ?_
    by_cases hlt : j < cs.length
    · rw [List.getElem?_append_left hlt] at hj
      exact h j m oj hj ho he b hb
    · rw [List.getElem?_append_right (by omega)] at hj
      have hj0 : j = cs.length := by
        by_cases h1 : j - cs.length = 0
        · omega
        · rw [List.getElem?_eq_none (by simp; omega)] at hj
          cases hj
      subst hj0
      simp at hj
      subst hj
      rw [h0] at ho
      simp only [Option.some.injEq] at ho
      subst ho
      obtain ⟨e, hm, hb⟩ := maskOf_spec hb
      rcases hb with rfl | hb
      · exact he _ hm
      · rw [List.getD_eq_getElem?_getD] at hb
        cases hc : cs[e]? with
        | none => rw [hc] at hb; simp at hb
        | some me =>
          rw [hc] at hb
          have hle := (List.getElem?_eq_some_iff.1 hc).1
          have hls : cs.length < ops.length := (List.getElem?_eq_some_iff.1 h0).1
          have hoe : ops[e]? = some (ops[e]'(by omega)) := List.getElem?_eq_getElem (by omega)
          exact h e me _ hc hoe (hL e _ hoe (he e hm)) b (by simpa using hb)
theorem ordOne_spec {m : Nat} {d : DAct} : ∀ {l : List DAct} {k : Nat}, ordOne m d l k = true → ∀ i e, l[i]? = some e → conf e d = true → m.testBit (k + i) = true
  | [], k, h, i, e, hi, _ => by simp at hi
  | x :: l, k, h, i, e, hi, hc => by
    simp only [ordOne, Bool.and_eq_true, Bool.or_eq_true, Bool.not_eq_true'] at h
    cases i with
    | zero =>
      simp at hi
      subst hi
      rcases h.1 with h1 | h1
      · exact h1
      · rw [h1] at hc; cases hc
    | succ i =>
      have := ordOne_spec h.2 i e (by simpa using hi) hc
      rwa [show k + 1 + i = k + (i + 1) by omega] at this
theorem ordAll_spec : ∀ {l : List DAct} {ms : List Nat} {pre : List DAct}, ordAll ms pre l = true → ∀ j d, l[j]? = some d → ∃ m, ms[j]? = some m ∧ ∀ i e, i < pre.length + j → (pre ++ l)[i]? = some e → conf e d = true → m.testBit i = true
  | [], ms, pre, h, j, d, hj => by simp at hj
  | d0 :: l, [], pre, h, j, d, hj => by simp [ordAll] at h
  | d0 :: l, m :: ms, pre, h, j, d, hj => by
    simp only [ordAll, Bool.and_eq_true] at h
    cases j with
    | zero =>
      simp at hj
      subst hj
      refine ⟨m, rfl, fun i e hi he hc => ?_⟩
      rw [List.getElem?_append_left (by omega)] at he
      have := ordOne_spec h.1 i e he hc
      simpa using this
    | succ j =>
      obtain ⟨m', hm, hx⟩ := ordAll_spec h.2 j d (by simpa using hj)
      refine ⟨m', by simpa using hm, fun i e hi he hc => hx i e (by simp; omega) (by simpa using he) hc⟩
theorem edgesOk_spec : ∀ {l : List Oper} {k : Nat}, edgesOk l k = true → ∀ j o, l[j]? = some o → ∀ e, e ∈ bEdges o → e < k + j
  | [], k, h, j, o, hj => by simp at hj
  | x :: l, k, h, j, o, hj => fun e he => by
    simp only [edgesOk, Bool.and_eq_true, List.all_eq_true, Nat.blt_eq] at h
    cases j with
    | zero =>
      simp at hj
      subst hj
      exact h.1 e he
    | succ j =>
      have := edgesOk_spec h.2 j o (by simpa using hj) e he
      omega

theorem conf_symm {d e : DAct} : conf d e = conf e d := by unfold conf; rw [Bool.or_comm]
theorem half_rs {d e : DAct} {t : Nat} (h : d.dst = some t) (ht : t ∈ e.rs) : half d e = true := by
  unfold half
  rw [h]
  simp [ht]
theorem half_dst {d e : DAct} {t : Nat} (h : d.dst = some t) (ht : e.dst = some t) : half d e = true := by
  unfold half
  rw [h]
  simp [ht]
theorem hpOf_mem : ∀ {l : Hl} {id : Nat} {b : Blk}, hpOf l id = some b → (id, b) ∈ l
  | [], _, _, h => by simp [hpOf] at h
  | (i, c) :: l, id, b, h => by
    unfold hpOf at h
    split at h
    · rename_i he
      simp only [beq_iff_eq] at he
      simp only [Option.some.injEq] at h
      subst he; subst h
      simp
    · simp [hpOf_mem h]
theorem half_rb {d e : DAct} {id : Nat} (h : (hpOf d.bl id).isSome = true) (ht : id ∈ e.rb) : half d e = true := by
  unfold half
  rw [Bool.or_eq_true]
  right
  obtain ⟨b, hb⟩ := Option.isSome_iff_exists.1 h
  rw [List.any_eq_true]
  exact ⟨(id, b), hpOf_mem hb, by simp [ht]⟩
theorem half_bl {d e : DAct} {id : Nat} (h : (hpOf d.bl id).isSome = true) (ht : (hpOf e.bl id).isSome = true) : half d e = true := by
  unfold half
  rw [Bool.or_eq_true]
  right
  obtain ⟨b, hb⟩ := Option.isSome_iff_exists.1 h
  obtain ⟨b', hb'⟩ := Option.isSome_iff_exists.1 ht
  rw [List.any_eq_true]
  exact ⟨(id, b), hpOf_mem hb, by simp [hasBl, hb']⟩

/-! ### What the list of actions is -/
theorem tS_shift {L : Nat → Bool} {t : Nat} : ∀ {l : List DAct} {k : Nat} {b : Option SV}, tS L t l (k + 1) b = tS (fun m => L (m + 1)) t l k b
  | [], _, _ => rfl
  | d :: l, k, b => by
    unfold tS
    exact tS_shift
theorem hS_shift {L : Nat → Bool} {id : Nat} : ∀ {l : List DAct} {k : Nat} {b : Option Blk}, hS L id l (k + 1) b = hS (fun m => L (m + 1)) id l k b
  | [], _, _ => rfl
  | d :: l, k, b => by
    unfold hS
    exact hS_shift
theorem tS_cons {L : Nat → Bool} {t : Nat} {d : DAct} {l : List DAct} {k : Nat} {b : Option SV} (h : L k = true) : tS L t (d :: l) k b = tS L t l (k + 1) (if d.dst == some t then some d.sv else b) := by
  simp only [tS, h, Bool.true_and]
theorem hS_cons {L : Nat → Bool} {id : Nat} {d : DAct} {l : List DAct} {k : Nat} {b : Option Blk} (h : L k = true) : hS L id (d :: l) k b = hS L id l (k + 1) (match hpOf d.bl id with | some x => some x | none => b) := by
  conv => lhs; unfold hS
  cases hpOf d.bl id <;> simp [h]
theorem hpOf_append {id : Nat} : ∀ {l r : Hl}, hpOf (l ++ r) id = match hpOf l id with | some b => some b | none => hpOf r id
  | [], r => rfl
  | (i, b) :: l, r => by
    simp only [List.cons_append, hpOf]
    split
    · rfl
    · exact hpOf_append
theorem applyD_spec {d : DAct} {σ σ' : St} (h : applyD d σ = some σ') : σ'.tm.length = σ.tm.length ∧ (∀ t, d.dst = some t → t < σ.tm.length) ∧ (∀ t, σ'.tm[t]? = if d.dst == some t then some d.sv else σ.tm[t]?) ∧
    (∀ id, hpOf σ'.hp id = match hpOf d.bl id with | some b => some b | none => hpOf σ.hp id) := by
  unfold applyD at h
  split at h
  · rename_i tm htm
    simp only [Option.some.injEq] at h
    subst h
    unfold setT at htm
    split at htm
    · rename_i hd
      simp only [Option.some.injEq] at htm
      subst htm
      refine ⟨rfl, fun t ht => ?_, fun t => ?_, fun id => hpOf_append⟩
      · rw [hd] at ht; cases ht
      · rw [hd]; rfl
    · rename_i s hd
      split at htm
      · rename_i hlt
        simp only [Nat.blt_eq] at hlt
        simp only [Option.some.injEq] at htm
        subst htm
        refine ⟨by simp, fun t ht => ?_, fun t => ?_, fun id => hpOf_append⟩
        · rw [hd] at ht
          simp only [Option.some.injEq] at ht
          subst ht
          exact hlt
        · rw [hd, List.getElem?_set]
          by_cases he : s = t
          · subst he
            simp [hlt]
          · have : ¬ ((some s == some t) = true) := by simpa using he
            rw [if_neg he, if_neg this]
      · cases htm
  · cases h

section
variable {P : Program} {Φ : Funs} {X : Hnd} {x : Cx} {ρ : Env}

structure Ran (P : Program) (x : Cx) (ρ : Env) (ops : Array Oper) (l : List Oper) (σ σn : St) (acc ds : List DAct) (lo hi : Nat) : Prop where
  le : lo ≤ hi
  len : ds.length = l.length
  act : ∀ i d, ds[i]? = some d → ∃ o σi, l[i]? = some o ∧ ActOk P x ρ ops o σi d ∧ (∀ t, σi.tm[t]? = tS (fun m => Nat.blt m i) t ds 0 σ.tm[t]?) ∧ (∀ id, hpOf σi.hp id = hS (fun m => Nat.blt m i) id ds 0 (hpOf σ.hp id)) ∧
    σi.tm.length = σ.tm.length ∧ (∀ t, d.dst = some t → t < σ.tm.length) ∧ lo ≤ d.lo ∧ d.hi ≤ hi ∧ ∀ p, p ∈ d.lk → p.2 = insL (fun _ => true) p.1 (acc ++ ds.take i) 0
  apart : ∀ (i j : Nat) (d e : DAct), i < j → ds[i]? = some d → ds[j]? = some e → d.hi ≤ e.lo
  tm : ∀ t, σn.tm[t]? = tS (fun _ => true) t ds 0 σ.tm[t]?
  hp : ∀ id, hpOf σn.hp id = hS (fun _ => true) id ds 0 (hpOf σ.hp id)
  tl : σn.tm.length = σ.tm.length

theorem runD_ok (hX : HOk P Φ x.gl X) (hG : ∀ w, Keep x.R x.w0 w → Laid x.gl w) {ops : Array Oper} : ∀ {l : List Oper} {σ σn : St} {acc ds : List DAct} {c c' : Ctr} {out : List Em},
    runD P X x.gh x.ng ops l σ acc c = some ((ds, σn), c', out) → Good Φ ρ out → Ran P x ρ ops l σ σn acc ds c.id c'.id
  | [], σ, σn, acc, ds, c, c', out, h, hg => by
    have he := M.pure_inv h
    simp only [Prod.mk.injEq] at he
    obtain ⟨⟨rfl, rfl⟩, rfl, rfl⟩ := he
    exact ⟨Nat.le_refl _, rfl, fun i d hd => by simp at hd, fun i j d e _ hd => by simp at hd, fun t => rfl, fun id => rfl, rfl⟩
  | o :: l, σ, σn, acc, ds, c, c', out, h, hg => by
    unfold runD at h
    obtain ⟨d, c1, o1, c2, o2, y, h1, h2, he⟩ := M.bind_inv h
    simp only [Prod.mk.injEq] at he
    obtain ⟨rfl, rfl, rfl⟩ := he
    obtain ⟨σ', c3, o3, c4, o4, y, h3, h4, he⟩ := M.bind_inv h2
    simp only [Prod.mk.injEq] at he
    obtain ⟨rfl, rfl, rfl⟩ := he
    obtain ⟨σ'', hap, he⟩ := lift_inv h3
    simp only [Prod.mk.injEq] at he
    obtain ⟨rfl, rfl, rfl⟩ := he
    obtain ⟨r, c5, o5, c6, o6, y, h5, h6, he⟩ := M.bind_inv h4
    simp only [Prod.mk.injEq] at he
    obtain ⟨rfl, rfl, rfl⟩ := he
    have he := M.pure_inv h6
    simp only [Prod.mk.injEq] at he
    obtain ⟨⟨rfl, rfl⟩, rfl, rfl⟩ := he
    simp only [Good.append] at hg
    obtain ⟨ha, hlo, hhi, hlk⟩ := opDm_ok hX hG h1 hg.1
    obtain ⟨ds', σn'⟩ := r
    have ih := runD_ok hX hG h5 hg.2.2.1
    obtain ⟨a1, a2, a3, a4⟩ := applyD_spec hap
    have hle : c.id ≤ c3.id := by have := ha.2.1; omega
    refine ⟨by have := ih.le; omega, by simp [ih.len], fun i e hi => ?_, fun i j e f hij hi hj => ?_, fun t => ?_, fun id => ?_, ih.tl.trans a1⟩
    · cases i with
      | zero =>
        simp at hi
        subst hi
        refine ⟨o, σ, by simp, ha, fun t => ?_, fun id => ?_, rfl, a2, by omega, by have := ih.le; omega, fun p hp => by rw [hlk p hp]; simp⟩
        · rw [tS_none fun i d _ _ => by simp [Nat.blt_eq, Bool.eq_false_iff]]
        · rw [hS_none fun i d _ _ => by simp [Nat.blt_eq, Bool.eq_false_iff]]
      | succ i =>
        obtain ⟨o', σi, b1, b2, b3, b4, b5, b6, b7, b8, b9⟩ := ih.act i e (by simpa using hi)
        refine ⟨o', σi, by simpa using b1, b2, fun t => ?_, fun id => ?_, b5.trans a1, fun t ht => ?_, by omega, b8, fun p hp => by rw [b9 p hp, List.append_assoc]; rfl⟩
        · rw [b3 t, a3 t]
          have h0 : (fun m => Nat.blt m (i + 1)) 0 = true := by simp
          rw [tS_cons (L := fun m => Nat.blt m (i + 1)) h0, tS_shift (k := 0)]
          exact tS_congr fun m d hm hd => by
            rw [Bool.eq_iff_iff, Nat.blt_eq, Nat.blt_eq]
            omega
        · rw [b4 id, a4 id]
          have h0 : (fun m => Nat.blt m (i + 1)) 0 = true := by simp
          rw [hS_cons (L := fun m => Nat.blt m (i + 1)) h0, hS_shift (k := 0)]
          exact hS_congr fun m d hm hd => by
            rw [Bool.eq_iff_iff, Nat.blt_eq, Nat.blt_eq]
            omega
        · rw [← a1]
          exact b6 t ht
    · cases j with
      | zero => omega
      | succ j =>
        have hj' : ds'[j]? = some f := by simpa using hj
        cases i with
        | zero =>
          simp at hi
          subst hi
          obtain ⟨_, _, _, _, _, _, _, _, b7, _, _⟩ := ih.act j f hj'
          omega
        | succ i => exact ih.apart i j e f (by omega) (by simpa using hi) hj'
    · rw [ih.tm t, a3 t]
      rw [tS_cons rfl, tS_shift (k := 0)]
    · rw [ih.hp id, a4 id]
      rw [hS_cons rfl, hS_shift (k := 0)]

structure Mid (x : Cx) (ρ : Env) (σ : St) (ds : List DAct) (hi : Nat) (β0 β : Beta) (L : Nat → Bool) (a : Act) (w : World) : Prop where
  ext : Ext β0 β
  com : Com x ρ σ.tm.length β a w
  slot : ∀ t v, tS L t ds 0 σ.tm[t]? = some v → v.mt β ρ (a.tmps.getD t undef)
  blk : ∀ id b, hS L id ds 0 (hpOf σ.hp id) = some b → Gd.d ρ b.g = true → blkMt β ρ w id b
  free : ∀ j d, ds[j]? = some d → L j = false → ∀ i, d.lo ≤ i → i < d.hi → β i = none
  fresh : ∀ i, hi ≤ i → β i = none
  mp : ∀ m d M, ds[m]? = some d → d.mkm = some M → L m = true → mapMt x.w0.heap.size β ρ w M (insL L M ds 0)

/-- One of them, drawn out of its turn. -/
theorem Mid.step {ops : Array Oper} {l : List Oper} {σ σn : St} {ds : List DAct} {lo hi : Nat} (hr : Ran P x ρ ops l σ σn [] ds lo hi) {β0 β : Beta} {L L' : Nat → Bool} {a : Act} {w : World} (hm : Mid x ρ σ ds hi β0 β L a w)
    {i : Nat} {d : DAct} {o : Oper} (hd : ds[i]? = some d) (ho : l[i]? = some o) (hL : L i = false) (hL' : ∀ k, L' k = (L k || k == i)) (hord : ∀ k e, ds[k]? = some e → k ≠ i → conf e d = true → L k = Nat.blt k i) (hmap : MapsAt ds L i d) (next : Act → World → Prop) (Q : Exit → Act → World → Prop)
    (hn : ∀ β' a' w', Mid x ρ σ ds hi β0 β' L' a' w' → next a' w') : if Region.wanted o (yielded ops a.tmps) then o.wp P a w next Q else next (a.put o.dst undef) w := by
  obtain ⟨o', σi, b1, ⟨b2, b9, bsm, b10, hA⟩, b3, b4, b5, b6, b7, b8, b11⟩ := hr.act i d hd
  rw [ho] at b1
  simp only [Option.some.injEq] at b1
  subst b1
  have hcom := hm.com
  rw [← b5] at hcom
  have hrd : ∀ t, t ∈ d.rs → tS L t ds 0 σ.tm[t]? = σi.tm[t]? := fun t ht => by
    rw [b3 t]
    refine tS_congr fun k e hk he => ?_
    rw [Nat.zero_add]
    by_cases hki : k = i
    · subst hki; rw [hL]; simp [Bool.eq_false_iff, Nat.blt_eq]
    · exact hord k e hk hki (by unfold conf; rw [half_rs he ht, Bool.true_or])
  have hrb : ∀ id, id ∈ d.rb → hS L id ds 0 (hpOf σ.hp id) = hpOf σi.hp id := fun id ht => by
    rw [b4 id]
    refine hS_congr fun k e hk he => ?_
    rw [Nat.zero_add]
    by_cases hki : k = i
    · subst hki; rw [hL]; simp [Bool.eq_false_iff, Nat.blt_eq]
    · exact hord k e hk hki (by unfold conf; rw [half_rb he ht, Bool.true_or])
  refine hA β a w hcom (fun t ht v hv => hm.slot t v (by rw [hrd t ht]; exact hv)) (fun id ht b hb hbg => hm.blk id b (by rw [hrb id ht]; exact hb) hbg) (hm.free i d hd hL) (fun p hp => ?_) (fun M k s hins => ?_) next Q fun v w' β' h1 h2 h3 h4 h5 h6 h7 h8 => ?_
  · obtain ⟨⟨m, e, e1, e2, e3⟩, hall, hnd⟩ := hmap.lk p hp
    refine ⟨mapMt_congr (fun q => ?_) (hm.mp m e p.1 e1 e2 e3), hnd⟩
    rw [b11 p hp, List.nil_append, insL_mem, insL_mem]
    constructor
    · rintro ⟨k, f, g1, g2, g3⟩
      obtain ⟨g4, g5⟩ := hall k f g1 (fun e => by rw [e] at g3; cases g3)
      exact ⟨k, f, by rw [List.getElem?_take, if_pos g4]; exact g1, rfl, g3⟩
    · rintro ⟨k, f, g1, _, g3⟩
      rw [List.getElem?_take] at g1
      split at g1
      · exact ⟨k, f, g1, by rw [Nat.zero_add]; exact (hall k f g1 (fun e => by rw [e] at g3; cases g3)).2, g3⟩
      · cases g1
  · obtain ⟨⟨m, e, e1, e2, e3⟩, hkey⟩ := hmap.ins M k s hins
    refine ⟨_, hm.mp m e M e1 e2 e3, fun p hp => ?_⟩
    rw [insL_mem] at hp
    obtain ⟨j, f, g1, g2, g3⟩ := hp
    rw [Nat.zero_add] at g2
    exact hkey j f g1 (fun e => by rw [e, hL] at g2; cases g2) p g3
  rw [← b2] at h2 ⊢
  rw [b5] at h2
  refine hn β' _ w' ⟨hm.ext.trans h1, h2, fun t u hu => ?_, fun id b hb hbg => ?_, fun j e hj hLj k hk1 hk2 => ?_, fun k hk => ?_, fun m e M hme hmk hLm => ?_⟩
  · by_cases hdt : d.dst = some t
    · have hs : tS L' t ds 0 σ.tm[t]? = some d.sv := by
        rw [show tS L' t ds 0 σ.tm[t]? = tS (fun k => Nat.ble k i) t ds 0 σ.tm[t]? from tS_congr fun k e hk he => by
          rw [Nat.zero_add, hL']
          by_cases hki : k = i
          · subst hki; simp
          · rw [hord k e hk hki (by unfold conf; rw [half_dst he hdt, Bool.true_or]), Bool.eq_iff_iff]
            simp only [Bool.or_eq_true, Nat.blt_eq, beq_iff_eq, Nat.ble_eq]
            omega]
        exact tS_last hdt (Nat.zero_le _) (by simpa using hd)
      rw [hs] at hu
      simp only [Option.some.injEq] at hu
      subst hu
      have hlt := b6 t hdt
      rw [hdt]
      have hsz : t < a.tmps.size := by rw [hm.com.size]; exact hlt
      simpa [Act.put, hsz] using h4
    · have hs : tS L' t ds 0 σ.tm[t]? = tS L t ds 0 σ.tm[t]? := tS_congr fun k e hk he => by
        rw [Nat.zero_add, hL']
        have hki : k ≠ i := fun e0 => by
          subst e0
          rw [hd] at hk
          simp only [Option.some.injEq] at hk
          subst hk
          exact hdt he
        have : (k == i) = false := by simpa using hki
        rw [this, Bool.or_false]
      rw [hs] at hu
      have := SV.mt_ext h1 (hm.slot t u hu)
      cases hdd : d.dst with
      | none => simpa [Act.put] using this
      | some s =>
        have hne : s ≠ t := fun e => hdt (by rw [hdd, e])
        simpa [Act.put, Array.getElem?_setIfInBounds_ne hne] using this
  · cases hbl : hpOf d.bl id with
    | some b' =>
      have hs : hS L' id ds 0 (hpOf σ.hp id) = some b' := by
        rw [show hS L' id ds 0 (hpOf σ.hp id) = hS (fun k => Nat.ble k i) id ds 0 (hpOf σ.hp id) from hS_congr fun k e hk he => by
          rw [Nat.zero_add, hL']
          by_cases hki : k = i
          · subst hki; simp
          · rw [hord k e hk hki (by unfold conf; rw [half_bl he (by rw [hbl]; rfl), Bool.true_or]), Bool.eq_iff_iff]
            simp only [Bool.or_eq_true, Nat.blt_eq, beq_iff_eq, Nat.ble_eq]
            omega]
        exact hS_last hbl (Nat.zero_le _) (by simpa using hd)
      rw [hs] at hb
      simp only [Option.some.injEq] at hb
      subst hb
      exact h5 id _ hbl hbg
    | none =>
      have hs : hS L' id ds 0 (hpOf σ.hp id) = hS L id ds 0 (hpOf σ.hp id) := hS_congr fun k e hk he => by
        rw [Nat.zero_add, hL']
        have hki : k ≠ i := fun e0 => by
          subst e0
          rw [hd] at hk
          simp only [Option.some.injEq] at hk
          subst hk
          rw [hbl] at he
          cases he
        have : (k == i) = false := by simpa using hki
        rw [this, Bool.or_false]
      rw [hs] at hb
      exact h6 id b hbl (fun hsm => by rw [← hrb id (bsm id hsm)]; exact hb) (hm.blk id b hb hbg)
  · rw [hL'] at hLj
    simp only [Bool.or_eq_false_iff, beq_eq_false_iff_ne, ne_eq] at hLj
    rw [h3 k (by
      rcases Nat.lt_or_gt_of_ne hLj.2 with h | h
      · have := hr.apart j i e d h hj hd; omega
      · have := hr.apart i j d e h hd hj; omega)]
    exact hm.free j e hj hLj.1 k hk1 hk2
  · rw [h3 k (by omega)]
    exact hm.fresh k hk
  · by_cases hmi : m = i
    · subst hmi
      rw [hd] at hme
      simp only [Option.some.injEq] at hme
      subst hme
      refine mapMt_congr (fun q => ?_) (h8 M hmk)
      rw [insL_mem]
      constructor
      · intro h; cases h
      · rintro ⟨k, f, g1, g2, g3⟩
        obtain ⟨g4, g5⟩ := hmap.mak M hmk k f g1 (fun e => by rw [e] at g3; cases g3)
        rw [Nat.zero_add, hL', g4] at g2
        exact absurd (by simpa using g2) g5
    · have hLm' : L m = true := by
        rw [hL'] at hLm
        have : (m == i) = false := by simpa using hmi
        rw [this, Bool.or_false] at hLm
        exact hLm
      refine mapMt_congr (fun q => ?_) (h7 M _ (hm.mp m e M hme hmk hLm') fun k s hins p hp => ?_)
      · rw [List.mem_append, insL_mem, insL_mem]
        constructor
        · rintro (⟨k, f, g1, g2, g3⟩ | h)
          · exact ⟨k, f, g1, by rw [hL', g2]; rfl, g3⟩
          · exact ⟨i, d, hd, by rw [Nat.zero_add, hL']; simp, h⟩
        · rintro ⟨k, f, g1, g2, g3⟩
          rw [Nat.zero_add, hL'] at g2
          simp only [Bool.or_eq_true, beq_iff_eq] at g2
          rcases g2 with g2 | g2
          · exact .inl ⟨k, f, g1, by rw [Nat.zero_add]; exact g2, g3⟩
          · subst g2
            rw [hd] at g1
            simp only [Option.some.injEq] at g1
            subst g1
            exact .inr g3
      · obtain ⟨_, hkey⟩ := hmap.ins M k s hins
        rw [insL_mem] at hp
        obtain ⟨j, f, g1, g2, g3⟩ := hp
        rw [Nat.zero_add] at g2
        exact hkey j f g1 (fun e => by rw [e, hL] at g2; cases g2) p g3

/-- The maker of a map is one. -/
theorem Ran.maker {ops : Array Oper} {l : List Oper} {σ σn : St} {ds : List DAct} {lo hi : Nat} (hr : Ran P x ρ ops l σ σn [] ds lo hi) {i j : Nat} {d e : DAct} {M : Nat} (hi' : ds[i]? = some d) (hj : ds[j]? = some e) (h1 : d.mkm = some M) (h2 : e.mkm = some M) : i = j := by
  obtain ⟨_, _, _, ⟨_, _, _, a1, _⟩, _⟩ := hr.act i d hi'
  obtain ⟨_, _, _, ⟨_, _, _, a2, _⟩, _⟩ := hr.act j e hj
  have b1 := a1 M h1
  have b2 := a2 M h2
  rcases Nat.lt_trichotomy i j with h | h | h
  · have := hr.apart i j d e h hi' hj; omega
  · exact h
  · have := hr.apart j i e d h hj hi'; omega

/-- Whatever order is drawn, the same comes of it. -/
theorem any_ok {ops : Array Oper} {σ σn : St} {ds : List DAct} {lo hi : Nat} (hr : Ran P x ρ ops ops.toList σ σn [] ds lo hi) (he : edgesOk ops.toList 0 = true) (hs : ordAll (masks ops.toList []) [] ds = true) (hmp : mapsAll ds (masks ops.toList []) ds 0 = true) {β0 : Beta} {Q : Exit → Act → World → Prop}
    (hQ : ∀ β a w, Mid x ρ σ ds hi β0 β (fun _ => true) a w → Q .normal a w) : ∀ (fuel : Nat) (listed : Array Bool) (β : Beta) (a : Act) (w : World), listed.size = ops.size → listed.toList.count false = fuel →
      (∀ j o, ops.toList[j]? = some o → listed.getD j false = true → ∀ e, e ∈ bEdges o → listed.getD e false = true) →
      Mid x ρ σ ds hi β0 β (fun k => listed.getD k false) a w → wpAny P .any ops Q fuel listed a w := by
  have hall : ∀ (listed : Array Bool), listed.size = ops.size → Region.ready .any ops listed = [] → ∀ n j, j ≤ n → j < ops.size → listed.getD j false = true := by
    intro listed hsz h0 n
    induction n with
    | zero =>
      intro j hj hlt
      by_cases hl : listed.getD j false = true
      · exact hl
      · exfalso
        have hmem : j ∈ Region.ready .any ops listed := by
          unfold Region.ready
          rw [List.mem_filter]
          refine ⟨List.mem_range.2 hlt, ?_⟩
          have ho : ops.toList[j]? = some ops[j] := by simp [hlt]
          have hed := edgesOk_spec he j ops[j] ho
          simp only [Bool.and_eq_true, Bool.not_eq_true']
          refine ⟨by simpa [hsz, hlt] using hl, ?_⟩
          rw [Array.getElem?_eq_getElem hlt]
          simp only [Option.map_some, Option.getD_some, Array.all_eq_true_iff_forall_mem]
          intro e hme
          cases hb : Region.binds .any e with
          | false => rfl
          | true =>
            have := hed e.on (by unfold bEdges; rw [List.mem_map]; exact ⟨e, by rw [List.mem_filter]; exact ⟨hme.val, hb⟩, rfl⟩)
            omega
        rw [h0] at hmem
        cases hmem
    | succ n ih =>
      intro j hj hlt
      by_cases hl : listed.getD j false = true
      · exact hl
      · exfalso
        have hmem : j ∈ Region.ready .any ops listed := by
          unfold Region.ready
          rw [List.mem_filter]
          refine ⟨List.mem_range.2 hlt, ?_⟩
          have ho : ops.toList[j]? = some ops[j] := by simp [hlt]
          have hed := edgesOk_spec he j ops[j] ho
          simp only [Bool.and_eq_true, Bool.not_eq_true']
          refine ⟨by simpa [hsz, hlt] using hl, ?_⟩
          rw [Array.getElem?_eq_getElem hlt]
          simp only [Option.map_some, Option.getD_some, Array.all_eq_true_iff_forall_mem]
          intro e hme
          cases hb : Region.binds .any e with
          | false => rfl
          | true =>
            have h1 := hed e.on (by unfold bEdges; rw [List.mem_map]; exact ⟨e, by rw [List.mem_filter]; exact ⟨hme.val, hb⟩, rfl⟩)
            have := ih e.on (by omega) (by omega)
            rw [this]
            rfl
        rw [h0] at hmem
        cases hmem
  have hfin : ∀ (listed : Array Bool) (β : Beta) (a : Act) (w : World), listed.size = ops.size → Region.ready .any ops listed = [] → Mid x ρ σ ds hi β0 β (fun k => listed.getD k false) a w → Q .normal a w := by
    intro listed β a w hsz h0 hm
    have hl : ∀ k d, ds[k]? = some d → listed.getD k false = true := fun k d hk => by
      have hk' := (List.getElem?_eq_some_iff.1 hk).1
      rw [hr.len] at hk'
      exact hall listed hsz h0 k k (Nat.le_refl _) (by simpa using hk')
    refine hQ β a w ⟨hm.ext, hm.com, fun t v hv => hm.slot t v ?_, fun id b hb => hm.blk id b ?_, fun j d hj h => (by cases h), hm.fresh, fun m d M h1 h2 _ => mapMt_congr (fun q => by
        rw [insL_mem, insL_mem]
        constructor
        · rintro ⟨k, f, g1, g2, g3⟩; exact ⟨k, f, g1, rfl, g3⟩
        · rintro ⟨k, f, g1, g2, g3⟩; exact ⟨k, f, g1, by rw [Nat.zero_add]; exact hl k f g1, g3⟩) (hm.mp m d M h1 h2 (hl m d h1))⟩
    · rw [← hv]
      exact tS_congr fun k d hk _ => by rw [Nat.zero_add, hl k d hk]
    · rw [← hb]
      exact hS_congr fun k d hk _ => by rw [Nat.zero_add, hl k d hk]
  intro fuel
  induction fuel with
  | zero =>
    intro listed β a w hsz hc hcl hm
    have h0 : Region.ready .any ops listed = [] := by
      unfold Region.ready
      rw [List.filter_eq_nil_iff]
      intro i hi
      have hlt : i < listed.size := by rw [hsz]; exact List.mem_range.1 hi
      have : listed[i] ≠ false := fun e => by
        have := List.count_eq_zero.1 hc
        exact this (by rw [← e]; simp)
      simp only [Bool.not_eq_false] at this
      simp [hlt, this]
    exact ⟨h0, hfin listed β a w hsz h0 hm⟩
  | succ fuel ih =>
    intro listed β a w hsz hc hcl hm
    refine ⟨fun h0 => hfin listed β a w hsz h0 hm, fun i hi => ?_⟩
    unfold Region.ready at hi
    rw [List.mem_filter] at hi
    obtain ⟨hi1, hi2⟩ := hi
    have hlt := List.mem_range.1 hi1
    have hlt' : i < listed.size := by omega
    simp only [Bool.and_eq_true, Bool.not_eq_true'] at hi2
    obtain ⟨hnl, hed⟩ := hi2
    rw [Array.getElem?_eq_getElem hlt] at hed
    simp only [Option.map_some, Option.getD_some, Array.all_eq_true_iff_forall_mem] at hed
    have hLi : listed[i] = false := by simpa [hlt'] using hnl
    have hLi' : listed.getD i false = false := by simp [hlt', hLi]
    have ho : ops.toList[i]? = some ops[i] := by simp [hlt]
    have hdl : i < ds.length := by rw [hr.len]; simpa using hlt
    have hd := List.getElem?_eq_getElem hdl
    have hedge : ∀ e, e ∈ bEdges ops[i] → listed.getD e false = true := fun e hm => by
      unfold bEdges at hm
      rw [List.mem_map] at hm
      obtain ⟨e', hm, rfl⟩ := hm
      rw [List.mem_filter] at hm
      have := hed e' (by simpa using hm.1)
      rw [hm.2] at this
      simpa using this
    have hmask := masks_spec (ops := ops.toList) (L := fun k => listed.getD k false) hcl (l := ops.toList) (cs := []) (fun i => by simp) (fun j m o hj => by simp at hj)
    unfold wpOp
    rw [Array.getElem?_eq_getElem hlt]
    simp only
    have hstep := hm.step (L' := fun k => (listed.setIfInBounds i true).getD k false) hr hd ho hLi' (fun k => by
        by_cases hk : k = i
        · subst hk; simp [hlt']
        · have : (k == i) = false := by simpa using hk
          have hne : i ≠ k := fun e => hk e.symm
          rw [this, Bool.or_false]
          simp [Array.getElem?_setIfInBounds_ne hne]) (fun k e hk hki hcf => by
        rcases Nat.lt_or_gt_of_ne hki with h | h
        · obtain ⟨m, hm1, hm2⟩ := ordAll_spec hs i _ hd
          have hb := hm2 k e (by simpa using h) (by simpa using hk) hcf
          rw [hmask i m _ hm1 ho hedge k hb]
          simp [h]
        · obtain ⟨m, hm1, hm2⟩ := ordAll_spec hs k _ hk
          rw [conf_symm] at hcf
          have hb := hm2 i _ (by simpa using h) (by simp) hcf
          have hkl : k < ops.size := by have := (List.getElem?_eq_some_iff.1 hk).1; rw [hr.len] at this; simpa using this
          have hok : ops.toList[k]? = some ops[k] := by simp [hkl]
          have hblt : Nat.blt k i = false := by simp only [Bool.eq_false_iff, ne_eq, Nat.blt_eq]; omega
          rw [hblt]
          cases hLk : listed.getD k false with
          | false => rfl
          | true =>
            have := hmask k m _ hm1 hok (hcl k _ hok hLk) i hb
            rw [hLi'] at this
            cases this) (by
        have hbits : ∀ (j m : Nat) (e : DAct), ds[j]? = some e → (masks ops.toList [])[j]? = some m → listed.getD j false = true ∨ j = i → ∀ b, m.testBit b = true → listed.getD b false = true := fun j m e hj hm' hLj b hb => by
          have hjl : j < ops.size := by have := (List.getElem?_eq_some_iff.1 hj).1; rw [hr.len] at this; simpa using this
          have hok : ops.toList[j]? = some ops[j] := by simp [hjl]
          rcases hLj with hLj | rfl
          · exact hmask j m _ hm' hok (hcl j _ hok hLj) b hb
          · exact hmask j m _ hm' ho hedge b hb
        obtain ⟨m, hm1, hm2⟩ := mapsAll_spec hmp i _ hd
        rw [Nat.zero_add] at hm2
        unfold mapsOne at hm2
        simp only [Bool.and_eq_true, List.all_eq_true] at hm2
        refine ⟨fun M k s hins => ?_, fun p hp => ?_, fun M hmk j e hj hne => ?_⟩
        · have hm2 := hm2.1
          rw [hins] at hm2
          simp only [Bool.and_eq_true] at hm2
          obtain ⟨a, e, g1, g2, g3⟩ := mkAt_spec hm2.1
          rw [Nat.zero_add] at g3
          exact ⟨⟨a, e, g1, g2, hbits i m _ hd hm1 (.inr rfl) a g3⟩, fun j e hj hne => keyNew_spec hm2.2 j e hj (by simpa using hne)⟩
        · have := hm2.2 p hp
          obtain ⟨a, e, g1, g2, g3⟩ := mkAt_spec this.1.1
          rw [Nat.zero_add] at g3
          refine ⟨⟨a, e, g1, g2, hbits i m _ hd hm1 (.inr rfl) a g3⟩, fun j e hj hne => ?_, nodupK_spec this.2⟩
          obtain ⟨k1, k2⟩ := insIn_spec this.1.2 j e hj hne
          rw [Nat.zero_add] at k1 k2
          exact ⟨k1, hbits i m _ hd hm1 (.inr rfl) j k2⟩
        · obtain ⟨k, s, hins⟩ := insOf_ins hne
          obtain ⟨m', hm1', hm2'⟩ := mapsAll_spec hmp j _ hj
          rw [Nat.zero_add] at hm2'
          unfold mapsOne at hm2'
          simp only [Bool.and_eq_true] at hm2'
          have hm2' := hm2'.1
          rw [hins] at hm2'
          simp only [Bool.and_eq_true] at hm2'
          obtain ⟨a, f, g1, g2, g3⟩ := mkAt_spec hm2'.1
          rw [Nat.zero_add] at g3
          have := hr.maker hd g1 hmk g2
          subst this
          refine ⟨?_, fun e => ?_⟩
          · cases hLj : listed.getD j false with
            | false => rfl
            | true => have := hbits j m' _ hj hm1' (.inl hLj) i g3; rw [hLi'] at this; cases this
          · have := hbits j m' _ hj hm1' (.inr e) i g3
            rw [hLi'] at this
            cases this) (wpAny P .any ops Q fuel (listed.setIfInBounds i true)) Q (fun β' a' w' hm' => by
        refine ih _ β' a' w' (by simpa using hsz) ?_ (fun j o hj hLj e he => ?_) hm'
        · rw [Array.toList_setIfInBounds, List.count_set (by simpa using hlt')]
          have : listed.toList[i]'(by simpa using hlt') = false := by simpa using hLi
          rw [this, hc]
          simp
        · have hmono : ∀ k, listed.getD k false = true → (listed.setIfInBounds i true).getD k false = true := fun k hk => by
            by_cases h : k = i
            · subst h; simp [hlt']
            · have hne : i ≠ k := fun e => h e.symm
              simpa [Array.getElem?_setIfInBounds_ne hne] using hk
          by_cases h : j = i
          · subst h
            rw [ho] at hj
            simp only [Option.some.injEq] at hj
            subst hj
            exact hmono _ (hedge e he)
          · have hne : i ≠ j := fun e => h e.symm
            have : listed.getD j false = true := by simpa [Array.getElem?_setIfInBounds_ne hne] using hLj
            exact hmono _ (hcl j o hj this e he))
    split
    · rename_i hw
      rw [if_pos hw] at hstep
      exact .inl hstep
    · rename_i hw
      rw [if_neg hw] at hstep
      exact hstep

theorem regD_sound (hX : HOk P Φ x.gl X) (hG : ∀ w, Keep x.R x.w0 w → Laid x.gl w) {id : Nat} {ops : Array Oper} {σ σ' : St} {c c' : Ctr} {out : List Em} (h : regD P X x.gh x.ng ops σ c = some (σ', c', out)) (hg : Good Φ ρ out)
    {β : Beta} {a : Act} {w : World} (hR : Rel x ρ β σ a w) (hf : Fresh β c) {Q : Exit → Act → World → Prop} (hn : ∀ β' a' w', Ext β β' → Rel x ρ β' σ' a' w' → Fresh β' c' → Q .normal a' w') : (Code.region id ops true).wp P Q a w := by
  unfold regD at h
  obtain ⟨⟨ds, σn⟩, c1, o1, c2, o2, y, h1, h2, he⟩ := M.bind_inv h
  simp only [Prod.mk.injEq] at he
  obtain ⟨rfl, rfl, rfl⟩ := he
  obtain ⟨h1, hle⟩ := mono_inv h1
  split at h2
  · rename_i hc
    simp only [Bool.and_eq_true] at hc
    have he := M.pure_inv h2
    simp only [Prod.mk.injEq] at he
    obtain ⟨rfl, rfl, rfl⟩ := he
    rw [Good.append] at hg
    have hran := runD_ok hX hG h1 hg.1
    refine wp_region_any hc.1.1 (any_ok hran hc.1.2 hc.2.1 hc.2.2 (β0 := β) (fun β' a' w' hm => ?_) _ _ β a _ (by simp) (by simp) (fun j o hj hl => ?_) ⟨Ext.refl β, ?_, fun t v hv => ?_, fun i b hb hbg => ?_, fun j d hj _ i hi _ => ?_, fun i hi => hf i (by simp only at hle; omega), fun m d M _ _ h => (by
        exfalso
        simp [Array.getElem?_replicate] at h
        split at h <;> simp_all)⟩)
    · have hC := hm.com
      refine hn β' a' w' hm.ext ⟨hC.size.trans hran.tl.symm, fun t v hv => hm.slot t v (by rw [← hran.tm t]; exact hv), hC.df, fun i b hb hbg => hm.blk i b (by rw [← hran.hp i]; exact hb) hbg, hC.gm, hC.gro, hC.bo, hC.kp, hC.gl, hC.ra⟩ (fun i hi => hm.fresh i hi)
    · exfalso
      simp [Array.getElem?_replicate] at hl
      split at hl <;> simp_all
    · have hC := hR.com
      refine ⟨hC.size, hC.df, fun i b hb hbg => ?_, hC.gro, ⟨hC.bo.apart, hC.bo.place, hC.bo.may, hC.bo.sq⟩, hC.kp.trans (Keep.drew [] w) (fun r hr => by simp at hr), hC.gl, hC.ra⟩
      exact blkMt_keep (Ext.refl β) hC.bo (Keep.drew [] w) (fun r q hr _ => by simp at hr) (hC.gm i b hb hbg)
    · rw [tS_none fun i d _ _ => by simp [Array.getElem?_replicate]; split <;> rfl] at hv
      exact hR.slot t v hv
    · rw [hS_none fun i d _ _ => by simp [Array.getElem?_replicate]; split <;> rfl] at hb
      exact blkMt_keep (Ext.refl β) hR.bo (Keep.drew [] w) (fun r q hr _ => by simp at hr) (hR.hm i b hb hbg)
    · obtain ⟨_, _, _, _, _, _, _, _, b7, _, _⟩ := hran.act j d hj
      exact hf i (by omega)
  · simp [M.fail] at h2
/-- One behind the other. -/
theorem seq_ok {ops : Array Oper} {l0 : List Oper} {σ σn : St} {ds : List DAct} {lo hi : Nat} (hr : Ran P x ρ ops l0 σ σn [] ds lo hi) (hmp : mapsAll ds (seqMasks ds.length 0) ds 0 = true) {β0 : Beta} {Q : Exit → Act → World → Prop}
    (hQ : ∀ β a w, Mid x ρ σ ds hi β0 β (fun _ => true) a w → Q .normal a w) : ∀ (l : List Oper) (i : Nat) (β : Beta) (a : Act) (w : World), l0.drop i = l → i ≤ l0.length → Mid x ρ σ ds hi β0 β (fun k => Nat.blt k i) a w → wpList P ops Q l a w
  | [], i, β, a, w, hl, hle, hm => by
    have hlen : l0.length ≤ i := by
      rcases Nat.lt_or_ge i l0.length with h | h
      · rw [List.drop_eq_getElem_cons h] at hl; cases hl
      · exact h
    have hlt : ∀ k d, ds[k]? = some d → k < i := fun k d hk => by have := (List.getElem?_eq_some_iff.1 hk).1; rw [hr.len] at this; omega
    refine hQ β a w ⟨hm.ext, hm.com, fun t v hv => hm.slot t v ?_, fun id b hb => hm.blk id b ?_, fun j d hj h => (by cases h), hm.fresh, fun m d M h1 h2 _ => mapMt_congr (fun q => ?_) (hm.mp m d M h1 h2 (by simpa using hlt m d h1))⟩
    · rw [← hv]
      exact tS_congr fun k d hk _ => by simp [hlt k d hk]
    · rw [← hb]
      exact hS_congr fun k d hk _ => by simp [hlt k d hk]
    · rw [insL_mem, insL_mem]
      constructor
      · rintro ⟨k, f, g1, g2, g3⟩; exact ⟨k, f, g1, rfl, g3⟩
      · rintro ⟨k, f, g1, g2, g3⟩; exact ⟨k, f, g1, by simp [hlt k f g1], g3⟩
  | o :: l, i, β, a, w, hl, hle, hm => by
    have hlt : i < l0.length := by
      rcases Nat.lt_or_ge i l0.length with h | h
      · exact h
      · rw [List.drop_eq_nil_of_le h] at hl; cases hl
    rw [List.drop_eq_getElem_cons hlt] at hl
    simp only [List.cons.injEq] at hl
    obtain ⟨ho, hl⟩ := hl
    have ho' : l0[i]? = some o := by rw [List.getElem?_eq_getElem hlt, ho]
    have hdl : i < ds.length := by rw [hr.len]; exact hlt
    have hd := List.getElem?_eq_getElem hdl
    have hstep := hm.step (L' := fun k => Nat.blt k (i + 1)) hr hd ho' (by simp [Bool.eq_false_iff, Nat.blt_eq]) (fun k => by
        rw [Bool.eq_iff_iff]
        simp only [Nat.blt_eq, Bool.or_eq_true, beq_iff_eq]
        omega) (fun k e hk hki hcf => rfl) (by
        have hbits : ∀ (j m : Nat) (e : DAct), ds[j]? = some e → (seqMasks ds.length 0)[j]? = some m → ∀ b, m.testBit b = true → b < j := fun j m e hj hm' b hb => by
          have := seqMasks_get hm'
          rw [this, Nat.zero_add, Nat.testBit_two_pow_sub_one] at hb
          simpa using hb
        obtain ⟨m, hm1, hm2⟩ := mapsAll_spec hmp i _ hd
        rw [Nat.zero_add] at hm2
        unfold mapsOne at hm2
        simp only [Bool.and_eq_true, List.all_eq_true] at hm2
        refine ⟨fun M k s hins => ?_, fun p hp => ?_, fun M hmk j e hj hne => ?_⟩
        · have hm2 := hm2.1
          rw [hins] at hm2
          simp only [Bool.and_eq_true] at hm2
          obtain ⟨a, e, g1, g2, g3⟩ := mkAt_spec hm2.1
          rw [Nat.zero_add] at g3
          exact ⟨⟨a, e, g1, g2, by simpa using hbits i m _ hd hm1 a g3⟩, fun j e hj hne => keyNew_spec hm2.2 j e hj (by simpa using hne)⟩
        · have := hm2.2 p hp
          obtain ⟨a, e, g1, g2, g3⟩ := mkAt_spec this.1.1
          rw [Nat.zero_add] at g3
          refine ⟨⟨a, e, g1, g2, by simpa using hbits i m _ hd hm1 a g3⟩, fun j e hj hne => ?_, nodupK_spec this.2⟩
          obtain ⟨k1, k2⟩ := insIn_spec this.1.2 j e hj hne
          rw [Nat.zero_add] at k1
          exact ⟨k1, by simpa using k1⟩
        · obtain ⟨k, s, hins⟩ := insOf_ins hne
          obtain ⟨m', hm1', hm2'⟩ := mapsAll_spec hmp j _ hj
          rw [Nat.zero_add] at hm2'
          unfold mapsOne at hm2'
          simp only [Bool.and_eq_true] at hm2'
          have hm2' := hm2'.1
          rw [hins] at hm2'
          simp only [Bool.and_eq_true] at hm2'
          obtain ⟨a, f, g1, g2, g3⟩ := mkAt_spec hm2'.1
          rw [Nat.zero_add] at g3
          have := hr.maker hd g1 hmk g2
          subst this
          have := hbits j m' _ hj hm1' i g3
          exact ⟨by simp only [Bool.eq_false_iff, ne_eq, Nat.blt_eq]; omega, by omega⟩) (wpList P ops Q l) Q (fun β' a' w' hm' => seq_ok hr hmp hQ l (i + 1) β' a' w' hl (by omega) hm')
    unfold wpList
    split
    · rename_i hw
      rw [if_pos hw] at hstep
      exact .inl hstep
    · rename_i hw
      rw [if_neg hw] at hstep
      exact hstep
theorem regM_sound (hX : HOk P Φ x.gl X) (hG : ∀ w, Keep x.R x.w0 w → Laid x.gl w) {ops : Array Oper} {σ σ' : St} {c c' : Ctr} {out : List Em} (h : regM P X x.gh x.ng ops σ c = some (σ', c', out)) (hg : Good Φ ρ out)
    {β : Beta} {a : Act} {w : World} (hR : Rel x ρ β σ a w) (hf : Fresh β c) {Q : Exit → Act → World → Prop} (hn : ∀ β' a' w', Ext β β' → Rel x ρ β' σ' a' w' → Fresh β' c' → Q .normal a' w') : wpList P ops Q ops.toList a w := by
  unfold regM at h
  obtain ⟨⟨ds, σn⟩, c1, o1, c2, o2, y, h1, h2, he⟩ := M.bind_inv h
  simp only [Prod.mk.injEq] at he
  obtain ⟨rfl, rfl, rfl⟩ := he
  obtain ⟨h1, hle⟩ := mono_inv h1
  split at h2
  · rename_i hc
    have he := M.pure_inv h2
    simp only [Prod.mk.injEq] at he
    obtain ⟨rfl, rfl, rfl⟩ := he
    rw [Good.append] at hg
    have hran := runD_ok hX hG h1 hg.1
    refine seq_ok hran hc (β0 := β) (fun β' a' w' hm => ?_) _ 0 β a w rfl (Nat.zero_le _) ⟨Ext.refl β, hR.com, fun t v hv => ?_, fun i b hb hbg => ?_, fun j d hj _ i hi _ => ?_, fun i hi => hf i (by simp only at hle; omega), fun m d M _ _ h => (by simp at h)⟩
    · have hC := hm.com
      exact hn β' a' w' hm.ext ⟨hC.size.trans hran.tl.symm, fun t v hv => hm.slot t v (by rw [← hran.tm t]; exact hv), hC.df, fun i b hb hbg => hm.blk i b (by rw [← hran.hp i]; exact hb) hbg, hC.gm, hC.gro, hC.bo, hC.kp, hC.gl, hC.ra⟩ (fun i hi => hm.fresh i hi)
    · rw [tS_none fun i d _ _ => by simp [Bool.eq_false_iff, Nat.blt_eq]] at hv
      exact hR.slot t v hv
    · rw [hS_none fun i d _ _ => by simp [Bool.eq_false_iff, Nat.blt_eq]] at hb
      exact hR.hm i b hb hbg
    · obtain ⟨_, _, _, _, _, _, _, _, b7, _, _⟩ := hran.act j d hj
      exact hf i (by omega)
  · simp [M.fail] at h2
end
end Go.Proofs.YtalnndmnnffnmaaGreat.Sx
