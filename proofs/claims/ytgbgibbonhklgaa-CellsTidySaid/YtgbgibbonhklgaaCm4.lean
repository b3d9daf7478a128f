/-
  Merged texts (SxMp, SxR, SxFr, SxS, SxMf, SxMg). No condition.
-/
import Derived.MapKept
import Derived.Orders
import Derived.OrdersIn
import Derived.TacticsIn
import Derived.LoopNIn
import Derived.RangeFuncRecord
import Derived.RangeFuncLeaves
import Derived.RangeFuncIn
import Derived.Test.YtgbgibbonhklgaaCm3
set_option linter.unusedVariables false
set_option linter.unusedSimpArgs false
namespace Go.Proofs.Ytgbgibbonhklgaa.Sx
open Go

/-- What was put into a map: keys, and what stands there. -/
abbrev MEs := List (ByteArray × S)
def mapMt (N : Nat) (β : Beta) (ρ : Env) (w : World) (M : Nat) (es : MEs) : Prop :=
  ∃ r ents clock, (β M = some r ∧ r.off = 0 ∧ r.len = 1 ∧ r.ro = false) ∧ N ≤ r.blk ∧ w.heap[r.blk]? = some (.map ents clock) ∧ (∀ p, p ∈ es → ∃ e, e ∈ ents.toList ∧ e.key = .string p.1) ∧
    ∀ e, e ∈ ents.toList → ∃ p, p ∈ es ∧ e.key = .string p.1 ∧ p.2.mt β ρ e.val
theorem mapMt_congr {N : Nat} {β : Beta} {ρ : Env} {w : World} {M : Nat} {es es' : MEs} (h : ∀ p, p ∈ es ↔ p ∈ es') (hm : mapMt N β ρ w M es) : mapMt N β ρ w M es' := by
  obtain ⟨r, ents, clock, h1, h2, h3, h4, h5⟩ := hm
  refine ⟨r, ents, clock, h1, h2, h3, fun p hp => h4 p ((h p).2 hp), fun e he => ?_⟩
  obtain ⟨p, hp, hq⟩ := h5 e he
  exact ⟨p, (h p).1 hp, hq⟩
theorem mapMt_ext {N : Nat} {β β' : Beta} {ρ : Env} {w w' : World} {M : Nat} {es : MEs} (hE : Mv (fun _ => true) β β') (hk : ∀ (k : Nat) (m : Array MapEntry) (c : Nat), w.heap[k]? = some (Obj.map m c) → w'.heap[k]? = some (Obj.map m c)) (hm : mapMt N β ρ w M es) : mapMt N β' ρ w' M es := by
  obtain ⟨r, ents, clock, h1, h2, h3, h4, h5⟩ := hm
  refine ⟨r, ents, clock, ⟨hE.ext _ _ h1.1 (.inr rfl), h1.2⟩, h2, hk _ _ _ h3, h4, fun e he => ?_⟩
  obtain ⟨p, hp, hq, hs⟩ := h5 e he
  exact ⟨p, hp, hq, S.mt_mv hE hs⟩
theorem live_map {W : List Rg} {w w' : World} (hW : ∀ r, r ∈ W → ∃ j v, w.cell? ⟨r.blk, j, none⟩ = some v) (hk : Keep W w w') (k : Nat) (m : Array MapEntry) (c : Nat) (h : w.heap[k]? = some (Obj.map m c)) : w'.heap[k]? = some (Obj.map m c) := by
  rw [hk.blk k ?_ ?_]
  · exact h
  · exact (Array.getElem?_eq_some_iff.1 h).1
  · intro r hr _ e
    obtain ⟨j, v, hv⟩ := hW r hr
    unfold World.cell? at hv
    simp only [e, h] at hv
    cases hv
theorem run_mkMap {P : Program} (t : TypeId) (w : World) : (Instr.makeMap t none).run P w = .ok (.map (some w.heap.size)) (w.alloc (.map #[] 0)) := rfl
theorem heap_alloc_new (w : World) (o : Obj) : (w.alloc o).heap[w.heap.size]? = some o := by
  show (w.heap.push o)[w.heap.size]? = some o
  simp
theorem run_setObj_mp {P : Program} {w : World} {r : Nat} {es : Array MapEntry} {clock : Nat} (o : Obj) (hb : w.heap[r]? = some (.map es clock)) : (setObj r o).run P w = .ok () { w with heap := w.heap.setIfInBounds r o } := by
  simp [setObj, Sem.run, hb]
theorem ba_beq (a b : ByteArray) : (a == b) = true ↔ a = b := by
  rw [beq_toListBytes, ← encS_beq, beq_iff_eq]
  exact ⟨encS_inj, fun h => by rw [h]⟩
theorem findNow_no {s : ByteArray} : ∀ {l : List MapEntry} {i : Nat}, (∀ e, e ∈ l → ∃ k, e.key = .string k ∧ k ≠ s) → Instr.findNow .string (.string s) l i = some none
  | [], _, _ => rfl
  | e :: l, i, h => by
    obtain ⟨k, hk, hne⟩ := h e (by simp)
    unfold Instr.findNow
    have : (s == k) = false := by
      cases hb : (s == k) with
      | false => rfl
      | true => exact absurd ((ba_beq s k).1 hb).symm hne
    simp only [hk, Instr.sameNow, this]
    exact findNow_no fun e he => h e (by simp [he])
theorem findNow_yes {s : ByteArray} : ∀ {l : List MapEntry} {i : Nat}, (∀ e, e ∈ l → ∃ k, e.key = .string k) → (∃ e, e ∈ l ∧ e.key = .string s) → ∃ j e, e ∈ l ∧ e.key = .string s ∧ Instr.findNow .string (.string s) l i = some (some (j, e.val))
  | [], _, _, ⟨e, he, _⟩ => by cases he
  | e :: l, i, h, hx => by
    obtain ⟨k, hk⟩ := h e (by simp)
    unfold Instr.findNow
    cases hb : (s == k) with
    | true =>
      have := (ba_beq s k).1 hb
      subst this
      refine ⟨i, e, by simp, hk, ?_⟩
      simp only [hk, Instr.sameNow, hb]
    | false =>
      have hne : s ≠ k := fun he => by rw [(ba_beq s k).2 he] at hb; cases hb
      obtain ⟨e', he', hk'⟩ := hx
      have he' : e' ∈ l := by
        rcases List.mem_cons.1 he' with rfl | he'
        · rw [hk] at hk'
          simp only [Value.string.injEq] at hk'
          exact absurd hk'.symm hne
        · exact he'
      obtain ⟨j, e2, g1, g2, g3⟩ := findNow_yes (i := i + 1) (fun e he => h e (by simp [he])) ⟨e', he', hk'⟩
      refine ⟨j, e2, by simp [g1], g2, ?_⟩
      simp only [hk, Instr.sameNow, hb]
      exact g3
/-- A map's type with such keys: what its elements are. -/
def strMap (P : Program) (t : TypeId) : Option TypeId :=
  match P.underlying t with
  | some (.map k e) => match P.underlying k with
    | some .string => some e
    | _ => none
  | _ => none
theorem strMap_spec {P : Program} {t e : TypeId} (h : strMap P t = some e) : ∃ k, P.underlying t = some (.map k e) ∧ P.underlying k = some .string := by
  unfold strMap at h
  split at h
  · rename_i k e' hu
    split at h
    · rename_i hk
      simp only [Option.some.injEq] at h
      subst h
      exact ⟨k, hu, hk⟩
    · cases h
  · cases h
def zeroS (P : Program) (t : TypeId) : Option S := ((P.info? t).bind (·.zero)).map ofV
theorem zeroS_spec {P : Program} {t : TypeId} {s : S} (h : zeroS P t = some s) (w : World) : ∃ v, (zeroValue t).run P w = .ok v w ∧ ∀ β ρ, s.mt β ρ v := by
  unfold zeroS at h
  cases hi : P.info? t with
  | none => rw [hi] at h; simp at h
  | some i =>
    rw [hi] at h
    simp only [Option.bind_some] at h
    cases hv : i.zero with
    | none => rw [hv] at h; simp at h
    | some v =>
      rw [hv] at h
      simp only [Option.map_some, Option.some.injEq] at h
      subst h
      refine ⟨v, ?_, fun β ρ => ofV_mt v⟩
      simp [zeroValue, typeInfo, hi, hv]
/-- What stands at a key, in a map that holds these. -/
def lookM (q : A) (z : S) : MEs → M S
  | [] => pure z
  | (k, s) :: l => do
    let b ← mkCm .eql q (.c (encS k))
    let r ← lookM q z l
    match b with
    | .c true => pure s
    | .c false => pure r
    | b => muxS b s r
theorem lookM_snd {Φ : Funs} {ρ : Env} (q : A) (z : S) : ∀ es : MEs, Snd Φ ρ (lookM q z es) (fun r => ∀ β v, (∀ k, q.d ρ = encS k → (∃ p, p ∈ es ∧ p.1 = k ∧ p.2.mt β ρ v) ∨ ((∀ p, p ∈ es → p.1 ≠ k) ∧ z.mt β ρ v)) → (∃ k, q.d ρ = encS k) → (es.map (·.1)).Nodup → r.mt β ρ v)
  | [] => Snd.pure fun β v h ⟨k, hk⟩ _ => by
    rcases h k hk with ⟨p, hp, _⟩ | ⟨_, h⟩
    · cases hp
    · exact h
  | (k0, s) :: l => by
    unfold lookM
    refine Snd.bind (mkCm_snd _ q _) fun b hb => Snd.bind (lookM_snd q z l) fun r hr => ?_
    have key : ∀ β v, (∀ k, q.d ρ = encS k → (∃ p, p ∈ (k0, s) :: l ∧ p.1 = k ∧ p.2.mt β ρ v) ∨ ((∀ p, p ∈ (k0, s) :: l → p.1 ≠ k) ∧ z.mt β ρ v)) → (∃ k, q.d ρ = encS k) → (((k0, s) :: l).map (·.1)).Nodup → if b.d ρ then s.mt β ρ v else r.mt β ρ v := by
      intro β v h ⟨k, hk⟩ hnd
      have hbe : b.d ρ = (encS k == encS k0) := by rw [hb, ← hk]; rfl
      simp only [List.map_cons, List.nodup_cons] at hnd
      by_cases e : k = k0
      · subst e
        have : b.d ρ = true := by rw [hbe]; simp
        rw [if_pos this]
        rcases h k hk with ⟨p, hp, h1, h2⟩ | ⟨h1, _⟩
        · rcases List.mem_cons.1 hp with rfl | hp
          · exact h2
          · exact absurd (List.mem_map.2 ⟨p, hp, h1⟩) hnd.1
        · exact absurd rfl (h1 (k, s) (by simp))
      · have : b.d ρ = false := by
          rw [hbe]
          simp only [beq_eq_false_iff_ne, ne_eq]
          exact fun he => e (encS_inj he)
        rw [if_neg (by simp [this])]
        refine hr β v (fun k' hk' => ?_) ⟨k, hk⟩ hnd.2
        have hkk : k' = k := encS_inj (by rw [← hk', hk])
        subst hkk
        rcases h k' hk with ⟨p, hp, h1, h2⟩ | ⟨h1, h2⟩
        · rcases List.mem_cons.1 hp with rfl | hp
          · exact absurd h1.symm e
          · exact .inl ⟨p, hp, h1, h2⟩
        · exact .inr ⟨fun p hp => h1 p (by simp [hp]), h2⟩
    split
    · rename_i hbt
      exact Snd.pure fun β v h1 h2 h3 => by have := key β v h1 h2 h3; simpa using this
    · rename_i hbt
      exact Snd.pure fun β v h1 h2 h3 => by have := key β v h1 h2 h3; simpa using this
    · exact (muxS_snd b s r).mono fun y hy β v h1 h2 h3 => hy β v (key β v h1 h2 h3)
section
variable {P : Program} {N : Nat} {β : Beta} {ρ : Env} {w : World} {M : Nat} {es : MEs}
theorem run_look {t e : TypeId} (ht : strMap P t = some e) (hm : mapMt N β ρ w M es) {r : Rg} (hr : β M = some r) (s : ByteArray) {zv : Value} (hz : (zeroValue e).run P w = .ok zv w) :
    ∃ v, (Instr.lookup t (.map (some r.blk)) (.string s) false).run P w = .ok v w ∧ ((∃ p, p ∈ es ∧ p.1 = s ∧ p.2.mt β ρ v) ∨ ((∀ p, p ∈ es → p.1 ≠ s) ∧ v = zv)) := by
  obtain ⟨k, h1, h2⟩ := strMap_spec ht
  obtain ⟨r', ents, clock, g1, g2, g3, g4, g5⟩ := hm
  have g1 := g1.1
  rw [hr] at g1
  cases g1
  have hck : ∀ b n, (Instr.checkKey b (n + 1) k (.string s)).run P w = .ok () w := fun b n => by
    unfold Instr.checkKey
    simp [underlying, h2]
  have hkeys : ∀ e, e ∈ ents.toList → ∃ k, e.key = .string k := fun e he => by obtain ⟨p, _, hp, _⟩ := g5 e he; exact ⟨_, hp⟩
  by_cases hx : ∃ e, e ∈ ents.toList ∧ e.key = .string s
  · obtain ⟨j, e', k1, k2, k3⟩ := findNow_yes (i := 0) hkeys hx
    obtain ⟨p, q1, q2, q3⟩ := g5 e' k1
    rw [k2] at q2
    simp only [Value.string.injEq] at q2
    refine ⟨e'.val, ?_, .inl ⟨p, q1, q2.symm, q3⟩⟩
    unfold Instr.lookup Instr.findKey
    simp only [Sem.run_bind, underlying, run_program, Result.andThen_ok, h1, Sem.run_pure, run_getObj_map w _ _ _ g3, hck _ 9999, h2, k3]
    simp [h1, h2, run_getObj_map w _ _ _ g3, hck _ 9999, k3]
  · have hno := findNow_no (s := s) (l := ents.toList) (i := 0) fun e he => by
      obtain ⟨k, hk⟩ := hkeys e he
      exact ⟨k, hk, fun e2 => hx ⟨e, he, by rw [hk, e2]⟩⟩
    refine ⟨zv, ?_, .inr ⟨fun p hp e => ?_, rfl⟩⟩
    · unfold Instr.lookup Instr.findKey
      simp [underlying, h1, h2, run_getObj_map w _ _ _ g3, hck _ 9999, hno, hz]
    · obtain ⟨e', he', hk'⟩ := g4 p hp
      exact hx ⟨e', he', by rw [hk', e]⟩
theorem run_ins {t e : TypeId} (ht : strMap P t = some e) (hm : mapMt N β ρ w M es) {r : Rg} (hr : β M = some r) {s : ByteArray} (hnew : ∀ p, p ∈ es → p.1 ≠ s) (v : Value) :
    ∃ ents clock, w.heap[r.blk]? = some (.map ents clock) ∧ (Instr.mapUpdate t (.map (some r.blk)) (.string s) v).run P w = .ok () { w with heap := w.heap.setIfInBounds r.blk (.map (ents.push { key := .string s, val := v, born := clock }) (clock + 1)) } := by
  obtain ⟨k, h1, h2⟩ := strMap_spec ht
  obtain ⟨r', ents, clock, g1, g2, g3, g4, g5⟩ := hm
  have g1 := g1.1
  rw [hr] at g1
  cases g1
  have hck : ∀ b n, (Instr.checkKey b (n + 1) k (.string s)).run P w = .ok () w := fun b n => by
    unfold Instr.checkKey
    simp [underlying, h2]
  have hno := findNow_no (s := s) (l := ents.toList) (i := 0) fun e he => by
    obtain ⟨p, q1, q2, _⟩ := g5 e he
    exact ⟨p.1, q2, hnew p q1⟩
  refine ⟨ents, clock, g3, ?_⟩
  unfold Instr.mapUpdate Instr.findKey
  simp [underlying, h1, h2, run_getObj_map w _ _ _ g3, hck _ 9999, hno, run_setObj_mp _ g3]
/-- One more entry. -/
theorem mapMt_push (hm : mapMt N β ρ w M es) {r : Rg} (hr : β M = some r) {ents : Array MapEntry} {clock : Nat} (hb : w.heap[r.blk]? = some (.map ents clock)) (s : ByteArray) {x : S} {v : Value} (hv : x.mt β ρ v) :
    mapMt N β ρ { w with heap := w.heap.setIfInBounds r.blk (.map (ents.push { key := .string s, val := v, born := clock }) (clock + 1)) } M (es ++ [(s, x)]) := by
  obtain ⟨r', ents', clock', g1, g2, g3, g4, g5⟩ := hm
  have g1' := g1.1
  rw [hr] at g1'
  cases g1'
  rw [hb] at g3
  simp only [Option.some.injEq, Obj.map.injEq] at g3
  obtain ⟨rfl, rfl⟩ := g3
  have hlt := (Array.getElem?_eq_some_iff.1 hb).1
  refine ⟨r, ents.push { key := .string s, val := v, born := clock }, clock + 1, g1, g2, by simp [hlt], fun p hp => ?_, fun e he => ?_⟩
  · rw [List.mem_append, List.mem_singleton] at hp
    rcases hp with hp | rfl
    · obtain ⟨e, he, hk⟩ := g4 p hp
      exact ⟨e, by rw [Array.toList_push, List.mem_append]; exact .inl he, hk⟩
    · exact ⟨{ key := .string s, val := v, born := clock }, by simp, rfl⟩
  · rw [Array.toList_push, List.mem_append, List.mem_singleton] at he
    rcases he with he | rfl
    · obtain ⟨p, hp, hk, hm⟩ := g5 e he
      exact ⟨p, by simp [hp], hk, hm⟩
    · exact ⟨(s, x), by simp, rfl, hv⟩
/-- Another map stays. -/
theorem mapMt_else {M' : Nat} {es' : MEs} {R : List Rg} {Q : Rg → Prop} (hne : M' ≠ M) (hb : BetaOk N R Q β w) (hm : mapMt N β ρ w M es) {r : Rg} (hr : β M = some r) (o : Obj) (hm' : mapMt N β ρ w M' es') : mapMt N β ρ { w with heap := w.heap.setIfInBounds r.blk o } M' es' := by
  obtain ⟨r0, _, _, g1, _⟩ := hm
  have g1' := g1.1
  rw [hr] at g1'
  cases g1'
  obtain ⟨r', ents', clock', h1, h2, h3, h4, h5⟩ := hm'
  have hap := hb.apartW hne h1.1 hr h1.2.2.2
  refine ⟨r', ents', clock', h1, h2, ?_, h4, h5⟩
  show (w.heap.setIfInBounds r.blk o)[r'.blk]? = _
  rw [Array.getElem?_setIfInBounds_ne]
  · exact h3
  · intro e
    unfold Rg.apart at hap
    have e1 := h1.2
    have e2 := g1.2
    omega
end
end Go.Proofs.Ytgbgibbonhklgaa.Sx
namespace Go.Proofs.Ytgbgibbonhklgaa.Sx
open Go

/-- What an operation does: where it writes, what; which blocks; what it reads; the stretches that it numbers. -/
structure DAct where
  dst : Option Tmp
  sv : SV
  bl : Hl
  rs : List Nat
  rb : List Nat
  lo : Nat
  hi : Nat
  mkm : Option Nat := none
  ins : Option (Nat × ByteArray × S) := none
  lk : List (Nat × MEs) := []
  sm : List Nat := []
def insOf (d : DAct) (M : Nat) : MEs := match d.ins with
  | some (M', k, s) => if M' == M then [(k, s)] else []
  | none => []
/-- What stands in a map behind the listed ones. -/
def insL (L : Nat → Bool) (M : Nat) : List DAct → Nat → MEs
  | [], _ => []
  | d :: l, k => (if L k then insOf d M else []) ++ insL L M l (k + 1)
theorem insL_mem {L : Nat → Bool} {M : Nat} {p : ByteArray × S} : ∀ {l : List DAct} {k : Nat}, p ∈ insL L M l k ↔ ∃ i d, l[i]? = some d ∧ L (k + i) = true ∧ p ∈ insOf d M
  | [], k => by simp [insL]
  | d :: l, k => by
    unfold insL
    rw [List.mem_append, insL_mem]
    constructor
    · rintro (h | ⟨i, e, h1, h2, h3⟩)
      · split at h
        · rename_i hk
          exact ⟨0, d, by simp, by simpa using hk, h⟩
        · cases h
      · exact ⟨i + 1, e, by simpa using h1, by rw [show k + (i + 1) = k + 1 + i by omega]; exact h2, h3⟩
    · rintro ⟨i, e, h1, h2, h3⟩
      cases i with
      | zero =>
        simp at h1
        subst h1
        simp only [Nat.add_zero] at h2
        exact .inl (by rw [if_pos h2]; exact h3)
      | succ i => exact .inr ⟨i, e, by simpa using h1, by rw [show k + 1 + i = k + (i + 1) by omega]; exact h2, h3⟩

/-- What stands behind the listed ones, each aS in the text's order. -/
def tS (L : Nat → Bool) (t : Nat) : List DAct → Nat → Option SV → Option SV
  | [], _, b => b
  | d :: l, k, b => tS L t l (k + 1) (if L k && d.dst == some t then some d.sv else b)
def hS (L : Nat → Bool) (id : Nat) : List DAct → Nat → Option Blk → Option Blk
  | [], _, b => b
  | d :: l, k, b => hS L id l (k + 1) (match hpOf d.bl id with | some x => if L k then some x else b | none => b)
theorem tS_congr {L L' : Nat → Bool} {t : Nat} : ∀ {l : List DAct} {k : Nat} {b : Option SV}, (∀ i d, l[i]? = some d → d.dst = some t → L (k + i) = L' (k + i)) → tS L t l k b = tS L' t l k b
  | [], _, _, _ => rfl
  | d :: l, k, b, h => by
    unfold tS
    have e : (if L k && d.dst == some t then some d.sv else b) = (if L' k && d.dst == some t then some d.sv else b) := by
      by_cases hd : d.dst = some t
      · have := h 0 d (by simp) hd
        simp only [Nat.add_zero] at this
        rw [this]
      · have : (d.dst == some t) = false := by simpa using hd
        simp [this]
    rw [e]
    exact tS_congr fun i d hi hd => by have := h (i + 1) d (by simpa using hi) hd; rwa [show k + (i + 1) = k + 1 + i by omega] at this
theorem hS_congr {L L' : Nat → Bool} {id : Nat} : ∀ {l : List DAct} {k : Nat} {b : Option Blk}, (∀ i d, l[i]? = some d → (hpOf d.bl id).isSome = true → L (k + i) = L' (k + i)) → hS L id l k b = hS L' id l k b
  | [], _, _, _ => rfl
  | d :: l, k, b, h => by
    unfold hS
    have e : (match hpOf d.bl id with | some x => if L k then some x else b | none => b) = (match hpOf d.bl id with | some x => if L' k then some x else b | none => b) := by
      cases hd : hpOf d.bl id with
      | none => rfl
      | some x =>
        have := h 0 d (by simp) (by rw [hd]; rfl)
        simp only [Nat.add_zero] at this
        simp only [this]
    rw [e]
    exact hS_congr fun i d hi hd => by have := h (i + 1) d (by simpa using hi) hd; rwa [show k + (i + 1) = k + 1 + i by omega] at this
theorem tS_none {L : Nat → Bool} {t : Nat} : ∀ {l : List DAct} {k : Nat} {b : Option SV}, (∀ i d, l[i]? = some d → d.dst = some t → L (k + i) = false) → tS L t l k b = b
  | [], _, _, _ => rfl
  | d :: l, k, b, h => by
    unfold tS
    rw [tS_none fun i d hi hd => by have := h (i + 1) d (by simpa using hi) hd; rwa [show k + (i + 1) = k + 1 + i by omega] at this]
    by_cases hd : d.dst = some t
    · have := h 0 d (by simp) hd
      simp only [Nat.add_zero] at this
      simp [this]
    · have : (d.dst == some t) = false := by simpa using hd
      simp [this]
theorem hS_none {L : Nat → Bool} {id : Nat} : ∀ {l : List DAct} {k : Nat} {b : Option Blk}, (∀ i d, l[i]? = some d → (hpOf d.bl id).isSome = true → L (k + i) = false) → hS L id l k b = b
  | [], _, _, _ => rfl
  | d :: l, k, b, h => by
    unfold hS
    rw [hS_none fun i d hi hd => by have := h (i + 1) d (by simpa using hi) hd; rwa [show k + (i + 1) = k + 1 + i by omega] at this]
    cases hd : hpOf d.bl id with
    | none => rfl
    | some x =>
      have := h 0 d (by simp) (by rw [hd]; rfl)
      simp only [Nat.add_zero] at this
      simp [this]
theorem tS_last {t : Nat} {j : Nat} {d : DAct} (hd : d.dst = some t) : ∀ {l : List DAct} {k : Nat} {b : Option SV}, k ≤ j → l[j - k]? = some d → tS (fun i => Nat.ble i j) t l k b = some d.sv
  | [], k, b, hk, h => by simp at h
  | e :: l, k, b, hk, h => by
    unfold tS
    by_cases hjk : k = j
    · subst hjk
      simp at h
      subst h
      rw [tS_none fun i d' hi _ => by simp only [Bool.eq_false_iff, ne_eq, Nat.ble_eq]; omega]
      have h1 : Nat.ble k k = true := by simp
      have h2 : (e.dst == some t) = true := by simp [hd]
      simp [h1, h2]
    · refine tS_last hd (by omega) ?_
      rw [show j - k = (j - (k + 1)) + 1 by omega] at h
      simpa using h
theorem hS_last {id : Nat} {j : Nat} {d : DAct} {x : Blk} (hd : hpOf d.bl id = some x) : ∀ {l : List DAct} {k : Nat} {b : Option Blk}, k ≤ j → l[j - k]? = some d → hS (fun i => Nat.ble i j) id l k b = some x
  | [], k, b, hk, h => by simp at h
  | e :: l, k, b, hk, h => by
    unfold hS
    by_cases hjk : k = j
    · subst hjk
      simp at h
      subst h
      rw [hS_none fun i d' hi _ => by simp only [Bool.eq_false_iff, ne_eq, Nat.ble_eq]; omega]
      have h1 : Nat.ble k k = true := by simp
      simp [hd]
    · refine hS_last hd (by omega) ?_
      rw [show j - k = (j - (k + 1)) + 1 by omega] at h
      simpa using h

/-! ### One operation, by what it reads alone -/
structure Com (x : Cx) (ρ : Env) (js : Js) (n : Nat) (β : Beta) (a : Act) (w : World) : Prop where
  size : a.tmps.size = n
  df : Lk x ρ js a.defers w
  gm : heapMt β ρ (hpOf x.gh) w
  gro : ∀ id b, hpOf x.gh id = some b → b.ro = true
  bo : BetaOk x.w0.heap.size x.R x.Q β w
  kp : Keep x.R x.w0 w
  gl : ∀ (g : Nat) (vs : List Value), x.gl[g]? = some vs → β g = some (gRg g vs)
  ra : ∀ (j : Nat) (r : Rg), x.gr[j]? = some r → r.row = false ∧ β (x.gi j) = some r
theorem Rel.com {x : Cx} {ρ : Env} {β : Beta} {σ : St} {a : Act} {w : World} (h : Rel x ρ β σ a w) : Com x ρ σ.js σ.tm.length β a w :=
  ⟨h.size, h.df, h.gm, h.gro, h.bo, h.kp, h.gl, h.ra⟩

/-- Nothing moves. -/
abbrev XExt (β β' : Beta) : Prop := ExtP (fun _ => true) β β'
theorem XExt.trans {β γ δ : Beta} (h : XExt β γ) (h' : XExt γ δ) : XExt β δ := fun i r hi _ => h' i r (h i r hi (.inr rfl)) (.inr rfl)
theorem XExt.refl (β : Beta) : XExt β β := ExtP.refl _ β
theorem XExt.at {β β' : Beta} (h : XExt β β') {i : Nat} {r : Rg} (hi : β i = some r) : β' i = some r := h i r hi (.inr rfl)
def cIds : List C → List Nat
  | [] => []
  | c :: r => c.ids ++ cIds r
def sIds : S → List Nat
  | .one _ l => cIds l
  | _ => []
def tmpsOf : List Operand → List Nat
  | [] => []
  | .tmp t :: l => t :: tmpsOf l
  | _ :: l => tmpsOf l
def hpR (gh : Hl) (ng : Nat) (hp : Hl) (ids : List Nat) : Hp := fun i => if Nat.blt i ng then hpOf gh i else if ids.contains i then hpOf hp i else none
def gSlot (ops : Array Oper) (o : Oper) : List Nat :=
  match o.guard with
  | none => []
  | some (j, _) => match (ops[j]?).bind (·.dst) with | some t => [t] | none => []

/-- Operations that look at no block, whatever they are handed. -/
def blind : Op → Bool
  | .move _ => true
  | .nilCheck _ => true
  | .fieldAddr _ _ _ => true
  | .binOp _ _ _ _ _ => true
  | .pick _ _ _ => true
  | .assign _ => true
  | .field _ _ _ => true
  | .indexAddr _ _ _ => true
  | .extract _ _ => true
  | .makeFunc _ _ _ => true
  | _ => false
/-- What these lead to. -/
def reachH (hp : Hp) : Nat → List Nat → List Nat
  | 0, l => l
  | n + 1, l => reachH hp n (dedupN (l ++ (l.map fun i => match hp i with | some b => cIds b.cells | none => []).flatten))
def isCall : Op → Bool
  | .call _ => true
  | _ => false
def slmIds (s : S) : List Nat := match s with
  | .one false [.slm i _] => [i]
  | _ => []
def rdIds (ng : Nat) (σ : St) (o : Oper) : List Nat := if blind o.op then (match o.op with
    | .indexAddr _ x _ => slmIds (ev ng σ x).s
    | _ => []) else
  let l := (o.op.operands.toList.map fun x => sIds (ev ng σ x).s).flatten
  if isCall o.op then reachH (hpOf σ.hp) 3 l else l

def layD (Γ : Gd) (lo : Nat) : List (Nat × Blk) → Option Hl
  | [] => some []
  | (id, b) :: l => match layD Γ lo l with
    | none => none
    | some r => if Γ.isEmpty then some ((id, b) :: r) else if Nat.ble lo id && b.g.isEmpty then some ((id, { b with g := Γ }) :: r) else none
/-- The same cell, word by word. -/
def cSame : C → C → Bool
  | .int k a, .int l b => k == l && a.eq b
  | .bool a, .bool b => a.eq b
  | .ptr [] i o, .ptr [] j p => i == j && o == p
  | .str a, .str b => a.eq b
  | .val u, .val v => vEq u v
  | .sli i o l c, .sli j p m d => i == j && o == p && l == m && c == d
  | .slx ks q l, .slx ks' q' l' => cksEq ks ks' && q.eq q' && l.eq l'
  | .vec ks q l, .vec ks' q' l' => cksEq ks ks' && q.eq q' && l.eq l'
  | .slm i ks, .slm j ks' => i == j && cksEq ks ks'
  | .emp, .emp => true
  | .fn [] d, .fn [] e => d == e
  | _, _ => false
theorem cSame_sound {x y : C} (h : cSame x y = true) : x = y := by
  unfold cSame at h
  split at h <;> (try simp only [Bool.and_eq_true, beq_iff_eq] at h)
  · rw [h.1, A.eq_sound h.2]
  · rw [B.eq_sound h]
  · rw [h.1, h.2]
  · rw [A.eq_sound h]
  · rw [vEq_sound h]
  · rw [h.1.1.1, h.1.1.2, h.1.2, h.2]
  · rw [cksEq_sound h.1.1, A.eq_sound h.1.2, A.eq_sound h.2]
  · rw [cksEq_sound h.1.1, A.eq_sound h.1.2, A.eq_sound h.2]
  · rw [h.1, cksEq_sound h.2]
  · rfl
  · rw [h]
  · cases h
def lSame : List C → List C → Bool
  | [], [] => true
  | x :: l, y :: m => cSame x y && lSame l m
  | _, _ => false
theorem lSame_sound : ∀ {l m : List C}, lSame l m = true → l = m
  | [], [], _ => rfl
  | x :: l, y :: m, h => by
    simp only [lSame, Bool.and_eq_true] at h
    rw [cSame_sound h.1, lSame_sound h.2]
  | [], _ :: _, h => by simp [lSame] at h
  | _ :: _, [], h => by simp [lSame] at h
/-- Does a block stay aS it was? -/
def stays (ng : Nat) (hp : Hl) (ids : List Nat) (p : Nat × Blk) : Bool := !(Nat.blt p.1 ng) && ids.contains p.1 && match hpOf hp p.1 with
  | some b => lSame b.cells p.2.cells && b.ro == p.2.ro
  | none => false
def opD (P : Program) (X : Hnd) (gh : Hl) (ng : Nat) (ops : Array Oper) (o : Oper) (σ : St) : M DAct := do
  let g ← lift (gdOf ops σ o)
  let rs := tmpsOf o.op.operands.toList ++ gSlot ops o
  let lo ← getId
  match normG g with
  | none => pure { dst := o.dst, sv := undefSV, bl := [], rs := rs, rb := [], lo := lo, hi := lo }
  | some Γ => do
    let ids := rdIds ng σ o
    let r ← M.mono (M.under Γ (opx P X Γ (hpR gh ng σ.hp ids) (ev ng σ) o.op))
    let hi ← getId
    let _ ← lift (if r.rb.isEmpty then some () else none)
    let bl ← lift (layD Γ lo (r.w.filter fun p => !(stays ng σ.hp ids p)))
    pure { dst := o.dst, sv := { g := Γ, s := r.s }, bl := bl, rs := rs, rb := ids, lo := lo, hi := hi, sm := (r.w.filter (stays ng σ.hp ids)).map (·.1) }
def applyD (d : DAct) (σ : St) : Option St :=
  match setT σ.tm d.dst d.sv with
  | some tm => some { tm := tm, hp := d.bl ++ σ.hp, rb := σ.rb, js := σ.js }
  | none => none

section
variable {P : Program} {Φ : Funs} {X : Hnd} {x : Cx} {ρ : Env}

/-- What an operation's action is worth, wherever what it reads is aS it was. -/
def ActOk (P : Program) (x : Cx) (ρ : Env) (ops : Array Oper) (o : Oper) (σ : St) (d : DAct) : Prop :=
  d.dst = o.dst ∧ d.lo ≤ d.hi ∧ (∀ i, i ∈ d.sm → i ∈ d.rb) ∧ (∀ M, d.mkm = some M → d.lo ≤ M ∧ M < d.hi) ∧ ∀ (β : Beta) (a : Act) (w : World), Com x ρ σ.js σ.tm.length β a w →
    (∀ t, t ∈ d.rs → ∀ v, σ.tm[t]? = some v → v.mt β ρ (a.tmps.getD t undef)) →
    (∀ id, id ∈ d.rb → ∀ b, hpOf σ.hp id = some b → Gd.d ρ b.g = true → blkMt β ρ w id b) →
    (∀ i, d.lo ≤ i → i < d.hi → β i = none) → (∀ p, p ∈ d.lk → mapMt x.w0.heap.size β ρ w p.1 p.2 ∧ (p.2.map (·.1)).Nodup) →
    (∀ M k s, d.ins = some (M, k, s) → ∃ es, mapMt x.w0.heap.size β ρ w M es ∧ ∀ p, p ∈ es → p.1 ≠ k) → ∀ (next : Act → World → Prop) (Q : Exit → Act → World → Prop),
    (∀ v w' β', XExt β β' → Com x ρ σ.js σ.tm.length β' (a.put o.dst v) w' → (∀ i, (i < d.lo ∨ d.hi ≤ i) → β' i = β i) → d.sv.mt β' ρ v → (∀ id b, hpOf d.bl id = some b → Gd.d ρ b.g = true → blkMt β' ρ w' id b) →
      (∀ id b, hpOf d.bl id = none → (id ∈ d.sm → hpOf σ.hp id = some b) → blkMt β ρ w id b → blkMt β' ρ w' id b) → (∀ M es, mapMt x.w0.heap.size β ρ w M es → (∀ k s, d.ins = some (M, k, s) → ∀ p, p ∈ es → p.1 ≠ k) → mapMt x.w0.heap.size β' ρ w' M (es ++ insOf d M)) →
      (∀ M, d.mkm = some M → mapMt x.w0.heap.size β' ρ w' M []) → next (a.put o.dst v) w') →
    if Region.wanted o (yielded ops a.tmps) then o.wp P a w next Q else next (a.put o.dst undef) w

theorem mem_tmpsOf : ∀ {l : List Operand} {t : Nat}, Operand.tmp t ∈ l → t ∈ tmpsOf l
  | o :: l, t, h => by
    rcases List.mem_cons.1 h with rfl | h
    · simp [tmpsOf]
    · have := mem_tmpsOf h
      cases o <;> simp [tmpsOf, this]
/-- An operand's slot, read alone. -/
theorem ev_mt' {β : Beta} {σ : St} {a : Act} {w : World} (h : Com x ρ σ.js σ.tm.length β a w) (o : Operand) (ho : ∀ t, o = .tmp t → ∀ v, σ.tm[t]? = some v → v.mt β ρ (a.tmps.getD t undef)) : (ev x.ng σ o).mt β ρ (a.eval o) := by
  cases o with
  | tmp t =>
    show (σ.tm.getD t anySV).mt β ρ (a.tmps.getD t undef)
    rw [List.getD_eq_getElem?_getD]
    cases ht : σ.tm[t]? with
    | none => exact anySV_mt _
    | some v => exact ho t rfl v ht
  | const v => exact ⟨fun _ => ofV_mt v, fun h => (by cases h)⟩
  | global g =>
    show (if Nat.blt g x.ng then ({ g := [], s := .one false [.ptr [] g 0] } : SV) else anySV).mt β ρ (.pointer (some ⟨g, 0, none⟩))
    split
    · rename_i hg
      simp only [Nat.blt_eq] at hg
      exact ⟨fun _ => ⟨_, rfl, _, h.gl g _ (List.getElem?_eq_getElem hg), by simp [pick, gRg]⟩, fun h => (by cases h)⟩
    · exact anySV_mt _
  | func f =>
    show (if f == yieldN then ({ g := [], s := .one false [.val (.func (.func f) #[] #[])] } : SV) else { g := [], s := .one false [.fn [] (some (f, []))] }).mt β ρ (.func (.func f) #[] #[])
    split
    · exact ⟨fun _ => ⟨_, rfl, rfl, rfl⟩, fun h => (by cases h)⟩
    · rename_i hf
      exact ⟨fun _ => ⟨_, rfl, [], (fvVal_ne (by simpa using hf) []).symm, trivial⟩, fun h => (by cases h)⟩
theorem gdOf_wanted' {n : Nat} {β : Beta} {σ : St} {a : Act} {w : World} (h : a.tmps.size = σ.tm.length) {ops : Array Oper} {o : Oper} {g : Gd} (hs : ∀ t, t ∈ gSlot ops o → ∀ v, σ.tm[t]? = some v → v.mt β ρ (a.tmps.getD t undef)) (hg : gdOf ops σ o = some g) :
    Region.wanted o (yielded ops a.tmps) = Gd.d ρ g := by
  unfold gdOf at hg
  unfold gSlot at hs
  unfold Region.wanted
  split at hg
  · rename_i h1
    simp only [Option.some.injEq] at hg
    subst hg
    rw [h1]
    rfl
  · rename_i j want h1
    rw [h1] at hs ⊢
    simp only at hs ⊢
    split at hg
    · cases hg
    · rename_i t ht
      rw [ht] at hs
      simp only at hs
      split at hg
      · rename_i g' b hsv
        simp only [Option.some.injEq] at hg
        subst hg
        have hlt : t < a.tmps.size := by rw [h]; exact (List.getElem?_eq_some_iff.1 hsv).1
        have hm := hs t (by simp) _ hsv
        unfold yielded
        rw [ht]
        simp only [Option.bind_some]
        have hget : a.tmps[t]? = some (a.tmps.getD t undef) := by simp [hlt]
        rw [hget]
        cases hgd : Gd.d ρ g'
        · have := hm.2 hgd
          rw [this]
          simp [undef, hgd]
        · have := mt_bool rfl (hm.1 hgd)
          rw [this]
          simp [hgd]
      · rename_i g' sg' hsv
        simp only [Option.some.injEq] at hg
        subst hg
        have hlt : t < a.tmps.size := by rw [h]; exact (List.getElem?_eq_some_iff.1 hsv).1
        have hm := hs t (by simp) _ hsv
        unfold yielded
        rw [ht]
        simp only [Option.bind_some]
        have hget : a.tmps[t]? = some (a.tmps.getD t undef) := by simp [hlt]
        rw [hget]
        have hgd : ∀ l : Gd, Gd.d ρ ((.c true, false) :: l) = false := fun l => by rw [Gd.d_cons]; rfl
        rw [hm.2 (hgd _), hgd]
        simp [undef]
      · cases hg
theorem layD_spec {Γ : Gd} {lo : Nat} : ∀ {l : List (Nat × Blk)} {r : Hl}, layD Γ lo l = some r → (∀ id b, hpOf r id = some b → ∃ b', (id, b') ∈ l ∧ (b = b' ∨ (b = { b' with g := Γ }))) ∧ (∀ id, hpOf r id = none → id ∉ l.map (·.1)) ∧ (Γ ≠ [] → ∀ id b, hpOf r id = some b → b.g = Γ)
  | [], r, h => by simp only [layD, Option.some.injEq] at h; subst h; simp [hpOf]
  | (i, b0) :: l, r, h => by
    unfold layD at h
    split at h
    · cases h
    · rename_i r' hr
      obtain ⟨h1, h2, h3⟩ := layD_spec hr
      split at h
      · rename_i hΓ
        simp only [Option.some.injEq] at h
        subst h
        rw [List.isEmpty_iff] at hΓ
        refine ⟨fun id b hb => ?_, fun id hn => ?_, fun hne => absurd hΓ hne⟩
        · unfold hpOf at hb
          split at hb
          · rename_i he
            simp only [beq_iff_eq] at he
            simp only [Option.some.injEq] at hb
            subst he; subst hb
            exact ⟨b0, by simp, .inl rfl⟩
          · obtain ⟨b', hb', hx⟩ := h1 id b hb
            exact ⟨b', by simp [hb'], hx⟩
        · unfold hpOf at hn
          split at hn
          · cases hn
          · rename_i he
            have := h2 id hn
            simp only [List.map_cons, List.mem_cons, not_or]
            exact ⟨fun e => he (by simp [e]), this⟩
      · split at h
        · rename_i hc
          simp only [Option.some.injEq] at h
          subst h
          refine ⟨fun id b hb => ?_, fun id hn => ?_, fun hne id b hb => ?_⟩
          · unfold hpOf at hb
            split at hb
            · rename_i he
              simp only [beq_iff_eq] at he
              simp only [Option.some.injEq] at hb
              subst he; subst hb
              exact ⟨b0, by simp, .inr rfl⟩
            · obtain ⟨b', hb', hx⟩ := h1 id b hb
              exact ⟨b', by simp [hb'], hx⟩
          · unfold hpOf at hn
            split at hn
            · cases hn
            · rename_i he
              have := h2 id hn
              simp only [List.map_cons, List.mem_cons, not_or]
              exact ⟨fun e => he (by simp [e]), this⟩
          · unfold hpOf at hb
            split at hb
            · simp only [Option.some.injEq] at hb
              subst hb
              rfl
            · exact h3 hne id b hb
        · cases h

theorem opD_lk {ops : Array Oper} {o : Oper} {σ : St} {gh : Hl} {ng : Nat} {c c' : Ctr} {d : DAct} {out : List Em} (h : opD P X gh ng ops o σ c = some (d, c', out)) : d.lk = [] := by
  unfold opD at h
  obtain ⟨g, c1, o1, c2, o2, y, h1, h2, he⟩ := M.bind_inv h
  simp only [Prod.mk.injEq] at he
  obtain ⟨rfl, rfl, rfl⟩ := he
  obtain ⟨lo, c3, o3, c4, o4, y, h3, h4, he⟩ := M.bind_inv h2
  simp only [Prod.mk.injEq] at he
  obtain ⟨rfl, rfl, rfl⟩ := he
  cases hno : normG g with
  | none =>
    rw [hno] at h4
    have he := M.pure_inv h4
    simp only [Prod.mk.injEq] at he
    rw [he.1]
  | some Γ =>
    rw [hno] at h4
    obtain ⟨r, c5, o5, c6, o6, y, h5, h6, he⟩ := M.bind_inv h4
    simp only [Prod.mk.injEq] at he
    obtain ⟨rfl, rfl, rfl⟩ := he
    obtain ⟨hi, c7, o7, c8, o8, y, h7, h8, he⟩ := M.bind_inv h6
    simp only [Prod.mk.injEq] at he
    obtain ⟨rfl, rfl, rfl⟩ := he
    obtain ⟨_, _, h8⟩ := snd_lift_inv h8
    obtain ⟨bl, c9, o9, c10, o10, y, h9, h10, he⟩ := M.bind_inv h8
    simp only [Prod.mk.injEq] at he
    obtain ⟨rfl, rfl, rfl⟩ := he
    have he := M.pure_inv h10
    simp only [Prod.mk.injEq] at he
    rw [he.1]
theorem opD_ok (hX : HOk P Φ x.gl X) (hG : ∀ w, Keep x.R x.w0 w → Laid x.gl w) {ops : Array Oper} {o : Oper} {σ : St} {c c' : Ctr} {d : DAct} {out : List Em} (h : opD P X x.gh x.ng ops o σ c = some (d, c', out)) (hg : Good Φ ρ out) :
    ActOk P x ρ ops o σ d ∧ d.lo = c.id ∧ d.hi = c'.id := by
  unfold opD at h
  obtain ⟨g, c1, o1, c2, o2, y, h1, h2, he⟩ := M.bind_inv h
  simp only [Prod.mk.injEq] at he
  obtain ⟨rfl, rfl, rfl⟩ := he
  obtain ⟨g', hgd, he⟩ := lift_inv h1
  simp only [Prod.mk.injEq] at he
  obtain ⟨rfl, rfl, rfl⟩ := he
  obtain ⟨lo, c3, o3, c4, o4, y, h3, h4, he⟩ := M.bind_inv h2
  simp only [Prod.mk.injEq] at he
  obtain ⟨rfl, rfl, rfl⟩ := he
  simp only [getId, Option.some.injEq, Prod.mk.injEq] at h3
  obtain ⟨rfl, rfl, rfl⟩ := h3
  cases hno : normG g with
  | none =>
    rw [hno] at h4
    have he := M.pure_inv h4
    simp only [Prod.mk.injEq] at he
    obtain ⟨rfl, rfl, rfl⟩ := he
    refine ⟨⟨rfl, Nat.le_refl _, fun i hi => (by cases hi), fun M hM => (by cases hM), fun β a w hC hsl hbl hf _ _ next Q hn => ?_⟩, rfl, rfl⟩
    rw [gdOf_wanted' (n := 0) (w := w) hC.size (fun t ht => hsl t (by simp [ht])) hgd, normG_none (ρ := ρ) hno]
    simp only [Bool.false_eq_true, if_false]
    exact hn undef w β (XExt.refl β) ⟨(put_tmps a _ _).2.trans hC.size, hC.df.put _ _, hC.gm, hC.gro, hC.bo, hC.kp, hC.gl, hC.ra⟩ (fun _ _ => rfl) undefSV_mt (fun id b hb => by simp [hpOf] at hb) (fun _ _ _ _ h => h) (fun M es h _ => by rw [show insOf _ M = [] from rfl, List.append_nil]; exact h) (fun M hM => by cases hM)
  | some Γ =>
    rw [hno] at h4
    obtain ⟨r, c5, o5, c6, o6, y, h5, h6, he⟩ := M.bind_inv h4
    simp only [Prod.mk.injEq] at he
    obtain ⟨rfl, rfl, rfl⟩ := he
    obtain ⟨h5, hle⟩ := mono_inv h5
    simp only at hle
    obtain ⟨r', c5', o5', h5', he⟩ := under_inv h5
    simp only [Prod.mk.injEq] at he
    obtain ⟨rfl, rfl, rfl⟩ := he
    obtain ⟨hi, c7, o7, c8, o8, y, h7, h8, he⟩ := M.bind_inv h6
    simp only [Prod.mk.injEq] at he
    obtain ⟨rfl, rfl, rfl⟩ := he
    simp only [getId, Option.some.injEq, Prod.mk.injEq] at h7
    obtain ⟨rfl, rfl, rfl⟩ := h7
    obtain ⟨u0, hrb0, h8⟩ := snd_lift_inv h8
    have hrb : r.rb = [] := by
      split at hrb0
      · rename_i hc; simpa using hc
      · cases hrb0
    obtain ⟨bl, c9, o9, c10, o10, y, h9, h10, he⟩ := M.bind_inv h8
    simp only [Prod.mk.injEq] at he
    obtain ⟨rfl, rfl, rfl⟩ := he
    obtain ⟨bl', hlay, he⟩ := lift_inv h9
    simp only [Prod.mk.injEq] at he
    obtain ⟨rfl, rfl, rfl⟩ := he
    have he := M.pure_inv h10
    simp only [Prod.mk.injEq] at he
    obtain ⟨rfl, rfl, rfl⟩ := he
    simp only [Good.append] at hg
    have hg5 := hg.2.2.1
    have hsm : ∀ i, i ∈ ((r.w.filter (stays x.ng σ.hp (rdIds x.ng σ o))).map (·.1)) → i ∈ rdIds x.ng σ o ∧ ∃ b b', hpOf σ.hp i = some b ∧ (i, b') ∈ r.w ∧ b.cells = b'.cells ∧ b.ro = b'.ro := fun i hi => by
      obtain ⟨p, hp, rfl⟩ := List.mem_map.1 hi
      rw [List.mem_filter] at hp
      obtain ⟨hp1, hp2⟩ := hp
      unfold stays at hp2
      simp only [Bool.and_eq_true] at hp2
      obtain ⟨⟨h1, h2⟩, h3⟩ := hp2
      refine ⟨by simpa using h2, ?_⟩
      split at h3
      · rename_i b hb
        simp only [Bool.and_eq_true, beq_iff_eq] at h3
        exact ⟨b, p.2, hb, hp1, lSame_sound h3.1, h3.2⟩
      · cases h3
    refine ⟨⟨rfl, hle, fun i hi => (hsm i hi).1, fun M hM => (by cases hM), fun β a w hC hsl hbl hf _ _ next Q hn => ?_⟩, rfl, rfl⟩
    have hΓe := normG_some (ρ := ρ) hno
    rw [gdOf_wanted' (n := 0) (w := w) hC.size (fun t ht => hsl t (by simp [ht])) hgd]
    obtain ⟨l1, l2, l3⟩ := layD_spec hlay
    cases hgg : Gd.d ρ g
    · simp only [Bool.false_eq_true, if_false]
      rw [hgg] at hΓe
      have hne : Γ ≠ [] := fun e => by subst e; cases hΓe
      refine hn undef w β (XExt.refl β) ⟨(put_tmps a _ _).2.trans hC.size, hC.df.put _ _, hC.gm, hC.gro, hC.bo, hC.kp, hC.gl, hC.ra⟩ (fun _ _ => rfl) ⟨fun h => (by simp only at h; rw [hΓe] at h; cases h), fun _ => rfl⟩ (fun id b hb hbg => ?_) (fun _ _ _ _ h => h) (fun M es h _ => by rw [show insOf _ M = [] from rfl, List.append_nil]; exact h) (fun M hM => by cases hM)
      rw [l3 hne id b hb, hΓe] at hbg
      cases hbg
    · simp only [if_true]
      rw [hgg] at hΓe
      have hg1' := Good.under hΓe hg5
      have hlok := opx_ok (Γ := Γ) hX o ρ _ _ _ _ h5' hg1' hΓe x.w0.heap.size x.R x.Q β a w (fun z hz => ev_mt' hC z fun t ht => hsl t (by simp only [List.mem_append]; exact .inl (mem_tmpsOf (by rw [ht] at hz; simpa using hz)))) (fun id b hb hbg => by
          unfold hpR at hb
          split at hb
          · exact hC.gm id b hb hbg
          · split at hb
            · rename_i hc
              exact hbl id (by simpa using hc) b hb hbg
            · cases hb) hC.bo hC.kp.size ⟨hG w hC.kp, hC.gl⟩ (fun i hi1 hi2 => hf i hi1 hi2)
      refine hlok next Q fun v w' hpost => ?_
      obtain ⟨β', hst, hsv, hblk⟩ := hpost
      rw [hrb] at hst
      have hxe : XExt β β' := fun i r h1 _ => hst.ext i r h1 (.inr (by simp))
      obtain ⟨W, hW, hkW⟩ := hst.kp
      refine hn v w' β' hxe ⟨(put_tmps a _ _).2.trans hC.size, (hC.df.keep hkW (fun r hr => by obtain ⟨_, _, _, _, h⟩ := hW r hr; exact h)).put _ _, fun id b hb hbg => ?_, hC.gro, hst.bo, hC.kp.trans hkW fun r hr => ?_, fun g vs hg => hxe.at (hC.gl g vs hg), fun j r hr => ⟨(hC.ra j r hr).1, hxe.at (hC.ra j r hr).2⟩⟩ (fun i hi => hst.dom i hi (by simp))
        ⟨fun _ => hsv, fun h => (by simp only at h; rw [hΓe] at h; cases h)⟩ (fun id b hb hbg => ?_) (fun id b hnb hsmb hb => ?_)
        (fun M es h _ => by
          rw [show insOf _ M = [] from rfl, List.append_nil]
          exact mapMt_ext (Mv.of hC.bo hxe) (live_map (fun r hr => by obtain ⟨_, _, _, _, hl⟩ := hW r hr; exact hl) hkW) h)
        (fun M hM => by cases hM)
      · have hgm := hC.gm id b hb hbg
        refine blkMt_keep' hxe hC.bo hkW (fun r q hr hq => ?_) hgm
        obtain ⟨id', hid', hβ', hro, _⟩ := hW r hr
        refine hC.bo.apartW (fun e => ?_) hβ' hq hro
        subst e
        obtain ⟨q', hq', hro', _⟩ := blkMt_at hgm
        rw [hβ'] at hq'
        cases hq'
        rw [hro, hC.gro _ b hb] at hro'
        cases hro'
      · obtain ⟨id', hid', hβ', hro, _⟩ := hW r hr
        rcases hC.bo.may id' r hβ' with h | h
        · rw [hro] at h; cases h
        · exact h
      · obtain ⟨b', hb', he⟩ := l1 id b hb
        have := hblk _ (List.mem_filter.1 hb').1
        rcases he with rfl | rfl
        · exact this
        · exact this
      · by_cases hs : id ∈ ((r.w.filter (stays x.ng σ.hp (rdIds x.ng σ o))).map (·.1))
        · obtain ⟨_, b1, b', hb1, hbm, hc1, hr1⟩ := hsm id hs
          have hbb := hsmb hs
          rw [hb1] at hbb
          simp only [Option.some.injEq] at hbb
          subst hbb
          exact blkMt_g hr1.symm hc1.symm (hblk _ hbm)
        · refine blkMt_keep' hxe hC.bo hkW (fun r' q hr hq => ?_) hb
          obtain ⟨id', hid', hβ', hro, _⟩ := hW r' hr
          refine hC.bo.apartW (i := id') (j := id) (fun e => ?_) hβ' hq hro
          subst e
          obtain ⟨p, hp, he⟩ := List.mem_map.1 hid'
          by_cases hst' : stays x.ng σ.hp (rdIds x.ng σ o) p = true
          · exact hs (List.mem_map.2 ⟨p, List.mem_filter.2 ⟨hp, hst'⟩, he⟩)
          · exact l2 _ hnb (List.mem_map.2 ⟨p, List.mem_filter.2 ⟨hp, by simpa using hst'⟩, he⟩)

/-! ### Operations on maps -/
theorem heap_set_other {w : World} {k b : Nat} {o : Obj} (h : k ≠ b) : (w.heap.setIfInBounds b o)[k]? = w.heap[k]? := Array.getElem?_setIfInBounds_ne (fun e => h e.symm)
/-- A map's entries are turned: no cell is. -/
theorem set_map_cell {w : World} {b : Nat} {ents ents' : Array MapEntry} {c c' : Nat} (hb : w.heap[b]? = some (.map ents c)) (a : Addr) : ({ w with heap := w.heap.setIfInBounds b (.map ents' c') } : World).cell? a = w.cell? a ∧
    ({ w with heap := w.heap.setIfInBounds b (.map ents' c') } : World).frozen? a = w.frozen? a := by
  unfold World.cell? World.frozen?
  simp only
  by_cases h : a.block = b
  · rw [h, hb]
    have hlt := (Array.getElem?_eq_some_iff.1 hb).1
    have : (w.heap.setIfInBounds b (.map ents' c'))[b]? = some (.map ents' c') := by simp [hlt]
    rw [this]
    exact ⟨rfl, rfl⟩
  · rw [heap_set_other h]
    exact ⟨rfl, rfl⟩
theorem set_map_keep {w0 w : World} {R : List Rg} {b : Nat} {ents ents' : Array MapEntry} {c c' : Nat} (hb : w.heap[b]? = some (.map ents c)) (hk : Keep R w0 w) (hn : w0.heap.size ≤ b) : Keep R w0 { w with heap := w.heap.setIfInBounds b (.map ents' c') } := by
  refine ⟨hk.os, hk.tape, hk.output, by simpa using hk.size, fun a ha h => ?_, fun a ha => ?_, fun k h => ?_, fun k h hr => ?_⟩
  · rw [(set_map_cell hb a).1]; exact hk.cell a ha h
  · rw [(set_map_cell hb a).2]; exact hk.frz a ha
  · have : ({ w with heap := w.heap.setIfInBounds b (.map ents' c') } : World).shape? k = w.shape? k := by
      unfold World.shape?
      simp only
      rw [heap_set_other (by omega)]
    rw [this]; exact hk.shp k h
  · show (w.heap.setIfInBounds b _)[k]? = _
    rw [heap_set_other (by omega)]
    exact hk.blk k h hr
theorem blkMt_cells {β : Beta} {ρ : Env} {w w' : World} (h : ∀ a, w'.cell? a = w.cell? a ∧ w'.frozen? a = w.frozen? a) {id : Nat} {b : Blk} (hm : blkMt β ρ w id b) : blkMt β ρ w' id b := by
  cases hv : vecOf b.cells with
  | none =>
    obtain ⟨r, hr, hrow, hl, hro, hc, hf⟩ := (blkMt_cs hv).1 hm
    exact (blkMt_cs hv).2 ⟨r, hr, hrow, hl, hro, cellsAt_w (fun j hj => (h _).1) hc, fun h0 j hj => by rw [(h _).2]; exact hf h0 j hj⟩
  | some y =>
    obtain ⟨h0, r, cap, l, h1, h2, h3, h4, h5, h6, h7, h8, h9, h10, h11, h12⟩ := (blkMt_row hv).1 hm
    exact (blkMt_row hv).2 ⟨h0, r, cap, l, h1, h2, h3, h4, h5, h6, h7, h8, h9, h10, seqAt_w (fun j hj => (h _).1) h11, fun j hj => by rw [(h _).1, (h _).2]; exact h12 j hj⟩
theorem betaOk_cells {N : Nat} {R : List Rg} {Q : Rg → Prop} {β : Beta} {w w' : World} (h : ∀ a, w'.cell? a = w.cell? a) (hs : w.heap.size ≤ w'.heap.size) (hb : BetaOk N R Q β w) : BetaOk N R Q β w' := by
  refine ⟨hb.apart, fun i r hi => by have := hb.place i r hi; omega, hb.may, fun i r ks l hi hq => ?_, hb.rom, hb.qs, hb.rw⟩
  obtain ⟨h1, h0, h2, h3⟩ := hb.sq i r ks l hi hq
  exact ⟨h1, h0, h2, fun j n hj => by obtain ⟨ck, v, g1, g2, g3⟩ := h3 j n hj; exact ⟨ck, v, g1, by rw [h]; exact g2, g3⟩⟩
def mpOf (x : SV) : Option Nat := match x with
  | { g := [], s := .one false [.mp M] } => some M
  | _ => none
theorem mpOf_spec {x : SV} {M : Nat} (h : mpOf x = some M) : x = { g := [], s := .one false [.mp M] } := by
  unfold mpOf at h
  split at h
  · simp only [Option.some.injEq] at h
    subst h
    rfl
  · cases h
def esOf (M : Nat) : List (Nat × MEs) → MEs
  | [] => []
  | (m, es) :: l => if m == M then es ++ esOf M l else esOf M l
/-- Operations on maps. -/
inductive MapOp where
  | mak (t : TypeId)
  | ins (t : TypeId) (m : Operand) (key : ByteArray) (v : Operand)
  | look (t : TypeId) (m k : Operand)
def mapOp (o : Oper) : Option MapOp := match o.guard with
  | some _ => none
  | none => match o.op with
    | .makeMap t none => some (.mak t)
    | .insert t m (.const (.string key)) v => some (.ins t m key v)
    | .lookup t m k false => some (.look t m k)
    | _ => none
theorem mapOp_spec {o : Oper} {x : MapOp} (h : mapOp o = some x) : o.guard = none ∧ match x with
    | .mak t => o.op = .makeMap t none
    | .ins t m key v => o.op = .insert t m (.const (.string key)) v
    | .look t m k => o.op = .lookup t m k false := by
  unfold mapOp at h
  split at h
  · cases h
  · rename_i hg
    refine ⟨hg, ?_⟩
    split at h <;> first | (simp only [Option.some.injEq] at h; subst h; assumption) | cases h
def opMak (o : Oper) : M DAct := do
  let id ← newId
  pure { dst := o.dst, sv := { g := [], s := .one false [.mp id] }, bl := [], rs := [], rb := [], lo := id, hi := id + 1, mkm := some id }
def opIns (P : Program) (ng : Nat) (o : Oper) (σ : St) (t : TypeId) (m : Operand) (key : ByteArray) (v : Operand) : M DAct := do
  let lo ← getId
  let id ← lift (mpOf (ev ng σ m))
  let _ ← lift (strMap P t)
  pure { dst := o.dst, sv := anySV, bl := [], rs := tmpsOf [m, v], rb := [], lo := lo, hi := lo, ins := some (id, key, rs [] (ev ng σ v)) }
def keyOf1 (s : S) : Option A := match s with
  | .one false [c] => asStr c
  | _ => none
theorem keyOf1_spec {s : S} {q : A} (h : keyOf1 s = some q) : ∃ c, s = .one false [c] ∧ asStr c = some q := by
  unfold keyOf1 at h
  split at h
  · exact ⟨_, rfl, h⟩
  · cases h
def opLook (P : Program) (ng : Nat) (o : Oper) (σ : St) (acc : List DAct) (t : TypeId) (m k : Operand) : M DAct := do
  let lo ← getId
  let id ← lift (mpOf (ev ng σ m))
  let e ← lift (strMap P t)
  let z ← lift (zeroS P e)
  let q ← lift (keyOf1 (rs [] (ev ng σ k)))
  let s ← M.mono (lookM q z (insL (fun _ => true) id acc 0))
  let hi ← getId
  pure { dst := o.dst, sv := { g := [], s := s }, bl := [], rs := tmpsOf [m, k], rb := [], lo := lo, hi := hi, lk := [(id, insL (fun _ => true) id acc 0)] }
/-- An operation on a map; or any other one. 'acc': what went ahead. -/
def opDm (P : Program) (X : Hnd) (gh : Hl) (ng : Nat) (ops : Array Oper) (o : Oper) (σ : St) (acc : List DAct) : M DAct :=
  match mapOp o with
  | some (.mak t) => opMak o
  | some (.ins t m key v) => opIns P ng o σ t m key v
  | some (.look t m k) => opLook P ng o σ acc t m k
  | none => opD P X gh ng ops o σ
theorem wanted_none {o : Oper} (h : o.guard = none) (y : Nat → Option Bool) : Region.wanted o y = true := by
  unfold Region.wanted
  rw [h]
theorem opDm_ok (hX : HOk P Φ x.gl X) (hG : ∀ w, Keep x.R x.w0 w → Laid x.gl w) {ops : Array Oper} {o : Oper} {σ : St} {acc : List DAct} {c c' : Ctr} {d : DAct} {out : List Em} (h : opDm P X x.gh x.ng ops o σ acc c = some (d, c', out)) (hg : Good Φ ρ out) :
    ActOk P x ρ ops o σ d ∧ d.lo = c.id ∧ d.hi = c'.id ∧ ∀ p, p ∈ d.lk → p.2 = insL (fun _ => true) p.1 acc 0 := by
  cases hmo : mapOp o with
  | none =>
    simp only [opDm, hmo] at h
    obtain ⟨h1, h2, h3⟩ := opD_ok hX hG h hg
    refine ⟨h1, h2, h3, fun p hp => ?_⟩
    rw [opD_lk h] at hp
    cases hp
  | some mo =>
    obtain ⟨hgu, hop⟩ := mapOp_spec hmo
    cases mo with
    | mak t =>
      simp only [opDm, hmo, opMak, newId, Bind.bind, M.bind, Pure.pure, M.pure, Option.some.injEq, Prod.mk.injEq] at h
      obtain ⟨rfl, rfl, rfl⟩ := h
      refine ⟨⟨rfl, by simp, fun i hi => (by cases hi), fun M hM => (by simp only [Option.some.injEq] at hM; subst hM; exact ⟨Nat.le_refl _, Nat.lt_succ_self _⟩), fun β a w hC hsl hbl hf _ _ next Q hn => ?_⟩, rfl, rfl, fun p hp => by cases hp⟩
      rw [wanted_none hgu, if_pos rfl]
      have hrun : (execOp a.eval o).run P w = .ok (.value (.map (some w.heap.size))) (w.alloc (.map #[] 0)) := by
        obtain ⟨dst, op, ty, pos, after, guard⟩ := o
        simp only at hop
        subst hop
        simp [execOp, run_mkMap]
      have hnone := hf c.id (Nat.le_refl _) (Nat.lt_succ_self _)
      have hext : XExt β (β.set c.id { blk := w.heap.size, off := 0, len := 1, ro := false }) := Beta.set_ext _ hnone
      have hkeep : Keep [] w (w.alloc (.map #[] 0)) := Keep.alloc [] w _
      refine OpG.value (Post := fun v w' => v = .map (some w.heap.size) ∧ w' = w.alloc (.map #[] 0)) hrun ⟨rfl, rfl⟩ next Q fun v w' ⟨hv, hw⟩ => ?_
      subst hv hw
      refine hn _ _ (β.set c.id { blk := w.heap.size, off := 0, len := 1, ro := false }) hext ⟨(put_tmps a _ _).2.trans hC.size, (hC.df.keep hkeep (fun r hr => by cases hr)).put _ _, fun id b hb hbg => ?_, hC.gro, hC.bo.alloc hC.kp.size _ 1, hC.kp.trans hkeep (fun r hr => by cases hr), fun g vs hg => hext.at (hC.gl g vs hg), fun j r hr => ⟨(hC.ra j r hr).1, hext.at (hC.ra j r hr).2⟩⟩
        (fun i hi => by unfold Beta.set; rw [if_neg (by simp only at hi; omega)]) ⟨fun _ => mt_of_cell ⟨_, Beta.set_same _ _ _, rfl⟩, fun h => by cases h⟩ (fun id b hb => by simp [hpOf] at hb) (fun id b _ _ hb => ?_) (fun M es hm _ => ?_) (fun M hM => ?_)
      · exact blkMt_keep' hext hC.bo hkeep (fun r q hr => by cases hr) (hC.gm id b hb hbg)
      · exact blkMt_keep' hext hC.bo hkeep (fun r q hr => by cases hr) hb
      · rw [show insOf _ M = [] from rfl, List.append_nil]
        exact mapMt_ext (Mv.of hC.bo hext) (live_map (fun r hr => by cases hr) hkeep) hm
      · simp only [Option.some.injEq] at hM
        subst hM
        exact ⟨_, #[], 0, ⟨Beta.set_same _ _ _, rfl, rfl, rfl⟩, hC.kp.size, heap_alloc_new _ _, fun p hp => (by cases hp), fun e he => by simp at he⟩
    | ins t m key v =>
      simp only [opDm, hmo] at h
      unfold opIns at h
      obtain ⟨lo, c1, o1, c2, o2, y, h1, h2, he⟩ := M.bind_inv h
      simp only [Prod.mk.injEq] at he
      obtain ⟨rfl, rfl, rfl⟩ := he
      simp only [getId, Option.some.injEq, Prod.mk.injEq] at h1
      obtain ⟨rfl, rfl, rfl⟩ := h1
      obtain ⟨id, c3, o3, c4, o4, y, h3, h4, he⟩ := M.bind_inv h2
      simp only [Prod.mk.injEq] at he
      obtain ⟨rfl, rfl, rfl⟩ := he
      obtain ⟨id', hid, he⟩ := lift_inv h3
      simp only [Prod.mk.injEq] at he
      obtain ⟨rfl, rfl, rfl⟩ := he
      obtain ⟨e, c5, o5, c6, o6, y, h5, h6, he⟩ := M.bind_inv h4
      simp only [Prod.mk.injEq] at he
      obtain ⟨rfl, rfl, rfl⟩ := he
      obtain ⟨e', hst, he⟩ := lift_inv h5
      simp only [Prod.mk.injEq] at he
      obtain ⟨rfl, rfl, rfl⟩ := he
      have he := M.pure_inv h6
      simp only [Prod.mk.injEq] at he
      obtain ⟨rfl, rfl, rfl⟩ := he
      refine ⟨⟨rfl, Nat.le_refl _, fun i hi => (by cases hi), fun M hM => (by cases hM), fun β a w hC hsl hbl hf _ hins next Q hn => ?_⟩, rfl, rfl, fun p hp => by cases hp⟩
      rw [wanted_none hgu, if_pos rfl]
      have hmv := ev_mt' hC m fun t' ht' => hsl t' (mem_tmpsOf (by simp [ht']))
      rw [mpOf_spec hid] at hmv
      obtain ⟨r, hr, hmv⟩ := mt_cell (s := .one false [.mp id]) rfl (hmv.1 rfl)
      have hvv := rs_mt (Γ := []) rfl (ev_mt' hC v fun t' ht' => hsl t' (mem_tmpsOf (by simp [ht'])))
      obtain ⟨es, hes, hnew⟩ := hins id key _ rfl
      obtain ⟨ents, clock, hb, hrun0⟩ := run_ins hst hes hr hnew (a.eval v)
      obtain ⟨w', hw'⟩ : ∃ w', w' = ({ w with heap := w.heap.setIfInBounds r.blk (.map (ents.push { key := .string key, val := a.eval v, born := clock }) (clock + 1)) } : World) := ⟨_, rfl⟩
      rw [← hw'] at hrun0
      have hrun : (execOp a.eval o).run P w = .ok .skip w' := by
        obtain ⟨dst, op, ty, pos, after, guard⟩ := o
        simp only at hop
        subst hop
        have hke : a.eval (.const (.string key)) = .string key := rfl
        simp only [execOp, hmv, hke]
        simp [hrun0]
      have hcell : ∀ a, w'.cell? a = w.cell? a ∧ w'.frozen? a = w.frozen? a := fun a => by rw [hw']; exact set_map_cell hb a
      have hN : x.w0.heap.size ≤ r.blk := by
        obtain ⟨r', _, _, g1, g2, _⟩ := hes
        have g1 := g1.1
        rw [hr] at g1
        cases g1
        exact g2
      refine OpG.skip (Post := fun v w2 => v = undef ∧ w2 = w') hrun ⟨rfl, rfl⟩ next Q fun u w2 ⟨hu, hw2⟩ => ?_
      subst hu hw2
      refine hn _ _ β (XExt.refl β) ⟨(put_tmps a _ _).2.trans hC.size, Lk.put (hC.df.imp (fun D hD => by rw [hw']; show (w.heap.setIfInBounds r.blk _)[D]? = _; rw [heap_set_other (fun e => by subst e; rw [hb] at hD; cases hD)]; exact hD) (fun l r0 hl => by rw [hw']; show (w.heap.setIfInBounds r.blk _)[l]? = _; rw [heap_set_other (fun e => by subst e; rw [hb] at hl; cases hl)]; exact hl)) _ _, fun id b hb hbg => blkMt_cells hcell (hC.gm id b hb hbg), hC.gro, betaOk_cells (fun a => (hcell a).1) (by rw [hw']; simp) hC.bo, by rw [hw']; exact set_map_keep hb hC.kp hN, hC.gl, hC.ra⟩
        (fun _ _ => rfl) (anySV_mt _) (fun id b hb => by simp [hpOf] at hb) (fun id b _ _ hb => blkMt_cells hcell hb) (fun M es' hm' _ => ?_) (fun M hM => by cases hM)
      rw [hw']
      by_cases hMe : M = id
      · subst hMe
        unfold insOf
        simp only [beq_self_eq_true, if_true]
        exact mapMt_push hm' hr hb key hvv
      · unfold insOf
        simp only
        rw [if_neg (by simpa using fun e => hMe (Eq.symm e)), List.append_nil]
        exact mapMt_else hMe hC.bo hes hr _ hm'
    | look t m k =>
      simp only [opDm, hmo] at h
      unfold opLook at h
      obtain ⟨lo, c1, o1, c2, o2, y, h1, h2, he⟩ := M.bind_inv h
      simp only [Prod.mk.injEq] at he
      obtain ⟨rfl, rfl, rfl⟩ := he
      simp only [getId, Option.some.injEq, Prod.mk.injEq] at h1
      obtain ⟨rfl, rfl, rfl⟩ := h1
      obtain ⟨id, c3, o3, c4, o4, y, h3, h4, he⟩ := M.bind_inv h2
      simp only [Prod.mk.injEq] at he
      obtain ⟨rfl, rfl, rfl⟩ := he
      obtain ⟨id', hid, he⟩ := lift_inv h3
      simp only [Prod.mk.injEq] at he
      obtain ⟨rfl, rfl, rfl⟩ := he
      obtain ⟨e, c5, o5, c6, o6, y, h5, h6, he⟩ := M.bind_inv h4
      simp only [Prod.mk.injEq] at he
      obtain ⟨rfl, rfl, rfl⟩ := he
      obtain ⟨e', hst, he⟩ := lift_inv h5
      simp only [Prod.mk.injEq] at he
      obtain ⟨rfl, rfl, rfl⟩ := he
      obtain ⟨z, c7, o7, c8, o8, y, h7, h8, he⟩ := M.bind_inv h6
      simp only [Prod.mk.injEq] at he
      obtain ⟨rfl, rfl, rfl⟩ := he
      obtain ⟨z', hz, he⟩ := lift_inv h7
      simp only [Prod.mk.injEq] at he
      obtain ⟨rfl, rfl, rfl⟩ := he
      obtain ⟨q, c9, o9, c10, o10, y, h9, h10, he⟩ := M.bind_inv h8
      simp only [Prod.mk.injEq] at he
      obtain ⟨rfl, rfl, rfl⟩ := he
      obtain ⟨q', hq, he⟩ := lift_inv h9
      simp only [Prod.mk.injEq] at he
      obtain ⟨rfl, rfl, rfl⟩ := he
      obtain ⟨s, c11, o11, c12, o12, y, h11, h12, he⟩ := M.bind_inv h10
      simp only [Prod.mk.injEq] at he
      obtain ⟨rfl, rfl, rfl⟩ := he
      obtain ⟨h11, le11⟩ := mono_inv h11
      simp only at le11
      obtain ⟨hi, c13, o13, c14, o14, y, h13, h14, he⟩ := M.bind_inv h12
      simp only [Prod.mk.injEq] at he
      obtain ⟨rfl, rfl, rfl⟩ := he
      simp only [getId, Option.some.injEq, Prod.mk.injEq] at h13
      obtain ⟨rfl, rfl, rfl⟩ := h13
      have he := M.pure_inv h14
      simp only [Prod.mk.injEq] at he
      obtain ⟨rfl, rfl, rfl⟩ := he
      simp only [Good.append] at hg
      have hls := lookM_snd (Φ := Φ) (ρ := ρ) q z _ _ _ _ _ h11 hg.2.2.2.2.2.1
      obtain ⟨es, hese⟩ : ∃ es, es = insL (fun _ => true) id acc 0 := ⟨_, rfl⟩
      rw [← hese] at hls
      refine ⟨⟨rfl, le11, fun i hi => (by cases hi), fun M hM => (by cases hM), fun β a w hC hsl hbl hf hlk _ next Q hn => ?_⟩, rfl, rfl, fun p hp => by simp only [List.mem_singleton] at hp; rw [hp]⟩
      rw [wanted_none hgu, if_pos rfl]
      have hmv := ev_mt' hC m fun t' ht' => hsl t' (mem_tmpsOf (by simp [ht']))
      rw [mpOf_spec hid] at hmv
      obtain ⟨r, hr, hmv⟩ := mt_cell (s := .one false [.mp id]) rfl (hmv.1 rfl)
      obtain ⟨cc, hcc, hsc⟩ := keyOf1_spec hq
      have hkv := rs_mt (Γ := []) rfl (ev_mt' hC k fun t' ht' => hsl t' (mem_tmpsOf (by simp [ht'])))
      obtain ⟨str, hks, hqe, _⟩ := asStr_mt hsc (mt_cell hcc hkv)
      obtain ⟨hmm, hnd⟩ := hlk (id, es) (by simp [hese])
      obtain ⟨zv, hzr, hzm⟩ := zeroS_spec hz w
      obtain ⟨v, hrun0, hcase⟩ := run_look hst hmm hr str hzr
      have hsm : s.mt β ρ v := hls β v (fun k' hk' => by
        have hkk : k' = str := encS_inj (by rw [← hk', hqe])
        subst hkk
        rcases hcase with ⟨p, g1, g2, g3⟩ | ⟨g1, g2⟩
        · exact .inl ⟨p, g1, g2, g3⟩
        · exact .inr ⟨g1, by rw [g2]; exact hzm β ρ⟩) ⟨str, hqe⟩ hnd
      have hrun : (execOp a.eval o).run P w = .ok (.value v) w := by
        obtain ⟨dst, op, ty, pos, after, guard⟩ := o
        simp only at hop
        subst hop
        simp [execOp, hmv, hks, hrun0]
      refine OpG.value (Post := fun u w2 => u = v ∧ w2 = w) hrun ⟨rfl, rfl⟩ next Q fun u w2 ⟨hu, hw2⟩ => ?_
      subst hu hw2
      exact hn _ _ β (XExt.refl β) ⟨(put_tmps a _ _).2.trans hC.size, hC.df.put _ _, hC.gm, hC.gro, hC.bo, hC.kp, hC.gl, hC.ra⟩ (fun _ _ => rfl) ⟨fun _ => hsm, fun h => by cases h⟩ (fun id b hb => by simp [hpOf] at hb) (fun _ _ _ _ h => h)
        (fun M es h _ => by rw [show insOf _ M = [] from rfl, List.append_nil]; exact h) (fun M hM => by cases hM)
end
end Go.Proofs.Ytgbgibbonhklgaa.Sx
namespace Go.Proofs.Ytgbgibbonhklgaa.Sx
open Go

/-- Where the walk is: in an activation; in a round. -/
def FR : Option Nat → Fence
  | none => Fence.wide
  | some l => Fence.wide.inRound l
theorem FR_fn (rl : Option Nat) (f : FuncId) : (FR rl).fn f := by cases rl <;> trivial
theorem FR_depth (rl : Option Nat) : (FR rl).depth = none := by cases rl <;> rfl
theorem FR_round (rl : Option Nat) : (FR rl).round = rl := by cases rl <;> rfl
theorem callsIn_FR {rl : Option Nat} {n : Nat} {P : Program} {f : FuncId} {args : Array Value} {w : World} {R : Ending → World → Prop} (h : Calls P f args w R) : CallsIn (FR rl) n P f args w R := by
  cases rl with
  | none => exact callsIn_wide.2 h
  | some l => exact (callsIn_wide (n := n)).2 h
theorem rowsIn_FR {rl : Option Nat} {n : Nat} {P : Program} {row : String} {args : Array Value} {w : World} {R : Value → World → Prop} (h : Rows P row args w R) : RowsIn (FR rl) n P row args w R := by
  intro c cs _
  obtain ⟨v, w', h1, h2⟩ := h c cs
  refine ⟨v, w', h1, ?_⟩
  cases rl with
  | none => exact stepsIn_wide.2 h2
  | some l => exact stepsIn_wide.2 h2
theorem wpIn_of_wp {P : Program} {rl : Option Nat} {n : Nat} {o : Oper} {a : Act} {w : World} {next : Act → World → Prop} {Q : Exit → Act → World → Prop} (hd : ∀ c, o.op ≠ .defer c) (h : o.wp P a w next Q) : o.wpIn (FR rl) n P a w next Q := by
  refine ⟨fun f _ => FR_fn rl f, ?_⟩
  rw [Oper.semAt_eq _ _ _ hd]
  unfold Oper.wp at h
  generalize (execOp a.eval o).run P w = r at h
  cases r with
  | ok n' w' =>
    cases n' with
    | value v => exact h
    | skip => exact h
    | defer d => exact h
    | enter f args => exact ⟨fun hh => (by rw [FR_depth] at hh; cases hh), callsIn_FR h⟩
    | row row args => exact ⟨fun hh => (by rw [FR_depth] at hh; cases hh), rowsIn_FR h⟩
    | _ => exact h.elim
  | halt hh w' =>
    cases hh with
    | panic v => exact h
    | _ => exact h.elim
def noDef (ops : List Oper) : Bool := ops.all fun o => match o.op with | .defer _ => false | _ => true
theorem noDef_spec {ops : List Oper} (h : noDef ops = true) {o : Oper} (ho : o ∈ ops) : ∀ c, o.op ≠ .defer c := fun c e => by
  have := (List.all_eq_true.1 h) o ho
  rw [e] at this
  cases this
theorem wpListIn_of {P : Program} {rl : Option Nat} {n : Nat} {ops : Array Oper} {Q : Exit → Act → World → Prop} (hQ : ¬ LetsOut Q) : ∀ {l : List Oper} {a : Act} {w : World}, noDef l = true → wpList P ops Q l a w → wpListIn (FR rl) n P ops Q l a w
  | [], _, _, _, h => h
  | o :: l, a, w, hd, h => by
    have hd1 := noDef_spec hd (o := o) (by simp)
    have hd2 : noDef l = true := by simp only [noDef, List.all_cons, Bool.and_eq_true] at hd; exact hd.2
    unfold wpList at h
    unfold wpListIn
    split
    · rename_i hw
      rw [if_pos hw] at h
      rcases h with h | h
      · exact Oper.wpIn_mono (fun a w h => wpListIn_of hQ hd2 h) (wpIn_of_wp hd1 h)
      · exact absurd h.2 hQ
    · rename_i hw
      rw [if_neg hw] at h
      exact ⟨fun f _ => FR_fn rl f, wpListIn_of hQ hd2 h⟩
theorem wpAnyIn_of {P : Program} {rl : Option Nat} {n : Nat} {md : Region.Mode} {ops : Array Oper} {Q : Exit → Act → World → Prop} (hQ : ¬ LetsOut Q) (hd : noDef ops.toList = true) : ∀ {fuel : Nat} {listed : Array Bool} {a : Act} {w : World}, wpAny P md ops Q fuel listed a w → wpAnyIn (FR rl) n P md ops Q fuel listed a w
  | 0, _, _, _, h => h
  | fuel + 1, listed, a, w, h => by
    refine ⟨h.1, fun i hi => ?_⟩
    have h2 := h.2 i hi
    unfold wpOp at h2
    unfold wpOpIn
    cases ho : ops[i]? with
    | none => rw [ho] at h2; exact wpAnyIn_of hQ hd h2
    | some o =>
      rw [ho] at h2
      simp only at h2 ⊢
      have hd1 := noDef_spec hd (o := o) (by rw [← Array.getElem?_toList] at ho; exact List.mem_of_getElem? ho)
      split
      · rename_i hw
        rw [if_pos hw] at h2
        rcases h2 with h2 | h2
        · exact Oper.wpIn_mono (fun a w h => wpAnyIn_of hQ hd h) (wpIn_of_wp hd1 h2)
        · exact absurd h2.2 hQ
      · rename_i hw
        rw [if_neg hw] at h2
        exact ⟨fun f _ => FR_fn rl f, wpAnyIn_of hQ hd h2⟩
end Go.Proofs.Ytgbgibbonhklgaa.Sx
namespace Go.Proofs.Ytgbgibbonhklgaa.Sx
open Go

def runD (P : Program) (X : Hnd) (gh : Hl) (ng : Nat) (ops : Array Oper) : List Oper → St → List DAct → M (List DAct × St)
  | [], σ, _ => pure ([], σ)
  | o :: l, σ, acc => do
    let d ← opDm P X gh ng ops o σ acc
    let σ' ← lift (applyD d σ)
    let r ← runD P X gh ng ops l σ' (acc ++ [d])
    pure (d :: r.1, r.2)

/-! ### Maps: made ahead of what is put in, all put in ahead of what is looked up -/
def mkAt (M m : Nat) : List DAct → Nat → Bool
  | [], _ => false
  | d :: l, k => (d.mkm == some M && m.testBit k) || mkAt M m l (k + 1)
theorem mkAt_spec {M m : Nat} : ∀ {l : List DAct} {k : Nat}, mkAt M m l k = true → ∃ i d, l[i]? = some d ∧ d.mkm = some M ∧ m.testBit (k + i) = true
  | d :: l, k, h => by
    simp only [mkAt, Bool.or_eq_true, Bool.and_eq_true, beq_iff_eq] at h
    rcases h with h | h
    · exact ⟨0, d, by simp, h.1, by simpa using h.2⟩
    · obtain ⟨i, e, h1, h2, h3⟩ := mkAt_spec h
      exact ⟨i + 1, e, by simpa using h1, h2, by rw [show k + (i + 1) = k + 1 + i by omega]; exact h3⟩
def insIn (M m j : Nat) : List DAct → Nat → Bool
  | [], _ => true
  | d :: l, k => ((insOf d M).isEmpty || (Nat.blt k j && m.testBit k)) && insIn M m j l (k + 1)
theorem insIn_spec {M m j : Nat} : ∀ {l : List DAct} {k : Nat}, insIn M m j l k = true → ∀ i d, l[i]? = some d → insOf d M ≠ [] → k + i < j ∧ m.testBit (k + i) = true
  | [], k, h, i, d, hi, _ => by simp at hi
  | e :: l, k, h, i, d, hi, hne => by
    simp only [insIn, Bool.and_eq_true, Bool.or_eq_true, List.isEmpty_iff, Nat.blt_eq] at h
    cases i with
    | zero =>
      simp at hi
      subst hi
      rcases h.1 with h1 | h1
      · exact absurd h1 hne
      · simpa using h1
    | succ i =>
      have := insIn_spec h.2 i d (by simpa using hi) hne
      rw [show k + 1 + i = k + (i + 1) by omega] at this
      exact this
def keyNew (M : Nat) (key : ByteArray) (j : Nat) : List DAct → Nat → Bool
  | [], _ => true
  | d :: l, k => (k == j || (insOf d M).all fun p => !(p.1.data.toList == key.data.toList)) && keyNew M key j l (k + 1)
theorem keyNew_spec {M : Nat} {key : ByteArray} {j : Nat} : ∀ {l : List DAct} {k : Nat}, keyNew M key j l k = true → ∀ i d, l[i]? = some d → k + i ≠ j → ∀ p, p ∈ insOf d M → p.1 ≠ key
  | [], k, h, i, d, hi, _, _, _ => by simp at hi
  | e :: l, k, h, i, d, hi, hne, p, hp => by
    simp only [keyNew, Bool.and_eq_true, Bool.or_eq_true, beq_iff_eq, List.all_eq_true, Bool.not_eq_true', beq_eq_false_iff_ne, ne_eq] at h
    cases i with
    | zero =>
      simp at hi
      subst hi
      rcases h.1 with h1 | h1
      · exact absurd h1 (by simpa using hne)
      · exact fun e => h1 p hp (by rw [e])
    | succ i => exact keyNew_spec h.2 i d (by simpa using hi) (by omega) p hp
def nodupK : MEs → Bool
  | [] => true
  | (k, _) :: l => (l.all fun p => !(p.1.data.toList == k.data.toList)) && nodupK l
theorem nodupK_spec : ∀ {l : MEs}, nodupK l = true → (l.map (·.1)).Nodup
  | [], _ => by simp
  | (k, s) :: l, h => by
    simp only [nodupK, Bool.and_eq_true, List.all_eq_true, Bool.not_eq_true', beq_eq_false_iff_ne, ne_eq] at h
    simp only [List.map_cons, List.nodup_cons]
    refine ⟨fun hm => ?_, nodupK_spec h.2⟩
    obtain ⟨p, hp, he⟩ := List.mem_map.1 hm
    exact h.1 p hp (by rw [he])
def mapsOne (all : List DAct) (m j : Nat) (d : DAct) : Bool :=
  (match d.ins with | some (M, k, _) => mkAt M m all 0 && keyNew M k j all 0 | none => true) && d.lk.all fun p => mkAt p.1 m all 0 && insIn p.1 m j all 0 && nodupK p.2
def mapsAll (all : List DAct) : List Nat → List DAct → Nat → Bool
  | _, [], _ => true
  | [], _ :: _, _ => false
  | m :: ms, d :: l, j => mapsOne all m j d && mapsAll all ms l (j + 1)
theorem mapsAll_spec {all : List DAct} : ∀ {ms : List Nat} {l : List DAct} {j : Nat}, mapsAll all ms l j = true → ∀ i d, l[i]? = some d → ∃ m, ms[i]? = some m ∧ mapsOne all m (j + i) d = true
  | _, [], j, _, i, d, hi => by simp at hi
  | [], _ :: _, j, h, _, _, _ => by simp [mapsAll] at h
  | m :: ms, e :: l, j, h, i, d, hi => by
    simp only [mapsAll, Bool.and_eq_true] at h
    cases i with
    | zero =>
      simp at hi
      subst hi
      exact ⟨m, by simp, by simpa using h.1⟩
    | succ i =>
      obtain ⟨m', h1, h2⟩ := mapsAll_spec h.2 i d (by simpa using hi)
      exact ⟨m', by simpa using h1, by rw [show j + (i + 1) = j + 1 + i by omega]; exact h2⟩
/-- What an operation asks of maps, where it is drawn. -/
structure MapsAt (ds : List DAct) (L : Nat → Bool) (i : Nat) (d : DAct) : Prop where
  ins : ∀ M k s, d.ins = some (M, k, s) → (∃ m e, ds[m]? = some e ∧ e.mkm = some M ∧ L m = true) ∧ ∀ j e, ds[j]? = some e → j ≠ i → ∀ p, p ∈ insOf e M → p.1 ≠ k
  lk : ∀ p, p ∈ d.lk → (∃ m e, ds[m]? = some e ∧ e.mkm = some p.1 ∧ L m = true) ∧ (∀ j e, ds[j]? = some e → insOf e p.1 ≠ [] → j < i ∧ L j = true) ∧ (p.2.map (·.1)).Nodup
  mak : ∀ M, d.mkm = some M → ∀ j e, ds[j]? = some e → insOf e M ≠ [] → L j = false ∧ j ≠ i
theorem insOf_ins {d : DAct} {M : Nat} (h : insOf d M ≠ []) : ∃ k s, d.ins = some (M, k, s) := by
  unfold insOf at h
  split at h
  · rename_i M' k s hi
    split at h
    · rename_i he
      simp only [beq_iff_eq] at he
      subst he
      exact ⟨k, s, hi⟩
    · exact absurd rfl h
  · exact absurd rfl h

/-! ### Which go first, whatever order is drawn -/
def bEdges (o : Oper) : List Nat := (o.after.toList.filter (Region.binds .any)).map (·.on)
def maskOf (cs : List Nat) : List Nat → Nat
  | [] => 0
  | e :: l => ((1 <<< e) ||| cs.getD e 0) ||| maskOf cs l
def masks : List Oper → List Nat → List Nat
  | [], cs => cs
  | o :: l, cs => masks l (cs ++ [maskOf cs (bEdges o)])
def hasBl (l : Hl) (id : Nat) : Bool := match hpOf l id with | some _ => true | none => false
def half (d e : DAct) : Bool :=
  (match d.dst with | none => false | some t => e.rs.contains t || e.dst == some t) || d.bl.any fun p => e.rb.contains p.1 || hasBl e.bl p.1
def conf (d e : DAct) : Bool := half d e || half e d
def ordOne (m : Nat) (d : DAct) : List DAct → Nat → Bool
  | [], _ => true
  | e :: l, i => (Nat.testBit m i || !conf e d) && ordOne m d l (i + 1)
def ordAll : List Nat → List DAct → List DAct → Bool
  | _, _, [] => true
  | [], _, _ :: _ => false
  | m :: ms, pre, d :: l => ordOne m d pre 0 && ordAll ms (pre ++ [d]) l
def edgesOk : List Oper → Nat → Bool
  | [], _ => true
  | o :: l, j => (bEdges o).all (fun e => Nat.blt e j) && edgesOk l (j + 1)
def regD (P : Program) (X : Hnd) (gh : Hl) (ng : Nat) (ops : Array Oper) (σ : St) : M St := do
  let r ← M.mono (runD P X gh ng ops ops.toList σ [])
  if P.follows .mixedOrders && edgesOk ops.toList 0 && (ordAll (masks ops.toList []) [] r.1 && mapsAll r.1 (masks ops.toList []) r.1 0) then pure r.2 else M.fail
/-- A region that draws nothing, in which there are maps. -/
def seqMasks : Nat → Nat → List Nat
  | 0, _ => []
  | n + 1, k => (2 ^ k - 1) :: seqMasks n (k + 1)
theorem seqMasks_get : ∀ {n k i : Nat} {m : Nat}, (seqMasks n k)[i]? = some m → m = 2 ^ (k + i) - 1
  | 0, k, i, m, h => by simp [seqMasks] at h
  | n + 1, k, i, m, h => by
    cases i with
    | zero => simp [seqMasks] at h; simp [← h]
    | succ i =>
      have := seqMasks_get (n := n) (k := k + 1) (i := i) (m := m) (by simpa [seqMasks] using h)
      rw [this, show k + 1 + i = k + (i + 1) by omega]
def regM (P : Program) (X : Hnd) (gh : Hl) (ng : Nat) (ops : Array Oper) (σ : St) : M St := do
  let r ← M.mono (runD P X gh ng ops ops.toList σ [])
  if mapsAll r.1 (seqMasks r.1.length 0) r.1 0 then pure r.2 else M.fail
def hasMaps (ops : Array Oper) : Bool := ops.toList.any fun o => (mapOp o).isSome

theorem maskOf_spec {cs : List Nat} {b : Nat} : ∀ {l : List Nat}, (maskOf cs l).testBit b = true → ∃ e, e ∈ l ∧ (b = e ∨ (cs.getD e 0).testBit b = true)
  | [], h => by simp [maskOf] at h
  | e :: l, h => by
    unfold maskOf at h
    rw [Nat.testBit_or, Nat.testBit_or, Bool.or_eq_true, Bool.or_eq_true] at h
    rcases h with (h | h) | h
    · rw [Nat.testBit_shiftLeft] at h
      simp only [Bool.and_eq_true, decide_eq_true_eq] at h
      have : b - e = 0 := by
        by_cases h0 : b - e = 0
        · exact h0
        · exfalso
          have h2 := h.2
          rw [Nat.testBit_eq_decide_div_mod_eq] at h2
          have : 1 / 2 ^ (b - e) = 0 := Nat.div_eq_of_lt (Nat.one_lt_two_pow h0)
          simp [this] at h2
      exact ⟨e, by simp, .inl (by omega)⟩
    · exact ⟨e, by simp, .inr h⟩
    · obtain ⟨e', he, hb⟩ := maskOf_spec h
      exact ⟨e', by simp [he], hb⟩
theorem masks_len : ∀ {l : List Oper} {cs : List Nat}, (masks l cs).length = cs.length + l.length
  | [], cs => by simp [masks]
  | o :: l, cs => by
    unfold masks
    rw [masks_len]
    simp
    omega
theorem masks_spec {ops : List Oper} {L : Nat → Bool} (hL : ∀ j o, ops[j]? = some o → L j = true → ∀ e, e ∈ bEdges o → L e = true) : ∀ {l : List Oper} {cs : List Nat}, (∀ i, l[i]? = ops[cs.length + i]?) →
    (∀ (j m : Nat) (o : Oper), cs[j]? = some m → ops[j]? = some o → (∀ e, e ∈ bEdges o → L e = true) → ∀ b, m.testBit b = true → L b = true) →
    ∀ (j m : Nat) (o : Oper), (masks l cs)[j]? = some m → ops[j]? = some o → (∀ e, e ∈ bEdges o → L e = true) → ∀ b, m.testBit b = true → L b = true
  | [], cs, _, h => h
  | o :: l, cs, hl, h => by
    unfold masks
    have h0 : ops[cs.length]? = some o := by have := hl 0; simpa using this.symm
    refine masks_spec hL (fun i => by have := hl (i + 1); simp only [List.length_append, List.length_singleton]; rw [show cs.length + 1 + i = cs.length + (i + 1) by omega, ← this]; simp) fun j m oj hj ho he b hb => ?_
    by_cases hlt : j < cs.length
    · rw [List.getElem?_append_left hlt] at hj
      exact h j m oj hj ho he b hb
    · rw [List.getElem?_append_right (by omega)] at hj
      have hj0 : j = cs.length := by
        by_cases h1 : j - cs.length = 0
        · omega
        · rw [List.getElem?_eq_none (by simp; omega)] at hj
          cases hj
      subst hj0
      simp at hj
      subst hj
      rw [h0] at ho
      simp only [Option.some.injEq] at ho
      subst ho
      obtain ⟨e, hm, hb⟩ := maskOf_spec hb
      rcases hb with rfl | hb
      · exact he _ hm
      · rw [List.getD_eq_getElem?_getD] at hb
        cases hc : cs[e]? with
        | none => rw [hc] at hb; simp at hb
        | some me =>
          rw [hc] at hb
          have hle := (List.getElem?_eq_some_iff.1 hc).1
          have hls : cs.length < ops.length := (List.getElem?_eq_some_iff.1 h0).1
          have hoe : ops[e]? = some (ops[e]'(by omega)) := List.getElem?_eq_getElem (by omega)
          exact h e me _ hc hoe (hL e _ hoe (he e hm)) b (by simpa using hb)
theorem ordOne_spec {m : Nat} {d : DAct} : ∀ {l : List DAct} {k : Nat}, ordOne m d l k = true → ∀ i e, l[i]? = some e → conf e d = true → m.testBit (k + i) = true
  | [], k, h, i, e, hi, _ => by simp at hi
  | x :: l, k, h, i, e, hi, hc => by
    simp only [ordOne, Bool.and_eq_true, Bool.or_eq_true, Bool.not_eq_true'] at h
    cases i with
    | zero =>
      simp at hi
      subst hi
      rcases h.1 with h1 | h1
      · exact h1
      · rw [h1] at hc; cases hc
    | succ i =>
      have := ordOne_spec h.2 i e (by simpa using hi) hc
      rwa [show k + 1 + i = k + (i + 1) by omega] at this
theorem ordAll_spec : ∀ {l : List DAct} {ms : List Nat} {pre : List DAct}, ordAll ms pre l = true → ∀ j d, l[j]? = some d → ∃ m, ms[j]? = some m ∧ ∀ i e, i < pre.length + j → (pre ++ l)[i]? = some e → conf e d = true → m.testBit i = true
  | [], ms, pre, h, j, d, hj => by simp at hj
  | d0 :: l, [], pre, h, j, d, hj => by simp [ordAll] at h
  | d0 :: l, m :: ms, pre, h, j, d, hj => by
    simp only [ordAll, Bool.and_eq_true] at h
    cases j with
    | zero =>
      simp at hj
      subst hj
      refine ⟨m, rfl, fun i e hi he hc => ?_⟩
      rw [List.getElem?_append_left (by omega)] at he
      have := ordOne_spec h.1 i e he hc
      simpa using this
    | succ j =>
      obtain ⟨m', hm, hx⟩ := ordAll_spec h.2 j d (by simpa using hj)
      refine ⟨m', by simpa using hm, fun i e hi he hc => hx i e (by simp; omega) (by simpa using he) hc⟩
theorem edgesOk_spec : ∀ {l : List Oper} {k : Nat}, edgesOk l k = true → ∀ j o, l[j]? = some o → ∀ e, e ∈ bEdges o → e < k + j
  | [], k, h, j, o, hj => by simp at hj
  | x :: l, k, h, j, o, hj => fun e he => by
    simp only [edgesOk, Bool.and_eq_true, List.all_eq_true, Nat.blt_eq] at h
    cases j with
    | zero =>
      simp at hj
      subst hj
      exact h.1 e he
    | succ j =>
      have := edgesOk_spec h.2 j o (by simpa using hj) e he
      omega

theorem conf_symm {d e : DAct} : conf d e = conf e d := by unfold conf; rw [Bool.or_comm]
theorem half_rs {d e : DAct} {t : Nat} (h : d.dst = some t) (ht : t ∈ e.rs) : half d e = true := by
  unfold half
  rw [h]
  simp [ht]
theorem half_dst {d e : DAct} {t : Nat} (h : d.dst = some t) (ht : e.dst = some t) : half d e = true := by
  unfold half
  rw [h]
  simp [ht]
theorem hpOf_mem : ∀ {l : Hl} {id : Nat} {b : Blk}, hpOf l id = some b → (id, b) ∈ l
  | [], _, _, h => by simp [hpOf] at h
  | (i, c) :: l, id, b, h => by
    unfold hpOf at h
    split at h
    · rename_i he
      simp only [beq_iff_eq] at he
      simp only [Option.some.injEq] at h
      subst he; subst h
      simp
    · simp [hpOf_mem h]
theorem half_rb {d e : DAct} {id : Nat} (h : (hpOf d.bl id).isSome = true) (ht : id ∈ e.rb) : half d e = true := by
  unfold half
  rw [Bool.or_eq_true]
  right
  obtain ⟨b, hb⟩ := Option.isSome_iff_exists.1 h
  rw [List.any_eq_true]
  exact ⟨(id, b), hpOf_mem hb, by simp [ht]⟩
theorem half_bl {d e : DAct} {id : Nat} (h : (hpOf d.bl id).isSome = true) (ht : (hpOf e.bl id).isSome = true) : half d e = true := by
  unfold half
  rw [Bool.or_eq_true]
  right
  obtain ⟨b, hb⟩ := Option.isSome_iff_exists.1 h
  obtain ⟨b', hb'⟩ := Option.isSome_iff_exists.1 ht
  rw [List.any_eq_true]
  exact ⟨(id, b), hpOf_mem hb, by simp [hasBl, hb']⟩

/-! ### What the list of actions is -/
theorem tS_shift {L : Nat → Bool} {t : Nat} : ∀ {l : List DAct} {k : Nat} {b : Option SV}, tS L t l (k + 1) b = tS (fun m => L (m + 1)) t l k b
  | [], _, _ => rfl
  | d :: l, k, b => by
    unfold tS
    exact tS_shift
theorem hS_shift {L : Nat → Bool} {id : Nat} : ∀ {l : List DAct} {k : Nat} {b : Option Blk}, hS L id l (k + 1) b = hS (fun m => L (m + 1)) id l k b
  | [], _, _ => rfl
  | d :: l, k, b => by
    unfold hS
    exact hS_shift
theorem tS_cons {L : Nat → Bool} {t : Nat} {d : DAct} {l : List DAct} {k : Nat} {b : Option SV} (h : L k = true) : tS L t (d :: l) k b = tS L t l (k + 1) (if d.dst == some t then some d.sv else b) := by
  simp only [tS, h, Bool.true_and]
theorem hS_cons {L : Nat → Bool} {id : Nat} {d : DAct} {l : List DAct} {k : Nat} {b : Option Blk} (h : L k = true) : hS L id (d :: l) k b = hS L id l (k + 1) (match hpOf d.bl id with | some x => some x | none => b) := by
  conv => lhs; unfold hS
  cases hpOf d.bl id <;> simp [h]
theorem hpOf_append {id : Nat} : ∀ {l r : Hl}, hpOf (l ++ r) id = match hpOf l id with | some b => some b | none => hpOf r id
  | [], r => rfl
  | (i, b) :: l, r => by
    simp only [List.cons_append, hpOf]
    split
    · rfl
    · exact hpOf_append
theorem applyD_spec {d : DAct} {σ σ' : St} (h : applyD d σ = some σ') : σ'.tm.length = σ.tm.length ∧ (∀ t, d.dst = some t → t < σ.tm.length) ∧ (∀ t, σ'.tm[t]? = if d.dst == some t then some d.sv else σ.tm[t]?) ∧
    (∀ id, hpOf σ'.hp id = match hpOf d.bl id with | some b => some b | none => hpOf σ.hp id) ∧ σ'.rb = σ.rb ∧ σ'.js = σ.js := by
  unfold applyD at h
  split at h
  · rename_i tm htm
    simp only [Option.some.injEq] at h
    subst h
    unfold setT at htm
    split at htm
    · rename_i hd
      simp only [Option.some.injEq] at htm
      subst htm
      refine ⟨rfl, fun t ht => ?_, fun t => ?_, fun id => hpOf_append, rfl, rfl⟩
      · rw [hd] at ht; cases ht
      · rw [hd]; rfl
    · rename_i s hd
      split at htm
      · rename_i hlt
        simp only [Nat.blt_eq] at hlt
        simp only [Option.some.injEq] at htm
        subst htm
        refine ⟨by simp, fun t ht => ?_, fun t => ?_, fun id => hpOf_append, rfl, rfl⟩
        · rw [hd] at ht
          simp only [Option.some.injEq] at ht
          subst ht
          exact hlt
        · rw [hd, List.getElem?_set]
          by_cases he : s = t
          · subst he
            simp [hlt]
          · have : ¬ ((some s == some t) = true) := by simpa using he
            rw [if_neg he, if_neg this]
      · cases htm
  · cases h

section
variable {P : Program} {Φ : Funs} {X : Hnd} {x : Cx} {ρ : Env}

structure Ran (P : Program) (x : Cx) (ρ : Env) (ops : Array Oper) (l : List Oper) (σ σn : St) (acc ds : List DAct) (lo hi : Nat) : Prop where
  le : lo ≤ hi
  len : ds.length = l.length
  act : ∀ i d, ds[i]? = some d → ∃ o σi, l[i]? = some o ∧ ActOk P x ρ ops o σi d ∧ (∀ t, σi.tm[t]? = tS (fun m => Nat.blt m i) t ds 0 σ.tm[t]?) ∧ (∀ id, hpOf σi.hp id = hS (fun m => Nat.blt m i) id ds 0 (hpOf σ.hp id)) ∧
    σi.tm.length = σ.tm.length ∧ σi.js = σ.js ∧ (∀ t, d.dst = some t → t < σ.tm.length) ∧ lo ≤ d.lo ∧ d.hi ≤ hi ∧ ∀ p, p ∈ d.lk → p.2 = insL (fun _ => true) p.1 (acc ++ ds.take i) 0
  apart : ∀ (i j : Nat) (d e : DAct), i < j → ds[i]? = some d → ds[j]? = some e → d.hi ≤ e.lo
  tm : ∀ t, σn.tm[t]? = tS (fun _ => true) t ds 0 σ.tm[t]?
  hp : ∀ id, hpOf σn.hp id = hS (fun _ => true) id ds 0 (hpOf σ.hp id)
  tl : σn.tm.length = σ.tm.length
  rbe : σn.rb = σ.rb
  jse : σn.js = σ.js

theorem runD_ok (hX : HOk P Φ x.gl X) (hG : ∀ w, Keep x.R x.w0 w → Laid x.gl w) {ops : Array Oper} : ∀ {l : List Oper} {σ σn : St} {acc ds : List DAct} {c c' : Ctr} {out : List Em},
    runD P X x.gh x.ng ops l σ acc c = some ((ds, σn), c', out) → Good Φ ρ out → Ran P x ρ ops l σ σn acc ds c.id c'.id
  | [], σ, σn, acc, ds, c, c', out, h, hg => by
    have he := M.pure_inv h
    simp only [Prod.mk.injEq] at he
    obtain ⟨⟨rfl, rfl⟩, rfl, rfl⟩ := he
    exact ⟨Nat.le_refl _, rfl, fun i d hd => by simp at hd, fun i j d e _ hd => by simp at hd, fun t => rfl, fun id => rfl, rfl, rfl, rfl⟩
  | o :: l, σ, σn, acc, ds, c, c', out, h, hg => by
    unfold runD at h
    obtain ⟨d, c1, o1, c2, o2, y, h1, h2, he⟩ := M.bind_inv h
    simp only [Prod.mk.injEq] at he
    obtain ⟨rfl, rfl, rfl⟩ := he
    obtain ⟨σ', c3, o3, c4, o4, y, h3, h4, he⟩ := M.bind_inv h2
    simp only [Prod.mk.injEq] at he
    obtain ⟨rfl, rfl, rfl⟩ := he
    obtain ⟨σ'', hap, he⟩ := lift_inv h3
    simp only [Prod.mk.injEq] at he
    obtain ⟨rfl, rfl, rfl⟩ := he
    obtain ⟨r, c5, o5, c6, o6, y, h5, h6, he⟩ := M.bind_inv h4
    simp only [Prod.mk.injEq] at he
    obtain ⟨rfl, rfl, rfl⟩ := he
    have he := M.pure_inv h6
    simp only [Prod.mk.injEq] at he
    obtain ⟨⟨rfl, rfl⟩, rfl, rfl⟩ := he
    simp only [Good.append] at hg
    obtain ⟨ha, hlo, hhi, hlk⟩ := opDm_ok hX hG h1 hg.1
    obtain ⟨ds', σn'⟩ := r
    have ih := runD_ok hX hG h5 hg.2.2.1
    obtain ⟨a1, a2, a3, a4, a5, a6⟩ := applyD_spec hap
    have hle : c.id ≤ c3.id := by have := ha.2.1; omega
    refine ⟨by have := ih.le; omega, by simp [ih.len], fun i e hi => ?_, fun i j e f hij hi hj => ?_, fun t => ?_, fun id => ?_, ih.tl.trans a1, ih.rbe.trans a5, ih.jse.trans a6⟩
    · cases i with
      | zero =>
        simp at hi
        subst hi
        refine ⟨o, σ, by simp, ha, fun t => ?_, fun id => ?_, rfl, rfl, a2, by omega, by have := ih.le; omega, fun p hp => by rw [hlk p hp]; simp⟩
        · rw [tS_none fun i d _ _ => by simp [Nat.blt_eq, Bool.eq_false_iff]]
        · rw [hS_none fun i d _ _ => by simp [Nat.blt_eq, Bool.eq_false_iff]]
      | succ i =>
        obtain ⟨o', σi, b1, b2, b3, b4, b5, b5j, b6, b7, b8, b9⟩ := ih.act i e (by simpa using hi)
        refine ⟨o', σi, by simpa using b1, b2, fun t => ?_, fun id => ?_, b5.trans a1, b5j.trans a6, fun t ht => ?_, by omega, b8, fun p hp => by rw [b9 p hp, List.append_assoc]; rfl⟩
        · rw [b3 t, a3 t]
          have h0 : (fun m => Nat.blt m (i + 1)) 0 = true := by simp
          rw [tS_cons (L := fun m => Nat.blt m (i + 1)) h0, tS_shift (k := 0)]
          exact tS_congr fun m d hm hd => by
            rw [Bool.eq_iff_iff, Nat.blt_eq, Nat.blt_eq]
            omega
        · rw [b4 id, a4 id]
          have h0 : (fun m => Nat.blt m (i + 1)) 0 = true := by simp
          rw [hS_cons (L := fun m => Nat.blt m (i + 1)) h0, hS_shift (k := 0)]
          exact hS_congr fun m d hm hd => by
            rw [Bool.eq_iff_iff, Nat.blt_eq, Nat.blt_eq]
            omega
        · rw [← a1]
          exact b6 t ht
    · cases j with
      | zero => omega
      | succ j =>
        have hj' : ds'[j]? = some f := by simpa using hj
        cases i with
        | zero =>
          simp at hi
          subst hi
          obtain ⟨_, _, _, _, _, _, _, _, _, b7, _, _⟩ := ih.act j f hj'
          omega
        | succ i => exact ih.apart i j e f (by omega) (by simpa using hi) hj'
    · rw [ih.tm t, a3 t]
      rw [tS_cons rfl, tS_shift (k := 0)]
    · rw [ih.hp id, a4 id]
      rw [hS_cons rfl, hS_shift (k := 0)]

structure Mid (x : Cx) (ρ : Env) (σ : St) (ds : List DAct) (hi : Nat) (β0 β : Beta) (L : Nat → Bool) (a : Act) (w : World) : Prop where
  ext : XExt β0 β
  com : Com x ρ σ.js σ.tm.length β a w
  slot : ∀ t v, tS L t ds 0 σ.tm[t]? = some v → v.mt β ρ (a.tmps.getD t undef)
  blk : ∀ id b, hS L id ds 0 (hpOf σ.hp id) = some b → Gd.d ρ b.g = true → blkMt β ρ w id b
  free : ∀ j d, ds[j]? = some d → L j = false → ∀ i, d.lo ≤ i → i < d.hi → β i = none
  fresh : ∀ i, hi ≤ i → β i = none
  mp : ∀ m d M, ds[m]? = some d → d.mkm = some M → L m = true → mapMt x.w0.heap.size β ρ w M (insL L M ds 0)

/-- One of them, drawn out of its turn. -/
theorem Mid.step {ops : Array Oper} {l : List Oper} {σ σn : St} {ds : List DAct} {lo hi : Nat} (hr : Ran P x ρ ops l σ σn [] ds lo hi) {β0 β : Beta} {L L' : Nat → Bool} {a : Act} {w : World} (hm : Mid x ρ σ ds hi β0 β L a w)
    {i : Nat} {d : DAct} {o : Oper} (hd : ds[i]? = some d) (ho : l[i]? = some o) (hL : L i = false) (hL' : ∀ k, L' k = (L k || k == i)) (hord : ∀ k e, ds[k]? = some e → k ≠ i → conf e d = true → L k = Nat.blt k i) (hmap : MapsAt ds L i d) (next : Act → World → Prop) (Q : Exit → Act → World → Prop)
    (hn : ∀ β' a' w', Mid x ρ σ ds hi β0 β' L' a' w' → next a' w') : if Region.wanted o (yielded ops a.tmps) then o.wp P a w next Q else next (a.put o.dst undef) w := by
  obtain ⟨o', σi, b1, ⟨b2, b9, bsm, b10, hA⟩, b3, b4, b5, b5j, b6, b7, b8, b11⟩ := hr.act i d hd
  rw [ho] at b1
  simp only [Option.some.injEq] at b1
  subst b1
  have hcom := hm.com
  rw [← b5, ← b5j] at hcom
  have hrd : ∀ t, t ∈ d.rs → tS L t ds 0 σ.tm[t]? = σi.tm[t]? := fun t ht => by
    rw [b3 t]
    refine tS_congr fun k e hk he => ?_
    rw [Nat.zero_add]
    by_cases hki : k = i
    · subst hki; rw [hL]; simp [Bool.eq_false_iff, Nat.blt_eq]
    · exact hord k e hk hki (by unfold conf; rw [half_rs he ht, Bool.true_or])
  have hrb : ∀ id, id ∈ d.rb → hS L id ds 0 (hpOf σ.hp id) = hpOf σi.hp id := fun id ht => by
    rw [b4 id]
    refine hS_congr fun k e hk he => ?_
    rw [Nat.zero_add]
    by_cases hki : k = i
    · subst hki; rw [hL]; simp [Bool.eq_false_iff, Nat.blt_eq]
    · exact hord k e hk hki (by unfold conf; rw [half_rb he ht, Bool.true_or])
  refine hA β a w hcom (fun t ht v hv => hm.slot t v (by rw [hrd t ht]; exact hv)) (fun id ht b hb hbg => hm.blk id b (by rw [hrb id ht]; exact hb) hbg) (hm.free i d hd hL) (fun p hp => ?_) (fun M k s hins => ?_) next Q fun v w' β' h1 h2 h3 h4 h5 h6 h7 h8 => ?_
  · obtain ⟨⟨m, e, e1, e2, e3⟩, hall, hnd⟩ := hmap.lk p hp
    refine ⟨mapMt_congr (fun q => ?_) (hm.mp m e p.1 e1 e2 e3), hnd⟩
    rw [b11 p hp, List.nil_append, insL_mem, insL_mem]
    constructor
    · rintro ⟨k, f, g1, g2, g3⟩
      obtain ⟨g4, g5⟩ := hall k f g1 (fun e => by rw [e] at g3; cases g3)
      exact ⟨k, f, by rw [List.getElem?_take, if_pos g4]; exact g1, rfl, g3⟩
    · rintro ⟨k, f, g1, _, g3⟩
      rw [List.getElem?_take] at g1
      split at g1
      · exact ⟨k, f, g1, by rw [Nat.zero_add]; exact (hall k f g1 (fun e => by rw [e] at g3; cases g3)).2, g3⟩
      · cases g1
  · obtain ⟨⟨m, e, e1, e2, e3⟩, hkey⟩ := hmap.ins M k s hins
    refine ⟨_, hm.mp m e M e1 e2 e3, fun p hp => ?_⟩
    rw [insL_mem] at hp
    obtain ⟨j, f, g1, g2, g3⟩ := hp
    rw [Nat.zero_add] at g2
    exact hkey j f g1 (fun e => by rw [e, hL] at g2; cases g2) p g3
  rw [← b2] at h2 ⊢
  rw [b5, b5j] at h2
  refine hn β' _ w' ⟨hm.ext.trans h1, h2, fun t u hu => ?_, fun id b hb hbg => ?_, fun j e hj hLj k hk1 hk2 => ?_, fun k hk => ?_, fun m e M hme hmk hLm => ?_⟩
  · by_cases hdt : d.dst = some t
    · have hs : tS L' t ds 0 σ.tm[t]? = some d.sv := by
        rw [show tS L' t ds 0 σ.tm[t]? = tS (fun k => Nat.ble k i) t ds 0 σ.tm[t]? from tS_congr fun k e hk he => by
          rw [Nat.zero_add, hL']
          by_cases hki : k = i
          · subst hki; simp
          · rw [hord k e hk hki (by unfold conf; rw [half_dst he hdt, Bool.true_or]), Bool.eq_iff_iff]
            simp only [Bool.or_eq_true, Nat.blt_eq, beq_iff_eq, Nat.ble_eq]
            omega]
        exact tS_last hdt (Nat.zero_le _) (by simpa using hd)
      rw [hs] at hu
      simp only [Option.some.injEq] at hu
      subst hu
      have hlt := b6 t hdt
      rw [hdt]
      have hsz : t < a.tmps.size := by rw [hm.com.size]; exact hlt
      simpa [Act.put, hsz] using h4
    · have hs : tS L' t ds 0 σ.tm[t]? = tS L t ds 0 σ.tm[t]? := tS_congr fun k e hk he => by
        rw [Nat.zero_add, hL']
        have hki : k ≠ i := fun e0 => by
          subst e0
          rw [hd] at hk
          simp only [Option.some.injEq] at hk
          subst hk
          exact hdt he
        have : (k == i) = false := by simpa using hki
        rw [this, Bool.or_false]
      rw [hs] at hu
      have := SV.mt_mv (Mv.of hm.com.bo h1) (hm.slot t u hu)
      cases hdd : d.dst with
      | none => simpa [Act.put] using this
      | some s =>
        have hne : s ≠ t := fun e => hdt (by rw [hdd, e])
        simpa [Act.put, Array.getElem?_setIfInBounds_ne hne] using this
  · cases hbl : hpOf d.bl id with
    | some b' =>
      have hs : hS L' id ds 0 (hpOf σ.hp id) = some b' := by
        rw [show hS L' id ds 0 (hpOf σ.hp id) = hS (fun k => Nat.ble k i) id ds 0 (hpOf σ.hp id) from hS_congr fun k e hk he => by
          rw [Nat.zero_add, hL']
          by_cases hki : k = i
          · subst hki; simp
          · rw [hord k e hk hki (by unfold conf; rw [half_bl he (by rw [hbl]; rfl), Bool.true_or]), Bool.eq_iff_iff]
            simp only [Bool.or_eq_true, Nat.blt_eq, beq_iff_eq, Nat.ble_eq]
            omega]
        exact hS_last hbl (Nat.zero_le _) (by simpa using hd)
      rw [hs] at hb
      simp only [Option.some.injEq] at hb
      subst hb
      exact h5 id _ hbl hbg
    | none =>
      have hs : hS L' id ds 0 (hpOf σ.hp id) = hS L id ds 0 (hpOf σ.hp id) := hS_congr fun k e hk he => by
        rw [Nat.zero_add, hL']
        have hki : k ≠ i := fun e0 => by
          subst e0
          rw [hd] at hk
          simp only [Option.some.injEq] at hk
          subst hk
          rw [hbl] at he
          cases he
        have : (k == i) = false := by simpa using hki
        rw [this, Bool.or_false]
      rw [hs] at hb
      exact h6 id b hbl (fun hsm => by rw [← hrb id (bsm id hsm)]; exact hb) (hm.blk id b hb hbg)
  · rw [hL'] at hLj
    simp only [Bool.or_eq_false_iff, beq_eq_false_iff_ne, ne_eq] at hLj
    rw [h3 k (by
      rcases Nat.lt_or_gt_of_ne hLj.2 with h | h
      · have := hr.apart j i e d h hj hd; omega
      · have := hr.apart i j d e h hd hj; omega)]
    exact hm.free j e hj hLj.1 k hk1 hk2
  · rw [h3 k (by omega)]
    exact hm.fresh k hk
  · by_cases hmi : m = i
    · subst hmi
      rw [hd] at hme
      simp only [Option.some.injEq] at hme
      subst hme
      refine mapMt_congr (fun q => ?_) (h8 M hmk)
      rw [insL_mem]
      constructor
      · intro h; cases h
      · rintro ⟨k, f, g1, g2, g3⟩
        obtain ⟨g4, g5⟩ := hmap.mak M hmk k f g1 (fun e => by rw [e] at g3; cases g3)
        rw [Nat.zero_add, hL', g4] at g2
        exact absurd (by simpa using g2) g5
    · have hLm' : L m = true := by
        rw [hL'] at hLm
        have : (m == i) = false := by simpa using hmi
        rw [this, Bool.or_false] at hLm
        exact hLm
      refine mapMt_congr (fun q => ?_) (h7 M _ (hm.mp m e M hme hmk hLm') fun k s hins p hp => ?_)
      · rw [List.mem_append, insL_mem, insL_mem]
        constructor
        · rintro (⟨k, f, g1, g2, g3⟩ | h)
          · exact ⟨k, f, g1, by rw [hL', g2]; rfl, g3⟩
          · exact ⟨i, d, hd, by rw [Nat.zero_add, hL']; simp, h⟩
        · rintro ⟨k, f, g1, g2, g3⟩
          rw [Nat.zero_add, hL'] at g2
          simp only [Bool.or_eq_true, beq_iff_eq] at g2
          rcases g2 with g2 | g2
          · exact .inl ⟨k, f, g1, by rw [Nat.zero_add]; exact g2, g3⟩
          · subst g2
            rw [hd] at g1
            simp only [Option.some.injEq] at g1
            subst g1
            exact .inr g3
      · obtain ⟨_, hkey⟩ := hmap.ins M k s hins
        rw [insL_mem] at hp
        obtain ⟨j, f, g1, g2, g3⟩ := hp
        rw [Nat.zero_add] at g2
        exact hkey j f g1 (fun e => by rw [e, hL] at g2; cases g2) p g3

/-- The maker of a map is one. -/
theorem Ran.maker {ops : Array Oper} {l : List Oper} {σ σn : St} {ds : List DAct} {lo hi : Nat} (hr : Ran P x ρ ops l σ σn [] ds lo hi) {i j : Nat} {d e : DAct} {M : Nat} (hi' : ds[i]? = some d) (hj : ds[j]? = some e) (h1 : d.mkm = some M) (h2 : e.mkm = some M) : i = j := by
  obtain ⟨_, _, _, ⟨_, _, _, a1, _⟩, _⟩ := hr.act i d hi'
  obtain ⟨_, _, _, ⟨_, _, _, a2, _⟩, _⟩ := hr.act j e hj
  have b1 := a1 M h1
  have b2 := a2 M h2
  rcases Nat.lt_trichotomy i j with h | h | h
  · have := hr.apart i j d e h hi' hj; omega
  · exact h
  · have := hr.apart j i e d h hj hi'; omega

/-- Whatever order is drawn, the same comes of it. -/
theorem any_ok {ops : Array Oper} {σ σn : St} {ds : List DAct} {lo hi : Nat} (hr : Ran P x ρ ops ops.toList σ σn [] ds lo hi) (he : edgesOk ops.toList 0 = true) (hs : ordAll (masks ops.toList []) [] ds = true) (hmp : mapsAll ds (masks ops.toList []) ds 0 = true) {β0 : Beta} {Q : Exit → Act → World → Prop}
    (hQ : ∀ β a w, Mid x ρ σ ds hi β0 β (fun _ => true) a w → Q .normal a w) : ∀ (fuel : Nat) (listed : Array Bool) (β : Beta) (a : Act) (w : World), listed.size = ops.size → listed.toList.count false = fuel →
      (∀ j o, ops.toList[j]? = some o → listed.getD j false = true → ∀ e, e ∈ bEdges o → listed.getD e false = true) →
      Mid x ρ σ ds hi β0 β (fun k => listed.getD k false) a w → wpAny P .any ops Q fuel listed a w := by
  have hall : ∀ (listed : Array Bool), listed.size = ops.size → Region.ready .any ops listed = [] → ∀ n j, j ≤ n → j < ops.size → listed.getD j false = true := by
    intro listed hsz h0 n
    induction n with
    | zero =>
      intro j hj hlt
      by_cases hl : listed.getD j false = true
      · exact hl
      · exfalso
        have hmem : j ∈ Region.ready .any ops listed := by
          unfold Region.ready
          rw [List.mem_filter]
          refine ⟨List.mem_range.2 hlt, ?_⟩
          have ho : ops.toList[j]? = some ops[j] := by simp [hlt]
          have hed := edgesOk_spec he j ops[j] ho
          simp only [Bool.and_eq_true, Bool.not_eq_true']
          refine ⟨by simpa [hsz, hlt] using hl, ?_⟩
          rw [Array.getElem?_eq_getElem hlt]
          simp only [Option.map_some, Option.getD_some, Array.all_eq_true_iff_forall_mem]
          intro e hme
          cases hb : Region.binds .any e with
          | false => rfl
          | true =>
            have := hed e.on (by unfold bEdges; rw [List.mem_map]; exact ⟨e, by rw [List.mem_filter]; exact ⟨hme.val, hb⟩, rfl⟩)
            omega
        rw [h0] at hmem
        cases hmem
    | succ n ih =>
      intro j hj hlt
      by_cases hl : listed.getD j false = true
      · exact hl
      · exfalso
        have hmem : j ∈ Region.ready .any ops listed := by
          unfold Region.ready
          rw [List.mem_filter]
          refine ⟨List.mem_range.2 hlt, ?_⟩
          have ho : ops.toList[j]? = some ops[j] := by simp [hlt]
          have hed := edgesOk_spec he j ops[j] ho
          simp only [Bool.and_eq_true, Bool.not_eq_true']
          refine ⟨by simpa [hsz, hlt] using hl, ?_⟩
          rw [Array.getElem?_eq_getElem hlt]
          simp only [Option.map_some, Option.getD_some, Array.all_eq_true_iff_forall_mem]
          intro e hme
          cases hb : Region.binds .any e with
          | false => rfl
          | true =>
            have h1 := hed e.on (by unfold bEdges; rw [List.mem_map]; exact ⟨e, by rw [List.mem_filter]; exact ⟨hme.val, hb⟩, rfl⟩)
            have := ih e.on (by omega) (by omega)
            rw [this]
            rfl
        rw [h0] at hmem
        cases hmem
  have hfin : ∀ (listed : Array Bool) (β : Beta) (a : Act) (w : World), listed.size = ops.size → Region.ready .any ops listed = [] → Mid x ρ σ ds hi β0 β (fun k => listed.getD k false) a w → Q .normal a w := by
    intro listed β a w hsz h0 hm
    have hl : ∀ k d, ds[k]? = some d → listed.getD k false = true := fun k d hk => by
      have hk' := (List.getElem?_eq_some_iff.1 hk).1
      rw [hr.len] at hk'
      exact hall listed hsz h0 k k (Nat.le_refl _) (by simpa using hk')
    refine hQ β a w ⟨hm.ext, hm.com, fun t v hv => hm.slot t v ?_, fun id b hb => hm.blk id b ?_, fun j d hj h => (by cases h), hm.fresh, fun m d M h1 h2 _ => mapMt_congr (fun q => by
        rw [insL_mem, insL_mem]
        constructor
        · rintro ⟨k, f, g1, g2, g3⟩; exact ⟨k, f, g1, rfl, g3⟩
        · rintro ⟨k, f, g1, g2, g3⟩; exact ⟨k, f, g1, by rw [Nat.zero_add]; exact hl k f g1, g3⟩) (hm.mp m d M h1 h2 (hl m d h1))⟩
    · rw [← hv]
      exact tS_congr fun k d hk _ => by rw [Nat.zero_add, hl k d hk]
    · rw [← hb]
      exact hS_congr fun k d hk _ => by rw [Nat.zero_add, hl k d hk]
  intro fuel
  induction fuel with
  | zero =>
    intro listed β a w hsz hc hcl hm
    have h0 : Region.ready .any ops listed = [] := by
      unfold Region.ready
      rw [List.filter_eq_nil_iff]
      intro i hi
      have hlt : i < listed.size := by rw [hsz]; exact List.mem_range.1 hi
      have : listed[i] ≠ false := fun e => by
        have := List.count_eq_zero.1 hc
        exact this (by rw [← e]; simp)
      simp only [Bool.not_eq_false] at this
      simp [hlt, this]
    exact ⟨h0, hfin listed β a w hsz h0 hm⟩
  | succ fuel ih =>
    intro listed β a w hsz hc hcl hm
    refine ⟨fun h0 => hfin listed β a w hsz h0 hm, fun i hi => ?_⟩
    unfold Region.ready at hi
    rw [List.mem_filter] at hi
    obtain ⟨hi1, hi2⟩ := hi
    have hlt := List.mem_range.1 hi1
    have hlt' : i < listed.size := by omega
    simp only [Bool.and_eq_true, Bool.not_eq_true'] at hi2
    obtain ⟨hnl, hed⟩ := hi2
    rw [Array.getElem?_eq_getElem hlt] at hed
    simp only [Option.map_some, Option.getD_some, Array.all_eq_true_iff_forall_mem] at hed
    have hLi : listed[i] = false := by simpa [hlt'] using hnl
    have hLi' : listed.getD i false = false := by simp [hlt', hLi]
    have ho : ops.toList[i]? = some ops[i] := by simp [hlt]
    have hdl : i < ds.length := by rw [hr.len]; simpa using hlt
    have hd := List.getElem?_eq_getElem hdl
    have hedge : ∀ e, e ∈ bEdges ops[i] → listed.getD e false = true := fun e hm => by
      unfold bEdges at hm
      rw [List.mem_map] at hm
      obtain ⟨e', hm, rfl⟩ := hm
      rw [List.mem_filter] at hm
      have := hed e' (by simpa using hm.1)
      rw [hm.2] at this
      simpa using this
    have hmask := masks_spec (ops := ops.toList) (L := fun k => listed.getD k false) hcl (l := ops.toList) (cs := []) (fun i => by simp) (fun j m o hj => by simp at hj)
    unfold wpOp
    rw [Array.getElem?_eq_getElem hlt]
    simp only
    have hstep := hm.step (L' := fun k => (listed.setIfInBounds i true).getD k false) hr hd ho hLi' (fun k => by
        by_cases hk : k = i
        · subst hk; simp [hlt']
        · have : (k == i) = false := by simpa using hk
          have hne : i ≠ k := fun e => hk e.symm
          rw [this, Bool.or_false]
          simp [Array.getElem?_setIfInBounds_ne hne]) (fun k e hk hki hcf => by
        rcases Nat.lt_or_gt_of_ne hki with h | h
        · obtain ⟨m, hm1, hm2⟩ := ordAll_spec hs i _ hd
          have hb := hm2 k e (by simpa using h) (by simpa using hk) hcf
          rw [hmask i m _ hm1 ho hedge k hb]
          simp [h]
        · obtain ⟨m, hm1, hm2⟩ := ordAll_spec hs k _ hk
          rw [conf_symm] at hcf
          have hb := hm2 i _ (by simpa using h) (by simp) hcf
          have hkl : k < ops.size := by have := (List.getElem?_eq_some_iff.1 hk).1; rw [hr.len] at this; simpa using this
          have hok : ops.toList[k]? = some ops[k] := by simp [hkl]
          have hblt : Nat.blt k i = false := by simp only [Bool.eq_false_iff, ne_eq, Nat.blt_eq]; omega
          rw [hblt]
          cases hLk : listed.getD k false with
          | false => rfl
          | true =>
            have := hmask k m _ hm1 hok (hcl k _ hok hLk) i hb
            rw [hLi'] at this
            cases this) (by
        have hbits : ∀ (j m : Nat) (e : DAct), ds[j]? = some e → (masks ops.toList [])[j]? = some m → listed.getD j false = true ∨ j = i → ∀ b, m.testBit b = true → listed.getD b false = true := fun j m e hj hm' hLj b hb => by
          have hjl : j < ops.size := by have := (List.getElem?_eq_some_iff.1 hj).1; rw [hr.len] at this; simpa using this
          have hok : ops.toList[j]? = some ops[j] := by simp [hjl]
          rcases hLj with hLj | rfl
          · exact hmask j m _ hm' hok (hcl j _ hok hLj) b hb
          · exact hmask j m _ hm' ho hedge b hb
        obtain ⟨m, hm1, hm2⟩ := mapsAll_spec hmp i _ hd
        rw [Nat.zero_add] at hm2
        unfold mapsOne at hm2
        simp only [Bool.and_eq_true, List.all_eq_true] at hm2
        refine ⟨fun M k s hins => ?_, fun p hp => ?_, fun M hmk j e hj hne => ?_⟩
        · have hm2 := hm2.1
          rw [hins] at hm2
          simp only [Bool.and_eq_true] at hm2
          obtain ⟨a, e, g1, g2, g3⟩ := mkAt_spec hm2.1
          rw [Nat.zero_add] at g3
          exact ⟨⟨a, e, g1, g2, hbits i m _ hd hm1 (.inr rfl) a g3⟩, fun j e hj hne => keyNew_spec hm2.2 j e hj (by simpa using hne)⟩
        · have := hm2.2 p hp
          obtain ⟨a, e, g1, g2, g3⟩ := mkAt_spec this.1.1
          rw [Nat.zero_add] at g3
          refine ⟨⟨a, e, g1, g2, hbits i m _ hd hm1 (.inr rfl) a g3⟩, fun j e hj hne => ?_, nodupK_spec this.2⟩
          obtain ⟨k1, k2⟩ := insIn_spec this.1.2 j e hj hne
          rw [Nat.zero_add] at k1 k2
          exact ⟨k1, hbits i m _ hd hm1 (.inr rfl) j k2⟩
        · obtain ⟨k, s, hins⟩ := insOf_ins hne
          obtain ⟨m', hm1', hm2'⟩ := mapsAll_spec hmp j _ hj
          rw [Nat.zero_add] at hm2'
          unfold mapsOne at hm2'
          simp only [Bool.and_eq_true] at hm2'
          have hm2' := hm2'.1
          rw [hins] at hm2'
          simp only [Bool.and_eq_true] at hm2'
          obtain ⟨a, f, g1, g2, g3⟩ := mkAt_spec hm2'.1
          rw [Nat.zero_add] at g3
          have := hr.maker hd g1 hmk g2
          subst this
          refine ⟨?_, fun e => ?_⟩
          · cases hLj : listed.getD j false with
            | false => rfl
            | true => have := hbits j m' _ hj hm1' (.inl hLj) i g3; rw [hLi'] at this; cases this
          · have := hbits j m' _ hj hm1' (.inr e) i g3
            rw [hLi'] at this
            cases this) (wpAny P .any ops Q fuel (listed.setIfInBounds i true)) Q (fun β' a' w' hm' => by
        refine ih _ β' a' w' (by simpa using hsz) ?_ (fun j o hj hLj e he => ?_) hm'
        · rw [Array.toList_setIfInBounds, List.count_set (by simpa using hlt')]
          have : listed.toList[i]'(by simpa using hlt') = false := by simpa using hLi
          rw [this, hc]
          simp
        · have hmono : ∀ k, listed.getD k false = true → (listed.setIfInBounds i true).getD k false = true := fun k hk => by
            by_cases h : k = i
            · subst h; simp [hlt']
            · have hne : i ≠ k := fun e => h e.symm
              simpa [Array.getElem?_setIfInBounds_ne hne] using hk
          by_cases h : j = i
          · subst h
            rw [ho] at hj
            simp only [Option.some.injEq] at hj
            subst hj
            exact hmono _ (hedge e he)
          · have hne : i ≠ j := fun e => h e.symm
            have : listed.getD j false = true := by simpa [Array.getElem?_setIfInBounds_ne hne] using hLj
            exact hmono _ (hcl j o hj this e he))
    split
    · rename_i hw
      rw [if_pos hw] at hstep
      exact .inl hstep
    · rename_i hw
      rw [if_neg hw] at hstep
      exact hstep

theorem regD_sound (hX : HOk P Φ x.gl X) (hG : ∀ w, Keep x.R x.w0 w → Laid x.gl w) {id : Nat} {ops : Array Oper} (hnd : noDef ops.toList = true) {σ σ' : St} {c c' : Ctr} {out : List Em} (h : regD P X x.gh x.ng ops σ c = some (σ', c', out)) (hg : Good Φ ρ out)
    {β : Beta} {a : Act} {w : World} (hR : Rel x ρ β σ a w) (hf : Fresh β c) {Q : Exit → Act → World → Prop} (hn : ∀ β' a' w', Ext β β' → Rel x ρ β' σ' a' w' → Fresh β' c' → Q .normal a' w') : (Code.region id ops true).wpIn (FR x.rl) 0 P Q a w := by
  unfold regD at h
  obtain ⟨⟨ds, σn⟩, c1, o1, c2, o2, y, h1, h2, he⟩ := M.bind_inv h
  simp only [Prod.mk.injEq] at he
  obtain ⟨rfl, rfl, rfl⟩ := he
  obtain ⟨h1, hle⟩ := mono_inv h1
  split at h2
  · rename_i hc
    simp only [Bool.and_eq_true] at hc
    have he := M.pure_inv h2
    simp only [Prod.mk.injEq] at he
    obtain ⟨rfl, rfl, rfl⟩ := he
    rw [Good.append] at hg
    have hran := runD_ok hX hG h1 hg.1
    have hno : ¬ LetsOut (fun (e : Exit) (a : Act) (w : World) => e = .normal ∧ Q .normal a w) := fun ⟨_, _, h⟩ => by cases h.1
    refine wpIn_mono (Q := fun e a w => e = .normal ∧ Q .normal a w) (wpIn_region_any hc.1.1 (wpAnyIn_of hno hnd (any_ok hran hc.1.2 hc.2.1 hc.2.2 (β0 := β) (fun β' a' w' hm => ?_) _ _ β a _ (by simp) (by simp) (fun j o hj hl => ?_) ⟨XExt.refl β, ?_, fun t v hv => ?_, fun i b hb hbg => ?_, fun j d hj _ i hi _ => ?_, fun i hi => hf i (by simp only at hle; omega), fun m d M _ _ h => (by
        exfalso
        simp [Array.getElem?_replicate] at h
        split at h <;> simp_all)⟩))) (fun e a w ⟨e1, e2⟩ => by rw [e1]; exact e2)
    · have hC := hm.com
      refine ⟨rfl, ?_⟩
      refine hn β' a' w' hm.ext.ext ⟨hC.size.trans hran.tl.symm, fun t v hv => hm.slot t v (by rw [← hran.tm t]; exact hv), by rw [hran.jse]; exact hC.df, fun i b hb hbg => hm.blk i b (by rw [← hran.hp i]; exact hb) hbg, hC.gm, hC.gro, hC.bo, hC.kp, hC.gl, hC.ra, by rw [hran.rbe]; exact fun i r h1 h2 => hm.ext.at (hR.eb i r h1 h2)⟩ (fun i hi => hm.fresh i hi)
    · exfalso
      simp [Array.getElem?_replicate] at hl
      split at hl <;> simp_all
    · have hC := hR.com
      refine ⟨hC.size, hC.df.keep (Keep.drew [] w) (fun r hr => by simp at hr), fun i b hb hbg => ?_, hC.gro, ⟨hC.bo.apart, hC.bo.place, hC.bo.may, hC.bo.sq, hC.bo.rom, hC.bo.qs, hC.bo.rw⟩, hC.kp.trans (Keep.drew [] w) (fun r hr => by simp at hr), hC.gl, hC.ra⟩
      exact blkMt_keep' (XExt.refl β) hC.bo (Keep.drew [] w) (fun r q hr _ => by simp at hr) (hC.gm i b hb hbg)
    · rw [tS_none fun i d _ _ => by simp [Array.getElem?_replicate]; split <;> rfl] at hv
      exact hR.slot t v hv
    · rw [hS_none fun i d _ _ => by simp [Array.getElem?_replicate]; split <;> rfl] at hb
      exact blkMt_keep' (XExt.refl β) hR.bo (Keep.drew [] w) (fun r q hr _ => by simp at hr) (hR.hm i b hb hbg)
    · obtain ⟨_, _, _, _, _, _, _, _, _, b7, _, _⟩ := hran.act j d hj
      exact hf i (by omega)
  · simp [M.fail] at h2
/-- One behind the other. -/
theorem seq_ok {ops : Array Oper} {l0 : List Oper} {σ σn : St} {ds : List DAct} {lo hi : Nat} (hr : Ran P x ρ ops l0 σ σn [] ds lo hi) (hmp : mapsAll ds (seqMasks ds.length 0) ds 0 = true) {β0 : Beta} {Q : Exit → Act → World → Prop}
    (hQ : ∀ β a w, Mid x ρ σ ds hi β0 β (fun _ => true) a w → Q .normal a w) : ∀ (l : List Oper) (i : Nat) (β : Beta) (a : Act) (w : World), l0.drop i = l → i ≤ l0.length → Mid x ρ σ ds hi β0 β (fun k => Nat.blt k i) a w → wpList P ops Q l a w
  | [], i, β, a, w, hl, hle, hm => by
    have hlen : l0.length ≤ i := by
      rcases Nat.lt_or_ge i l0.length with h | h
      · rw [List.drop_eq_getElem_cons h] at hl; cases hl
      · exact h
    have hlt : ∀ k d, ds[k]? = some d → k < i := fun k d hk => by have := (List.getElem?_eq_some_iff.1 hk).1; rw [hr.len] at this; omega
    refine hQ β a w ⟨hm.ext, hm.com, fun t v hv => hm.slot t v ?_, fun id b hb => hm.blk id b ?_, fun j d hj h => (by cases h), hm.fresh, fun m d M h1 h2 _ => mapMt_congr (fun q => ?_) (hm.mp m d M h1 h2 (by simpa using hlt m d h1))⟩
    · rw [← hv]
      exact tS_congr fun k d hk _ => by simp [hlt k d hk]
    · rw [← hb]
      exact hS_congr fun k d hk _ => by simp [hlt k d hk]
    · rw [insL_mem, insL_mem]
      constructor
      · rintro ⟨k, f, g1, g2, g3⟩; exact ⟨k, f, g1, rfl, g3⟩
      · rintro ⟨k, f, g1, g2, g3⟩; exact ⟨k, f, g1, by simp [hlt k f g1], g3⟩
  | o :: l, i, β, a, w, hl, hle, hm => by
    have hlt : i < l0.length := by
      rcases Nat.lt_or_ge i l0.length with h | h
      · exact h
      · rw [List.drop_eq_nil_of_le h] at hl; cases hl
    rw [List.drop_eq_getElem_cons hlt] at hl
    simp only [List.cons.injEq] at hl
    obtain ⟨ho, hl⟩ := hl
    have ho' : l0[i]? = some o := by rw [List.getElem?_eq_getElem hlt, ho]
    have hdl : i < ds.length := by rw [hr.len]; exact hlt
    have hd := List.getElem?_eq_getElem hdl
    have hstep := hm.step (L' := fun k => Nat.blt k (i + 1)) hr hd ho' (by simp [Bool.eq_false_iff, Nat.blt_eq]) (fun k => by
        rw [Bool.eq_iff_iff]
        simp only [Nat.blt_eq, Bool.or_eq_true, beq_iff_eq]
        omega) (fun k e hk hki hcf => rfl) (by
        have hbits : ∀ (j m : Nat) (e : DAct), ds[j]? = some e → (seqMasks ds.length 0)[j]? = some m → ∀ b, m.testBit b = true → b < j := fun j m e hj hm' b hb => by
          have := seqMasks_get hm'
          rw [this, Nat.zero_add, Nat.testBit_two_pow_sub_one] at hb
          simpa using hb
        obtain ⟨m, hm1, hm2⟩ := mapsAll_spec hmp i _ hd
        rw [Nat.zero_add] at hm2
        unfold mapsOne at hm2
        simp only [Bool.and_eq_true, List.all_eq_true] at hm2
        refine ⟨fun M k s hins => ?_, fun p hp => ?_, fun M hmk j e hj hne => ?_⟩
        · have hm2 := hm2.1
          rw [hins] at hm2
          simp only [Bool.and_eq_true] at hm2
          obtain ⟨a, e, g1, g2, g3⟩ := mkAt_spec hm2.1
          rw [Nat.zero_add] at g3
          exact ⟨⟨a, e, g1, g2, by simpa using hbits i m _ hd hm1 a g3⟩, fun j e hj hne => keyNew_spec hm2.2 j e hj (by simpa using hne)⟩
        · have := hm2.2 p hp
          obtain ⟨a, e, g1, g2, g3⟩ := mkAt_spec this.1.1
          rw [Nat.zero_add] at g3
          refine ⟨⟨a, e, g1, g2, by simpa using hbits i m _ hd hm1 a g3⟩, fun j e hj hne => ?_, nodupK_spec this.2⟩
          obtain ⟨k1, k2⟩ := insIn_spec this.1.2 j e hj hne
          rw [Nat.zero_add] at k1
          exact ⟨k1, by simpa using k1⟩
        · obtain ⟨k, s, hins⟩ := insOf_ins hne
          obtain ⟨m', hm1', hm2'⟩ := mapsAll_spec hmp j _ hj
          rw [Nat.zero_add] at hm2'
          unfold mapsOne at hm2'
          simp only [Bool.and_eq_true] at hm2'
          have hm2' := hm2'.1
          rw [hins] at hm2'
          simp only [Bool.and_eq_true] at hm2'
          obtain ⟨a, f, g1, g2, g3⟩ := mkAt_spec hm2'.1
          rw [Nat.zero_add] at g3
          have := hr.maker hd g1 hmk g2
          subst this
          have := hbits j m' _ hj hm1' i g3
          exact ⟨by simp only [Bool.eq_false_iff, ne_eq, Nat.blt_eq]; omega, by omega⟩) (wpList P ops Q l) Q (fun β' a' w' hm' => seq_ok hr hmp hQ l (i + 1) β' a' w' hl (by omega) hm')
    unfold wpList
    split
    · rename_i hw
      rw [if_pos hw] at hstep
      exact .inl hstep
    · rename_i hw
      rw [if_neg hw] at hstep
      exact hstep
theorem regM_sound (hX : HOk P Φ x.gl X) (hG : ∀ w, Keep x.R x.w0 w → Laid x.gl w) {ops : Array Oper} {σ σ' : St} {c c' : Ctr} {out : List Em} (h : regM P X x.gh x.ng ops σ c = some (σ', c', out)) (hg : Good Φ ρ out)
    {β : Beta} {a : Act} {w : World} (hR : Rel x ρ β σ a w) (hf : Fresh β c) {Q : Exit → Act → World → Prop} (hn : ∀ β' a' w', Ext β β' → Rel x ρ β' σ' a' w' → Fresh β' c' → Q .normal a' w') : wpList P ops Q ops.toList a w := by
  unfold regM at h
  obtain ⟨⟨ds, σn⟩, c1, o1, c2, o2, y, h1, h2, he⟩ := M.bind_inv h
  simp only [Prod.mk.injEq] at he
  obtain ⟨rfl, rfl, rfl⟩ := he
  obtain ⟨h1, hle⟩ := mono_inv h1
  split at h2
  · rename_i hc
    have he := M.pure_inv h2
    simp only [Prod.mk.injEq] at he
    obtain ⟨rfl, rfl, rfl⟩ := he
    rw [Good.append] at hg
    have hran := runD_ok hX hG h1 hg.1
    refine seq_ok hran hc (β0 := β) (fun β' a' w' hm => ?_) _ 0 β a w rfl (Nat.zero_le _) ⟨XExt.refl β, hR.com, fun t v hv => ?_, fun i b hb hbg => ?_, fun j d hj _ i hi _ => ?_, fun i hi => hf i (by simp only at hle; omega), fun m d M _ _ h => (by simp at h)⟩
    · have hC := hm.com
      exact hn β' a' w' hm.ext.ext ⟨hC.size.trans hran.tl.symm, fun t v hv => hm.slot t v (by rw [← hran.tm t]; exact hv), by rw [hran.jse]; exact hC.df, fun i b hb hbg => hm.blk i b (by rw [← hran.hp i]; exact hb) hbg, hC.gm, hC.gro, hC.bo, hC.kp, hC.gl, hC.ra, by rw [hran.rbe]; exact fun i r h1 h2 => hm.ext.at (hR.eb i r h1 h2)⟩ (fun i hi => hm.fresh i hi)
    · rw [tS_none fun i d _ _ => by simp [Bool.eq_false_iff, Nat.blt_eq]] at hv
      exact hR.slot t v hv
    · rw [hS_none fun i d _ _ => by simp [Bool.eq_false_iff, Nat.blt_eq]] at hb
      exact hR.hm i b hb hbg
    · obtain ⟨_, _, _, _, _, _, _, _, _, b7, _, _⟩ := hran.act j d hj
      exact hf i (by omega)
  · simp [M.fail] at h2
end
end Go.Proofs.Ytgbgibbonhklgaa.Sx
namespace Go.Proofs.Ytgbgibbonhklgaa.Sx
open Go

def C.fz (id : Nat) (ks : List CK) (q n : A) (c : C) : C :=
  match c with
  | .slm i ls => if i == id then (if cksEq ls ks then .slx ks q n else .junk) else .slm i ls
  | .pxm i ls a k => if i == id then (if cksEq ls ks then .pxq ks q a k else .junk) else .pxm i ls a k
  | c => c.jk fun i => !(i == id)
def S.fz (id : Nat) (ks : List CK) (q n : A) : S → S
  | .one agg l => .one agg (l.map (C.fz id ks q n))
  | .tup l => .tup (l.map fun p => (p.1, p.2.map (C.fz id ks q n)))
  | .any => .any
def SV.fz (id : Nat) (ks : List CK) (q n : A) (x : SV) : SV := { x with s := x.s.fz id ks q n }
def fzHp (id : Nat) (ks : List CK) (q n : A) : Hl → Hl
  | [] => []
  | (i, b) :: l => if i == id then fzHp id ks q n l else (i, { b with cells := b.cells.map (C.fz id ks q n) }) :: fzHp id ks q n l
theorem fzHp_get {id : Nat} {ks : List CK} {q n : A} : ∀ {l : Hl} {i : Nat} {b : Blk}, hpOf (fzHp id ks q n l) i = some b → i ≠ id ∧ ∃ b0, hpOf l i = some b0 ∧ b = { b0 with cells := b0.cells.map (C.fz id ks q n) }
  | [], i, b, h => by simp [fzHp, hpOf] at h
  | (j, c) :: l, i, b, h => by
    unfold fzHp at h
    split at h
    · rename_i hj
      simp only [beq_iff_eq] at hj
      obtain ⟨h1, b0, h2, h3⟩ := fzHp_get h
      refine ⟨h1, b0, ?_, h3⟩
      unfold hpOf
      rw [if_neg (by simp; omega)]
      exact h2
    · rename_i hj
      unfold hpOf at h ⊢
      split at h
      · rename_i he
        cases h
        simp only [beq_iff_eq] at he hj
        refine ⟨by omega, c, by rw [if_pos (by simp; exact he)], rfl⟩
      · rename_i he
        obtain ⟨h1, b0, h2, h3⟩ := fzHp_get h
        exact ⟨h1, b0, by rw [if_neg he]; exact h2, h3⟩
def frzSt (id : Nat) (s : St) : M St :=
  match hpOf s.hp id with
  | some b => match vecOf b.cells with
    | some (ks, q, n) => if b.g.isEmpty then do
        let _ ← newId
        pure { tm := s.tm.map (SV.fz id ks q n), hp := fzHp id ks q n s.hp, rb := uniN [id] s.rb, js := s.js }
      else M.fail
    | none => M.fail
  | none => M.fail

section
variable {β β' : Beta} {ρ : Env} {w : World} {id fid : Nat} {ks : List CK} {q n : A}
/-- How it is told behind: the row's number has no cells; another number has them. -/
structure Fz (β β' : Beta) (w : World) (id : Nat) (ks : List CK) (q n : Int) : Prop where
  mv : Mv (fun i => !(i == id)) β β'
  row : ∃ r cap l, β id = some r ∧ r.row = true ∧ r.len = cap * ks.length ∧ ks ≠ [] ∧ q = enc l ∧ n = (r.rn : Int) ∧ InR .i64 n ∧ l.length = r.rn * ks.length ∧
    (r.rn ≠ 0 → ∃ i r', β' i = some r' ∧ r'.blk = r.blk ∧ r'.off = r.off ∧ r'.sq = some (ks, l))
theorem C.fz_mt (h : Fz β β' w id ks (q.d ρ) (n.d ρ)) {c : C} {v : Value} (hm : c.mt β ρ v) : (c.fz id ks q n).mt β' ρ v := by
  obtain ⟨mv, r, cap, l, hr, hrow, hlen, hne, hq, hn, hin, hll, hf⟩ := h
  have hkl : 0 < ks.length := List.length_pos_iff.2 hne
  unfold C.fz
  split
  · rename_i i ls
    split
    · rename_i hi
      simp only [beq_iff_eq] at hi
      subst hi
      split
      · rename_i hk
        have hk := cksEq_sound hk
        subst hk
        obtain ⟨r1, cap1, p, hr1, _, hl1, hc1, hv, hp⟩ := hm
        rw [hr] at hr1
        cases hr1
        have : cap1 = cap := Nat.eq_of_mul_eq_mul_right hkl (by rw [← hl1, hlen])
        subst this
        show slxMt β' ls (q.d ρ) (n.d ρ) v
        rw [hn]
        rw [hn] at hin
        refine ⟨by omega, hin, p, cap1, by rw [Int.toNat_natCast]; exact hv, by rw [Int.toNat_natCast]; exact hc1, ?_⟩
        by_cases h0 : r.rn = 0
        · left
          rw [h0] at hll ⊢
          have : l = [] := List.eq_nil_of_length_eq_zero (by simpa using hll)
          rw [hq, this]
          exact ⟨rfl, rfl⟩
        · right
          obtain ⟨j, r', h1, h2, h3, h4⟩ := hf h0
          exact ⟨j, r', 0, l, h1, ⟨l, 0, h4, by simp, by simp, fun i n h => by simpa using h⟩, hq, by rw [Int.toNat_natCast]; exact hll, by rw [h2, h3]; exact hp.resolve_left (by omega)⟩
      · exact C.mt_one hm
    · rename_i hi
      exact C.mt_ids mv.h mv.sq (by simpa [C.ids] using hi) hm
  · rename_i i ls a k
    split
    · rename_i hi
      simp only [beq_iff_eq] at hi
      subst hi
      split
      · rename_i hk
        have hk := cksEq_sound hk
        subst hk
        obtain ⟨h0, r1, hr1, _, hlt, hv⟩ := hm
        rw [hr] at hr1
        cases hr1
        obtain ⟨j, r', h1, h2, h3, h4⟩ := hf (by omega)
        refine ⟨h0, j, r', 0, l, h1, ⟨l, 0, h4, by simp, by simp, fun i n h => by simpa using h⟩, hq, by rw [hll]; exact Nat.mul_le_mul_right _ hlt, ?_⟩
        rw [h2, h3]
        exact hv
      · exact C.mt_one hm
    · rename_i hi
      exact C.mt_ids mv.h mv.sq (by simpa [C.ids] using hi) hm
  · exact C.jk_mt mv hm
theorem fz_mtL (h : Fz β β' w id ks (q.d ρ) (n.d ρ)) : ∀ {l : List C} {vs : List Value}, mtL β ρ l vs → mtL β' ρ (l.map (C.fz id ks q n)) vs
  | [], [], _ => trivial
  | _ :: _, _ :: _, ⟨h1, h2⟩ => ⟨C.fz_mt h h1, fz_mtL h h2⟩
theorem fz_mt1 (h : Fz β β' w id ks (q.d ρ) (n.d ρ)) {agg : Bool} {l : List C} {v : Value} (hv : mt1 β ρ agg l v) : mt1 β' ρ agg (l.map (C.fz id ks q n)) v := by
  unfold mt1 at *
  cases agg
  · obtain ⟨c, h1, h2⟩ := hv; exact ⟨c.fz id ks q n, by rw [h1]; rfl, C.fz_mt h h2⟩
  · obtain ⟨vs, h1, h2⟩ := hv; exact ⟨vs, h1, fz_mtL h h2⟩
theorem fz_mtT (h : Fz β β' w id ks (q.d ρ) (n.d ρ)) : ∀ {l : List (Bool × List C)} {vs : List Value}, mtT β ρ l vs → mtT β' ρ (l.map fun p => (p.1, p.2.map (C.fz id ks q n))) vs
  | [], [], _ => trivial
  | _ :: _, _ :: _, ⟨h1, h2⟩ => ⟨fz_mt1 h h1, fz_mtT h h2⟩
theorem SV.fz_mt (h : Fz β β' w id ks (q.d ρ) (n.d ρ)) {x : SV} {v : Value} (hx : x.mt β ρ v) : (x.fz id ks q n).mt β' ρ v := by
  refine ⟨fun hg => ?_, hx.2⟩
  have := hx.1 hg
  unfold SV.fz
  simp only
  cases hs : x.s with
  | one agg l => rw [hs] at this; exact fz_mt1 h this
  | tup l => rw [hs] at this; obtain ⟨vs, h1, h2⟩ := this; exact ⟨vs, h1, fz_mtT h h2⟩
  | any => trivial
theorem fz_blk (h : Fz β β' w id ks (q.d ρ) (n.d ρ)) {i : Nat} (hi : i ≠ id) {b : Blk} (hm : blkMt β ρ w i b) : blkMt β' ρ w i { b with cells := b.cells.map (C.fz id ks q n) } := by
  cases hv : vecOf b.cells with
  | none =>
    obtain ⟨r, hr, hrow, hl, hro, hc, hf⟩ := (blkMt_cs hv).1 hm
    refine blkMt_mk ⟨r, h.mv.ext.at hr hrow, hrow, by simpa using hl, hro, ?_, fun h0 j hj => hf h0 j (by simpa using hj)⟩
    rw [cellsAt_iff] at *
    intro j c hj
    simp only [List.getElem?_map, Option.map_eq_some_iff] at hj
    obtain ⟨d, hd, rfl⟩ := hj
    obtain ⟨v, h1, h2⟩ := hc j d hd
    exact ⟨v, h1, C.fz_mt h h2⟩
  | some y =>
    have e : b.cells.map (C.fz id ks q n) = b.cells := by
      rw [vecOf_spec hv]
      simp [C.fz, vec_jk]
    have hm2 := blkMt_jk h.mv (w := w) (w' := w) (b := b) (.inr (by simpa using hi)) (fun _ _ _ _ => ⟨rfl, rfl⟩) hm
    refine blkMt_g (b := b.jk fun i => !(i == id)) rfl ?_ hm2
    rw [e]
    unfold Blk.jk jkL
    simp only
    rw [vecOf_spec hv]
    simp [vec_jk]
end
theorem gm_stays {x : Cx} {β β' : Beta} {ρ : Env} {w : World} {p : Nat → Bool} (hmv : Mv p β β') (hgro : ∀ id b, hpOf x.gh id = some b → b.ro = true) (h : heapMt β ρ (hpOf x.gh) w) : heapMt β' ρ (hpOf x.gh) w := by
  intro id b hb hbg
  have hgm := h id b hb hbg
  have hgr := hgro id b hb
  have hvn : vecOf b.cells = none := by
    cases hv : vecOf b.cells with
    | none => rfl
    | some y => have := ((blkMt_row hv).1 hgm).1; rw [hgr] at this; cases this
  obtain ⟨r, hr, hrow, hl, hro, hc, hf⟩ := (blkMt_cs hvn).1 hgm
  refine blkMt_mk ⟨r, hmv.ext.at hr hrow, hrow, hl, hro, ?_, hf⟩
  rw [cellsAt_iff] at *
  intro j c hj
  obtain ⟨v, h1, h2⟩ := hc j c hj
  have hids := ghOf_ids hb j c hj
  exact ⟨v, h1, C.mt_ids hmv.h hmv.sq (by rw [hids]; rfl) h2⟩
theorem frz_ok {x : Cx} (hgr : ∀ q, q ∈ x.R → ∃ j : Nat, x.gr[j]? = some q) {ρ : Env} {id : Nat} {s s' : St} {c c' : Ctr} {o : List Em} (h : frzSt id s c = some (s', c', o)) : c.id ≤ c'.id ∧
    ∀ (β : Beta) (a : Act) (w : World), Rel x ρ β s a w → Fresh β c → ∃ β', Ext β β' ∧ Rel x ρ β' s' a w ∧ Fresh β' c' := by
  unfold frzSt at h
  cases hb : hpOf s.hp id with
  | none => rw [hb] at h; cases h
  | some b =>
    rw [hb] at h
    simp only at h
    cases hv : vecOf b.cells with
    | none => rw [hv] at h; cases h
    | some y =>
      obtain ⟨ks, q, n⟩ := y
      rw [hv] at h
      simp only at h
      split at h
      · rename_i hg
        simp only [List.isEmpty_iff] at hg
        obtain ⟨_, c1, o1, c2, o2, y, g1, g2, e1⟩ := M.bind_inv h
        simp only [newId, Option.some.injEq, Prod.mk.injEq] at g1
        obtain ⟨_, rfl, rfl⟩ := g1
        have g2 := M.pure_inv g2
        simp only [Prod.mk.injEq] at g2 e1
        obtain ⟨rfl, rfl, rfl⟩ := g2
        obtain ⟨rfl, rfl, rfl⟩ := e1
        refine ⟨by simp, fun β a w hR hF => ?_⟩
        have hbm := (blkMt_row hv).1 (hR.hm id b hb (by rw [hg]; rfl))
        change b.ro = false ∧ rowMt β ρ w id ks q n at hbm
        obtain ⟨hro0, r, cap, l, hr, hrow, hro, hne, hlen, hrc, hq, hn, hin, hll, hsq, hcells⟩ := hbm
        have hfid : β c.id = none := hF c.id (Nat.le_refl _)
        have hne1 : id ≠ c.id := fun e => by rw [e, hfid] at hr; cases hr
        have hkl : 0 < ks.length := List.length_pos_iff.2 hne
        have hmul : r.rn * ks.length ≤ cap * ks.length := Nat.mul_le_mul_right _ hrc
        have hcov : Cov x.R x.w0.heap.size r := (hR.bo.may id r hr).resolve_left (by rw [hro]; simp)
        have hb1 : BetaOk x.w0.heap.size x.R x.Q (β.set id { blk := r.blk, off := r.off, len := 0, ro := false, row := true }) w := by
          refine hR.bo.bind (W := []) (by simp) (Keep.refl _ _) (fun j q _ _ => .inr (by unfold Rg.apart; simp)) (.inl rfl) (.inr ?_) (by simp) (by simp) (by simp)
          rcases hcov with h | ⟨q, hq, h1, h2, h3⟩
          · exact .inl h
          · exact .inr ⟨q, hq, h1, h2, by simp only; omega⟩
        -- the new number, if there are elements
        have key : ∃ β', BetaOk x.w0.heap.size x.R x.Q β' w ∧ ExtP (fun i => !(i == id)) β β' ∧ (∀ i, c.id + 1 ≤ i → β' i = none) ∧ (r.rn ≠ 0 → ∃ i r', β' i = some r' ∧ r'.blk = r.blk ∧ r'.off = r.off ∧ r'.sq = some (ks, l)) := by
          have hext1 : ExtP (fun i => !(i == id)) β (β.set id { blk := r.blk, off := r.off, len := 0, ro := false, row := true }) := fun i p hi hp => by
            by_cases e : i = id
            · subst e
              rw [hr] at hi
              cases hi
              rcases hp with hp | hp
              · rw [hrow] at hp; cases hp
              · simp at hp
            · rw [Beta.set_other _ _ e]; exact hi
          by_cases h0 : r.rn = 0
          · refine ⟨_, hb1, hext1, fun i hi => ?_, fun h => absurd h0 h⟩
            by_cases e : i = id
            · subst e; have := hF i (by omega); rw [hr] at this; cases this
            · rw [Beta.set_other _ _ e]; exact hF i (by omega)
          · have hpos : 0 < l.length := by rw [hll]; exact Nat.mul_pos (by omega) hkl
            have hN : x.w0.heap.size ≤ r.blk := by
              rcases hcov with h | ⟨p, hp, h1, h2, h3⟩
              · exact h
              · exfalso
                obtain ⟨j, hj⟩ := hgr p hp
                obtain ⟨e1, e2⟩ := hR.ra j p hj
                have hne2 : id ≠ x.gi j := fun e => by rw [← e, hr] at e2; cases e2; rw [hrow] at e1; cases e1
                have := hR.bo.apartW hne2 hr e2 hro
                unfold Rg.apart at this
                omega
            have hlive : r.blk < w.heap.size := by
              obtain ⟨⟨v, hv1, _⟩, _⟩ := hcells 0 (by rw [hlen]; omega)
              exact World.block_lt_of_cell? w ⟨r.blk, r.off + 0, none⟩ hv1
            refine ⟨(β.set id { blk := r.blk, off := r.off, len := 0, ro := false, row := true }).set c.id { blk := r.blk, off := r.off, len := l.length, ro := true, sq := some (ks, l) }, ?_, fun i p hi hp => ?_, fun i hi => ?_, fun _ => ⟨c.id, _, Beta.set_same _ _ _, rfl, rfl, rfl⟩⟩
            · refine hb1.bind (W := []) (by simp) (Keep.refl _ _) (fun j p hj hp => .inr ?_) (.inr hlive) (.inl rfl) (fun ks' l' he => ?_) (fun _ => .inl hN) (by simp)
              · unfold Beta.set at hp
                split at hp
                · cases hp; unfold Rg.apart; simp
                · rename_i hjid
                  have := hR.bo.apartW (Ne.symm hjid) hr hp hro
                  unfold Rg.apart at *
                  simp only
                  omega
              · simp only [Option.some.injEq, Prod.mk.injEq] at he
                obtain ⟨rfl, rfl⟩ := he
                exact ⟨rfl, rfl, rfl, hsq⟩
            · by_cases e : i = c.id
              · subst e; rw [hfid] at hi; cases hi
              · rw [Beta.set_other _ _ e]; exact hext1 i p hi hp
            · rw [Beta.set_other _ _ (by omega)]
              by_cases e : i = id
              · subst e; have := hF i (by omega); rw [hr] at this; cases this
              · rw [Beta.set_other _ _ e]; exact hF i (by omega)
        obtain ⟨β', k1, k2, k3, k4⟩ := key
        have hmv : Mv (fun i => !(i == id)) β β' := Mv.of hR.bo k2
        have hfz : Fz β β' w id ks (q.d ρ) (n.d ρ) := ⟨hmv, r, cap, l, hr, hrow, hlen, hne, hq, hn, hin, hll, k4⟩
        refine ⟨β', k2.ext, ⟨by rw [hR.size]; simp, fun t z hz => ?_, hR.df, fun i b' hb' hg' => ?_, gm_stays hmv hR.gro hR.gm, hR.gro, k1, hR.kp, fun g vs hgv => k2.at (hR.gl g vs hgv) rfl, fun j p hj => ⟨(hR.ra j p hj).1, k2.at (hR.ra j p hj).2 (hR.ra j p hj).1⟩, ?_⟩, k3⟩
        · simp only [List.getElem?_map, Option.map_eq_some_iff] at hz
          obtain ⟨u, hu, rfl⟩ := hz
          exact SV.fz_mt hfz (hR.slot t u hu)
        · obtain ⟨e1, b0, e2, rfl⟩ := fzHp_get hb'
          exact fz_blk hfz e1 (hR.hm i b0 e2 hg')
        · exact ExtP.uni (r1 := [id]) hR.eb (ExtP.pmono k2 fun i hi => by have h9 : i ∉ [id] := pOf_true.1 hi; simpa using h9)
      · cases h

/-! ### Which rows are to be frozen, where two ways meet -/
def fzC (x y : C) : List Nat :=
  match x with
  | .slm i _ => match y with
    | .slm j _ => if i == j then [] else [i]
    | .slx _ _ _ => [i]
    | y => if asEmp y then [i] else []
  | _ => []
def fzL : List C → List C → List Nat
  | x :: l, y :: m => fzC x y ++ fzL l m
  | _, _ => []
def fzT : List (Bool × List C) → List (Bool × List C) → List Nat
  | p :: l, q :: m => fzL p.2 q.2 ++ fzT l m
  | _, _ => []
def fzS : S → S → List Nat
  | .one _ l, .one _ m => fzL l m
  | .tup l, .tup m => fzT l m
  | _, _ => []
def fzTm : List Bool → List SV → List SV → List Nat
  | k, u :: us, v :: vs => (if k.headD false && u.g.isEmpty && v.g.isEmpty then fzS u.s v.s else []) ++ fzTm k.tail us vs
  | _, _, _ => []
def fzHb (h2 : Hl) : Hl → List Nat
  | [] => []
  | (i, b) :: l => (match hpOf h2 i with | some b2 => if b.g.isEmpty && b2.g.isEmpty then fzL b.cells b2.cells else [] | none => []) ++ fzHb h2 l
def frzAll : List Nat → St → M St
  | [], s => pure s
  | i :: l, s => do
    let s' ← frzSt i s
    frzAll l s'
theorem frzAll_ok {x : Cx} (hgr : ∀ q, q ∈ x.R → ∃ j : Nat, x.gr[j]? = some q) {ρ : Env} : ∀ {l : List Nat} {s s' : St} {c c' : Ctr} {o : List Em}, frzAll l s c = some (s', c', o) → c.id ≤ c'.id ∧
    ∀ (β : Beta) (a : Act) (w : World), Rel x ρ β s a w → Fresh β c → ∃ β', Ext β β' ∧ Rel x ρ β' s' a w ∧ Fresh β' c'
  | [], s, s', c, c', o, h => by
    have := M.pure_inv h
    simp only [Prod.mk.injEq] at this
    obtain ⟨rfl, rfl, rfl⟩ := this
    exact ⟨Nat.le_refl _, fun β a w hR hF => ⟨β, Ext.refl β, hR, hF⟩⟩
  | i :: l, s, s', c, c', o, h => by
    obtain ⟨s1, c1, o1, c2, o2, y, g1, g2, e1⟩ := M.bind_inv h
    simp only [Prod.mk.injEq] at e1
    obtain ⟨rfl, rfl, rfl⟩ := e1
    obtain ⟨h1, h2⟩ := frz_ok (x := x) hgr (ρ := ρ) g1
    obtain ⟨h3, h4⟩ := frzAll_ok hgr (ρ := ρ) g2
    refine ⟨Nat.le_trans h1 h3, fun β a w hR hF => ?_⟩
    obtain ⟨β1, e1, r1, f1⟩ := h2 β a w hR hF
    obtain ⟨β2, e2, r2, f2⟩ := h4 β1 a w r1 f1
    exact ⟨β2, e1.trans e2, r2, f2⟩
/-- Which slots are kept where two ways meet; whether rows may be frozen there. -/
structure Kp where
  l : List Bool
  fz : Bool := false
def fzTo (keep : Kp) (u v : St) : List Nat := dedupN (fzTm keep.l u.tm v.tm ++ fzHb v.hp u.hp)
def joinFz (keep : Kp) (sel : B) (u v : St) : M St := do
  let u' ← frzAll (fzTo keep u v) u
  let v' ← frzAll (fzTo keep v u) v
  M.mono (muxSt keep.l sel u' v')
def joinSt (keep : Kp) (sel : B) (u v : St) : M St := if keep.fz then joinFz keep sel u v else muxSt keep.l sel u v
def GrOk (x : Cx) (keep : Kp) : Prop := keep.fz = true → ∀ q, q ∈ x.R → ∃ j : Nat, x.gr[j]? = some q
/-- Two frames aS one. -/
def JnOk (x : Cx) (ρ : Env) (c c' : Ctr) (sel : Bool) (u v z : St) : Prop := ∀ (β : Beta) (a : Act) (w : World), (if sel then Rel x ρ β u a w else Rel x ρ β v a w) → Fresh β c → ∃ β', Ext β β' ∧ Rel x ρ β' z a w ∧ Fresh β' c'
theorem joinSt_ok {Φ : Funs} {x : Cx} {ρ : Env} {keep : Kp} (hx : GrOk x keep) {sel : B} {u v z : St} {c c' : Ctr} {o : List Em} (h : M.mono (joinSt keep sel u v) c = some (z, c', o)) (hg : Good Φ ρ o) : c.id ≤ c'.id ∧ JnOk x ρ c c' (sel.d ρ) u v z := by
  obtain ⟨h, hle⟩ := mono_inv h
  refine ⟨hle, ?_⟩
  unfold joinSt at h
  split at h
  · rename_i hfz
    unfold joinFz at h
    obtain ⟨u', c1, o1, c2, o2, y, g1, g2, e1⟩ := M.bind_inv h
    obtain ⟨v', c3, o3, c4, o4, y2, g3, g4, e2⟩ := M.bind_inv g2
    simp only [Prod.mk.injEq] at e2 e1
    obtain ⟨rfl, rfl, rfl⟩ := e2
    obtain ⟨rfl, rfl, rfl⟩ := e1
    obtain ⟨h1, h2⟩ := frzAll_ok (x := x) (hx hfz) (ρ := ρ) g1
    obtain ⟨h3, h4⟩ := frzAll_ok (x := x) (hx hfz) (ρ := ρ) g3
    obtain ⟨g4, hid⟩ := mono_inv g4
    have hm := muxSt_snd (Φ := Φ) (x := x) (ρ := ρ) keep.l sel u' v' _ _ _ _ g4 (Good.append.1 (Good.append.1 hg).2).2
    simp only at hid
    intro β a w hR hF
    split at hR
    · rename_i hs
      obtain ⟨β1, e1, r1, f1⟩ := h2 β a w hR hF
      exact ⟨β1, e1, hm β1 a w (by rw [if_pos hs]; exact r1), f1.le (by omega)⟩
    · rename_i hs
      obtain ⟨β1, e1, r1, f1⟩ := h4 β a w hR (hF.le h1)
      exact ⟨β1, e1, hm β1 a w (by rw [if_neg hs]; exact r1), f1.le (by omega)⟩
  · intro β a w hR hF
    exact ⟨β, Ext.refl β, muxSt_snd (Φ := Φ) (x := x) (ρ := ρ) keep.l sel u v _ _ _ _ h hg β a w hR, hF.le hle⟩
end Go.Proofs.Ytgbgibbonhklgaa.Sx
namespace Go.Proofs.Ytgbgibbonhklgaa.Sx
open Go

/-! ### Ways out of code -/
inductive Kd where
  | n
  | r
  | x (id : Nat)
def Kd.eq : Kd → Kd → Bool
  | .n, .n | .r, .r => true
  | .x i, .x j => i == j
  | _, _ => false
theorem Kd.eq_sound {k l : Kd} (h : k.eq l = true) : k = l := by
  cases k <;> cases l <;> simp_all [Kd.eq]
theorem Kd.eq_refl (k : Kd) : k.eq k = true := by cases k <;> simp [Kd.eq]
theorem Kd.eq_ne {k l : Kd} (h : k ≠ l) : k.eq l = false := by
  cases hk : k.eq l
  · rfl
  · exact absurd (Kd.eq_sound hk) h

abbrev Outs := List (Kd × Gd × St)
def getK (k : Kd) : Outs → Option (Gd × St)
  | [] => none
  | (l, q, s) :: o => if k.eq l then some (q, s) else getK k o
def kdOf : Exit → Option Kd
  | .normal => some .n
  | .ret => some .r
  | .exit id => some (.x id)
  | _ => none

/-- Just one way out's conditions hold: the one that was taken; and there it is known what holds. -/
def OutMt (x : Cx) (ρ : Env) (β : Beta) (c : Ctr) (O : Outs) (K : Kd) (a : Act) (w : World) : Prop :=
  (∀ k q s, getK k O = some (q, s) → (Gd.d ρ q = true ↔ k = K)) ∧ ∃ q s β', getK K O = some (q, s) ∧ Ext β β' ∧ Rel x ρ β' s a w ∧ Fresh β' c

def single (O : Outs) : Outs :=
  match O with
  | [(k, _, s)] => [(k, [], s)]
  | O => O
theorem single_mt {x : Cx} {ρ : Env} {β : Beta} {c : Ctr} {O : Outs} {K : Kd} {a : Act} {w : World} (h : OutMt x ρ β c O K a w) : OutMt x ρ β c (single O) K a w := by
  unfold single
  split
  · rename_i k q s
    obtain ⟨h1, q', s', β', h2, h3⟩ := h
    unfold getK at h2
    split at h2
    · rename_i he
      have := Kd.eq_sound he
      subst this
      simp only [Option.some.injEq, Prod.mk.injEq] at h2
      obtain ⟨rfl, rfl⟩ := h2
      refine ⟨fun k q s hk => ?_, [], _, β', by simp [getK, Kd.eq_refl], h3⟩
      unfold getK at hk
      split at hk
      · rename_i he'
        simp only [Option.some.injEq, Prod.mk.injEq] at hk
        obtain ⟨rfl, rfl⟩ := hk
        simp [Kd.eq_sound he']
      · simp [getK] at hk
    · simp [getK] at h2
  · exact h

def mergeGo (keep : Kp) (sel : B) (p1 : Gd) (O2 : Outs) : Outs → M Outs
  | [] => pure []
  | (k, q1, s1) :: l => do
    let r ← mergeGo keep sel p1 O2 l
    match getK k O2 with
    | none => pure ((k, p1 ++ q1, s1) :: r)
    | some (q2, s2) => do
      let q ← (if q1.isEmpty && q2.isEmpty then pure [] else do
        let a1 ← gAtom q1
        let a2 ← gAtom q2
        let b ← mkIteB sel a1 a2
        pure [(b, true)])
      let s ← M.mono (joinSt keep sel s1 s2)
      pure ((k, q, s) :: r)
def restGo (p2 : Gd) (O1 : Outs) : Outs → Outs
  | [] => []
  | (k, q, s) :: l => match getK k O1 with
    | none => (k, p2 ++ q, s) :: restGo p2 O1 l
    | some _ => restGo p2 O1 l
def mergeAny (keep : Kp) (sel : B) (p1 p2 : Gd) (O1 O2 : Outs) : M Outs := do
  let r ← mergeGo keep sel p1 O2 O1
  pure (single (r ++ restGo p2 O1 O2))
def ones (O1 O2 : Outs) : Option (Kd × St × St) :=
  match O1, O2 with
  | [(k1, _, s1)], [(k2, _, s2)] => if k1.eq k2 then some (k1, s1, s2) else none
  | _, _ => none
def merge (keep : Kp) (sel : B) (p1 p2 : Gd) (O1 O2 : Outs) : M Outs :=
  match ones O1 O2 with
  | some (k, s1, s2) => do pure [(k, [], ← M.mono (joinSt keep sel s1 s2))]
  | none => mergeAny keep sel p1 p2 O1 O2

section
variable {Φ : Funs} {x : Cx} {ρ : Env}
theorem getK_append (k : Kd) : ∀ (O O' : Outs), getK k (O ++ O') = match getK k O with | some p => some p | none => getK k O'
  | [], O' => rfl
  | (l, q, s) :: O, O' => by
    simp only [List.cons_append, getK]
    split
    · rfl
    · exact getK_append k O O'
theorem restGo_get (p2 : Gd) (O1 : Outs) (k : Kd) : ∀ (O : Outs), getK k (restGo p2 O1 O) = match getK k O1 with | some _ => none | none => (getK k O).map fun p => (p2 ++ p.1, p.2)
  | [] => by simp only [restGo, getK]; split <;> rfl
  | (l, q, s) :: O => by
    unfold restGo
    have ih := restGo_get p2 O1 k O
    split
    · rename_i hl
      simp only [getK]
      split
      · rename_i he
        rw [Kd.eq_sound he, hl]
        rfl
      · exact ih
    · rename_i v hl
      rw [ih]
      split
      · rfl
      · rename_i hk
        simp only [getK]
        split
        · rename_i he
          rw [Kd.eq_sound he, hl] at hk
          cases hk
        · rfl
theorem newB_id {r : RB} {x : B} {c c' : Ctr} {o : List Em} (h : newB r c = some (x, c', o)) : c'.id = c.id := by
  simp only [newB, Option.some.injEq, Prod.mk.injEq] at h; rw [← h.2.1]
theorem pure_id {α : Type} {y x : α} {c c' : Ctr} {o : List Em} (h : (Pure.pure y : M α) c = some (x, c', o)) : c'.id = c.id := by
  have := M.pure_inv h; simp only [Prod.mk.injEq] at this; rw [this.2.1]
theorem mkAnd_id {a b x : B} {c c' : Ctr} {o : List Em} (h : mkAnd a b c = some (x, c', o)) : c'.id = c.id := by
  unfold mkAnd at h
  split at h <;> first | exact pure_id h | exact newB_id h
theorem mkIteB_id {k a b x : B} {c c' : Ctr} {o : List Em} (h : mkIteB k a b c = some (x, c', o)) : c'.id = c.id := by
  unfold mkIteB at h
  split at h
  · exact pure_id h
  · exact pure_id h
  · split at h
    · exact pure_id h
    · split at h <;> first | exact pure_id h | exact newB_id h
theorem gAtom_id : ∀ {g : Gd} {x : B} {c c' : Ctr} {o : List Em}, gAtom g c = some (x, c', o) → c'.id = c.id
  | [], x, c, c', o, h => pure_id h
  | (b, k) :: g, x, c, c', o, h => by
    unfold gAtom at h
    obtain ⟨y1, c1, o1, c2, o2, z1, g1, g2, e1⟩ := M.bind_inv h
    obtain ⟨y2, c3, o3, c4, o4, z2, g3, g4, e2⟩ := M.bind_inv g2
    simp only [Prod.mk.injEq] at e2 e1
    obtain ⟨rfl, rfl, rfl⟩ := e2
    obtain ⟨rfl, rfl, rfl⟩ := e1
    have h1 : c1.id = c.id := by
      split at g1
      · exact pure_id g1
      · exact mkNot_id g1
    have h2 := gAtom_id g3
    have h3 := mkAnd_id g4
    omega
theorem atomQ_id {sel : B} {q1 q2 : Gd} {q : Gd} {c c' : Ctr} {o : List Em} (h : (if q1.isEmpty && q2.isEmpty then pure [] else do
        let a1 ← gAtom q1
        let a2 ← gAtom q2
        let b ← mkIteB sel a1 a2
        pure [(b, true)] : M Gd) c = some (q, c', o)) : c'.id = c.id := by
  split at h
  · exact pure_id h
  · obtain ⟨y1, c1, o1, c2, o2, z1, g1, g2, e1⟩ := M.bind_inv h
    obtain ⟨y2, c3, o3, c4, o4, z2, g3, g4, e2⟩ := M.bind_inv g2
    obtain ⟨y3, c5, o5, c6, o6, z3, g5, g6, e3⟩ := M.bind_inv g4
    simp only [Prod.mk.injEq] at e3 e2 e1
    obtain ⟨rfl, rfl, rfl⟩ := e3
    obtain ⟨rfl, rfl, rfl⟩ := e2
    obtain ⟨rfl, rfl, rfl⟩ := e1
    have h1 := gAtom_id g1
    have h2 := gAtom_id g3
    have h3 := mkIteB_id g5
    have h4 := pure_id g6
    omega
theorem atomQ {sel : B} {q1 q2 : Gd} : Snd Φ ρ (if q1.isEmpty && q2.isEmpty then pure [] else do
        let a1 ← gAtom q1
        let a2 ← gAtom q2
        let b ← mkIteB sel a1 a2
        pure [(b, true)] : M Gd) (fun q => Gd.d ρ q = if sel.d ρ then Gd.d ρ q1 else Gd.d ρ q2) := by
  split
  · rename_i hc
    simp only [Bool.and_eq_true, List.isEmpty_iff] at hc
    obtain ⟨rfl, rfl⟩ := hc
    exact Snd.pure (by simp)
  · refine Snd.bind (gAtom_snd q1) fun a1 h1 => Snd.bind (gAtom_snd q2) fun a2 h2 => Snd.bind (mkIteB_snd sel a1 a2) fun b hb => Snd.pure ?_
    rw [Gd.d_cons, Gd.d_nil, hb, h1, h2]
    cases sel.d ρ <;> simp
theorem mergeGo_ok {keep : Kp} (hx : GrOk x keep) (sel : B) (p1 : Gd) (O2 : Outs) : ∀ (O1 : Outs) {r : Outs} {c c' : Ctr} {o : List Em}, mergeGo keep sel p1 O2 O1 c = some (r, c', o) → Good Φ ρ o → c.id ≤ c'.id ∧ ∀ k, match getK k O1 with
    | none => getK k r = none
    | some (q1, s1) => match getK k O2 with
      | none => getK k r = some (p1 ++ q1, s1)
      | some (q2, s2) => ∃ q s c1 c2, getK k r = some (q, s) ∧ (Gd.d ρ q = if sel.d ρ then Gd.d ρ q1 else Gd.d ρ q2) ∧ c.id ≤ c1.id ∧ c2.id ≤ c'.id ∧ JnOk x ρ c1 c2 (sel.d ρ) s1 s2 s
  | [], r, c, c', o, h, hg => by
    have := M.pure_inv h
    simp only [Prod.mk.injEq] at this
    obtain ⟨rfl, rfl, rfl⟩ := this
    exact ⟨Nat.le_refl _, fun k => rfl⟩
  | (l, q1, s1) :: O1, r, c, c', o, h, hg => by
    unfold mergeGo at h
    obtain ⟨r0, c1, o1, c2, o2, y, g1, g2, e1⟩ := M.bind_inv h
    simp only [Prod.mk.injEq] at e1
    obtain ⟨rfl, rfl, rfl⟩ := e1
    obtain ⟨hg1, hg2⟩ := Good.append.1 hg
    obtain ⟨hle, hr⟩ := mergeGo_ok hx sel p1 O2 O1 g1 hg1
    cases hl : getK l O2 with
    | none =>
      rw [hl] at g2
      have := M.pure_inv g2
      simp only [Prod.mk.injEq] at this
      obtain ⟨rfl, rfl, rfl⟩ := this
      refine ⟨hle, fun k => ?_⟩
      simp only [getK]
      by_cases he : k.eq l = true
      · rw [if_pos he, if_pos he]
        rw [Kd.eq_sound he, hl]
      · rw [if_neg he, if_neg he]
        exact hr k
    | some p =>
      obtain ⟨q2, s2⟩ := p
      rw [hl] at g2
      simp only at g2
      obtain ⟨q, c3, o3, c4, o4, y2, g3, g4, e2⟩ := M.bind_inv g2
      obtain ⟨s, c5, o5, c6, o6, y3, g5, g6, e3⟩ := M.bind_inv g4
      have := M.pure_inv g6
      simp only [Prod.mk.injEq] at this e3 e2
      obtain ⟨rfl, rfl, rfl⟩ := this
      obtain ⟨rfl, rfl, rfl⟩ := e3
      obtain ⟨rfl, rfl, rfl⟩ := e2
      obtain ⟨hg3, hg4⟩ := Good.append.1 hg2
      have hq := atomQ (Φ := Φ) (ρ := ρ) (sel := sel) (q1 := q1) (q2 := q2) _ _ _ _ g3 hg3
      have hq3 : c3.id = c1.id := atomQ_id g3
      obtain ⟨hle2, hj⟩ := joinSt_ok (Φ := Φ) (x := x) (ρ := ρ) hx g5 (Good.append.1 hg4).1
      refine ⟨by omega, fun k => ?_⟩
      simp only [getK]
      by_cases he : k.eq l = true
      · rw [if_pos he, if_pos he]
        rw [Kd.eq_sound he, hl]
        exact ⟨q, s, _, _, rfl, hq, by omega, Nat.le_refl _, hj⟩
      · rw [if_neg he, if_neg he]
        have hrk := hr k
        cases hk1 : getK k O1 with
        | none => rw [hk1] at hrk; exact hrk
        | some p1' =>
          rw [hk1] at hrk
          simp only at hrk ⊢
          cases hk2 : getK k O2 with
          | none => rw [hk2] at hrk; exact hrk
          | some p2' =>
            rw [hk2] at hrk
            simp only at hrk ⊢
            obtain ⟨q', s', d1, d2, t1, t2, t3, t4, t5⟩ := hrk
            exact ⟨q', s', d1, d2, t1, t2, t3, by omega, t5⟩
/-- The first one was taken. -/
theorem mergeAny_left {keep : Kp} (hx : GrOk x keep) {sel : B} {p1 p2 : Gd} {O1 O2 : Outs} (hsel : sel.d ρ = true) (hp1 : Gd.d ρ p1 = true) (h2 : ∀ k q s, getK k O2 = some (q, s) → getK k O1 = none → Gd.d ρ (p2 ++ q) = false) :
    ∀ {O : Outs} {c c' : Ctr} {o : List Em}, mergeAny keep sel p1 p2 O1 O2 c = some (O, c', o) → Good Φ ρ o → c.id ≤ c'.id ∧ ∀ β K a w, OutMt x ρ β c O1 K a w → OutMt x ρ β c' O K a w := by
  intro O c c' o hrun hg
  unfold mergeAny at hrun
  obtain ⟨r, c1, o1, c2, o2, y, g1, g2, e1⟩ := M.bind_inv hrun
  have g2 := M.pure_inv g2
  simp only [Prod.mk.injEq] at g2 e1
  obtain ⟨rfl, rfl, rfl⟩ := g2
  obtain ⟨rfl, rfl, rfl⟩ := e1
  obtain ⟨hle, hr⟩ := mergeGo_ok (Φ := Φ) (x := x) hx sel p1 O2 O1 g1 (Good.append.1 hg).1
  refine ⟨hle, fun β K a w h => single_mt ?_⟩
  obtain ⟨h1, q, s, β', hK, hE, hR, hF⟩ := h
  refine ⟨fun k q' s' hk => ?_, ?_⟩
  · have hrk := hr k
    rw [getK_append] at hk
    cases hg1 : getK k O1 with
    | none =>
      rw [hg1] at hrk
      simp only at hrk
      rw [hrk] at hk
      simp only at hk
      rw [restGo_get, hg1] at hk
      simp only [Option.map_eq_some_iff] at hk
      obtain ⟨p, hp, he⟩ := hk
      obtain ⟨q2, s2⟩ := p
      simp only [Prod.mk.injEq] at he
      obtain ⟨rfl, rfl⟩ := he
      rw [h2 k q2 s2 hp hg1]
      constructor
      · intro hc; cases hc
      · intro hc; subst hc; rw [hg1] at hK; cases hK
    | some p =>
      obtain ⟨q1, s1⟩ := p
      rw [hg1] at hrk
      simp only at hrk
      have hq1 := h1 k q1 s1 hg1
      cases hg2 : getK k O2 with
      | none =>
        rw [hg2] at hrk
        simp only at hrk
        rw [hrk] at hk
        simp only [Option.some.injEq, Prod.mk.injEq] at hk
        obtain ⟨rfl, rfl⟩ := hk
        rw [Gd.d_append, hp1, Bool.true_and]
        exact hq1
      | some p2' =>
        obtain ⟨q2, s2⟩ := p2'
        rw [hg2] at hrk
        simp only at hrk
        obtain ⟨q3, s3, d1, d2, g1, g2, _⟩ := hrk
        rw [g1] at hk
        simp only [Option.some.injEq, Prod.mk.injEq] at hk
        obtain ⟨rfl, rfl⟩ := hk
        rw [g2, if_pos hsel]
        exact hq1
  · have hrk := hr K
    rw [hK] at hrk
    simp only at hrk
    cases hg2 : getK K O2 with
    | none =>
      rw [hg2] at hrk
      simp only at hrk
      exact ⟨_, s, β', by rw [getK_append, hrk], hE, hR, hF.le hle⟩
    | some p2' =>
      obtain ⟨q2, s2⟩ := p2'
      rw [hg2] at hrk
      simp only at hrk
      obtain ⟨q3, s3, d1, d2, g1, g2, le1, le2, g3⟩ := hrk
      obtain ⟨β2, e2, r2, f2⟩ := g3 β' a w (by rw [if_pos hsel]; exact hR) (hF.le le1)
      exact ⟨q3, s3, β2, by rw [getK_append, g1], hE.trans e2, r2, f2.le le2⟩
/-- The second one was taken. -/
theorem mergeAny_right {keep : Kp} (hx : GrOk x keep) {sel : B} {p1 p2 : Gd} {O1 O2 : Outs} (hsel : sel.d ρ = false) (hp2 : Gd.d ρ p2 = true) (h1 : ∀ k q s, getK k O1 = some (q, s) → getK k O2 = none → Gd.d ρ (p1 ++ q) = false) :
    ∀ {O : Outs} {c c' : Ctr} {o : List Em}, mergeAny keep sel p1 p2 O1 O2 c = some (O, c', o) → Good Φ ρ o → c.id ≤ c'.id ∧ ∀ β K a w, OutMt x ρ β c O2 K a w → OutMt x ρ β c' O K a w := by
  intro O c c' o hrun hg
  unfold mergeAny at hrun
  obtain ⟨r, c1, o1, c2, o2, y, g1, g2, e1⟩ := M.bind_inv hrun
  have g2 := M.pure_inv g2
  simp only [Prod.mk.injEq] at g2 e1
  obtain ⟨rfl, rfl, rfl⟩ := g2
  obtain ⟨rfl, rfl, rfl⟩ := e1
  obtain ⟨hle, hr⟩ := mergeGo_ok (Φ := Φ) (x := x) hx sel p1 O2 O1 g1 (Good.append.1 hg).1
  refine ⟨hle, fun β K a w h => single_mt ?_⟩
  obtain ⟨h2, q, s, β', hK, hE, hR, hF⟩ := h
  have hsel' : ¬ (sel.d ρ = true) := by simp [hsel]
  refine ⟨fun k q' s' hk => ?_, ?_⟩
  · have hrk := hr k
    rw [getK_append] at hk
    cases hg1 : getK k O1 with
    | none =>
      rw [hg1] at hrk
      simp only at hrk
      rw [hrk] at hk
      simp only at hk
      rw [restGo_get, hg1] at hk
      simp only [Option.map_eq_some_iff] at hk
      obtain ⟨p, hp, he⟩ := hk
      obtain ⟨q2, s2⟩ := p
      simp only [Prod.mk.injEq] at he
      obtain ⟨rfl, rfl⟩ := he
      rw [Gd.d_append, hp2, Bool.true_and]
      exact h2 k q2 s2 hp
    | some p =>
      obtain ⟨q1, s1⟩ := p
      rw [hg1] at hrk
      simp only at hrk
      cases hg2 : getK k O2 with
      | none =>
        rw [hg2] at hrk
        simp only at hrk
        rw [hrk] at hk
        simp only [Option.some.injEq, Prod.mk.injEq] at hk
        obtain ⟨rfl, rfl⟩ := hk
        rw [h1 k q1 _ hg1 hg2]
        constructor
        · intro hc; cases hc
        · intro hc; subst hc; rw [hg2] at hK; cases hK
      | some p2' =>
        obtain ⟨q2, s2⟩ := p2'
        rw [hg2] at hrk
        simp only at hrk
        obtain ⟨q3, s3, d1, d2, g1, g2, _⟩ := hrk
        rw [g1] at hk
        simp only [Option.some.injEq, Prod.mk.injEq] at hk
        obtain ⟨rfl, rfl⟩ := hk
        rw [g2, if_neg hsel']
        exact h2 k q2 s2 hg2
  · have hrk := hr K
    cases hg1 : getK K O1 with
    | none =>
      rw [hg1] at hrk
      simp only at hrk
      refine ⟨_, s, β', by rw [getK_append, hrk, restGo_get, hg1, hK]; rfl, hE, hR, hF.le hle⟩
    | some p1' =>
      obtain ⟨q1, s1⟩ := p1'
      rw [hg1] at hrk
      simp only at hrk
      rw [hK] at hrk
      simp only at hrk
      obtain ⟨q3, s3, d1, d2, g1, g2, le1, le2, g3⟩ := hrk
      obtain ⟨β2, e2, r2, f2⟩ := g3 β' a w (by rw [if_neg hsel']; exact hR) (hF.le le1)
      exact ⟨q3, s3, β2, by rw [getK_append, g1], hE.trans e2, r2, f2.le le2⟩
theorem ones_spec {O1 O2 : Outs} {k : Kd} {s1 s2 : St} (h : ones O1 O2 = some (k, s1, s2)) : (∃ q, O1 = [(k, q, s1)]) ∧ ∃ q, O2 = [(k, q, s2)] := by
  unfold ones at h
  split at h
  · split at h
    · rename_i hk
      simp only [Option.some.injEq, Prod.mk.injEq] at h
      obtain ⟨rfl, rfl, rfl⟩ := h
      rw [← Kd.eq_sound hk]
      exact ⟨⟨_, rfl⟩, ⟨_, rfl⟩⟩
    · cases h
  · cases h
theorem one_mt {β : Beta} {c c' : Ctr} {k K : Kd} {q : Gd} {s s' : St} {a : Act} {w : World} (h : OutMt x ρ β c [(k, q, s)] K a w) (hs : ∀ β, Rel x ρ β s a w → Fresh β c → ∃ β', Ext β β' ∧ Rel x ρ β' s' a w ∧ Fresh β' c') : OutMt x ρ β c' [(k, [], s')] K a w := by
  obtain ⟨h1, q', t, β', h2, hE, hR, hF⟩ := h
  unfold getK at h2
  split at h2
  · rename_i he
    have := Kd.eq_sound he
    subst this
    simp only [Option.some.injEq, Prod.mk.injEq] at h2
    obtain ⟨rfl, rfl⟩ := h2
    obtain ⟨β2, e2, r2, f2⟩ := hs β' hR hF
    refine ⟨fun k q s hk => ?_, [], s', β2, by simp [getK, Kd.eq_refl], hE.trans e2, r2, f2⟩
    unfold getK at hk
    split at hk
    · rename_i he'
      simp only [Option.some.injEq, Prod.mk.injEq] at hk
      obtain ⟨rfl, rfl⟩ := hk
      simp [Kd.eq_sound he']
    · simp [getK] at hk
  · simp [getK] at h2
theorem merge_left {keep : Kp} (hx : GrOk x keep) {sel : B} {p1 p2 : Gd} {O1 O2 : Outs} (hsel : sel.d ρ = true) (hp1 : Gd.d ρ p1 = true) (h2 : ∀ k q s, getK k O2 = some (q, s) → getK k O1 = none → Gd.d ρ (p2 ++ q) = false) :
    ∀ {O : Outs} {c c' : Ctr} {o : List Em}, merge keep sel p1 p2 O1 O2 c = some (O, c', o) → Good Φ ρ o → c.id ≤ c'.id ∧ ∀ β K a w, OutMt x ρ β c O1 K a w → OutMt x ρ β c' O K a w := by
  intro O c c' o hrun hg
  unfold merge at hrun
  cases ho : ones O1 O2 with
  | some y =>
    obtain ⟨k, s1, s2⟩ := y
    rw [ho] at hrun
    simp only at hrun
    obtain ⟨⟨q1, rfl⟩, q2, rfl⟩ := ones_spec ho
    obtain ⟨s, c1, o1, c2, o2, y, g1, g2, e1⟩ := M.bind_inv hrun
    have g2 := M.pure_inv g2
    simp only [Prod.mk.injEq] at g2 e1
    obtain ⟨rfl, rfl, rfl⟩ := g2
    obtain ⟨rfl, rfl, rfl⟩ := e1
    obtain ⟨hle, hj⟩ := joinSt_ok (Φ := Φ) (x := x) (ρ := ρ) hx g1 (Good.append.1 hg).1
    exact ⟨hle, fun β K a w h => one_mt h fun β hR hF => hj β a w (by rw [if_pos hsel]; exact hR) hF⟩
  | none =>
    rw [ho] at hrun
    exact mergeAny_left hx hsel hp1 h2 hrun hg
theorem merge_right {keep : Kp} (hx : GrOk x keep) {sel : B} {p1 p2 : Gd} {O1 O2 : Outs} (hsel : sel.d ρ = false) (hp2 : Gd.d ρ p2 = true) (h1 : ∀ k q s, getK k O1 = some (q, s) → getK k O2 = none → Gd.d ρ (p1 ++ q) = false) :
    ∀ {O : Outs} {c c' : Ctr} {o : List Em}, merge keep sel p1 p2 O1 O2 c = some (O, c', o) → Good Φ ρ o → c.id ≤ c'.id ∧ ∀ β K a w, OutMt x ρ β c O2 K a w → OutMt x ρ β c' O K a w := by
  intro O c c' o hrun hg
  unfold merge at hrun
  cases ho : ones O1 O2 with
  | some y =>
    obtain ⟨k, s1, s2⟩ := y
    rw [ho] at hrun
    simp only at hrun
    obtain ⟨⟨q1, rfl⟩, q2, rfl⟩ := ones_spec ho
    obtain ⟨s, c1, o1, c2, o2, y, g1, g2, e1⟩ := M.bind_inv hrun
    have g2 := M.pure_inv g2
    simp only [Prod.mk.injEq] at g2 e1
    obtain ⟨rfl, rfl, rfl⟩ := g2
    obtain ⟨rfl, rfl, rfl⟩ := e1
    obtain ⟨hle, hj⟩ := joinSt_ok (Φ := Φ) (x := x) (ρ := ρ) hx g1 (Good.append.1 hg).1
    exact ⟨hle, fun β K a w h => one_mt h fun β hR hF => hj β a w (by rw [if_neg (by simp [hsel])]; exact hR) hF⟩
  | none =>
    rw [ho] at hrun
    exact mergeAny_right hx hsel hp2 h1 hrun hg
end
end Go.Proofs.Ytgbgibbonhklgaa.Sx
