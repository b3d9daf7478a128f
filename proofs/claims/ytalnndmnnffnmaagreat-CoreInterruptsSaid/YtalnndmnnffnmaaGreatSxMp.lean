/-
  SX, part Mp: maps whose keys are strings, made and read in one region. No condition.
-/
import Derived.Test.YtalnndmnnffnmaaGreatSxLa
import Derived.MapKept
set_option linter.unusedVariables false
set_option linter.unusedSimpArgs false
namespace Go.Proofs.YtalnndmnnffnmaaGreat.Sx
open Go

/-- What was put into a map: keys, and what stands there. -/
abbrev MEs := List (ByteArray × S)
def mapMt (N : Nat) (β : Beta) (ρ : Env) (w : World) (M : Nat) (es : MEs) : Prop :=
  ∃ r ents clock, (β M = some r ∧ r.off = 0 ∧ r.len = 1 ∧ r.ro = false) ∧ N ≤ r.blk ∧ w.heap[r.blk]? = some (.map ents clock) ∧ (∀ p, p ∈ es → ∃ e, e ∈ ents.toList ∧ e.key = .string p.1) ∧
    ∀ e, e ∈ ents.toList → ∃ p, p ∈ es ∧ e.key = .string p.1 ∧ p.2.mt β ρ e.val
theorem mapMt_congr {N : Nat} {β : Beta} {ρ : Env} {w : World} {M : Nat} {es es' : MEs} (h : ∀ p, p ∈ es ↔ p ∈ es') (hm : mapMt N β ρ w M es) : mapMt N β ρ w M es' := by
  obtain ⟨r, ents, clock, h1, h2, h3, h4, h5⟩ := hm
  refine ⟨r, ents, clock, h1, h2, h3, fun p hp => h4 p ((h p).2 hp), fun e he => ?_⟩
  obtain ⟨p, hp, hq⟩ := h5 e he
  exact ⟨p, (h p).1 hp, hq⟩
theorem mapMt_ext {N : Nat} {β β' : Beta} {ρ : Env} {w w' : World} {M : Nat} {es : MEs} (hE : Ext β β') (hk : ∀ (k : Nat) (m : Array MapEntry) (c : Nat), w.heap[k]? = some (Obj.map m c) → w'.heap[k]? = some (Obj.map m c)) (hm : mapMt N β ρ w M es) : mapMt N β' ρ w' M es := by
  obtain ⟨r, ents, clock, h1, h2, h3, h4, h5⟩ := hm
  refine ⟨r, ents, clock, ⟨hE _ _ h1.1, h1.2⟩, h2, hk _ _ _ h3, h4, fun e he => ?_⟩
  obtain ⟨p, hp, hq, hs⟩ := h5 e he
  exact ⟨p, hp, hq, S.mt_ext hE hs⟩
theorem live_map {W : List Rg} {w w' : World} (hW : ∀ r, r ∈ W → ∃ j v, w.cell? ⟨r.blk, j, none⟩ = some v) (hk : Keep W w w') (k : Nat) (m : Array MapEntry) (c : Nat) (h : w.heap[k]? = some (Obj.map m c)) : w'.heap[k]? = some (Obj.map m c) := by
  rw [hk.blk k ?_ ?_]
  · exact h
  · exact (Array.getElem?_eq_some_iff.1 h).1
  · intro r hr e
    obtain ⟨j, v, hv⟩ := hW r hr
    unfold World.cell? at hv
    simp only [e, h] at hv
    cases hv
theorem run_mkMap {P : Program} (t : TypeId) (w : World) : (Instr.makeMap t none).run P w = .ok (.map (some w.heap.size)) (w.alloc (.map #[] 0)) := rfl
theorem heap_alloc_new (w : World) (o : Obj) : (w.alloc o).heap[w.heap.size]? = some o := by
  show (w.heap.push o)[w.heap.size]? = some o
  simp
theorem run_setObj_mp {P : Program} {w : World} {r : Nat} {es : Array MapEntry} {clock : Nat} (o : Obj) (hb : w.heap[r]? = some (.map es clock)) : (setObj r o).run P w = .ok () { w with heap := w.heap.setIfInBounds r o } := by
  simp [setObj, Sem.run, hb]
theorem ba_beq (a b : ByteArray) : (a == b) = true ↔ a = b := by
  rw [beq_toListBytes, ← encS_beq, beq_iff_eq]
  exact ⟨encS_inj, fun h => by rw [h]⟩
theorem findNow_no {s : ByteArray} : ∀ {l : List MapEntry} {i : Nat}, (∀ e, e ∈ l → ∃ k, e.key = .string k ∧ k ≠ s) → Instr.findNow .string (.string s) l i = some none
  | [], _, _ => rfl
  | e :: l, i, h => by
    obtain ⟨k, hk, hne⟩ := h e (by simp)
    unfold Instr.findNow
    have : (s == k) = false := by
      cases hb : (s == k) with
      | false => rfl
      | true => exact absurd ((ba_beq s k).1 hb).symm hne
    simp only [hk, Instr.sameNow, this]
    exact findNow_no fun e he => h e (by simp [he])
theorem findNow_yes {s : ByteArray} : ∀ {l : List MapEntry} {i : Nat}, (∀ e, e ∈ l → ∃ k, e.key = .string k) → (∃ e, e ∈ l ∧ e.key = .string s) → ∃ j e, e ∈ l ∧ e.key = .string s ∧ Instr.findNow .string (.string s) l i = some (some (j, e.val))
  | [], _, _, ⟨e, he, _⟩ => by cases he
  | e :: l, i, h, hx => by
    obtain ⟨k, hk⟩ := h e (by simp)
    unfold Instr.findNow
    cases hb : (s == k) with
    | true =>
      have := (ba_beq s k).1 hb
      subst this
      refine ⟨i, e, by simp, hk, ?_⟩
      simp only [hk, Instr.sameNow, hb]
    | false =>
      have hne : s ≠ k := fun he => by rw [(ba_beq s k).2 he] at hb; cases hb
      obtain ⟨e', he', hk'⟩ := hx
      have he' : e' ∈ l := by
        rcases List.mem_cons.1 he' with rfl | he'
        · rw [hk] at hk'
          simp only [Value.string.injEq] at hk'
          exact absurd hk'.symm hne
        · exact he'
      obtain ⟨j, e2, g1, g2, g3⟩ := findNow_yes (i := i + 1) (fun e he => h e (by simp [he])) ⟨e', he', hk'⟩
      refine ⟨j, e2, by simp [g1], g2, ?_⟩
      simp only [hk, Instr.sameNow, hb]
      exact g3
/-- A map's type with such keys: what its elements are. -/
def strMap (P : Program) (t : TypeId) : Option TypeId :=
  match P.underlying t with
  | some (.map k e) => match P.underlying k with
    | some .string => some e
    | _ => none
  | _ => none
theorem strMap_spec {P : Program} {t e : TypeId} (h : strMap P t = some e) : ∃ k, P.underlying t = some (.map k e) ∧ P.underlying k = some .string := by
  unfold strMap at h
  split at h
  · rename_i k e' hu
    split at h
    · rename_i hk
      simp only [Option.some.injEq] at h
      subst h
      exact ⟨k, hu, hk⟩
    · cases h
  · cases h
def zeroS (P : Program) (t : TypeId) : Option S := ((P.info? t).bind (·.zero)).map ofV
theorem zeroS_spec {P : Program} {t : TypeId} {s : S} (h : zeroS P t = some s) (w : World) : ∃ v, (zeroValue t).run P w = .ok v w ∧ ∀ β ρ, s.mt β ρ v := by
  unfold zeroS at h
  cases hi : P.info? t with
  | none => rw [hi] at h; simp at h
  | some i =>
    rw [hi] at h
    simp only [Option.bind_some] at h
    cases hv : i.zero with
    | none => rw [hv] at h; simp at h
    | some v =>
      rw [hv] at h
      simp only [Option.map_some, Option.some.injEq] at h
      subst h
      refine ⟨v, ?_, fun β ρ => ofV_mt v⟩
      simp [zeroValue, typeInfo, hi, hv]
/-- What stands at a key, in a map that holds these. -/
def lookM (q : A) (z : S) : MEs → M S
  | [] => pure z
  | (k, s) :: l => do
    let b ← mkCm .eql q (.c (encS k))
    let r ← lookM q z l
    match b with
    | .c true => pure s
    | .c false => pure r
    | b => muxS b s r
theorem lookM_snd {Φ : Funs} {ρ : Env} (q : A) (z : S) : ∀ es : MEs, Snd Φ ρ (lookM q z es) (fun r => ∀ β v, (∀ k, q.d ρ = encS k → (∃ p, p ∈ es ∧ p.1 = k ∧ p.2.mt β ρ v) ∨ ((∀ p, p ∈ es → p.1 ≠ k) ∧ z.mt β ρ v)) → (∃ k, q.d ρ = encS k) → (es.map (·.1)).Nodup → r.mt β ρ v)
  | [] => Snd.pure fun β v h ⟨k, hk⟩ _ => by
    rcases h k hk with ⟨p, hp, _⟩ | ⟨_, h⟩
    · cases hp
    · exact h
  | (k0, s) :: l => by
    unfold lookM
    refine Snd.bind (mkCm_snd _ q _) fun b hb => Snd.bind (lookM_snd q z l) fun r hr => ?_
    have key : ∀ β v, (∀ k, q.d ρ = encS k → (∃ p, p ∈ (k0, s) :: l ∧ p.1 = k ∧ p.2.mt β ρ v) ∨ ((∀ p, p ∈ (k0, s) :: l → p.1 ≠ k) ∧ z.mt β ρ v)) → (∃ k, q.d ρ = encS k) → (((k0, s) :: l).map (·.1)).Nodup → if b.d ρ then s.mt β ρ v else r.mt β ρ v := by
      intro β v h ⟨k, hk⟩ hnd
      have hbe : b.d ρ = (encS k == encS k0) := by rw [hb, ← hk]; rfl
      simp only [List.map_cons, List.nodup_cons] at hnd
      by_cases e : k = k0
      · subst e
        have : b.d ρ = true := by rw [hbe]; simp
        rw [if_pos this]
        rcases h k hk with ⟨p, hp, h1, h2⟩ | ⟨h1, _⟩
        · rcases List.mem_cons.1 hp with rfl | hp
          · exact h2
          · exact absurd (List.mem_map.2 ⟨p, hp, h1⟩) hnd.1
        · exact absurd rfl (h1 (k, s) (by simp))
      · have : b.d ρ = false := by
          rw [hbe]
          simp only [beq_eq_false_iff_ne, ne_eq]
          exact fun he => e (encS_inj he)
        rw [if_neg (by simp [this])]
        refine hr β v (fun k' hk' => ?_) ⟨k, hk⟩ hnd.2
        have hkk : k' = k := encS_inj (by rw [← hk', hk])
        subst hkk
        rcases h k' hk with ⟨p, hp, h1, h2⟩ | ⟨h1, h2⟩
        · rcases List.mem_cons.1 hp with rfl | hp
          · exact absurd h1.symm e
          · exact .inl ⟨p, hp, h1, h2⟩
        · exact .inr ⟨fun p hp => h1 p (by simp [hp]), h2⟩
    split
    · rename_i hbt
      exact Snd.pure fun β v h1 h2 h3 => by have := key β v h1 h2 h3; simpa using this
    · rename_i hbt
      exact Snd.pure fun β v h1 h2 h3 => by have := key β v h1 h2 h3; simpa using this
    · exact (muxS_snd b s r).mono fun y hy β v h1 h2 h3 => hy β v (key β v h1 h2 h3)
section
variable {P : Program} {N : Nat} {β : Beta} {ρ : Env} {w : World} {M : Nat} {es : MEs}
theorem run_look {t e : TypeId} (ht : strMap P t = some e) (hm : mapMt N β ρ w M es) {r : Rg} (hr : β M = some r) (s : ByteArray) {zv : Value} (hz : (zeroValue e).run P w = .ok zv w) :
    ∃ v, (Instr.lookup t (.map (some r.blk)) (.string s) false).run P w = .ok v w ∧ ((∃ p, p ∈ es ∧ p.1 = s ∧ p.2.mt β ρ v) ∨ ((∀ p, p ∈ es → p.1 ≠ s) ∧ v = zv)) := by
  obtain ⟨k, h1, h2⟩ := strMap_spec ht
  obtain ⟨r', ents, clock, g1, g2, g3, g4, g5⟩ := hm
  have g1 := g1.1
  rw [hr] at g1
  cases g1
  have hck : ∀ b n, (Instr.checkKey b (n + 1) k (.string s)).run P w = .ok () w := fun b n => by
    unfold Instr.checkKey
    simp [underlying, h2]
  have hkeys : ∀ e, e ∈ ents.toList → ∃ k, e.key = .string k := fun e he => by obtain ⟨p, _, hp, _⟩ := g5 e he; exact ⟨_, hp⟩
  by_cases hx : ∃ e, e ∈ ents.toList ∧ e.key = .string s
  · obtain ⟨j, e', k1, k2, k3⟩ := findNow_yes (i := 0) hkeys hx
    obtain ⟨p, q1, q2, q3⟩ := g5 e' k1
    rw [k2] at q2
    simp only [Value.string.injEq] at q2
    refine ⟨e'.val, ?_, .inl ⟨p, q1, q2.symm, q3⟩⟩
    unfold Instr.lookup Instr.findKey
    simp only [Sem.run_bind, underlying, run_program, Result.andThen_ok, h1, Sem.run_pure, run_getObj_map w _ _ _ g3, hck _ 9999, h2, k3]
    simp [h1, h2, run_getObj_map w _ _ _ g3, hck _ 9999, k3]
  · have hno := findNow_no (s := s) (l := ents.toList) (i := 0) fun e he => by
      obtain ⟨k, hk⟩ := hkeys e he
      exact ⟨k, hk, fun e2 => hx ⟨e, he, by rw [hk, e2]⟩⟩
    refine ⟨zv, ?_, .inr ⟨fun p hp e => ?_, rfl⟩⟩
    · unfold Instr.lookup Instr.findKey
      simp [underlying, h1, h2, run_getObj_map w _ _ _ g3, hck _ 9999, hno, hz]
    · obtain ⟨e', he', hk'⟩ := g4 p hp
      exact hx ⟨e', he', by rw [hk', e]⟩
theorem run_ins {t e : TypeId} (ht : strMap P t = some e) (hm : mapMt N β ρ w M es) {r : Rg} (hr : β M = some r) {s : ByteArray} (hnew : ∀ p, p ∈ es → p.1 ≠ s) (v : Value) :
    ∃ ents clock, w.heap[r.blk]? = some (.map ents clock) ∧ (Instr.mapUpdate t (.map (some r.blk)) (.string s) v).run P w = .ok () { w with heap := w.heap.setIfInBounds r.blk (.map (ents.push { key := .string s, val := v, born := clock }) (clock + 1)) } := by
  obtain ⟨k, h1, h2⟩ := strMap_spec ht
  obtain ⟨r', ents, clock, g1, g2, g3, g4, g5⟩ := hm
  have g1 := g1.1
  rw [hr] at g1
  cases g1
  have hck : ∀ b n, (Instr.checkKey b (n + 1) k (.string s)).run P w = .ok () w := fun b n => by
    unfold Instr.checkKey
    simp [underlying, h2]
  have hno := findNow_no (s := s) (l := ents.toList) (i := 0) fun e he => by
    obtain ⟨p, q1, q2, _⟩ := g5 e he
    exact ⟨p.1, q2, hnew p q1⟩
  refine ⟨ents, clock, g3, ?_⟩
  unfold Instr.mapUpdate Instr.findKey
  simp [underlying, h1, h2, run_getObj_map w _ _ _ g3, hck _ 9999, hno, run_setObj_mp _ g3]
/-- One more entry. -/
theorem mapMt_push (hm : mapMt N β ρ w M es) {r : Rg} (hr : β M = some r) {ents : Array MapEntry} {clock : Nat} (hb : w.heap[r.blk]? = some (.map ents clock)) (s : ByteArray) {x : S} {v : Value} (hv : x.mt β ρ v) :
    mapMt N β ρ { w with heap := w.heap.setIfInBounds r.blk (.map (ents.push { key := .string s, val := v, born := clock }) (clock + 1)) } M (es ++ [(s, x)]) := by
  obtain ⟨r', ents', clock', g1, g2, g3, g4, g5⟩ := hm
  have g1' := g1.1
  rw [hr] at g1'
  cases g1'
  rw [hb] at g3
  simp only [Option.some.injEq, Obj.map.injEq] at g3
  obtain ⟨rfl, rfl⟩ := g3
  have hlt := (Array.getElem?_eq_some_iff.1 hb).1
  refine ⟨r, ents.push { key := .string s, val := v, born := clock }, clock + 1, g1, g2, by simp [hlt], fun p hp => ?_, fun e he => ?_⟩
  · rw [List.mem_append, List.mem_singleton] at hp
    rcases hp with hp | rfl
    · obtain ⟨e, he, hk⟩ := g4 p hp
      exact ⟨e, by rw [Array.toList_push, List.mem_append]; exact .inl he, hk⟩
    · exact ⟨{ key := .string s, val := v, born := clock }, by simp, rfl⟩
  · rw [Array.toList_push, List.mem_append, List.mem_singleton] at he
    rcases he with he | rfl
    · obtain ⟨p, hp, hk, hm⟩ := g5 e he
      exact ⟨p, by simp [hp], hk, hm⟩
    · exact ⟨(s, x), by simp, rfl, hv⟩
/-- Another map stays. -/
theorem mapMt_else {M' : Nat} {es' : MEs} {R : List Rg} (hne : M' ≠ M) (hb : BetaOk N R β w) (hm : mapMt N β ρ w M es) {r : Rg} (hr : β M = some r) (o : Obj) (hm' : mapMt N β ρ w M' es') : mapMt N β ρ { w with heap := w.heap.setIfInBounds r.blk o } M' es' := by
  obtain ⟨r0, _, _, g1, _⟩ := hm
  have g1' := g1.1
  rw [hr] at g1'
  cases g1'
  obtain ⟨r', ents', clock', h1, h2, h3, h4, h5⟩ := hm'
  have hap := hb.apartW hne h1.1 hr h1.2.2.2
  refine ⟨r', ents', clock', h1, h2, ?_, h4, h5⟩
  show (w.heap.setIfInBounds r.blk o)[r'.blk]? = _
  rw [Array.getElem?_setIfInBounds_ne]
  · exact h3
  · intro e
    unfold Rg.apart at hap
    have e1 := h1.2
    have e2 := g1.2
    omega
end
end Go.Proofs.YtalnndmnnffnmaaGreat.Sx
