/-
  SX, part H: new variables; stores. No condition.
-/
import Derived.Test.YtalnndmnnffnmaaGreatSxG
set_option linter.unusedVariables false
set_option linter.unusedSimpArgs false
namespace Go.Proofs.YtalnndmnnffnmaaGreat.Sx
open Go

section ops
variable {P : Program} {Φ : Funs} {G : Beta → World → Prop} {Γ : Gd} {hp : Hp} {rv : Operand → SV} {dst : Option Tmp} {ty : TypeId} {pos : String} {after : Array Edge} {guard : Option (Nat × Bool)}

/-! ### New variables -/
theorem cellsAt_new {β : Beta} {ρ : Env} (w : World) (cs : Array Value) (t : TypeId) {l : List C} (h : mtL β ρ l cs.toList) : cellsAt β ρ (w.alloc (.cells cs t)) w.heap.size 0 l := by
  rw [cellsAt_iff]
  intro j c hj
  obtain ⟨v, hv, hm⟩ := mtL_get h j c hj
  exact ⟨v, by simpa using hv, hm⟩
/-- A new variable's step. -/
theorem step_new {N : Nat} {R : List Rg} {β : Beta} {ρ : Env} {w : World} {lo hi id : Nat} (hlo : lo ≤ id) (hhi : id < hi) (hn : β id = none) (hb : BetaOk N R β w) (hN : N ≤ w.heap.size)
    (cs : Array Value) (t : TypeId) {l : List C} (hm : mtL β ρ l cs.toList) :
    Step N R β w [id] lo hi (β.set id { blk := w.heap.size, off := 0, len := l.length, ro := false }) (w.alloc (.cells cs t)) ∧
      blkMt (β.set id { blk := w.heap.size, off := 0, len := l.length, ro := false }) ρ (w.alloc (.cells cs t)) id { g := [], ro := false, cells := l } := by
  have he := Beta.set_ext (r := { blk := w.heap.size, off := 0, len := l.length, ro := false }) hn
  refine ⟨⟨he, hb.alloc hN _ _, ⟨[], by simp, Keep.alloc _ _ _⟩, fun i hi' => ?_⟩, ?_⟩
  · unfold Beta.set; rw [if_neg (by omega)]
  · refine ⟨_, Beta.set_same _ _ _, rfl, rfl, cellsAt_new w cs t (mtL_ext he hm), fun _ j hj => ?_⟩
    simp
theorem newVar_run (t : TypeId) (v : Value) (w : World) : (newVar t v).run P w = .ok ⟨w.heap.size, 0, none⟩ (w.alloc (.cells v.cells t)) := by
  simp [newVar, newRow]

def mkNew (l : List C) : M Res := do
  let id ← newId
  pure { s := .one false [.ptr [] id 0], w := [(id, { g := [], ro := false, cells := l })] }
theorem mkNew_ok {o : Oper} {l : List C} (h : ∀ ρ, Gd.d ρ Γ = true → ∀ (β : Beta) (a : Act) (w : World), (∀ x, x ∈ o.op.operands → (rv x).mt β ρ (a.eval x)) →
    ∃ cs t, (execOp a.eval o).run P w = .ok (.value (.pointer (some ⟨w.heap.size, 0, none⟩))) (w.alloc (.cells cs t)) ∧ mtL β ρ l cs.toList) : LOk P Φ G Γ hp rv o (mkNew l) := by
  intro ρ c res c' out he hg hΓ N R β a w hx hh hb hN hG hf
  simp only [mkNew, newId, Bind.bind, M.bind, Pure.pure, M.pure, Option.some.injEq, Prod.mk.injEq] at he
  obtain ⟨rfl, rfl, rfl⟩ := he
  obtain ⟨cs, t, hr, hm⟩ := h ρ hΓ β a w hx
  obtain ⟨h1, h2⟩ := step_new (lo := c.id) (hi := c.id + 1) (Nat.le_refl _) (by omega) (hf c.id (Nat.le_refl _) (by simp)) hb hN cs t hm
  refine OpG.value hr ⟨_, h1, ⟨_, rfl, _, Beta.set_same _ _ _, rfl⟩, ?_⟩
  intro p hp'
  simp only [List.mem_singleton] at hp'
  subst hp'
  exact h2

def xAlloc (P : Program) (t : TypeId) : M Res := match zeroC P t with
  | some l => mkNew l
  | none => M.fail
theorem ok_alloc (t : TypeId) : LOk P Φ G Γ hp rv ⟨dst, .alloc t, ty, pos, after, guard⟩ (xAlloc P t) := by
  unfold xAlloc
  split
  · rename_i l hl
    refine mkNew_ok fun ρ hΓ β a w hx => ?_
    obtain ⟨v, hv, hm⟩ := zeroC_spec (ρ := ρ) hl w
    exact ⟨v.cells, t, by simp [execOp, Instr.alloc, hv, newVar_run], hm β⟩
  · exact LOk.fail
def xBox (x : S) : M Res := match x.cells with
  | some l => mkNew l
  | none => M.fail
theorem ok_box (t : TypeId) (x : Operand) : LOk P Φ G Γ hp rv ⟨dst, .box t x, ty, pos, after, guard⟩ (xBox (rs Γ (rv x))) := by
  unfold xBox
  split
  · rename_i l hl
    refine mkNew_ok fun ρ hΓ β a w hx => ?_
    have hm := rs_mt hΓ (hx x (by simp [Op.operands]))
    cases hs : rs Γ (rv x) with
    | one agg l' =>
      rw [hs] at hm hl
      simp only [S.cells, Option.some.injEq] at hl
      subst hl
      exact ⟨(a.eval x).cells, t, by simp [execOp, Instr.box, newVar_run], mtL_cells hm⟩
    | tup _ => rw [hs] at hl; simp [S.cells] at hl
    | any => rw [hs] at hl; simp [S.cells] at hl
  · exact LOk.fail

/-! ### A slice's literal -/
def repeatL (z : List C) : Nat → List C
  | 0 => []
  | n + 1 => z ++ repeatL z n
def sliceElem (P : Program) (t : TypeId) : Option TypeId := match P.underlying t with | some (.slice e) => some e | _ => none
def xBuildSlice (P : Program) (t : TypeId) (len : Nat) (parts : List (Nat × S)) : M Res := do
  let e ← lift (sliceElem P t)
  let s ← lift (sizeN P e)
  let z ← lift (zeroC P e)
  if z.length == s && Nat.ble 1 s && Nat.ble 1 len && Nat.ble (len * s) 4096 then do
    let l ← lift (xFill (fun i => some (i * s, s)) (repeatL z len) parts)
    let id ← newId
    pure { s := .one false [.sli id 0 len len], w := [(id, { g := [], ro := false, cells := l })] }
  else M.fail
theorem repeatL_mt {β : Beta} {ρ : Env} {z : List C} {vs : List Value} (h : mtL β ρ z vs) (hs : 1 ≤ vs.length) : ∀ n, mtL β ρ (repeatL z n) ((List.range (n * vs.length)).map fun i => (vs.toArray)[i % vs.toArray.size]!)
  | 0 => by simp [repeatL, mtL]
  | n + 1 => by
    have e : (List.range ((n + 1) * vs.length)).map (fun i => (vs.toArray)[i % vs.toArray.size]!) = vs ++ (List.range (n * vs.length)).map (fun i => (vs.toArray)[i % vs.toArray.size]!) := by
      rw [show (n + 1) * vs.length = vs.length + n * vs.length by rw [Nat.add_mul]; omega, List.range_add, List.map_append, List.map_map]
      congr 1
      · apply List.ext_getElem
        · simp
        · intro i h1 h2
          simp at h1
          simp [Nat.mod_eq_of_lt h1, h1]
      · apply List.map_congr_left
        intro i _
        simp
    rw [e]
    exact mtL_append h (repeatL_mt h hs n)
theorem snd_lift_inv {α β : Type} {o : Option α} {f : α → M β} {c : Ctr} {r : β × Ctr × List Em} (h : (lift o >>= f) c = some r) : ∃ x, o = some x ∧ f x c = some r := by
  cases o with
  | none => simp [lift, Bind.bind, M.bind, M.fail] at h
  | some x =>
    refine ⟨x, rfl, ?_⟩
    simp only [lift, Bind.bind, M.bind, Pure.pure, M.pure] at h
    cases hf : f x c with
    | none => rw [hf] at h; cases h
    | some y => rw [hf] at h; simpa using h
theorem ok_buildSlice (t : TypeId) (len : Nat) (parts : Array (Nat × Operand)) : LOk P Φ G Γ hp rv ⟨dst, .buildSlice t len parts, ty, pos, after, guard⟩
    (xBuildSlice P t len (parts.toList.map fun p => (p.1, rs Γ (rv p.2)))) := by
  intro ρ c res c' out he hg hΓ N R β a w hx hh hb hN hG hf
  unfold xBuildSlice at he
  obtain ⟨e, h1, he⟩ := snd_lift_inv he
  obtain ⟨s, h2, he⟩ := snd_lift_inv he
  obtain ⟨z, h3, he⟩ := snd_lift_inv he
  split at he
  · rename_i hc
    simp only [Bool.and_eq_true, beq_iff_eq, Nat.ble_eq] at hc
    obtain ⟨⟨⟨hc1, hc2⟩, hc3⟩, hc4⟩ := hc
    obtain ⟨l, h4, he⟩ := snd_lift_inv he
    simp only [newId, Bind.bind, M.bind, Pure.pure, M.pure, Option.some.injEq, Prod.mk.injEq] at he
    obtain ⟨rfl, rfl, rfl⟩ := he
    obtain ⟨v, hv, hm⟩ := zeroC_spec (ρ := ρ) h3 w
    have hzl := mtL_length (hm β)
    have hvs : v.cells.size = s := by rw [← Array.length_toList]; omega
    have hrep := repeatL_mt (hm β) (by omega) len
    have harr : ((Array.range (len * s)).map fun i => v.cells[i % v.cells.size]!).toList = (List.range (len * v.cells.toList.length)).map fun i => (v.cells.toList.toArray)[i % v.cells.toList.toArray.size]! := by
      simp [hvs]
    rw [← harr] at hrep
    obtain ⟨us, hus, hum⟩ := fill_spec (β := β) h4 (partsMt hΓ fun x hxm => hx x (by simpa [Op.operands] using hxm)) hrep
    obtain ⟨g1, g2⟩ := step_new (lo := c.id) (hi := c.id + 1) (Nat.le_refl _) (by omega) (hf c.id (Nat.le_refl _) (by simp)) hb hN us e hum
    have hu : P.underlying t = some (.slice e) := by
      unfold sliceElem at h1
      split at h1
      · rename_i hu; simp only [Option.some.injEq] at h1; subst h1; exact hu
      · cases h1
    have hle : ¬ (len * s > 2 ^ 24) := by omega
    have hne : ¬ (len * s = 0) := by
      intro h0
      rcases Nat.mul_eq_zero.1 h0 with h | h <;> omega
    refine OpG.value (v := .slice (some ⟨w.heap.size, 0, none⟩) len len) (w' := w.alloc (.cells us e)) ?_ ⟨_, g1, ⟨_, rfl, _, Beta.set_same _ _ _, rfl⟩, ?_⟩
    · simp only [execOp, Instr.buildSlice, Sem.run_bind, underlying, run_program, Result.andThen_ok, hu, Sem.run_pure, sizeN_spec h2 w, Sem.run_ite, hle, hne, if_false, hv]
      simp only [Array.toList_map]
      rw [hus]
      simp [newRow]
    · intro p hp'
      simp only [List.mem_singleton] at hp'
      subst hp'
      exact g2
  · cases he

/-! ### Stores -/
def Hp.set (hp : Hp) (id : Nat) (b : Blk) : Hp := fun i => if i == id then some b else hp i
def stOne (Γ : Gd) (hp : Hp) (e : B) (id off : Nat) (new : List C) : M Hp :=
  match hp id with
  | some b => if Gd.sub b.g Γ && !b.ro && Nat.ble (off + new.length) b.cells.length then do
      let z ← (match e with | .c true => pure new | e => muxL e new ((b.cells.drop off).take new.length))
      pure (hp.set id { b with cells := setAt b.cells off z })
    else M.fail
  | none => M.fail
def stAlt (Γ : Gd) (new : List C) : Hp → B → List (B × Nat × Nat) → Nat → Nat → M Hp
  | hp, rest, [], id, off => stOne Γ hp rest id off new
  | hp, rest, (b, i, o) :: l, id, off => do
    let e ← mkAnd rest b
    let nb ← mkNot b
    let rest' ← mkAnd rest nb
    let hp' ← stOne Γ hp e i o new
    stAlt Γ new hp' rest' l id off

theorem cellsAt_setAt {β : Beta} {ρ : Env} {w w' : World} {b o off : Nat} {l z : List C} (hle : off + z.length ≤ l.length) (hc : cellsAt β ρ w b o l)
    (hz : cellsAt β ρ w' b (o + off) z) (hk : ∀ j, (j < off ∨ off + z.length ≤ j) → j < l.length → w'.cell? ⟨b, o + j, none⟩ = w.cell? ⟨b, o + j, none⟩) :
    cellsAt β ρ w' b o (setAt l off z) := by
  rw [cellsAt_iff] at *
  intro j c hj
  unfold setAt at hj
  rw [List.append_assoc] at hj
  by_cases h1 : j < off
  · rw [List.getElem?_append_left (by simp; omega), List.getElem?_take, if_pos h1] at hj
    obtain ⟨v, hv, hm⟩ := hc j c hj
    exact ⟨v, by rw [hk j (.inl h1) (by omega)]; exact hv, hm⟩
  · rw [List.getElem?_append_right (by simp; omega)] at hj
    simp only [List.length_take, Nat.min_eq_left (show off ≤ l.length by omega)] at hj
    by_cases h2 : j < off + z.length
    · rw [List.getElem?_append_left (by omega)] at hj
      have := hz (j - off) c hj
      rwa [show o + off + (j - off) = o + j by omega] at this
    · rw [List.getElem?_append_right (by omega), List.getElem?_drop] at hj
      have e : off + z.length + (j - off - z.length) = j := by omega
      rw [e] at hj
      obtain ⟨v, hv, hm⟩ := hc j c hj
      exact ⟨v, by rw [hk j (.inr (by omega)) (List.getElem?_eq_some_iff.1 hj).1]; exact hv, hm⟩

/-- What one store does, wherever it goes. -/
structure Stored (β : Beta) (ρ : Env) (w w' : World) (id off : Nat) (new : List C) (r : Rg) : Prop where
  at_ : β id = some r
  ro : r.ro = false
  le : off + new.length ≤ r.len
  cells : cellsAt β ρ w' r.blk (r.off + off) new
  keep : Keep [{ blk := r.blk, off := r.off + off, len := new.length, ro := false }] w w'
  other : ∀ a : Addr, ¬ inRg { blk := r.blk, off := r.off + off, len := new.length, ro := false } a → w'.cell? a = w.cell? a
  live : ∃ j v, w.cell? ⟨r.blk, j, none⟩ = some v

theorem Stored.apart {N : Nat} {R : List Rg} {β : Beta} {ρ : Env} {w w' : World} {id off : Nat} {new : List C} {r : Rg} (h : Stored β ρ w w' id off new r) (hb : BetaOk N R β w) {i : Nat} (hi : i ≠ id) {b : Blk}
    (hm : blkMt β ρ w i b) : blkMt β ρ w' i b := by
  refine blkMt_keep (Ext.refl β) hb h.keep (fun q q' hq hq' => ?_) hm
  simp only [List.mem_singleton] at hq
  subst hq
  have h1 := (hb.apart id i r q' (Ne.symm hi) h.at_ hq').resolve_left fun hh => by have := h.ro; rw [hh.1] at this; cases this
  have h2 := h.le
  unfold Rg.apart at *
  simp only at *
  omega

theorem setAt_length {l z : List C} {off : Nat} (h : off + z.length ≤ l.length) : (setAt l off z).length = l.length := by
  unfold setAt; simp; omega
theorem blk_setAt {β : Beta} {ρ : Env} {w w' : World} {i : Nat} {b : Blk} {off : Nat} {z : List C} (hle : off + z.length ≤ b.cells.length) (hm : blkMt β ρ w i b)
    (hz : ∀ r, β i = some r → cellsAt β ρ w' r.blk (r.off + off) z) (hk : ∀ r j, β i = some r → (j < off ∨ off + z.length ≤ j) → j < b.cells.length → w'.cell? ⟨r.blk, r.off + j, none⟩ = w.cell? ⟨r.blk, r.off + j, none⟩)
    (hf : ∀ r j, β i = some r → w'.frozen? ⟨r.blk, j, none⟩ = w.frozen? ⟨r.blk, j, none⟩) : blkMt β ρ w' i { b with cells := setAt b.cells off z } := by
  obtain ⟨r, hr, hl, hro, hc, hfr⟩ := hm
  refine ⟨r, hr, by simp only [setAt_length hle]; exact hl, hro, cellsAt_setAt hle hc (hz r hr) (fun j hj hj2 => hk r j hr hj hj2), fun h0 j hj => ?_⟩
  simp only [setAt_length hle] at hj
  rw [hf r _ hr]
  exact hfr h0 j hj

/-- One block behind a store: it went there, if 'e'. -/
theorem stOne_snd {N : Nat} {R : List Rg} {β : Beta} {ρ : Env} (hΓ : Gd.d ρ Γ = true) {w w' : World} {id off : Nat} {new : List C} {r : Rg} (hs : Stored β ρ w w' id off new r) (hb : BetaOk N R β w) (e : B) (i o : Nat) (rest : Bool)
    (he1 : e.d ρ = true → rest = true ∧ i = id ∧ o = off) :
    Snd Φ ρ (stOne Γ hp e i o new) (fun hp' => heapMt β ρ hp (if rest then w else w') → heapMt β ρ hp' (if rest && !(e.d ρ) then w else w')) := by
  unfold stOne
  split
  · rename_i b hbk
    split
    · rename_i hc
      simp only [Bool.and_eq_true, Bool.not_eq_true', Nat.ble_eq] at hc
      obtain ⟨⟨hc1, hc2⟩, hc3⟩ := hc
      refine Snd.bind (p := fun z => z.length = new.length ∧ ∀ β w k q, (if e.d ρ then cellsAt β ρ w k q new else cellsAt β ρ w k q ((b.cells.drop o).take new.length)) → cellsAt β ρ w k q z) ?_ fun z hz => Snd.pure fun hh => ?_
      · split
        · exact Snd.pure ⟨rfl, fun β w k q h => by simpa using h⟩
        · refine (muxL_snd _ _ _).mono fun z hz => ⟨hz.1, hz.2.2.2⟩
      · obtain ⟨hz1, hz2⟩ := hz
        have hle : o + z.length ≤ b.cells.length := by omega
        have hbg := Gd.sub_d hc1 hΓ
        have hmi := hh i b hbk hbg
        intro j bj hj hg
        unfold Hp.set at hj
        cases hed : e.d ρ
        · simp only [Bool.not_false, Bool.and_true]
          by_cases hji : j = i
          · subst hji
            simp only [BEq.rfl, if_true, Option.some.injEq] at hj
            subst hj
            refine blk_setAt hle hmi (fun q hq => hz2 _ _ _ _ ?_) (fun _ _ _ _ _ => rfl) (fun _ _ _ => rfl)
            rw [if_neg (by simp [hed])]
            obtain ⟨q', hq', _, _, hcs, _⟩ := hmi
            rw [hq] at hq'
            cases hq'
            rw [cellsAt_iff] at *
            intro k c hk
            rw [List.getElem?_take] at hk
            split at hk
            · rw [List.getElem?_drop] at hk
              have := hcs _ _ hk
              rwa [← Nat.add_assoc] at this
            · cases hk
          · have hne : (j == i) = false := by simpa using hji
            rw [hne] at hj
            exact hh j bj hj hg
        · obtain ⟨hrest, rfl, rfl⟩ := he1 hed
          simp only [hrest, Bool.not_true, Bool.and_false, Bool.false_eq_true, if_false, if_true] at hh hmi ⊢
          by_cases hji : j = i
          · subst hji
            simp only [BEq.rfl, if_true, Option.some.injEq] at hj
            subst hj
            have hpl := hb.place j r hs.at_
            refine blk_setAt hle hmi (fun q hq => hz2 _ _ _ _ ?_) (fun q k hq hk hk2 => ?_) (fun q k hq => ?_)
            · rw [if_pos hed]
              rw [hs.at_] at hq
              cases hq
              exact hs.cells
            · rw [hs.at_] at hq
              cases hq
              refine hs.other _ ?_
              unfold inRg
              simp only
              omega
            · rw [hs.at_] at hq
              cases hq
              exact hs.keep.frz _ hpl
          · have hne : (j == i) = false := by simpa using hji
            rw [hne] at hj
            exact hs.apart hb hji (hh j bj hj hg)
    · exact Snd.fail
  · exact Snd.fail

theorem stAlt_snd {N : Nat} {R : List Rg} {β : Beta} {ρ : Env} (hΓ : Gd.d ρ Γ = true) {w w' : World} {new : List C} {r : Rg} (id off : Nat) (hb : BetaOk N R β w) : ∀ (l : List (B × Nat × Nat)) (hp : Hp) (rest : B),
    (rest.d ρ = true → Stored β ρ w w' (pick ρ l id off).1 (pick ρ l id off).2 new r) → (∃ i o, Stored β ρ w w' i o new r) →
    Snd Φ ρ (stAlt Γ new hp rest l id off) (fun hp' => heapMt β ρ hp (if rest.d ρ then w else w') → heapMt β ρ hp' w')
  | [], hp, rest, hs, ⟨i0, o0, hs0⟩ => by
    unfold stAlt
    cases hr : rest.d ρ
    · refine (stOne_snd hΓ hs0 hb rest id off false (by simp [hr])).mono fun hp' h hh => ?_
      simpa using h (by simpa using hh)
    · refine (stOne_snd hΓ (hs hr) hb rest id off true (fun _ => ⟨rfl, rfl, rfl⟩)).mono fun hp' h hh => ?_
      have := h (by simpa using hh)
      simpa [hr] using this
  | (b, i, o) :: l, hp, rest, hs, hs0 => by
    unfold stAlt
    refine Snd.bind (mkAnd_snd _ _) fun e he => Snd.bind (mkNot_snd _) fun nb hnb => Snd.bind (mkAnd_snd _ _) fun rest' hr' => ?_
    have key : Snd Φ ρ (stOne Γ hp e i o new) (fun hp' => heapMt β ρ hp (if rest.d ρ then w else w') → heapMt β ρ hp' (if rest.d ρ && !(e.d ρ) then w else w')) := by
      by_cases h : rest.d ρ = true
      · by_cases h2 : b.d ρ = true
        · have := hs h
          unfold pick at this
          rw [if_pos h2] at this
          exact stOne_snd hΓ this hb e i o _ (fun _ => ⟨h, rfl, rfl⟩)
        · obtain ⟨i0, o0, hs0⟩ := hs0
          exact stOne_snd hΓ hs0 hb e i o _ (fun hc => by rw [he] at hc; simp [h2] at hc)
      · obtain ⟨i0, o0, hs0⟩ := hs0
        exact stOne_snd hΓ hs0 hb e i o _ (fun hc => by rw [he] at hc; simp [h] at hc)
    refine Snd.bind key fun hp' hk => ?_
    refine (stAlt_snd hΓ id off hb l hp' rest' (fun h => ?_) hs0).mono fun hp'' h hh => ?_
    · rw [hr', hnb] at h
      simp only [Bool.and_eq_true, Bool.not_eq_true'] at h
      have := hs h.1
      unfold pick at this
      rw [if_neg (by simp [h.2])] at this
      exact this
    · have h2 := hk hh
      refine h ?_
      have e2 : (rest'.d ρ) = (rest.d ρ && !(e.d ρ)) := by
        rw [hr', hnb, he]
        cases rest.d ρ <;> simp
      rw [e2]
      exact h2

def pixAlts (a : A) (id s k off : Nat) : Nat → Nat → M (List (B × Nat × Nat))
  | _, 0 => pure []
  | j, n + 1 => do
    let b ← mkCm .eql a (.c j)
    let r ← pixAlts a id s k off (j + 1) n
    pure ((b, id, off + j * s + k) :: r)
theorem pixAlts_snd {ρ : Env} (a : A) (id s k off : Nat) : ∀ (n j : Nat), Snd Φ ρ (pixAlts a id s k off j n) (fun l => ∀ i : Nat, a.d ρ = i → j ≤ i → i ≤ j + n → ∀ d, (i = j + n → d = off + i * s + k) → pick ρ l id d = (id, off + i * s + k))
  | 0, j => Snd.pure fun i _ h1 h2 d hd => by simp [pick, hd (by omega)]
  | n + 1, j => by
    unfold pixAlts
    refine Snd.bind (mkCm_snd _ _ _) fun b hb => Snd.bind (pixAlts_snd a id s k off n (j + 1)) fun r hr => Snd.pure fun i hi h1 h2 d hd => ?_
    have hb' : b.d ρ = decide (i = j) := by
      rw [hb]; simp only [cmB, A.d_c, hi]
      rw [Bool.eq_iff_iff]; simp; omega
    unfold pick
    by_cases e : i = j
    · rw [if_pos (by simp [hb', e]), e]
    · rw [if_neg (by simp [hb', e])]
      exact hr i hi (by omega) (by omega) d fun h => hd (by omega)

def ptrIds : List (B × Nat × Nat) → List Nat
  | [] => []
  | (_, i, _) :: l => if (ptrIds l).contains i then ptrIds l else i :: ptrIds l
theorem pick_mem {ρ : Env} (id off : Nat) : ∀ l, (pick ρ l id off).1 = id ∨ (pick ρ l id off).1 ∈ ptrIds l
  | [] => .inl rfl
  | (b, i, o) :: l => by
    unfold pick ptrIds
    split
    · right
      split
      · rename_i h; simpa using h
      · simp
    · rcases pick_mem id off l with h | h
      · exact .inl h
      · right
        split
        · exact h
        · simp [h]
def collectW (hp : Hp) : List Nat → List (Nat × Blk)
  | [] => []
  | i :: l => match hp i with
    | some b => (i, b) :: collectW hp l
    | none => collectW hp l
theorem collectW_mem {hp : Hp} : ∀ {l : List Nat} {p : Nat × Blk}, p ∈ collectW hp l → p.1 ∈ l ∧ hp p.1 = some p.2
  | [], p, h => by simp [collectW] at h
  | i :: l, p, h => by
    unfold collectW at h
    split at h
    · rename_i b hb
      rcases List.mem_cons.1 h with rfl | h
      · exact ⟨by simp, hb⟩
      · obtain ⟨h1, h2⟩ := collectW_mem h
        exact ⟨by simp [h1], h2⟩
    · obtain ⟨h1, h2⟩ := collectW_mem h
      exact ⟨by simp [h1], h2⟩
theorem collectW_ids {hp : Hp} : ∀ {l : List Nat} {i : Nat}, i ∈ l → (hp i).isSome = true → i ∈ (collectW hp l).map (·.1)
  | [], _, h, _ => by cases h
  | j :: l, i, h, hs => by
    unfold collectW
    rcases List.mem_cons.1 h with rfl | h
    · split
      · simp
      · rename_i hn; rw [hn] at hs; cases hs
    · split
      · have := collectW_ids (hp := hp) h hs; simp only [List.map_cons, List.mem_cons]; exact .inr this
      · exact collectW_ids h hs

/-- All blocks that may be written are known, to be written, and hold their conditions. -/
def chk (Γ : Gd) (hp : Hp) (n i o : Nat) : Bool := match hp i with | some b => Gd.sub b.g Γ && !b.ro && Nat.ble (o + n) b.cells.length | none => false
def chkAll (Γ : Gd) (hp : Hp) (n : Nat) (l : List (B × Nat × Nat)) (id off : Nat) : Bool := chk Γ hp n id off && l.all fun p => chk Γ hp n p.2.1 p.2.2
theorem chkAll_pick {ρ : Env} {n id off : Nat} : ∀ {l : List (B × Nat × Nat)}, chkAll Γ hp n l id off = true → chk Γ hp n (pick ρ l id off).1 (pick ρ l id off).2 = true
  | [], h => by simpa [chkAll, pick] using h
  | (b, i, o) :: l, h => by
    unfold chkAll at h
    simp only [List.all_cons, Bool.and_eq_true] at h
    unfold pick
    split
    · exact h.2.1
    · exact chkAll_pick (by unfold chkAll; simp only [Bool.and_eq_true]; exact ⟨h.1, h.2.2⟩)
def idsOf (l : List (B × Nat × Nat)) (id : Nat) : List Nat := if (ptrIds l).contains id then ptrIds l else id :: ptrIds l
theorem pick_idsOf {ρ : Env} (id off : Nat) (l : List (B × Nat × Nat)) : (pick ρ l id off).1 ∈ idsOf l id := by
  unfold idsOf
  rcases pick_mem (ρ := ρ) id off l with h | h
  · split
    · rename_i hc; rw [h]; simpa using hc
    · rw [h]; simp
  · split
    · exact h
    · simp [h]
def gOk (Γ : Gd) (hp : Hp) (ids : List Nat) : Bool := ids.all fun i => match hp i with | some b => Gd.sub b.g Γ | none => false

def xStore (P : Program) (Γ : Gd) (hp : Hp) (t : TypeId) (x y : S) : M Res := do
  let n ← lift (sizeN P t)
  let new ← lift y.cells
  if new.length == n && Nat.ble 1 n then
    match x with
    | .one false [.ptr l id off] => do
      let hp' ← stAlt Γ new hp (.c true) l id off
      if chkAll Γ hp n l id off && gOk Γ hp' (idsOf l id) then pure { s := .any, w := collectW hp' (idsOf l id) } else M.fail
    | .one false [.pix id off s len a k] => do
      let l ← pixAlts a id s k off 0 (len - 1)
      let hp' ← stAlt Γ new hp (.c true) l id (off + (len - 1) * s + k)
      if chkAll Γ hp n l id (off + (len - 1) * s + k) && gOk Γ hp' (idsOf l id) then pure { s := .any, w := collectW hp' (idsOf l id) } else M.fail
    | _ => M.fail
  else M.fail

/-- The store itself, into a stretch that is known and may be written. -/
theorem stored_run {β : Beta} {ρ : Env} {w : World} (hh : heapMt β ρ hp w) (hΓ : Gd.d ρ Γ = true) {id off : Nat} {n : Nat} (hn1 : 1 ≤ n) (hw : chk Γ hp n id off = true) {t : TypeId} (ht : sizeN P t = some n)
    {new : List C} {v : Value} (hn : new.length = n) (hv : mtL β ρ new v.cells.toList) (hvo : ∀ u, u ∈ v.cells.toList → oneCell u = true) :
    ∃ r, β id = some r ∧ r.ro = false ∧ ∃ w', (storeVar t ⟨r.blk, r.off + off, none⟩ v).run P w = .ok () w' ∧ Stored β ρ w w' id off new r := by
  unfold chk at hw
  split at hw
  · rename_i b hb
    simp only [Bool.and_eq_true, Bool.not_eq_true', Nat.ble_eq] at hw
    obtain ⟨hw, hw3⟩ := hw
    obtain ⟨r, hr, hl, hro, hc, hf⟩ := hh id b hb (Gd.sub_d hw.1 hΓ)
    have hlen := mtL_length hv
    rw [cellsAt_iff] at hc
    obtain ⟨w', h1, h2, h3, h4⟩ := run_storeCells (P := P) (b := r.blk) (o := r.off + off) v.cells.toList 0 w hvo (fun j hj => by
      have hjl : off + j < b.cells.length := by omega
      obtain ⟨u, hu, _⟩ := hc (off + j) _ (List.getElem?_eq_getElem hjl)
      refine ⟨⟨u, ?_⟩, ?_⟩
      · rwa [show r.off + off + 0 + j = r.off + (off + j) by omega]
      · rw [show r.off + off + 0 + j = r.off + (off + j) by omega]
        exact hf hw.2 _ hjl)
    have hlive : ∃ j v, w.cell? ⟨r.blk, j, none⟩ = some v := by
      obtain ⟨u, hu, _⟩ := hc off _ (List.getElem?_eq_getElem (by omega))
      exact ⟨_, u, hu⟩
    refine ⟨r, hr, hro.trans hw.2, w', ?_, hr, hro.trans hw.2, by omega, ?_, ?_, ?_, hlive⟩
    · unfold storeVar
      rw [Sem.run_bind, sizeN_spec ht w]
      have : ¬ (v.cells.size ≠ n) := by rw [← Array.length_toList]; omega
      simp only [Result.andThen_ok, Sem.run_bind, Sem.run_ite, this, if_false]
      exact h1
    · rw [cellsAt_iff]
      intro j c hj
      obtain ⟨u, hu, hm⟩ := mtL_get hv j c hj
      exact ⟨u, by have := h2 j u hu; simpa using this, hm⟩
    · rw [hlen]; simpa using h3
    · intro a ha
      exact h4 a (by rw [hlen] at ha; simpa using ha)
  · cases hw

theorem Stored.keep' {β : Beta} {ρ : Env} {w w' : World} {id off : Nat} {new : List C} {r : Rg} (h : Stored β ρ w w' id off new r) : Keep [r] w w' := by
  refine (Keep.refl [r] w).trans h.keep fun q hq => ?_
  simp only [List.mem_singleton] at hq
  subst hq
  exact .inr ⟨r, by simp, rfl, by simp, by have := h.le; simp; omega⟩
theorem mtL_oneCell {β : Beta} {ρ : Env} : ∀ {l : List C} {vs : List Value}, mtL β ρ l vs → ∀ u, u ∈ vs → oneCell u = true
  | [], [], _, u, hu => by cases hu
  | _ :: _, _ :: _, ⟨h1, h2⟩, u, hu => by
    rcases List.mem_cons.1 hu with rfl | hu
    · exact C.mt_oneCell h1
    · exact mtL_oneCell h2 u hu

theorem LOk.of_snd {o : Oper} {m : M Res} (h : ∀ ρ, Gd.d ρ Γ = true → Snd Φ ρ m (fun res => ∀ (N : Nat) (R : List Rg) (β : Beta) (a : Act) (w : World),
    (∀ x, x ∈ o.op.operands → (rv x).mt β ρ (a.eval x)) → heapMt β ρ hp w → BetaOk N R β w → N ≤ w.heap.size → G β w → OpG P o a w (fun v w' => ∀ lo hi, RPost N R ρ β w lo hi res v w'))) :
    LOk P Φ G Γ hp rv o m := fun ρ c res c' out he hg hΓ N R β a w hx hh hb hN hG _ =>
  (h ρ hΓ c res c' out he hg N R β a w hx hh hb hN hG).mono fun v w' hv => hv _ _

theorem store_tail {ρ : Env} (hΓ : Gd.d ρ Γ = true) {t : TypeId} {n : Nat} (ht : sizeN P t = some n) {x y : Operand} {new : List C} (hy : (rs Γ (rv y)).cells = some new) (hn : new.length = n) (hn1 : 1 ≤ n)
    (l : List (B × Nat × Nat)) (id off : Nat) (hptr : ∀ (β : Beta) (ac : Act), (rv x).mt β ρ (ac.eval x) → ∃ r, β (pick ρ l id off).1 = some r ∧ ac.eval x = .pointer (some ⟨r.blk, r.off + (pick ρ l id off).2, none⟩)) :
    Snd Φ ρ (do
      let hp' ← stAlt Γ new hp (.c true) l id off
      if chkAll Γ hp n l id off && gOk Γ hp' (idsOf l id) then pure { s := .any, w := collectW hp' (idsOf l id) } else M.fail : M Res)
      (fun res => ∀ (N : Nat) (R : List Rg) (β : Beta) (a : Act) (w : World),
    (∀ z, z ∈ (Op.store t x y).operands → (rv z).mt β ρ (a.eval z)) → heapMt β ρ hp w → BetaOk N R β w → N ≤ w.heap.size → G β w → OpG P ⟨dst, .store t x y, ty, pos, after, guard⟩ a w (fun v w' => ∀ lo hi, RPost N R ρ β w lo hi res v w')) := by
  intro c res c' out he hg N R β a w hx hh hb hN hG
  have hyv := rs_mt hΓ (hx y (by simp [Op.operands]))
  have hyc : mtL β ρ new (a.eval y).cells.toList := by
    cases hs : rs Γ (rv y) with
    | one agg l' =>
      rw [hs] at hyv hy
      simp only [S.cells, Option.some.injEq] at hy
      subst hy
      exact mtL_cells hyv
    | tup _ => rw [hs] at hy; simp [S.cells] at hy
    | any => rw [hs] at hy; simp [S.cells] at hy
  obtain ⟨q, hq, hqv⟩ := hptr β a (hx x (by simp [Op.operands]))
  -- the store
  by_cases hchk : chkAll Γ hp n l id off = true
  · obtain ⟨r, hr, hro, w', hrun, hst⟩ := stored_run (P := P) hh hΓ hn1 (chkAll_pick (ρ := ρ) hchk) ht hn hyc (mtL_oneCell hyc)
    have hrq : q = r := by rw [hr] at hq; cases hq; rfl
    subst hrq
    have hrun2 : (execOp a.eval ⟨dst, .store t x y, ty, pos, after, guard⟩).run P w = .ok .skip w' := by
      simp [execOp, Instr.storeAt, Instr.sureAddr, hqv, hrun]
    have key : Snd Φ ρ (do
      let hp' ← stAlt Γ new hp (.c true) l id off
      if chkAll Γ hp n l id off && gOk Γ hp' (idsOf l id) then pure { s := .any, w := collectW hp' (idsOf l id) } else M.fail : M Res)
        (fun res => ∃ hp', heapMt β ρ hp' w' ∧ gOk Γ hp' (idsOf l id) = true ∧ res = { s := .any, w := collectW hp' (idsOf l id) }) := by
      refine Snd.bind (stAlt_snd hΓ id off hb l hp (.c true) (fun _ => hst) ⟨_, _, hst⟩) fun hp' hh' => ?_
      split
      · rename_i hc
        simp only [Bool.and_eq_true] at hc
        exact Snd.pure ⟨hp', hh' (by simpa using hh), hc.2, rfl⟩
      · exact Snd.fail
    obtain ⟨hp', hh', hgo, rfl⟩ := key c res c' out he hg
    refine OpG.skip hrun2 fun lo hi => ⟨β, ⟨Ext.refl β, hb.keep (W := [_]) (fun r' hr' => List.mem_singleton.1 hr' ▸ ⟨_, hst.at_, hst.ro⟩) hst.keep', ⟨[_], fun r' hr' => ?_, hst.keep'⟩, fun _ _ => rfl⟩, trivial, fun p hp2 => ?_⟩
    · simp only [List.mem_singleton] at hr'
      subst hr'
      have hm := pick_idsOf (ρ := ρ) id off l
      have hs : (hp' (pick ρ l id off).1).isSome = true := by
        have := (List.all_eq_true.1 hgo) _ hm
        cases hx : hp' (pick ρ l id off).1 with
        | none => rw [hx] at this; cases this
        | some b => rfl
      exact ⟨_, collectW_ids hm hs, hr, hro, hst.live⟩
    · obtain ⟨h1, h2⟩ := collectW_mem hp2
      have := (List.all_eq_true.1 hgo) _ h1
      rw [h2] at this
      exact hh' _ _ h2 (Gd.sub_d this hΓ)
  · exfalso
    have key : Snd Φ ρ (do
      let hp' ← stAlt Γ new hp (.c true) l id off
      if chkAll Γ hp n l id off && gOk Γ hp' (idsOf l id) then pure { s := .any, w := collectW hp' (idsOf l id) } else M.fail : M Res) (fun _ => False) := by
      refine Snd.bind Snd.triv fun hp' _ => ?_
      split
      · rename_i hc
        simp only [Bool.and_eq_true] at hc
        exact absurd hc.1 hchk
      · exact Snd.fail
    exact key c res c' out he hg

theorem ok_store (t : TypeId) (x y : Operand) : LOk P Φ G Γ hp rv ⟨dst, .store t x y, ty, pos, after, guard⟩ (xStore P Γ hp t (rs Γ (rv x)) (rs Γ (rv y))) := by
  refine LOk.of_snd fun ρ hΓ => ?_
  unfold xStore
  refine Snd.bind (lift_snd _) fun n hn => Snd.bind (lift_snd _) fun new hnew => ?_
  split
  · rename_i hlen
    simp only [Bool.and_eq_true, beq_iff_eq, Nat.ble_eq] at hlen
    obtain ⟨hlen, hn1⟩ := hlen
    split
    · rename_i l id off h1
      exact store_tail hΓ hn hnew hlen hn1 l id off fun β ac hx => mt_cell h1 (rs_mt hΓ hx)
    · rename_i id off s len a k h1
      refine Snd.bind (pixAlts_snd a id s k off (len - 1) 0) fun l hl => store_tail hΓ hn hnew hlen hn1 l id _ fun β ac hx => ?_
      obtain ⟨h0, hlt, r, hr, hv⟩ := mt_cell h1 (rs_mt hΓ hx)
      obtain ⟨i, hi⟩ := Int.eq_ofNat_of_zero_le h0
      have := hl i hi (by omega) (by omega) (off + (len - 1) * s + k) (fun h => by rw [h]; simp)
      rw [this]
      refine ⟨r, hr, ?_⟩
      rw [hv, hi]
      simp
    · exact Snd.fail
  · exact Snd.fail
end ops
end Go.Proofs.YtalnndmnnffnmaaGreat.Sx
