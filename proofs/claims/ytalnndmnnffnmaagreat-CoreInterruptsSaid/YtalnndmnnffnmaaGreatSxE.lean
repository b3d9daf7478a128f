/-
  SX, part E: the operations that read memory, or take values apart; '==' on structs and arrays. No condition.
-/
import Derived.Test.YtalnndmnnffnmaaGreatSxD
import Derived.Laws.StructEq
set_option linter.unusedVariables false
set_option linter.unusedSimpArgs false
namespace Go.Proofs.YtalnndmnnffnmaaGreat.Sx
open Go

section ops
variable {P : Program} {Φ : Funs} {Γ : Gd} {hp : Hp} {rv : Operand → SV} {dst : Option Tmp} {ty : TypeId} {pos : String} {after : Array Edge} {guard : Option (Nat × Bool)} {ρ : Env}

theorem mt_cell {β : Beta} {s : S} {c : C} {v : Value} (h : s = .one false [c]) (hm : s.mt β ρ v) : c.mt β ρ v := by
  subst h
  obtain ⟨d, hd, hm⟩ := hm
  simp only [List.cons.injEq, and_true] at hd
  subst hd
  exact hm
theorem mt_of_cell {β : Beta} {c : C} {v : Value} (h : c.mt β ρ v) : (S.one false [c]).mt β ρ v := ⟨c, rfl, h⟩

/-! ### Parts -/
def xPart (P : Program) (t : TypeId) (l : List C) (off : Nat) : Option S :=
  match tyN P t with
  | some (agg, n) => if Nat.ble (off + n) l.length then some (.one agg ((l.drop off).take n)) else none
  | none => none
theorem mtL_drop {β : Beta} : ∀ {l : List C} {vs : List Value} (k : Nat), mtL β ρ l vs → mtL β ρ (l.drop k) (vs.drop k)
  | _, _, 0, h => h
  | [], [], _ + 1, _ => trivial
  | _ :: _, _ :: _, k + 1, ⟨_, h⟩ => mtL_drop k h
theorem mtL_take {β : Beta} : ∀ {l : List C} {vs : List Value} (k : Nat), mtL β ρ l vs → mtL β ρ (l.take k) (vs.take k)
  | [], [], 0, _ => trivial
  | _ :: _, _ :: _, 0, _ => trivial
  | [], [], _ + 1, _ => trivial
  | _ :: _, _ :: _, k + 1, ⟨h1, h⟩ => ⟨h1, mtL_take k h⟩
theorem run_part {t : TypeId} {l : List C} {off : Nat} {s : S} (h : xPart P t l off = some s) {β : Beta} {vs : List Value} (hl : mtL β ρ l vs) (w : World) :
    ∃ v, (part t vs.toArray off).run P w = .ok v w ∧ s.mt β ρ v := by
  unfold xPart at h
  split at h
  · rename_i agg n ht
    split at h
    · rename_i hle
      simp only [Nat.ble_eq] at hle
      simp only [Option.some.injEq] at h
      subst h
      obtain ⟨h1, h2, h3⟩ := tyN_isAgg ht w
      have hm : mtL β ρ ((l.drop off).take n) ((vs.drop off).take n) := mtL_take n (mtL_drop off hl)
      have hlen := mtL_length hl
      unfold part
      rw [Sem.run_bind, h1]
      cases agg
      · have hn := h3 rfl
        subst hn
        simp only [Result.andThen_ok, Bool.false_eq_true, if_false]
        have hv : vs.toArray[off]? = some vs[off] := by simp
        rw [hv]
        refine ⟨vs[off], rfl, ?_⟩
        have e1 : (vs.drop off).take 1 = [vs[off]] := by
          rw [List.drop_eq_getElem_cons (by omega)]; rfl
        have e2 : (l.drop off).take 1 = [l[off]] := by
          rw [List.drop_eq_getElem_cons (by omega)]; rfl
        rw [e1, e2] at hm
        exact ⟨l[off], e2, hm.1⟩
      · simp only [Result.andThen_ok, if_true, Sem.run_bind, h2]
        refine ⟨_, rfl, _, rfl, ?_⟩
        rw [Array.toList_extract]
        simpa [List.extract_eq_take_drop] using hm
    · cases h
  · cases h

/-! ### load -/
def allLit : List (List C) → Option (IntKind × List Int)
  | [[.int k (.c n)]] => some (k, [n])
  | [.int k (.c n)] :: r => match allLit r with
    | some (l, ns) => if k == l then some (k, n :: ns) else none
    | none => none
  | _ => none
theorem allLit_spec : ∀ {xs : List (List C)} {k : IntKind} {ns : List Int}, allLit xs = some (k, ns) → xs = ns.map fun n => [C.int k (.c n)]
  | [], _, _, h => by simp [allLit] at h
  | [[.int k (.c n)]], l, ns, h => by
    simp only [allLit, Option.some.injEq, Prod.mk.injEq] at h
    obtain ⟨rfl, rfl⟩ := h
    rfl
  | [.int k (.c n)] :: y :: r, l, ns, h => by
    simp only [allLit] at h
    split at h
    · rename_i l' ns' h2
      split at h
      · rename_i hk
        simp only [beq_iff_eq] at hk
        simp only [Option.some.injEq, Prod.mk.injEq] at h
        obtain ⟨rfl, rfl⟩ := h
        subst hk
        rw [allLit_spec h2]
        rfl
      · cases h
    · cases h
  | [] :: _, _, _, h => by simp [allLit] at h
  | (.int _ (.v _) :: _) :: _, _, _, h => by simp [allLit] at h
  | (.bool _ :: _) :: _, _, _, h => by simp [allLit] at h
  | (.ptr _ _ _ :: _) :: _, _, _, h => by simp [allLit] at h
  | (.pix _ _ _ _ _ _ :: _) :: _, _, _, h => by simp [allLit] at h
  | (.sli _ _ _ _ :: _) :: _, _, _, h => by simp [allLit] at h
  | (.slx _ _ _ _ :: _) :: _, _, _, h => by simp [allLit] at h
  | (.pxq _ _ _ _ _ :: _) :: _, _, _, h => by simp [allLit] at h
  | (.val _ :: _) :: _, _, _, h => by simp [allLit] at h
  | (.junk :: _) :: _, _, _, h => by simp [allLit] at h
  | (.int _ (.c _) :: _ :: _) :: _, _, _, h => by simp [allLit] at h

/-- One of several stretches of cells, by a number. -/
def selL (a : A) : Nat → List (List C) → M (List C)
  | _, [] => M.fail
  | _, [x] => pure x
  | j, x :: y :: r => do
    let b ← mkCm .eql a (.c j)
    let z ← selL a (j + 1) (y :: r)
    muxL b x z
theorem selL_snd (a : A) : ∀ (xs : List (List C)) (j : Nat), Snd Φ ρ (selL a j xs) (fun z => ∀ i : Nat, a.d ρ = i → j ≤ i → i < j + xs.length → ∀ x, xs[i - j]? = some x →
    (∀ β vs, mtL β ρ x vs → mtL β ρ z vs) ∧ z.length = x.length ∧ ∀ β w k o, cellsAt β ρ w k o x → cellsAt β ρ w k o z)
  | [], _ => Snd.fail
  | [x], j => Snd.pure fun i _ h1 h2 y hy => by
    have : i - j = 0 := by simp at h2; omega
    rw [this] at hy
    simp at hy
    subst hy
    exact ⟨fun _ _ h => h, rfl, fun _ _ _ _ h => h⟩
  | x :: y :: r, j => by
    unfold selL
    refine Snd.bind (mkCm_snd _ _ _) fun b hb => Snd.bind (selL_snd a (y :: r) (j + 1)) fun z hz => (muxL_snd b x z).mono fun u hu => ?_
    intro i hi h1 h2 q hq
    obtain ⟨hl1, hl2, hm, hc⟩ := hu
    have hb' : b.d ρ = decide (i = j) := by
      rw [hb]; simp only [cmB, A.d_c, hi]
      rw [Bool.eq_iff_iff]; simp; omega
    by_cases e : i = j
    · subst e
      simp at hq
      subst hq
      simp at hb'
      exact ⟨fun β vs h => hm β vs (by rw [if_pos hb']; exact h), hl1, fun β w k o h => hc β w k o (by rw [if_pos hb']; exact h)⟩
    · have e2 : i - j = (i - (j + 1)) + 1 := by omega
      rw [e2] at hq
      simp only [List.getElem?_cons_succ] at hq
      simp only [e, decide_false] at hb'
      obtain ⟨g1, g2, g3⟩ := hz i hi (by omega) (by simp only [List.length_cons] at h2 ⊢; omega) q hq
      refine ⟨fun β vs h => hm β vs (by rw [if_neg (by simp [hb'])]; exact g1 β vs h), by omega, fun β w k o h => hc β w k o (by rw [if_neg (by simp [hb'])]; exact g3 β w k o h)⟩

/-- The cells behind an address by a number. -/
def chunks (Γ : Gd) (hp : Hp) (id off s n k : Nat) : Nat → Option (List (List C))
  | 0 => some []
  | len + 1 => match ldC Γ hp id (off + k) n, chunks Γ hp id (off + s) s n k len with
    | some x, some xs => some (x :: xs)
    | _, _ => none
theorem chunks_spec {id s n k : Nat} : ∀ {len off : Nat} {xs : List (List C)}, chunks Γ hp id off s n k len = some xs → xs.length = len ∧ ∀ i, i < len → ∃ x, xs[i]? = some x ∧ ldC Γ hp id (off + i * s + k) n = some x
  | 0, off, xs, h => by simp [chunks] at h; subst h; exact ⟨rfl, fun i hi => by omega⟩
  | len + 1, off, xs, h => by
    unfold chunks at h
    split at h
    · rename_i x ys h1 h2
      simp only [Option.some.injEq] at h
      subst h
      obtain ⟨g1, g2⟩ := chunks_spec h2
      refine ⟨by simp [g1], fun i hi => ?_⟩
      cases i with
      | zero => exact ⟨x, by simp, by simpa using h1⟩
      | succ i =>
        obtain ⟨y, hy, hl⟩ := g2 i (by omega)
        refine ⟨y, by simpa using hy, ?_⟩
        rw [show off + (i + 1) * s + k = off + s + i * s + k by rw [Nat.add_mul]; omega]
        exact hl
    · cases h

def ldPix (Γ : Gd) (hp : Hp) (id off s len : Nat) (a : A) (k n : Nat) : M (List C) := do
  let xs ← lift (chunks Γ hp id off s n k len)
  match allLit xs with
  | some (kd, ns) => if ns.all (inR kd) then do pure [.int kd (← newI (.tab ns a))] else M.fail
  | none => selL a 0 xs
theorem ldPix_snd (hΓ : Gd.d ρ Γ = true) (id off s len : Nat) (a : A) (k n : Nat) :
    Snd Φ ρ (ldPix Γ hp id off s len a k n) (fun x => ∀ β w, heapMt β ρ hp w → 0 ≤ a.d ρ → a.d ρ < len → x.length = n ∧ ∃ r, β id = some r ∧ cellsAt β ρ w r.blk (r.off + (off + (a.d ρ).toNat * s + k)) x) := by
  unfold ldPix
  refine Snd.bind (lift_snd _) fun xs hxs => ?_
  obtain ⟨h1, h2⟩ := chunks_spec hxs
  split
  · rename_i kd ns hal
    split
    · rename_i hall
      refine Snd.bind (newI_snd _) fun z hz => Snd.pure fun β w hh h0 hlt => ?_
      obtain ⟨i, hi⟩ := Int.eq_ofNat_of_zero_le h0
      obtain ⟨x, hx, hld⟩ := h2 i (by omega)
      obtain ⟨g1, r, hr, hc⟩ := ldC_spec hΓ hh hld
      have hxs2 := allLit_spec hal
      rw [hxs2] at hx
      rw [List.getElem?_map] at hx
      cases hn : ns[i]? with
      | none => rw [hn] at hx; simp at hx
      | some m =>
        rw [hn] at hx
        simp at hx
        subst hx
        have hzd : z.d ρ = m := by
          rw [hz]; simp only [RI.d, hi, Int.toNat_natCast]
          rw [List.getD_eq_getElem?_getD, hn]; rfl
        have hm : inR kd m = true := (List.all_eq_true.1 hall) m (List.mem_of_getElem? hn)
        unfold inR at hm
        simp at hm
        simp only [hi, Int.toNat_natCast]
        obtain ⟨⟨v, hv, hvm⟩, _⟩ := hc
        refine ⟨by simpa using g1, r, hr, ⟨v, hv, ?_⟩, trivial⟩
        show v = .int kd (z.d ρ) ∧ InR kd (z.d ρ)
        rw [hzd]
        exact hvm
    · exact Snd.fail
  · refine (selL_snd a xs 0).mono fun z hz β w hh h0 hlt => ?_
    obtain ⟨i, hi⟩ := Int.eq_ofNat_of_zero_le h0
    obtain ⟨x, hx, hld⟩ := h2 i (by omega)
    obtain ⟨g1, r, hr, hc⟩ := ldC_spec hΓ hh hld
    obtain ⟨e1, e2, e3⟩ := hz i hi (by omega) (by omega) x (by simpa using hx)
    simp only [hi, Int.toNat_natCast]
    exact ⟨by omega, r, hr, e3 β w _ _ hc⟩

/-- An element's cells, of a list of numbers. -/
def ldSq (s : Nat) (q a : A) : Nat → List CK → M (List C)
  | _, [] => pure []
  | k, .int kd :: ks => do
    let x ← newI (.get q a s k)
    let l ← ldSq s q a (k + 1) ks
    pure (.int kd x :: l)
  | k, .bool :: ks => do
    let x ← newB (.getb q a s k)
    let l ← ldSq s q a (k + 1) ks
    pure (.bool x :: l)
  | k, .str :: ks => do
    let x ← newI (.get q a s k)
    let l ← ldSq s q a (k + 1) ks
    pure (.str x :: l)
  | _, _ => M.fail
theorem ldSq_snd (s : Nat) (q a : A) : ∀ (ks : List CK) (k : Nat), Snd Φ ρ (ldSq s q a k ks) (fun cs => cs.length = ks.length ∧ ∀ (β : Beta) (w : World) (b o : Nat),
    (∀ j, j < ks.length → ∃ ck v, ks[j]? = some ck ∧ w.cell? ⟨b, o + j, none⟩ = some v ∧ ckv ck ((dec (q.d ρ)).getD ((a.d ρ).toNat * s + (k + j)) 0) v) → cellsAt β ρ w b o cs)
  | [], k => Snd.pure ⟨rfl, fun _ _ _ _ _ => trivial⟩
  | .int kd :: ks, k => by
    unfold ldSq
    refine Snd.bind (newI_snd _) fun x hx => Snd.bind (ldSq_snd s q a ks (k + 1)) fun l hl => Snd.pure ⟨by simp [hl.1], fun β w b o h => ⟨?_, ?_⟩⟩
    · obtain ⟨ck, v, h1, h2, h3⟩ := h 0 (by simp)
      simp only [List.getElem?_cons_zero, Option.some.injEq] at h1
      subst h1
      refine ⟨v, by simpa using h2, ?_⟩
      show v = .int kd (x.d ρ) ∧ InR kd (x.d ρ)
      rw [hx]
      exact h3
    · refine hl.2 β w b (o + 1) fun j hj => ?_
      obtain ⟨ck, v, h1, h2, h3⟩ := h (j + 1) (by simpa using hj)
      refine ⟨ck, v, by simpa using h1, by rw [show o + 1 + j = o + (j + 1) by omega]; exact h2, by rw [show k + 1 + j = k + (j + 1) by omega]; exact h3⟩
  | .bool :: ks, k => by
    unfold ldSq
    refine Snd.bind (newB_snd _) fun x hx => Snd.bind (ldSq_snd s q a ks (k + 1)) fun l hl => Snd.pure ⟨by simp [hl.1], fun β w b o h => ⟨?_, ?_⟩⟩
    · obtain ⟨ck, v, h1, h2, h3⟩ := h 0 (by simp)
      simp only [List.getElem?_cons_zero, Option.some.injEq] at h1
      subst h1
      refine ⟨v, by simpa using h2, ?_⟩
      show v = .bool (x.d ρ)
      rw [hx]
      exact h3.2
    · refine hl.2 β w b (o + 1) fun j hj => ?_
      obtain ⟨ck, v, h1, h2, h3⟩ := h (j + 1) (by simpa using hj)
      refine ⟨ck, v, by simpa using h1, by rw [show o + 1 + j = o + (j + 1) by omega]; exact h2, by rw [show k + 1 + j = k + (j + 1) by omega]; exact h3⟩
  | .str :: ks, k => by
    unfold ldSq
    refine Snd.bind (newI_snd _) fun x hx => Snd.bind (ldSq_snd s q a ks (k + 1)) fun l hl => Snd.pure ⟨by simp [hl.1], fun β w b o h => ⟨?_, ?_⟩⟩
    · obtain ⟨ck, v, h1, h2, h3⟩ := h 0 (by simp)
      simp only [List.getElem?_cons_zero, Option.some.injEq] at h1
      subst h1
      refine ⟨v, by simpa using h2, ?_⟩
      obtain ⟨t, e1, e2, e3⟩ := h3
      exact ⟨t, e1, by rw [hx]; exact e2, e3⟩
    · refine hl.2 β w b (o + 1) fun j hj => ?_
      obtain ⟨ck, v, h1, h2, h3⟩ := h (j + 1) (by simpa using hj)
      refine ⟨ck, v, by simpa using h1, by rw [show o + 1 + j = o + (j + 1) by omega]; exact h2, by rw [show k + 1 + j = k + (j + 1) by omega]; exact h3⟩
  | .pt _ _ :: ks, k => Snd.fail
theorem mod_in {a s k : Nat} (h : k < s) : (a * s + k) % s = k := by
  rw [Nat.mul_comm, Nat.mul_add_mod]; exact Nat.mod_eq_of_lt h

def xLoad (P : Program) (Γ : Gd) (hp : Hp) (t : TypeId) (x : S) : M S := do
  let p ← lift (tyN P t)
  match x with
  | .one false [.ptr l id off] => do pure (.one p.1 (← ldAlt Γ hp p.2 l id off))
  | .one false [.pix id off s len a k] => do pure (.one p.1 (← ldPix Γ hp id off s len a k p.2))
  | .one false [.pxq id ks q a k] => if Nat.ble (k + p.2) ks.length then do pure (.one p.1 (← ldSq ks.length q a k ((ks.drop k).take p.2))) else M.fail
  | _ => M.fail
theorem pure_load (hΓ : Gd.d ρ Γ = true) (t : TypeId) (x : Operand) :
    Snd Φ ρ (xLoad P Γ hp t (rs Γ (rv x))) (Pure P Γ hp rv ⟨dst, .load t x, ty, pos, after, guard⟩ ρ) := by
  unfold xLoad
  refine Snd.bind (lift_snd _) fun p ht => ?_
  obtain ⟨agg, n⟩ := p
  split
  · rename_i l id off h1
    refine Snd.bind (ldAlt_snd hΓ _ _ _ _) fun cs hcs => Snd.pure fun β ac w hx hh hq => ?_
    obtain ⟨hl, hcs⟩ := hcs
    obtain ⟨r, hr, hc⟩ := hcs β w hh
    obtain ⟨r', hr', hv⟩ := mt_cell h1 (rs_mt hΓ (hx x (by simp [Op.operands])))
    rw [hr] at hr'
    cases hr'
    obtain ⟨v, hv2, hm⟩ := run_loadVar ht hl hc
    exact ⟨v, by simp [execOp, Instr.loadAt, Instr.sureAddr, hv, hv2], hm⟩
  · rename_i id off s len a k h1
    refine Snd.bind (ldPix_snd hΓ _ _ _ _ _ _ _) fun cs hcs => Snd.pure fun β ac w hx hh hq => ?_
    obtain ⟨h0, hlt, r', hr', hv⟩ := mt_cell h1 (rs_mt hΓ (hx x (by simp [Op.operands])))
    obtain ⟨hl, r, hr, hc⟩ := hcs β w hh h0 hlt
    rw [hr] at hr'
    cases hr'
    obtain ⟨v, hv2, hm⟩ := run_loadVar ht hl hc
    exact ⟨v, by simp [execOp, Instr.loadAt, Instr.sureAddr, hv, hv2], hm⟩
  · rename_i id ks q a k h1
    split
    · rename_i hk
      simp only [Nat.ble_eq] at hk
      refine Snd.bind (ldSq_snd ks.length q a _ k) fun cs hcs => Snd.pure fun β ac w hx hh hq => ?_
      obtain ⟨h0, r, l, hr, hs, hqe, hlt, hv⟩ := mt_cell h1 (rs_mt hΓ (hx x (by simp [Op.operands])))
      obtain ⟨_, _, hsq⟩ := hq id r ks _ hr hs
      obtain ⟨hl, hcs⟩ := hcs
      have hl' : cs.length = n := by rw [hl]; simp; omega
      have hc : cellsAt β ρ w r.blk (r.off + ((a.d ρ).toNat * ks.length + k)) cs := by
        refine hcs β w _ _ fun j hj => ?_
        rw [hqe, dec_enc]
        have hjn : j < n := by simpa using (by simp at hj; omega)
        have hidx : (a.d ρ).toNat * ks.length + (k + j) < l.length := by
          rw [Nat.add_mul] at hlt
          omega
        obtain ⟨ck, v, g1, g2, g3⟩ := hsq _ _ (List.getElem?_eq_getElem hidx)
        rw [mod_in (by omega)] at g1
        refine ⟨ck, v, ?_, ?_, ?_⟩
        · rw [List.getElem?_take, if_pos hjn, List.getElem?_drop]; exact g1
        · rw [show r.off + ((a.d ρ).toNat * ks.length + k) + j = r.off + ((a.d ρ).toNat * ks.length + (k + j)) by omega]; exact g2
        · rw [List.getD_eq_getElem?_getD, List.getElem?_eq_getElem hidx]; exact g3
      obtain ⟨v, hv2, hm⟩ := run_loadVar ht hl' hc
      exact ⟨v, by simp [execOp, Instr.loadAt, Instr.sureAddr, hv, hv2], hm⟩
    · exact Snd.fail
  · exact Snd.fail

/-! ### Addresses -/
def ptrAdd (n : Nat) : C → Option C
  | .ptr l id off => some (.ptr (l.map fun p => (p.1, p.2.1, p.2.2 + n)) id (off + n))
  | .pix id off s len a k => some (.pix id off s len a (k + n))
  | .pxq id ks q a k => some (.pxq id ks q a (k + n))
  | _ => none
theorem pick_add (n : Nat) (id off : Nat) : ∀ l, pick ρ (l.map fun p => (p.1, p.2.1, p.2.2 + n)) id (off + n) = ((pick ρ l id off).1, (pick ρ l id off).2 + n)
  | [] => rfl
  | p :: l => by
    obtain ⟨b, i, o⟩ := p
    simp only [List.map_cons, pick]
    split
    · rfl
    · exact pick_add n id off l
theorem ptrAdd_mt {n : Nat} {c d : C} (h : ptrAdd n c = some d) {β : Beta} {v : Value} (hv : c.mt β ρ v) : ∃ b o, v = .pointer (some ⟨b, o, none⟩) ∧ d.mt β ρ (.pointer (some ⟨b, o + n, none⟩)) := by
  cases c with
  | ptr l id off =>
    simp only [ptrAdd, Option.some.injEq] at h
    subst h
    obtain ⟨r, hr, hv⟩ := hv
    refine ⟨_, _, hv, r, ?_, ?_⟩
    · rw [pick_add]; exact hr
    · rw [pick_add]; simp; omega
  | pix id off s len a k =>
    simp only [ptrAdd, Option.some.injEq] at h
    subst h
    obtain ⟨h0, hlt, r, hr, hv⟩ := hv
    exact ⟨_, _, hv, h0, hlt, r, hr, by simp; omega⟩
  | pxq id ks q a k =>
    simp only [ptrAdd, Option.some.injEq] at h
    subst h
    obtain ⟨h0, r, l, hr, h1, h2, h3, hv⟩ := hv
    exact ⟨_, _, hv, h0, r, l, hr, h1, h2, h3, by simp; omega⟩
  | _ => simp [ptrAdd] at h

def fieldN (P : Program) (t : TypeId) (f : Nat) : Option (Nat × TypeId) :=
  match P.underlying t with
  | some (.struct fs) => match fs[f]? with
    | some fd => some (fd.offset, fd.type)
    | none => none
  | _ => none
def xFieldAddr (P : Program) (t : TypeId) (f : Nat) (x : S) : M S := do
  let (off, ft) ← lift (fieldN P t f)
  let (_, n) ← lift (tyN P ft)
  if n == 0 then M.fail else
  match x with
  | .one false [c] => do pure (.one false [← lift (ptrAdd off c)])
  | _ => M.fail
theorem pure_fieldAddr (hΓ : Gd.d ρ Γ = true) (t : TypeId) (f : Nat) (x : Operand) :
    Snd Φ ρ (xFieldAddr P t f (rs Γ (rv x))) (Pure P Γ hp rv ⟨dst, .fieldAddr t x f, ty, pos, after, guard⟩ ρ) := by
  unfold xFieldAddr
  refine Snd.bind (lift_snd _) fun p hf => ?_
  obtain ⟨off, ft⟩ := p
  refine Snd.bind (lift_snd _) fun q hq => ?_
  obtain ⟨agg, n⟩ := q
  simp only
  split
  · exact Snd.fail
  · rename_i hn
    simp only [beq_iff_eq] at hn
    split
    · rename_i c h1
      refine Snd.bind (lift_snd _) fun d hd => Snd.pure fun β ac w hx hh hq => ?_
      obtain ⟨b, o, hv, hm⟩ := ptrAdd_mt hd (mt_cell h1 (rs_mt hΓ (hx x (by simp [Op.operands]))))
      refine ⟨_, ?_, mt_of_cell hm⟩
      unfold fieldN at hf
      split at hf
      · rename_i fs hu
        split at hf
        · rename_i fd hfd
          simp only [Option.some.injEq, Prod.mk.injEq] at hf
          obtain ⟨rfl, rfl⟩ := hf
          simp [execOp, Instr.fieldAt, underlying, hu, hfd, Instr.sureAddr, hv, fieldPlace, (tyN_isAgg hq w).2.1, hn, add_lit]
        · cases hf
      · cases hf
    · exact Snd.fail

def xField (P : Program) (t : TypeId) (f : Nat) (x : S) : M S := do
  let (off, ft) ← lift (fieldN P t f)
  match x with
  | .one true l => lift (xPart P ft l off)
  | _ => M.fail
theorem pure_field (hΓ : Gd.d ρ Γ = true) (t : TypeId) (f : Nat) (x : Operand) :
    Snd Φ ρ (xField P t f (rs Γ (rv x))) (Pure P Γ hp rv ⟨dst, .field t x f, ty, pos, after, guard⟩ ρ) := by
  unfold xField
  refine Snd.bind (lift_snd _) fun p hf => ?_
  obtain ⟨off, ft⟩ := p
  simp only
  split
  · rename_i l h1
    refine (lift_snd _).mono fun s hs β ac w hx hh hq => ?_
    have hm := rs_mt hΓ (hx x (by simp [Op.operands]))
    rw [h1] at hm
    obtain ⟨vs, hv, hl⟩ := hm
    obtain ⟨v, hr, hsm⟩ := run_part hs hl w
    refine ⟨v, ?_, hsm⟩
    unfold fieldN at hf
    split at hf
    · rename_i fs hu
      split at hf
      · rename_i fd hfd
        simp only [Option.some.injEq, Prod.mk.injEq] at hf
        obtain ⟨rfl, rfl⟩ := hf
        simp [execOp, Instr.field, underlying, hu, hfd, hv, asAgg, hr]
      · cases hf
    · cases hf
  · exact Snd.fail

/-! ### nilCheck, extract -/
def xNil (x : S) : M S :=
  match x with
  | .one false [.ptr l id off] => pure (.one false [.ptr l id off])
  | .one false [.pix id off s len a k] => pure (.one false [.pix id off s len a k])
  | _ => M.fail
theorem pure_nil (hΓ : Gd.d ρ Γ = true) (x : Operand) : Snd Φ ρ (xNil (rs Γ (rv x))) (Pure P Γ hp rv ⟨dst, .nilCheck x, ty, pos, after, guard⟩ ρ) := by
  unfold xNil
  split
  · rename_i l id off h1
    refine Snd.pure fun β ac w hx hh hq => ?_
    have hm := rs_mt hΓ (hx x (by simp [Op.operands]))
    obtain ⟨r, hr, hv⟩ := mt_cell h1 hm
    rw [h1] at hm
    exact ⟨ac.eval x, by simp [execOp, hv], hm⟩
  · rename_i id off s len a k h1
    refine Snd.pure fun β ac w hx hh hq => ?_
    have hm := rs_mt hΓ (hx x (by simp [Op.operands]))
    obtain ⟨_, _, r, hr, hv⟩ := mt_cell h1 hm
    rw [h1] at hm
    exact ⟨ac.eval x, by simp [execOp, hv], hm⟩
  · exact Snd.fail

theorem mtT_get {β : Beta} : ∀ {l : List (Bool × List C)} {vs : List Value}, mtT β ρ l vs → ∀ (j : Nat) (p : Bool × List C), l[j]? = some p → ∃ v, vs[j]? = some v ∧ mt1 β ρ p.1 p.2 v
  | [], [], _, j, c, h => by simp at h
  | d :: l, v :: vs, ⟨h1, h2⟩, j, c, h => by
    cases j with
    | zero => simp at h; subst h; exact ⟨v, by simp, h1⟩
    | succ j => simp at h; simpa using mtT_get h2 j c h
def xExtract (i : Nat) (x : S) : M S :=
  match x with
  | .tup l => match l[i]? with
    | some p => pure (.one p.1 p.2)
    | none => M.fail
  | _ => M.fail
theorem pure_extract (hΓ : Gd.d ρ Γ = true) (x : Operand) (i : Nat) : Snd Φ ρ (xExtract i (rs Γ (rv x))) (Pure P Γ hp rv ⟨dst, .extract x i, ty, pos, after, guard⟩ ρ) := by
  unfold xExtract
  split
  · rename_i l h1
    split
    · rename_i p hp'
      refine Snd.pure fun β ac w hx hh hq => ?_
      have hm := rs_mt hΓ (hx x (by simp [Op.operands]))
      rw [h1] at hm
      obtain ⟨vs, hv, hl⟩ := hm
      obtain ⟨v, hv2, hvm⟩ := mtT_get hl i p hp'
      refine ⟨v, ?_, hvm⟩
      have : vs[i]? = some v := by simpa using hv2
      simp [execOp, Instr.extract, hv, this]
    · exact Snd.fail
  · exact Snd.fail
end ops
end Go.Proofs.YtalnndmnnffnmaaGreat.Sx
